/- Words for functions that call, make variables and store into them, and go round in no loop: what is told of a variable or a row is told once, where it is made; what holds of it later is found by instance search along the worlds. No condition of its own. -/
import Derived.Test.YtdmjhgogljhfkaaGreatDoorWTiny
import Derived.Test.YtdmjhgogljhfkaaGreatDoorWMore
namespace Go.Proofs.YtdmjhgogljhfkaaGreatDoorW.PrintWords
open Go.RowKit Go.Proofs.YtdmjhgogljhfkaaGreatDoorW.PrintLast Go.Proofs.YtdmjhgogljhfkaaGreatDoorW.PrintMore
set_option linter.unusedVariables false
class UB (w : outParam World) (W : World) : Prop where mk :: (out : Below w.heap.size w W)
class KB (w : outParam World) (g : outParam Nat) (W : World) : Prop where mk :: (out : KeepBut w W g none)
class LB (w0 : outParam World) (W : World) : Prop where mk :: (out : Below w0.heap.size w0 W)
class SzI (w W : World) : Prop where mk :: (out : w.heap.size ≤ W.heap.size)
section
variable (w w' W : World) (g p j n : Nat) (o : Obj) (v : Value)
instance SzI.kb_ [b : KB w' g W] [u : SzI w w'] : SzI w W := ⟨Nat.le_trans u.out b.out.1⟩
instance SzI.lb_ (w0 : World) [b : LB w0 W] [u : SzI w w0] : SzI w W := ⟨Nat.le_trans u.out b.out.size⟩
instance SzI.let_ [b : UB w' W] [u : SzI w w'] : SzI w W := ⟨Nat.le_trans u.out b.out.size⟩
instance SzI.set_ (q : Addr) [u : SzI w W] : SzI w (W.setCell q v) := ⟨by simpa [World.setCell] using u.out⟩
instance SzI.alloc_ [u : SzI w W] : SzI w (W.alloc o) := ⟨Nat.le_trans u.out (below_alloc (Below.refl W.heap.size W) o).size⟩
instance SzI.drewN_ [u : SzI w W] : SzI w (W.drewN n) := ⟨u.out⟩
instance SzI.drew_ [u : SzI w W] : SzI w W.drew := ⟨u.out⟩
instance SzI.refl_ : SzI w w := ⟨Nat.le_refl _⟩
end
class BornI (g : Nat) (W : outParam World) : Prop where mk :: (out : W.heap.size ≤ g)
class HasI (g : Nat) (w : outParam World) : Prop where mk :: (out : g < w.heap.size)
class LtI (g : Nat) (W : World) : Prop where mk :: (out : g < W.heap.size)
class BkI (g : Nat) (w : outParam World) (cs : outParam (Array Value)) (t : outParam TypeId) : Prop where mk :: (out : w.heap[g]? = some (.cells cs t (0, 0)))
instance HasI.blk (g : Nat) (w : World) (cs : Array Value) (t : TypeId) [b : BkI g w cs t] : HasI g w := ⟨blk_lt b.out⟩
instance LtI.of (g : Nat) (w W : World) [h : HasI g w] [u : SzI w W] : LtI g W := ⟨Nat.lt_of_lt_of_le h.out u.out⟩
instance NeI.born (g1 g2 : Nat) (W : World) [b : BornI g2 W] [l : LtI g1 W] : NeI g1 g2 := ⟨Nat.ne_of_lt (Nat.lt_of_lt_of_le l.out b.out)⟩
instance NeI.born' (g1 g2 : Nat) (W : World) [b : BornI g1 W] [l : LtI g2 W] : NeI g1 g2 := ⟨Nat.ne_of_gt (Nat.lt_of_lt_of_le l.out b.out)⟩
instance GeI.born (g : Nat) (w W : World) [b : BornI g W] [u : SzI w W] : GeI w.heap.size g := ⟨Nat.le_trans u.out b.out⟩
class UpW (w W : World) : Prop where mk :: (out : Below w.heap.size w W)
section
variable (w w' w0 W : World) (g p j n : Nat) (o : Obj) (v : Value)
instance UpW.lb_ [b : LB w0 W] [u : UpW w w0] : UpW w W := ⟨below_step u.out b.out⟩
instance UpW.let_ [b : UB w' W] [u : UpW w w'] : UpW w W := ⟨below_step u.out b.out⟩
instance UpW.set_ [k : GeI w.heap.size g] [u : UpW w W] : UpW w (W.setCell ⟨g, j, none⟩ v) := ⟨below_set u.out k.out⟩
instance UpW.alloc_ [u : UpW w W] : UpW w (W.alloc o) := ⟨below_alloc u.out o⟩
instance UpW.drewN_ [u : UpW w W] : UpW w (W.drewN n) := ⟨pw_below_drewN u.out n⟩
instance UpW.drew_ [u : UpW w W] : UpW w W.drew := ⟨below_drew1 u.out⟩
instance UpW.refl_ : UpW w w := ⟨Below.refl _ _⟩
end
class UpB (w W : World) (g : Nat) : Prop where mk :: (out : KeepBut w W g none)
section
variable (w w' w0 W : World) (g p j n : Nat) (o : Obj) (v : Value)
instance UpB.kb_ [b : KB w' g W] [u : UpB w w' g] : UpB w W g := ⟨KeepBut.trans u.out b.out (.inl rfl)⟩
instance UpB.let_ [b : UB w' W] [u : UpB w w' g] : UpB w W g := ⟨KeepBut.trans u.out (KeepBut.of_below b.out g none) (.inl rfl)⟩
class KS (w : outParam World) (g : outParam Nat) (W : World) : Prop where mk :: (out : KeepBut w W g none)
instance UpB.ks_ [b : KS w' g W] [u : UpB w w' g] : UpB w W g := ⟨KeepBut.trans u.out b.out (.inl rfl)⟩
instance UpB.set_ [u : UpB w W g] : UpB w (W.setCell ⟨g, j, none⟩ v) g := ⟨KeepBut.set_ u.out j v⟩
instance UpB.far_ [k : GeI w.heap.size p] [u : UpB w W g] : UpB w (W.setCell ⟨p, j, none⟩ v) g := ⟨keep_far (p := ⟨p, j, none⟩) u.out k.out v⟩
instance UpB.alloc_ [u : UpB w W g] : UpB w (W.alloc o) g := ⟨keep_alloc u.out o⟩
instance UpB.drewN_ [u : UpB w W g] : UpB w (W.drewN n) g := ⟨keep_drewN u.out n⟩
instance UpB.drew_ [u : UpB w W g] : UpB w W.drew g := ⟨keep_drew u.out⟩
instance UpB.refl_ : UpB w w g := ⟨KeepBut.refl _ _ _⟩
end
instance UpS.let_ (w0 w w' W : World) [b : UB w' W] [u : UpS w0 w w'] : UpS w0 w W := ⟨fun h => below_step (u.out h) b.out⟩
instance UpS.lb_ (w0 w v W : World) [b : LB v W] [u : UpS w0 w v] : UpS w0 w W := ⟨fun h => below_step (u.out h) b.out⟩
class SetI (cs : Array Value) (j : Nat) (v : Value) (cs' : outParam (Array Value)) : Prop where mk :: (out : cs.setIfInBounds j v = cs')
class AtI (cs : Array Value) (j : Nat) (v : outParam Value) : Prop where mk :: (out : cs[j]? = some v)
section
variable (a b c d e f h i k v : Value) (l : List Value)
instance SetI.s0 : SetI (a :: l).toArray 0 v (v :: l).toArray := ⟨by simp⟩
instance SetI.s1 : SetI (a :: b :: l).toArray 1 v (a :: v :: l).toArray := ⟨by simp⟩
instance SetI.s2 : SetI (a :: b :: c :: l).toArray 2 v (a :: b :: v :: l).toArray := ⟨by simp⟩
instance SetI.s3 : SetI (a :: b :: c :: d :: l).toArray 3 v (a :: b :: c :: v :: l).toArray := ⟨by simp⟩
instance SetI.s4 : SetI (a :: b :: c :: d :: e :: l).toArray 4 v (a :: b :: c :: d :: v :: l).toArray := ⟨by simp⟩
instance SetI.s5 : SetI (a :: b :: c :: d :: e :: f :: l).toArray 5 v (a :: b :: c :: d :: e :: v :: l).toArray := ⟨by simp⟩
instance AtI.a0 : AtI (a :: l).toArray 0 a := ⟨rfl⟩
instance AtI.a1 : AtI (a :: b :: l).toArray 1 b := ⟨rfl⟩
instance AtI.a2 : AtI (a :: b :: c :: l).toArray 2 c := ⟨rfl⟩
instance AtI.a3 : AtI (a :: b :: c :: d :: l).toArray 3 d := ⟨rfl⟩
instance AtI.a4 : AtI (a :: b :: c :: d :: e :: l).toArray 4 e := ⟨rfl⟩
instance AtI.a5 : AtI (a :: b :: c :: d :: e :: f :: l).toArray 5 f := ⟨rfl⟩
end
class UpC (g : Nat) (w W : World) (cs : Array Value) (cs' : outParam (Array Value)) : Prop where mk :: (out : ∀ t : TypeId, w.heap[g]? = some (.cells cs t (0, 0)) → W.heap[g]? = some (.cells cs' t (0, 0)))
section
variable (w w' w0 W : World) (g p j n : Nat) (o : Obj) (v : Value) (cs cs1 cs' : Array Value)
instance UpC.kb_ [b : KB w' p W] [k : NeI g p] [u : UpC g w w' cs cs'] : UpC g w W cs cs' := ⟨fun t h => KeepBut.blk b.out (u.out t h) k.out (by simp)⟩
instance UpC.let_ [b : UB w' W] [u : UpC g w w' cs cs'] : UpC g w W cs cs' := ⟨fun t h => blk_below (u.out t h) b.out⟩
instance UpC.far_ [k : NeI g p] [u : UpC g w W cs cs'] : UpC g w (W.setCell ⟨p, j, none⟩ v) cs cs' := ⟨fun t h => blk_far (p := ⟨p, j, none⟩) (u.out t h) k.out v⟩
instance UpC.set_ [u : UpC g w W cs cs1] [s : SetI cs1 j v cs'] : UpC g w (W.setCell ⟨g, j, none⟩ v) cs cs' := ⟨fun t h => blk_put (u.out t h) j v s.out⟩
instance UpC.alloc_ [u : UpC g w W cs cs'] : UpC g w (W.alloc o) cs cs' := ⟨fun t h => blk_alloc (u.out t h) o⟩
instance UpC.drewN_ [u : UpC g w W cs cs'] : UpC g w (W.drewN n) cs cs' := ⟨fun t h => u.out t h⟩
instance UpC.drew_ [u : UpC g w W cs cs'] : UpC g w W.drew cs cs' := ⟨fun t h => u.out t h⟩
instance UpC.refl_ : UpC g w w cs cs := ⟨fun _ h => h⟩
instance UpG.kb_ [b : KB w' p W] [k : NeI g p] [u : UpG g w w'] : UpG g w W := ⟨fun t cs h => KeepBut.blk b.out (u.out t cs h) k.out (by simp)⟩
instance UpG.let_ [b : UB w' W] [u : UpG g w w'] : UpG g w W := ⟨fun t cs h => blk_below (u.out t cs h) b.out⟩
end
section
variable {w W : World} {g j : Nat} {t : TypeId} {cs cs' : Array Value} {v : Value}
theorem cell_in [b : BkI g w cs t] [u : UpC g w W cs cs'] [a : AtI cs' j v] : W.cell? ⟨g, j, none⟩ = some v := (blk_cell (u.out _ b.out) j).trans a.out
theorem frozen_in [b : BkI g w cs t] [u : UpC g w W cs cs'] : W.frozen? ⟨g, j, none⟩ = false := blk_frozen (u.out _ b.out) j
theorem xB [b : BkI g w cs t] [u : UpC g w W cs cs'] (_e : cs' = cs' := by rfl) : W.heap[g]? = some (.cells cs' t (0, 0)) := u.out _ b.out
end
def KO (W0 : World) (bs : List Nat) : World → Prop := fun w' => Kept W0 w' (fun k => k ∈ bs)
class KL (w : outParam World) (bs : outParam (List Nat)) (W : World) : Prop where mk :: (out : Kept w W (fun k => k ∈ bs))
class NiI (g : Nat) (bs : List Nat) : Prop where mk :: (out : g ∉ bs)
instance NiI.nil_ (g : Nat) : NiI g [] := ⟨by simp⟩
instance NiI.cons_ (g b : Nat) (bs : List Nat) [n : NeI g b] [r : NiI g bs] : NiI g (b :: bs) := ⟨by simp [n.out, r.out]⟩
class MemI (g : Nat) (bs : List Nat) : Prop where mk :: (out : g ∈ bs)
instance MemI.tail_ (g b : Nat) (bs : List Nat) [r : MemI g bs] : MemI g (b :: bs) := ⟨List.mem_cons_of_mem _ r.out⟩
instance MemI.head_ (g : Nat) (bs : List Nat) : MemI g (g :: bs) := ⟨List.mem_cons_self⟩
class SubI (w : World) (bs bs2 : List Nat) : Prop where mk :: (out : ∀ k, k ∈ bs2 → k ∈ bs ∨ w.heap.size ≤ k)
instance SubI.nil_ (w : World) (bs : List Nat) : SubI w bs [] := ⟨by simp⟩
instance SubI.new_ (w : World) (bs : List Nat) (b : Nat) (bs2 : List Nat) [k : GeI w.heap.size b] [r : SubI w bs bs2] : SubI w bs (b :: bs2) := ⟨fun c hc => by rcases List.mem_cons.1 hc with rfl | hc; exact .inr k.out; exact r.out c hc⟩
instance SubI.mem_ (w : World) (bs : List Nat) (b : Nat) (bs2 : List Nat) [m : MemI b bs] [r : SubI w bs bs2] : SubI w bs (b :: bs2) := ⟨fun c hc => by rcases List.mem_cons.1 hc with rfl | hc; exact .inl m.out; exact r.out c hc⟩
class UpL (bs : List Nat) (w W : World) : Prop where mk :: (out : Kept w W (fun k => k ∈ bs))
section
variable (bs : List Nat) (w w' W : World) (g j n : Nat) (o : Obj) (v : Value) (cs cs' : Array Value)
instance UpL.kl_ (bs2 : List Nat) [b : KL w' bs2 W] [s : SubI w bs bs2] [u : UpL bs w w'] : UpL bs w W := ⟨u.out.then_ b.out s.out⟩
instance UpL.kb_ [b : KB w' g W] [m : MemI g bs] [u : UpL bs w w'] : UpL bs w W := ⟨Kept.of_keep u.out b.out (.inl m.out)⟩
instance UpL.let_ [b : UB w' W] [u : UpL bs w w'] : UpL bs w W := ⟨u.out.below b.out⟩
instance UpL.far_ [k : GeI w.heap.size g] [u : UpL bs w W] : UpL bs w (W.setCell ⟨g, j, none⟩ v) := ⟨u.out.setCell (p := ⟨g, j, none⟩) (.inr k.out) v⟩
instance UpL.set_ [m : MemI g bs] [u : UpL bs w W] : UpL bs w (W.setCell ⟨g, j, none⟩ v) := ⟨u.out.setCell (p := ⟨g, j, none⟩) (.inl m.out) v⟩
instance UpL.alloc_ [u : UpL bs w W] : UpL bs w (W.alloc o) := ⟨u.out.alloc o⟩
instance UpL.drewN_ [u : UpL bs w W] : UpL bs w (W.drewN n) := ⟨u.out⟩
instance UpL.drew_ [u : UpL bs w W] : UpL bs w W.drew := ⟨u.out⟩
instance UpL.refl_ : UpL bs w w := ⟨Kept.refl _ _⟩
instance SzI.kl_ [b : KL w' bs W] [u : SzI w w'] : SzI w W := ⟨Nat.le_trans u.out b.out.1⟩
instance UpC.kl_ [b : KL w' bs W] [k : NiI g bs] [u : UpC g w w' cs cs'] : UpC g w W cs cs' := ⟨fun t h => blk_kept (u.out t h) b.out k.out⟩
instance UpG.kl_ [b : KL w' bs W] [k : NiI g bs] [u : UpG g w w'] : UpG g w W := ⟨fun t cs h => blk_kept (u.out t cs h) b.out k.out⟩
end
class TyNe {α : Type} (d : Kd α) (e t : Nat) : Prop where mk :: (out : ∀ q, q ∈ e :: d.E → q ≠ t)
class StB (g : Nat) (w : outParam World) (t : outParam TypeId) : Prop where mk :: (out : ∃ cs, w.heap[g]? = some (.cells cs t (0, 0)))
class BT (W : World) (g : Nat) (t : outParam TypeId) : Prop where mk :: (out : ∃ cs, W.heap[g]? = some (.cells cs t (0, 0)))
instance BT.st (g : Nat) (w W : World) (t : TypeId) [b : StB g w t] [u : UpG g w W] : BT W g t := ⟨by obtain ⟨cs, h⟩ := b.out; exact ⟨cs, u.out t cs h⟩⟩
instance BT.blk (g : Nat) (w W : World) (cs cs' : Array Value) (t : TypeId) [b : BkI g w cs t] [u : UpC g w W cs cs'] : BT W g t := ⟨⟨cs', u.out _ b.out⟩⟩
instance HasI.st (g : Nat) (w : World) (t : TypeId) [b : StB g w t] : HasI g w := ⟨by obtain ⟨cs, h⟩ := b.out; exact blk_lt h⟩
class UpR {α : Type} (d : Kd α) (e : Nat) (w W : World) : Prop where mk :: (out : ∀ {base : Nat} {ok : Nat → Prop} {v : Value} {xs : List α}, d.R e w base ok v xs → d.R e W base ok v xs)
class UpSr {α : Type} (d : Kd α) (e : Nat) (w W : World) : Prop where mk :: (out : ∀ {base : Nat} {ok : Nat → Prop} {v : Value} {xs : List α}, d.S e w base ok v xs → d.S e W base ok v xs)
section
variable {α : Type} (d : Kd α) (e : Nat) (w w' W : World) (g j n t : Nat) (o : Obj) (v : Value)
theorem R_kb {d : Kd α} {e : Nat} {w w1 : World} {base g t : Nat} {ok : Nat → Prop} {v : Value} {xs : List α} (h : d.R e w base ok v xs) (hk : KeepBut w w1 g none) (hb : ∃ cs, w.heap[g]? = some (.cells cs t (0, 0))) (ht : ∀ q, q ∈ e :: d.E → q ≠ t) : d.R e w1 base ok v xs := by
  obtain ⟨cs, hb⟩ := hb
  exact Kd.R_mono (Kd.R_keep (Kd.R_types h hb ht) hk (fun _ h => h.2)) (fun _ h => h.1)
theorem S_kb {d : Kd α} {e : Nat} {w w1 : World} {base g t : Nat} {ok : Nat → Prop} {v : Value} {xs : List α} (h : d.S e w base ok v xs) (hk : KeepBut w w1 g none) (hb : ∃ cs, w.heap[g]? = some (.cells cs t (0, 0))) (ht : ∀ q, q ∈ e :: d.E → q ≠ t) : d.S e w1 base ok v xs := by
  obtain ⟨cs, hb⟩ := hb
  exact Kd.S_mono (Kd.S_keep (Kd.S_types h hb ht) hk (fun _ h => h.2)) (fun _ h => h.1)
class AllTy {α : Type} (d : Kd α) (e : Nat) (w : World) (bs : List Nat) : Prop where mk :: (out : ∀ b ∈ bs, ∃ t, (∃ cs, w.heap[b]? = some (.cells cs t (0, 0))) ∧ ∀ q, q ∈ e :: d.E → q ≠ t)
instance AllTy.nil_ : AllTy d e w [] := ⟨by simp⟩
instance AllTy.cons_ (b : Nat) (bs : List Nat) [k : BT w b t] [y : TyNe d e t] [r : AllTy d e w bs] : AllTy d e w (b :: bs) := ⟨by
  intro c hc
  rcases List.mem_cons.1 hc with rfl | hc
  · exact ⟨t, k.out, y.out⟩
  · exact r.out c hc⟩
theorem R_all {d : Kd α} {e : Nat} {w : World} {base : Nat} {ok : Nat → Prop} {v : Value} {xs : List α} : ∀ (bs : List Nat), (∀ b ∈ bs, ∃ t, (∃ cs, w.heap[b]? = some (.cells cs t (0, 0))) ∧ ∀ q, q ∈ e :: d.E → q ≠ t) → d.R e w base ok v xs → d.R e w base (fun k => ok k ∧ k ∉ bs) v xs
  | [], _, h => Kd.R_mono h (fun _ hk => ⟨hk, by simp⟩)
  | b :: bs, hb, h => by
    obtain ⟨t, ⟨cs, hc⟩, ht⟩ := hb b List.mem_cons_self
    exact Kd.R_mono (Kd.R_types (R_all bs (fun c hc => hb c (List.mem_cons_of_mem _ hc)) h) hc ht) (fun _ hk => ⟨hk.1.1, by simp [hk.2, hk.1.2]⟩)
theorem S_all {d : Kd α} {e : Nat} {w : World} {base : Nat} {ok : Nat → Prop} {v : Value} {xs : List α} (bs : List Nat) (hb : ∀ b ∈ bs, ∃ t, (∃ cs, w.heap[b]? = some (.cells cs t (0, 0))) ∧ ∀ q, q ∈ e :: d.E → q ≠ t) (h : d.S e w base ok v xs) : d.S e w base (fun k => ok k ∧ k ∉ bs) v xs := by
  obtain ⟨f, h⟩ := h
  exact ⟨f, R_all (d := Kd.tag f d) bs hb h⟩
instance UpR.kl_ (bs : List Nat) [b : KL w' bs W] [k : AllTy d e w' bs] [u : UpR d e w w'] : UpR d e w W := ⟨fun h => Kd.R_mono (Kd.R_kept (R_all bs k.out (u.out h)) b.out (fun _ hk => hk.2)) (fun _ hk => hk.1)⟩
instance UpSr.kl_ (bs : List Nat) [b : KL w' bs W] [k : AllTy d e w' bs] [u : UpSr d e w w'] : UpSr d e w W := ⟨fun h => Kd.S_mono (Kd.S_kept (S_all bs k.out (u.out h)) b.out (fun _ hk => hk.2)) (fun _ hk => hk.1)⟩
instance UpR.kb_ [b : KB w' g W] [k : BT w' g t] [y : TyNe d e t] [u : UpR d e w w'] : UpR d e w W := ⟨fun h => R_kb (u.out h) b.out k.out y.out⟩
instance UpR.let_ [b : UB w' W] [u : UpR d e w w'] : UpR d e w W := ⟨fun h => Kd.R_below (u.out h) b.out⟩
instance UpR.born_ [k : GeI w.heap.size g] [u : UpR d e w W] : UpR d e w (W.setCell ⟨g, j, none⟩ v) := ⟨fun h => Kd.R_mono (Kd.R_far (p := ⟨g, j, none⟩) (u.out (Kd.R_bound h)) (fun q hq he => Nat.not_lt.2 k.out (by rw [show g = q from he.symm]; exact hq.2.2.1)) v) (fun _ hk => hk.1)⟩
instance UpR.set_ [k : BT W g t] [y : TyNe d e t] [u : UpR d e w W] : UpR d e w (W.setCell ⟨g, j, none⟩ v) := ⟨fun h => by obtain ⟨cs, hc⟩ := k.out; exact Kd.R_set (u.out h) hc y.out j v⟩
instance UpR.alloc_ [u : UpR d e w W] : UpR d e w (W.alloc o) := ⟨fun h => Kd.R_alloc (u.out h) o⟩
instance UpR.drewN_ [u : UpR d e w W] : UpR d e w (W.drewN n) := ⟨fun h => Kd.R_drewN (u.out h) n⟩
instance UpR.drew_ [u : UpR d e w W] : UpR d e w W.drew := ⟨fun h => Kd.R_drew (u.out h)⟩
instance UpR.refl_ : UpR d e w w := ⟨fun h => h⟩
instance UpSr.kb_ [b : KB w' g W] [k : BT w' g t] [y : TyNe d e t] [u : UpSr d e w w'] : UpSr d e w W := ⟨fun h => S_kb (u.out h) b.out k.out y.out⟩
instance UpSr.let_ [b : UB w' W] [u : UpSr d e w w'] : UpSr d e w W := ⟨fun h => Kd.S_below (u.out h) b.out⟩
instance UpSr.born_ [k : GeI w.heap.size g] [u : UpSr d e w W] : UpSr d e w (W.setCell ⟨g, j, none⟩ v) := ⟨fun h => Kd.S_mono (Kd.S_far (p := ⟨g, j, none⟩) (u.out (Kd.S_bound h)) (fun q hq he => Nat.not_lt.2 k.out (by rw [show g = q from he.symm]; exact hq.2.2.1)) v) (fun _ hk => hk.1)⟩
instance UpSr.set_ [k : BT W g t] [y : TyNe d e t] [u : UpSr d e w W] : UpSr d e w (W.setCell ⟨g, j, none⟩ v) := ⟨fun h => by obtain ⟨cs, hc⟩ := k.out; exact Kd.S_set (u.out h) hc y.out j v⟩
instance UpSr.alloc_ [u : UpSr d e w W] : UpSr d e w (W.alloc o) := ⟨fun h => Kd.S_alloc (u.out h) o⟩
instance UpSr.drewN_ [u : UpSr d e w W] : UpSr d e w (W.drewN n) := ⟨fun h => Kd.S_drewN (u.out h) n⟩
instance UpSr.drew_ [u : UpSr d e w W] : UpSr d e w W.drew := ⟨fun h => Kd.S_drew (u.out h)⟩
instance UpSr.refl_ : UpSr d e w w := ⟨fun h => h⟩
end
section
variable {α β : Type} {d : Kd α} {d2 : Kd β} {e e2 base base2 n c g t : Nat} {ok ok2 : Nat → Prop} {w w1 w2 w3 W : World} {A : Option Addr} {v u : Value} {xs : List α} {ys : List β}
theorem rC (h : Aside0 (d.R e w base ok (.slice A n c) xs)) [u : UpR d e w W] : d.C W A xs.length xs := (Kd.R_reads' (u.out h.out)).2.2
theorem rL (h : Aside0 (d.R e w base ok (.slice A n c) xs)) : xs.length ≤ c := by have := Kd.R_reads' h.out; omega
theorem pC (h : Aside0 (d.C w A n xs)) [u : UpW w W] : d.C W A n xs := Kd.C_below h.out u.out
theorem rR (h : Aside0 (d.R e w1 w3.heap.size ok v xs)) [b : SzI w w3] [i : UpR d e w1 W] : d.R e W w.heap.size (fun _ => True) v xs := Kd.R_mono (Kd.R_lower (i.out h.out) b.out) (fun _ _ => trivial)
def iv (w w' : World) (k : Nat) : Prop := w.heap.size ≤ k ∧ k < w'.heap.size
theorem R_iv (h : d.R e w1 w.heap.size (fun _ => True) v xs) : d.R e w1 w.heap.size (iv w w1) v xs := Kd.R_mono (Kd.R_bound h) (fun _ hk => ⟨hk.2.1, hk.2.2.1⟩)
theorem S_iv (h : d.S e w1 w.heap.size (fun _ => True) v xs) : d.S e w1 w.heap.size (iv w w1) v xs := Kd.S_mono (Kd.S_bound h) (fun _ hk => ⟨hk.2.1, hk.2.2.1⟩)
theorem rJ {w4 : World} (h : Aside0 (d.R e w1 w3.heap.size (iv w3 w4) v xs)) [b : SzI w w3] [z : SzI w4 W] [i : UpR d e w1 W] : d.R e W w.heap.size (iv w W) v xs :=
  Kd.R_mono (Kd.R_lower (i.out h.out) b.out) (fun j hj => ⟨Nat.le_trans b.out hj.1, Nat.lt_of_lt_of_le hj.2 z.out⟩)
theorem fS (h : Aside0 (d.R e w base ok (.slice A n c) xs)) [b : BT w g t] [y : TyNe d e t] : ∀ ad, A = some ad → 0 < n → ad.block ≠ g := by
  obtain ⟨cs, hc⟩ := b.out
  exact far_slice (Kd.R_ne h.out hc (y.out e List.mem_cons_self))
end
section
variable {α β : Type} {d : Kd α} {d2 : Kd β} {ei e2 : Nat} {P : Program} {ops : Array Oper} {Q : Exit → Act → World → Prop} {rest : List Oper} {oi : Oper} {a : Act} {w w0 : World} {f : FuncId} {fn : Func} {as : Array Operand} {ts : Array TypeId} {args : Array Value} {v : Value} {F : Value → Value} {F2 : Value → Value → Value} {xs : List α} {ys : List β}
theorem gD (N : Option Tmp) (hf : P.funcs[f]? = some fn) (hc : Calls P f args w fun e w' => e = .returned v ∧ Drawn0 w w') (h : ∀ w', UB w w' → wpList P ops Q rest (a.put N v) w')
    (hd : oi.dst = N := by exact rfl) (hg : oi.guard = none := by exact rfl) (hname : (fn.name == "runtime.NumGoroutine") = false := by kernel_rfl) (hb : fn.body.isSome = true := by exact rfl)
    (hop : oi.op = .call { callee := .value (.func f), args := as, argTypes := ts } := by exact rfl) (hargs : as.map a.eval = args := by (try simp only [List.map_toArray, List.map_cons, List.map_nil]); first | done | rfl) : wpList P ops Q (oi :: rest) a w :=
  goesL_ N hd hg hf hname hb args hop hargs (hc.mono fun e w' ⟨he, hb⟩ => ⟨v, he, h w' ⟨by obtain ⟨n, rfl⟩ := hb.out; exact pw_below_drewN (Below.refl _ _) n⟩⟩)
theorem gC (N : Option Tmp) (hf : P.funcs[f]? = some fn) (hc : Calls P f args w fun e w' => e = .returned v ∧ Below w.heap.size w w') (h : ∀ w', UB w w' → wpList P ops Q rest (a.put N v) w')
    (hd : oi.dst = N := by exact rfl) (hg : oi.guard = none := by exact rfl) (hname : (fn.name == "runtime.NumGoroutine") = false := by kernel_rfl) (hb : fn.body.isSome = true := by exact rfl)
    (hop : oi.op = .call { callee := .value (.func f), args := as, argTypes := ts } := by exact rfl) (hargs : as.map a.eval = args := by (try simp only [List.map_toArray, List.map_cons, List.map_nil]); first | done | rfl) : wpList P ops Q (oi :: rest) a w :=
  goesL_ N hd hg hf hname hb args hop hargs (hc.mono fun e w' ⟨he, hb⟩ => ⟨v, he, h w' ⟨hb⟩⟩)
theorem gC1 (N : Option Tmp) (hf : P.funcs[f]? = some fn) (hc : Calls P f args w fun e w' => ∃ u : Value, e = .returned (F u) ∧ d.R ei w' w.heap.size (fun _ => True) u xs ∧ Below w.heap.size w w')
    (h : ∀ A c w', UB w w' → Aside0 (d.R ei w' w.heap.size (iv w w') (.slice A xs.length c) xs) → wpList P ops Q rest (a.put N (F (.slice A xs.length c))) w')
    (hd : oi.dst = N := by exact rfl) (hg : oi.guard = none := by exact rfl) (hname : (fn.name == "runtime.NumGoroutine") = false := by kernel_rfl) (hb : fn.body.isSome = true := by exact rfl)
    (hop : oi.op = .call { callee := .value (.func f), args := as, argTypes := ts } := by exact rfl) (hargs : as.map a.eval = args := by (try simp only [List.map_toArray, List.map_cons, List.map_nil]); first | done | rfl) : wpList P ops Q (oi :: rest) a w :=
  goesL_ N hd hg hf hname hb args hop hargs (hc.mono fun e w' ⟨u, he, hr, hb⟩ => by obtain ⟨A, c, rfl⟩ := Kd.R_slice hr; exact ⟨_, he, h A c w' ⟨hb⟩ ⟨R_iv hr⟩⟩)
theorem gS1 (N : Option Tmp) (hf : P.funcs[f]? = some fn) (hc : Calls P f args w fun e w' => ∃ u : Value, e = .returned (F u) ∧ d.S ei w' w.heap.size (fun _ => True) u xs ∧ Below w.heap.size w w')
    (h : ∀ A c w', UB w w' → Aside0 (d.S ei w' w.heap.size (iv w w') (.slice A xs.length c) xs) → wpList P ops Q rest (a.put N (F (.slice A xs.length c))) w')
    (hd : oi.dst = N := by exact rfl) (hg : oi.guard = none := by exact rfl) (hname : (fn.name == "runtime.NumGoroutine") = false := by kernel_rfl) (hb : fn.body.isSome = true := by exact rfl)
    (hop : oi.op = .call { callee := .value (.func f), args := as, argTypes := ts } := by exact rfl) (hargs : as.map a.eval = args := by (try simp only [List.map_toArray, List.map_cons, List.map_nil]); first | done | rfl) : wpList P ops Q (oi :: rest) a w :=
  goesL_ N hd hg hf hname hb args hop hargs (hc.mono fun e w' ⟨u, he, hr, hb⟩ => by obtain ⟨A, c, rfl⟩ := Kd.S_slice hr; exact ⟨_, he, h A c w' ⟨hb⟩ ⟨S_iv hr⟩⟩)
section
variable {Post : Ending → World → Prop}
theorem aD (hc : Calls P f args w fun e w' => e = .returned v ∧ Drawn0 w w') (h : ∀ w', UB w w' → Post (.returned v) w') : Calls P f args w Post :=
  hc.mono fun e w' ⟨he, hb⟩ => by subst he; exact h w' ⟨by obtain ⟨n, rfl⟩ := hb.out; exact pw_below_drewN (Below.refl _ _) n⟩
theorem aC (hc : Calls P f args w fun e w' => e = .returned v ∧ Below w.heap.size w w') (h : ∀ w', UB w w' → Post (.returned v) w') : Calls P f args w Post :=
  hc.mono fun e w' ⟨he, hb⟩ => by subst he; exact h w' ⟨hb⟩
end
theorem bL (N : Tmp) (cs : Array Value) (t : TypeId) (h : ∀ g w', UB w w' → BkI g w' cs t → BornI g w → wpList P ops Q rest (a.put oi.dst (.pointer (some ⟨g, 0, none⟩))) w')
    (hd : oi.dst = some N := by exact rfl) (hgd : oi.guard = none := by rfl)
    (hrun : (execOp a.eval oi).run P w = .ok (.value (.pointer (some ⟨w.heap.size, 0, none⟩))) (w.alloc (.cells cs t (0, 0))) := by first | (go_simp; done) | (go_simp; rfl)) : wpList P ops Q (oi :: rest) a w :=
  box_event hgd hd hrun (fun g hg w1 hbox hb => h g w1 ⟨hb⟩ ⟨hbox⟩ ⟨by rw [hg]; exact Nat.le_refl _⟩)
end
section
variable {α β : Type} {d : Kd α} {d2 : Kd β} {ei e2 : Nat} {P : Program} {ops : Array Oper} {Q : Exit → Act → World → Prop} {md : Region.Mode} {S : World → Prop} {ds : List Nat} {fuel : Nat} {l l' : Array Bool} {oi oj ok : Oper} {a : Act} {w w0 W0 : World} {f : FuncId} {fn : Func} {as : Array Operand} {ts : Array TypeId} {args : Array Value} {v : Value} {F : Value → Value} {F2 : Value → Value → Value} {xs : List α} {ys : List β} {N Ni Nj Nk : Option Tmp} {T : Bool × List (List Nat × List Nat)} {B : List Nat}
theorem sB {id n : Nat} {T : Bool × List (List Nat × List Nat)} {B : List Nat} (bs : List Nat) (hT : rtab .any ops = T) (hW : waitsOk T.2 B = true) (h : ∀ W', UB w W' → Aside0 (rtab .any ops = T) → Aside0 (waitsOk T.2 B = true) → wpAnyLast P .any ops Q (KO W' bs) [] n (bz n 0) a W')
    (hm : P.follows .mixedOrders = true := by kernel_rfl) (hn : ops.size = n := by rfl) (hl : Array.replicate n false = bz n 0 := by rfl) : (Code.region id ops true).wp P Q a w :=
  start_ (bz n 0) hm hn hl (Kept.refl _ _) (fun _ => h w.drew ⟨below_drew1 (Below.refl _ _)⟩ ⟨hT⟩ ⟨hW⟩)
def Sk (P : Program) (md : Region.Mode) (ops : Array Oper) (Q : Exit → Act → World → Prop) (S : World → Prop) (ds : List Nat) (fuel : Nat) (l' : Array Bool) (oi : Oper) (N : Option Tmp) (a : Act) (w : World) : Prop :=
  ∀ K : Act → World → Prop, Shut (∀ a' w', S w' → (S w' → wpAnyLast P md ops Q S ds fuel l' a' w') → K a' w') → if Region.wanted oi (yielded ops a.tmps) = true then Oper.wp P oi a w K Q else K (a.put N undef) w
theorem o1 (i : Nat) (N : Option Tmp) (l' : Array Bool) (hT : Aside0 (rtab md ops = T)) (hi : ops[i]? = some oi) (h : Sk P md ops Q S ds fuel l' oi N a w) (hN : oi.dst = N := by exact rfl) (hc : (readyT T.2 l.toList == [i] && l.toList.set i true == l'.toList) = true := by kernel_rfl) (hd : i ∉ ds := by decide) : wpAnyLast P md ops Q S ds (fuel + 1) l a w :=
  one_ l' hi hN (one_of hT.out hc) hd h
theorem o2 (i j : Nat) (Ni Nj : Option Tmp) (li lj : Array Bool) (hT : Aside0 (rtab md ops = T)) (hi : ops[i]? = some oi) (hj : ops[j]? = some oj) (h1 : Sk P md ops Q S ds fuel li oi Ni a w) (h2 : Sk P md ops Q S ds fuel lj oj Nj a w) (hNi : oi.dst = Ni := by exact rfl) (hNj : oj.dst = Nj := by exact rfl)
    (hc : (readyT T.2 l.toList == [i, j] && l.toList.set i true == li.toList && l.toList.set j true == lj.toList) = true := by kernel_rfl) (hdi : i ∉ ds := by decide) (hdj : j ∉ ds := by decide) : wpAnyLast P md ops Q S ds (fuel + 1) l a w :=
  two_ li lj hi hj hNi hNj (two_of hT.out hc) hdi hdj h1 h2
theorem o3 (i j k : Nat) (Ni Nj Nk : Option Tmp) (li lj lk : Array Bool) (hT : Aside0 (rtab md ops = T)) (hi : ops[i]? = some oi) (hj : ops[j]? = some oj) (hk : ops[k]? = some ok) (h1 : Sk P md ops Q S ds fuel li oi Ni a w) (h2 : Sk P md ops Q S ds fuel lj oj Nj a w) (h3 : Sk P md ops Q S ds fuel lk ok Nk a w) (hNi : oi.dst = Ni := by exact rfl) (hNj : oj.dst = Nj := by exact rfl) (hNk : ok.dst = Nk := by exact rfl)
    (hc : (readyT T.2 l.toList == [i, j, k] && l.toList.set i true == li.toList && l.toList.set j true == lj.toList && l.toList.set k true == lk.toList) = true := by kernel_rfl) (hdi : i ∉ ds := by decide) (hdj : j ∉ ds := by decide) (hdk : k ∉ ds := by decide) : wpAnyLast P md ops Q S ds (fuel + 1) l a w :=
  three_ li lj lk hi hj hk hNi hNj hNk (three_of hT.out hc) hdi hdj hdk h1 h2 h3
theorem tB {oi : Oper} {v : Value} {a' : Act} {bs : List Nat} (i : Nat) (N : Option Tmp) (l' : Array Bool) (hT : Aside0 (rtab md ops = T)) (hB : Aside0 (waitsOk T.2 B = true)) (h : wpAnyLast P md ops Q (KO W0 bs) ds fuel l' a' w) (hi : ops[i]? = some oi := by exact rfl) (hN : oi.dst = N := by exact rfl) (hc : takeW T B ds l.toList l'.toList i = true := by kernel_rfl)
    (hQ : ∀ c a w, Q (.panic c) (a.put oi.dst v) w → Q (.panic c) a w := by exact fun _ _ _ h => h)
    (hw : Region.wanted oi (yielded ops a.tmps) = true := by rfl) (hS : KO W0 bs w := by exact UpL.out) (hy : ∀ w', KL W0 bs w' → (execOp a.eval oi).run P w' = .ok (.value v) w' := by intro w' s; go_simp; with_reducible rfl)
    (ha : a.put N v = a' := by simp only [Act.put, List.setIfInBounds_toArray, List.set_cons_zero, List.set_cons_succ, i64_w, i32_w]; rfl) : wpAnyLast P md ops Q (KO W0 bs) ds (fuel + 1) l a w :=
  take_ l' hi hN (take_ofW hT.out hB.out hc) hQ (Or.inl ⟨hw, fun w' s => hy w' ⟨s⟩⟩) hS ha h
theorem kD (hf : P.funcs[f]? = some fn) (hc : Calls P f args w fun e w' => e = .returned v ∧ Drawn0 w w') (h : ∀ w', UB w w' → wpAnyLast P md ops Q S ds fuel l' (a.put N v) w')
    (hS : ∀ w', UB w w' → S w' := by intro _ _; exact UpL.out) (hw : Region.wanted oi (yielded ops a.tmps) = true := by rfl) (hN : oi.dst = N := by exact rfl) (hname : (fn.name == "runtime.NumGoroutine") = false := by kernel_rfl) (hb : fn.body.isSome = true := by exact rfl)
    (hop : oi.op = .call { callee := .value (.func f), args := as, argTypes := ts } := by exact rfl) (hargs : as.map a.eval = args := by (try simp only [List.map_toArray, List.map_cons, List.map_nil]); first | done | rfl) : Sk P md ops Q S ds fuel l' oi N a w :=
  fun K hK => goes_ hf hname hb args hw hN hop hargs (hc.mono fun e w' ⟨he, hb⟩ => by obtain ⟨n, rfl⟩ := hb.out; have i_ : UB w (w.drewN n) := ⟨pw_below_drewN (Below.refl _ _) n⟩; exact ⟨v, he, hK.out _ _ (hS _ i_) (fun _ => h _ i_)⟩)
theorem kC (hf : P.funcs[f]? = some fn) (hc : Calls P f args w fun e w' => e = .returned v ∧ Below w.heap.size w w') (h : ∀ w', UB w w' → wpAnyLast P md ops Q S ds fuel l' (a.put N v) w')
    (hS : ∀ w', UB w w' → S w' := by intro _ _; exact UpL.out) (hw : Region.wanted oi (yielded ops a.tmps) = true := by rfl) (hN : oi.dst = N := by exact rfl) (hname : (fn.name == "runtime.NumGoroutine") = false := by kernel_rfl) (hb : fn.body.isSome = true := by exact rfl)
    (hop : oi.op = .call { callee := .value (.func f), args := as, argTypes := ts } := by exact rfl) (hargs : as.map a.eval = args := by (try simp only [List.map_toArray, List.map_cons, List.map_nil]); first | done | rfl) : Sk P md ops Q S ds fuel l' oi N a w :=
  fun K hK => goes_ hf hname hb args hw hN hop hargs (hc.mono fun e w' ⟨he, hb⟩ => ⟨v, he, hK.out _ _ (hS w' ⟨hb⟩) (fun _ => h w' ⟨hb⟩)⟩)
theorem kC1 (hf : P.funcs[f]? = some fn) (hc : Calls P f args w fun e w' => ∃ u : Value, e = .returned (F u) ∧ d.R ei w' w.heap.size (fun _ => True) u xs ∧ Below w.heap.size w w')
    (h : ∀ A c w', UB w w' → Aside0 (d.R ei w' w.heap.size (iv w w') (.slice A xs.length c) xs) → wpAnyLast P md ops Q S ds fuel l' (a.put N (F (.slice A xs.length c))) w')
    (hS : ∀ w', UB w w' → S w' := by intro _ _; exact UpL.out) (hw : Region.wanted oi (yielded ops a.tmps) = true := by rfl) (hN : oi.dst = N := by exact rfl) (hname : (fn.name == "runtime.NumGoroutine") = false := by kernel_rfl) (hb : fn.body.isSome = true := by exact rfl)
    (hop : oi.op = .call { callee := .value (.func f), args := as, argTypes := ts } := by exact rfl) (hargs : as.map a.eval = args := by (try simp only [List.map_toArray, List.map_cons, List.map_nil]); first | done | rfl) : Sk P md ops Q S ds fuel l' oi N a w :=
  fun K hK => goes_ hf hname hb args hw hN hop hargs (hc.mono fun e w' ⟨u, he, hr, hb⟩ => by obtain ⟨A, c, rfl⟩ := Kd.R_slice hr; exact ⟨_, he, hK.out _ _ (hS w' ⟨hb⟩) (fun _ => h A c w' ⟨hb⟩ ⟨R_iv hr⟩)⟩)
theorem kB (cs : Array Value) (t : TypeId) (h : ∀ g w', UB w w' → BkI g w' cs t → BornI g w → wpAnyLast P md ops Q S ds fuel l' (a.put N (.pointer (some ⟨g, 0, none⟩))) w')
    (hS : ∀ w', UB w w' → S w' := by intro _ _; exact UpL.out) (hw : Region.wanted oi (yielded ops a.tmps) = true := by rfl) (hN : oi.dst = N := by exact rfl)
    (hrun : (execOp a.eval oi).run P w = .ok (.value (.pointer (some ⟨w.heap.size, 0, none⟩))) (w.alloc (.cells cs t (0, 0))) := by first | (go_simp; done) | (go_simp; rfl)) : Sk P md ops Q S ds fuel l' oi N a w :=
  fun K hK => value_ hw hN hrun (hK.out _ _ (hS _ ⟨below_alloc (Below.refl _ _) _⟩) (fun _ => h _ _ ⟨below_alloc (Below.refl _ _) _⟩ ⟨by simpa using heap_alloc_new w _⟩ ⟨Nat.le_refl _⟩))
theorem kS {w1 : World} (h : wpAnyLast P md ops Q S ds fuel l' a w1) (hrun : (execOp a.eval oi).run P w = .ok .skip w1 := by go_simp; rfl) (hS : S w1 := by exact UpL.out)
    (hw : Region.wanted oi (yielded ops a.tmps) = true := by rfl) (hN : oi.dst = none := by rfl) : Sk P md ops Q S ds fuel l' oi none a w :=
  fun K hK => skip_ hw hN hrun (hK.out _ _ hS (fun _ => h))
theorem hJ {a a' : Act} (h : wpAnyLast P md ops Q S ds fuel l a' w) (ha : a = a' := by first | (simp only [putAll, Act.put, List.setIfInBounds_toArray, List.set_cons_zero, List.set_cons_succ]; done) | (simp only [putAll, Act.put, List.setIfInBounds_toArray, List.set_cons_zero, List.set_cons_succ]; rfl) | rfl) : wpAnyLast P md ops Q S ds fuel l a w := norm_ ha h
theorem nP {a a' : Act} {ns : List (Tmp × Value)} (h : wpAnyLast P md ops Q S ds fuel l a' w) (ha : putAll a ns = a' := by simp only [putAll, Act.put, List.setIfInBounds_toArray, List.set_cons_zero, List.set_cons_succ]; rfl) : wpAnyLast P md ops Q S ds fuel l (putAll a ns) w := norm_ ha h
end
class StP (I : World → Prop) (g : Nat) (t : outParam TypeId) : Prop where mk :: (out : ∀ w, I w → ∃ cs, w.heap[g]? = some (.cells cs t (0, 0)))
class StN (J : Nat → World → Prop) (w0 : World) (t : outParam TypeId) : Prop where mk :: (blk : ∀ g w, J g w → ∃ cs, w.heap[g]? = some (.cells cs t (0, 0))) (ge : ∀ g w, J g w → w0.heap.size ≤ g)
section
variable {α : Type} {d : Kd α} {ei g : Nat} {t : TypeId} {I : World → Prop} {J : Nat → World → Prop} {P : Program} {ops : Array Oper} {Q : Exit → Act → World → Prop} {rest : List Oper} {md : Region.Mode} {S : World → Prop} {ds : List Nat} {fuel : Nat} {l' : Array Bool} {oi : Oper} {a : Act} {w w0 : World} {f : FuncId} {fn : Func} {as : Array Operand} {ts : Array TypeId} {args : Array Value} {v : Value} {F : Value → Value} {xs : List α} {N : Option Tmp}
theorem wL (h : ∀ w', UB w w' → wpList P ops Q rest a w') : wpList P ops Q rest a w := h w ⟨Below.refl _ _⟩
theorem wC {P : Program} {c : Code} {Q : Exit → Act → World → Prop} {a : Act} {w : World} (h : ∀ w', UB w w' → Code.wp P c Q a w') : Code.wp P c Q a w := h w ⟨Below.refl _ _⟩
theorem gK (N : Option Tmp) (hf : P.funcs[f]? = some fn) (hc : Calls P f args w fun e w' => e = .returned v ∧ I w' ∧ Below w0.heap.size w0 w' ∧ KeepBut w w' g none) [sp : StP I g t]
    (h : ∀ w', KB w g w' → LB w0 w' → StB g w' t → Aside0 (I w') → wpList P ops Q rest (a.put N v) w')
    (hd : oi.dst = N := by exact rfl) (hg : oi.guard = none := by exact rfl) (hname : (fn.name == "runtime.NumGoroutine") = false := by kernel_rfl) (hb : fn.body.isSome = true := by exact rfl)
    (hop : oi.op = .call { callee := .value (.func f), args := as, argTypes := ts } := by exact rfl) (hargs : as.map a.eval = args := by (try simp only [List.map_toArray, List.map_cons, List.map_nil]); first | done | rfl) : wpList P ops Q (oi :: rest) a w :=
  goesL_ N hd hg hf hname hb args hop hargs (hc.mono fun e w' ⟨he, hi, hb, hk⟩ => ⟨v, he, h w' ⟨hk⟩ ⟨hb⟩ ⟨sp.out _ hi⟩ ⟨hi⟩⟩)
theorem kK (hf : P.funcs[f]? = some fn) (hc : Calls P f args w fun e w' => e = .returned v ∧ I w' ∧ Below w0.heap.size w0 w' ∧ KeepBut w w' g none) [sp : StP I g t]
    (h : ∀ w', KB w g w' → LB w0 w' → StB g w' t → Aside0 (I w') → wpAnyLast P md ops Q S ds fuel l' (a.put N v) w')
    (hS : ∀ w', KB w g w' → S w' := by intro _ _; exact UpL.out) (hw : Region.wanted oi (yielded ops a.tmps) = true := by rfl) (hN : oi.dst = N := by exact rfl) (hname : (fn.name == "runtime.NumGoroutine") = false := by kernel_rfl) (hb : fn.body.isSome = true := by exact rfl)
    (hop : oi.op = .call { callee := .value (.func f), args := as, argTypes := ts } := by exact rfl) (hargs : as.map a.eval = args := by (try simp only [List.map_toArray, List.map_cons, List.map_nil]); first | done | rfl) : Sk P md ops Q S ds fuel l' oi N a w :=
  fun K hK => goes_ hf hname hb args hw hN hop hargs (hc.mono fun e w' ⟨he, hi, hb, hk⟩ => ⟨v, he, hK.out _ _ (hS w' ⟨hk⟩) (fun _ => h w' ⟨hk⟩ ⟨hb⟩ ⟨sp.out _ hi⟩ ⟨hi⟩)⟩)
theorem gK1 (N : Option Tmp) (hf : P.funcs[f]? = some fn) (hc : Calls P f args w fun e w' => ∃ u : Value, e = .returned (F u) ∧ d.R ei w' w.heap.size (fun _ => True) u xs ∧ I w' ∧ Below w0.heap.size w0 w' ∧ KeepBut w w' g none) [sp : StP I g t]
    (h : ∀ A c w', KB w g w' → LB w0 w' → StB g w' t → Aside0 (I w') → Aside0 (d.R ei w' w.heap.size (iv w w') (.slice A xs.length c) xs) → wpList P ops Q rest (a.put N (F (.slice A xs.length c))) w')
    (hd : oi.dst = N := by exact rfl) (hg : oi.guard = none := by exact rfl) (hname : (fn.name == "runtime.NumGoroutine") = false := by kernel_rfl) (hb : fn.body.isSome = true := by exact rfl)
    (hop : oi.op = .call { callee := .value (.func f), args := as, argTypes := ts } := by exact rfl) (hargs : as.map a.eval = args := by (try simp only [List.map_toArray, List.map_cons, List.map_nil]); first | done | rfl) : wpList P ops Q (oi :: rest) a w :=
  goesL_ N hd hg hf hname hb args hop hargs (hc.mono fun e w' ⟨u, he, hr, hi, hb, hk⟩ => by obtain ⟨A, c, rfl⟩ := Kd.R_slice hr; exact ⟨_, he, h A c w' ⟨hk⟩ ⟨hb⟩ ⟨sp.out _ hi⟩ ⟨hi⟩ ⟨R_iv hr⟩⟩)
theorem kK1 (hf : P.funcs[f]? = some fn) (hc : Calls P f args w fun e w' => ∃ u : Value, e = .returned (F u) ∧ d.R ei w' w.heap.size (fun _ => True) u xs ∧ I w' ∧ Below w0.heap.size w0 w' ∧ KeepBut w w' g none) [sp : StP I g t]
    (h : ∀ A c w', KB w g w' → LB w0 w' → StB g w' t → Aside0 (I w') → Aside0 (d.R ei w' w.heap.size (iv w w') (.slice A xs.length c) xs) → wpAnyLast P md ops Q S ds fuel l' (a.put N (F (.slice A xs.length c))) w')
    (hS : ∀ w', KB w g w' → S w' := by intro _ _; exact UpL.out) (hw : Region.wanted oi (yielded ops a.tmps) = true := by rfl) (hN : oi.dst = N := by exact rfl) (hname : (fn.name == "runtime.NumGoroutine") = false := by kernel_rfl) (hb : fn.body.isSome = true := by exact rfl)
    (hop : oi.op = .call { callee := .value (.func f), args := as, argTypes := ts } := by exact rfl) (hargs : as.map a.eval = args := by (try simp only [List.map_toArray, List.map_cons, List.map_nil]); first | done | rfl) : Sk P md ops Q S ds fuel l' oi N a w :=
  fun K hK => goes_ hf hname hb args hw hN hop hargs (hc.mono fun e w' ⟨u, he, hr, hi, hb, hk⟩ => by obtain ⟨A, c, rfl⟩ := Kd.R_slice hr; exact ⟨_, he, hK.out _ _ (hS w' ⟨hk⟩) (fun _ => h A c w' ⟨hk⟩ ⟨hb⟩ ⟨sp.out _ hi⟩ ⟨hi⟩ ⟨R_iv hr⟩)⟩)
theorem kKT1 {wb : World} (hf : P.funcs[f]? = some fn) (hc : Calls P f args w fun e w' => ∃ u : Value, e = .returned (F u) ∧ d.R ei w' wb.heap.size (fun _ => True) u xs ∧ I w' ∧ Below w0.heap.size w0 w' ∧ KeepBut w w' g none) [sp : StP I g t]
    (h : ∀ A c w', KB w g w' → LB w0 w' → StB g w' t → Aside0 (I w') → Aside0 (d.R ei w' wb.heap.size (iv wb w') (.slice A xs.length c) xs) → wpAnyLast P md ops Q S ds fuel l' (a.put N (F (.slice A xs.length c))) w')
    (hS : ∀ w', KB w g w' → S w' := by intro _ _; exact UpL.out) (hw : Region.wanted oi (yielded ops a.tmps) = true := by rfl) (hN : oi.dst = N := by exact rfl) (hname : (fn.name == "runtime.NumGoroutine") = false := by kernel_rfl) (hb : fn.body.isSome = true := by exact rfl)
    (hop : oi.op = .call { callee := .value (.func f), args := as, argTypes := ts } := by exact rfl) (hargs : as.map a.eval = args := by (try simp only [List.map_toArray, List.map_cons, List.map_nil]); first | done | rfl) : Sk P md ops Q S ds fuel l' oi N a w :=
  fun K hK => goes_ hf hname hb args hw hN hop hargs (hc.mono fun e w' ⟨u, he, hr, hi, hb, hk⟩ => by obtain ⟨A, c, rfl⟩ := Kd.R_slice hr; exact ⟨_, he, hK.out _ _ (hS w' ⟨hk⟩) (fun _ => h A c w' ⟨hk⟩ ⟨hb⟩ ⟨sp.out _ hi⟩ ⟨hi⟩ ⟨R_iv hr⟩)⟩)
theorem gN (N : Option Tmp) (hf : P.funcs[f]? = some fn) (hc : Calls P f args w fun e w' => ∃ g : Nat, e = .returned (.pointer (some ⟨g, 0, none⟩)) ∧ J g w' ∧ Below w.heap.size w w' ∧ Below w.heap.size w w') [sp : StN J w t]
    (h : ∀ g w', UB w w' → StB g w' t → BornI g w → Aside0 (J g w') → wpList P ops Q rest (a.put N (.pointer (some ⟨g, 0, none⟩))) w')
    (hd : oi.dst = N := by exact rfl) (hg : oi.guard = none := by exact rfl) (hname : (fn.name == "runtime.NumGoroutine") = false := by kernel_rfl) (hb : fn.body.isSome = true := by exact rfl)
    (hop : oi.op = .call { callee := .value (.func f), args := as, argTypes := ts } := by exact rfl) (hargs : as.map a.eval = args := by (try simp only [List.map_toArray, List.map_cons, List.map_nil]); first | done | rfl) : wpList P ops Q (oi :: rest) a w :=
  goesL_ N hd hg hf hname hb args hop hargs (hc.mono fun e w' ⟨g, he, hj, _, hb⟩ => ⟨_, he, h g w' ⟨hb⟩ ⟨sp.blk _ _ hj⟩ ⟨sp.ge _ _ hj⟩ ⟨hj⟩⟩)
end
theorem repSc {α : Type} {enc : α → Value} {h1 : ∀ x, (enc x).oneCell' = true} {w : World} {base : Nat} {ok : Nat → Prop} (l : List α) : Reps ((Kd.scalar enc h1).M w base ok) 1 l (l.map enc) := by
  refine ⟨by simp, fun j p h => ?_⟩
  obtain ⟨hj, rfl⟩ := List.getElem?_eq_some_iff.1 h
  show ((l.map enc).drop (j * 1)).take 1 = [enc l[j]]
  rw [Nat.mul_one, List.drop_eq_getElem_cons (by simpa using hj), List.take_succ_cons, List.take_zero, List.getElem_map]
section
variable {α : Type} {enc : α → Value} {h1 : ∀ x, (enc x).oneCell' = true} {P : Program} {ops : Array Oper} {Q : Exit → Act → World → Prop} {rest : List Oper} {md : Region.Mode} {S : World → Prop} {ds : List Nat} {fuel : Nat} {l' : Array Bool} {oi : Oper} {a : Act} {w : World} {N : Tmp} {xs y : List α}
theorem lL (N : Tmp) (e : Nat) (d : Kd α) (hd1 : d = Kd.scalar enc h1) (hy : Aside0 (y = xs)) (h : ∀ A c w', UB w w' → Aside0 (d.R e w' w.heap.size (iv w w') (.slice A y.length c) y) → wpList P ops Q rest (a.put oi.dst (.slice A y.length c)) w')
    (hd : oi.dst = some N := by exact rfl) (hg : oi.guard = none := by rfl) (hrun : (execOp a.eval oi).run P w = .ok (.value (.slice (some ⟨w.heap.size, 0, none⟩) xs.length xs.length)) (w.alloc (.cells (xs.map enc).toArray e)) := by first | (go_simp; done) | (go_simp; rfl)) (hm : xs.length ≤ 9223372036854775807 := by simp) : wpList P ops Q (oi :: rest) a w := by
  obtain ⟨rfl⟩ := hy
  subst hd1
  exact Kd.R_lit (Kd.scalar enc h1) w.heap.size e hg hd (ok := fun _ => True) (okp := fun _ => True) hrun (repSc y) (fun _ h => h) trivial (Below.refl _ _) (Nat.le_refl _) hm
    (fun v1 w1 hr hb _ _ => by obtain ⟨A, c, rfl⟩ := Kd.R_slice hr; exact h A c w1 ⟨hb⟩ ⟨R_iv hr⟩)
theorem kL (e : Nat) (d : Kd α) (hd1 : d = Kd.scalar enc h1) (hy : Aside0 (y = xs)) (h : ∀ A c w', UB w w' → Aside0 (d.R e w' w.heap.size (iv w w') (.slice A y.length c) y) → wpAnyLast P md ops Q S ds fuel l' (a.put (some N) (.slice A y.length c)) w')
    (hS : ∀ w', UB w w' → S w' := by intro _ _; exact UpL.out) (hN : oi.dst = some N := by exact rfl) (hw : Region.wanted oi (yielded ops a.tmps) = true := by rfl) (hrun : (execOp a.eval oi).run P w = .ok (.value (.slice (some ⟨w.heap.size, 0, none⟩) xs.length xs.length)) (w.alloc (.cells (xs.map enc).toArray e)) := by first | (go_simp; done) | (go_simp; rfl)) (hm : xs.length ≤ 9223372036854775807 := by simp) : Sk P md ops Q S ds fuel l' oi (some N) a w := by
  obtain ⟨rfl⟩ := hy
  subst hd1
  intro K hK
  have hh := Kd.R_lit_step (Kc := K) (Q := Q) (ops := ops) (a := a) (Kd.scalar enc h1) w.heap.size e hw hN (ok := fun _ => True) (okp := fun _ => True) hrun (repSc y) (fun _ h => h) trivial (Below.refl _ _) (Nat.le_refl _) hm
    (fun v1 w1 hr hb _ _ => by rw [hN]; obtain ⟨A, c, rfl⟩ := Kd.R_slice hr; exact hK.out _ _ (hS w1 ⟨hb⟩) (fun _ => h A c w1 ⟨hb⟩ ⟨R_iv hr⟩))
  rw [hN] at hh
  exact hh
end
section
variable {P : Program} {ops : Array Oper} {Q : Exit → Act → World → Prop} {md : Region.Mode} {S : World → Prop} {ds : List Nat} {fuel : Nat} {l' : Array Bool} {oi : Oper} {a : Act} {w : World} {N : Tmp} {src dst : TypeId} {x : Operand} {u : Value}
theorem kV (hc : (convert src dst (a.eval x)).run P w = .ok u w) (h : wpAnyLast P md ops Q S ds fuel l' (a.put (some N) u) w) (ho : oi.op = .convert src dst x := by rfl) (hS : S w := by exact UpL.out) (hN : oi.dst = some N := by exact rfl) (hw : Region.wanted oi (yielded ops a.tmps) = true := by rfl) : Sk P md ops Q S ds fuel l' oi (some N) a w :=
  fun K hK => value_ hw hN (by
    have e : (execOp a.eval oi).run P w = ((convert src dst (a.eval x)).run P w).andThen (fun v w' => .ok (.value v) w') := by unfold execOp; rw [ho]; first | rfl | (go_simp; done) | (go_simp; rfl)
    rw [e, hc]; rfl) (hK.out _ _ hS (fun _ => h))
end
class GB (w : outParam World) (o : outParam (Option Nat)) (W : World) : Prop where mk :: (out : w.grownBy W o)
class OwnI (o : Option Nat) (α : outParam Type) (w b : outParam World) (d : outParam (Kd α)) (e : outParam Nat) : Prop where mk :: (ge : ∀ k, o = some k → b.heap.size ≤ k) (ty : ∀ k, o = some k → ∃ cells, w.heap[k]? = some (.cells cells e (0, 0))) (bel : ∀ W, w.grownBy W o → Below b.heap.size w W)
class NeO (g : Nat) (o : Option Nat) : Prop where mk :: (out : some g ≠ o)
class MemO (o : Option Nat) (bs : List Nat) : Prop where mk :: (out : ∀ k, o = some k → k ∈ bs)
instance MemO.own_ (o : Option Nat) : MemO o o.toList := ⟨fun k h => by subst h; simp⟩
instance MemO.tail_ (o : Option Nat) (b : Nat) (bs : List Nat) [m : MemO o bs] : MemO o (b :: bs) := ⟨fun k h => List.mem_cons_of_mem _ (m.out k h)⟩
def TS (bs : List Nat) (b : World) (e : Nat) (w : World) (k : Nat) : Prop := k ∈ bs ∨ (b.heap.size ≤ k ∧ ∃ cells, w.heap[k]? = some (.cells cells e (0, 0)))
class KT (w : outParam World) (bs : outParam (List Nat)) (b : outParam World) (α : outParam Type) (d : outParam (Kd α)) (e : outParam Nat) (W : World) : Prop where mk :: (out : Kept w W (TS bs b e w))
class UpT (bs : List Nat) (b : World) (e : Nat) (w W : World) : Prop where mk :: (out : Kept w W (TS bs b e w))
section
variable {α β : Type} (d : Kd α) (d2 : Kd β) (e e2 : Nat) (bs : List Nat) (o : Option Nat) (w w' w0 b W : World) (g j n t : Nat) (ob : Obj) (v : Value) (cs cs' : Array Value)
instance NeO.of [k : OwnI o α w b d e] [h : BT w g t] [y : TyNe d e t] : NeO g o := ⟨fun he => by
  obtain ⟨cs, hc⟩ := h.out
  obtain ⟨cs', hc'⟩ := k.ty g he.symm
  rw [hc] at hc'
  injection hc' with hc'
  injection hc' with _ ht
  exact y.out e List.mem_cons_self ht.symm⟩
instance NeO.low [k : OwnI o α w b d e] [x : LtI g b] : NeO g o := ⟨fun he => Nat.not_le.2 x.out (k.ge g he.symm)⟩
instance NiI.own_ [n : NeO g o] : NiI g o.toList := ⟨fun h => n.out (Option.mem_toList.1 h).symm⟩
instance UpL.gbm_ [h : GB w' o W] [m : MemO o bs] [u : UpL bs w w'] : UpL bs w W := ⟨Kept.of_grown h.out u.out (fun q hq => .inl (m.out q hq))⟩
instance SzI.gb_ [h : GB w' o W] [u : SzI w w'] : SzI w W := ⟨Nat.le_trans u.out h.out.size⟩
instance UpC.gb_ [h : GB w' o W] [k : NeO g o] [u : UpC g w w' cs cs'] : UpC g w W cs cs' := ⟨fun t q => blk_grown (u.out t q) h.out k.out⟩
instance UpG.gb_ [h : GB w' o W] [k : NeO g o] [u : UpG g w w'] : UpG g w W := ⟨fun t cs q => blk_grown (u.out t cs q) h.out k.out⟩
instance UpW.gb_ [h : GB w' o W] [k : OwnI o α w' b d e] [z : SzI w b] [u : UpW w w'] : UpW w W := ⟨below_weaken u.out z.out (k.bel _ h.out)⟩
instance UpS.gb_ [h : GB w' o W] [k : OwnI o α w' b d e] [z : SzI w0 b] [u : UpS w0 w w'] : UpS w0 w W := ⟨fun q => below_weaken (u.out q) z.out (k.bel _ h.out)⟩
instance UpB.gb_ [h : GB w' o W] [k : OwnI o α w' b d e] [z : SzI w b] [u : UpB w w' g] : UpB w W g := ⟨KeepBut.trans u.out (KeepBut.of_grown h.out g) (by
  cases ho : o with
  | none => exact .inl rfl
  | some q => exact .inr ⟨q, rfl, Nat.le_trans z.out (k.ge q ho)⟩)⟩
instance UpL.gb_ [h : GB w' o W] [k : OwnI o α w' b d e] [z : SzI w b] [u : UpL bs w w'] : UpL bs w W := ⟨Kept.of_grown h.out u.out (fun q hq => .inr (Nat.le_trans z.out (k.ge q hq)))⟩
instance UpR.gb_ [h : GB w' o W] [k : OwnI o β w' b d2 e2] [y : TyNe d e e2] [u : UpR d e w w'] : UpR d e w W := ⟨fun q => by
  refine Kd.R_mono (Kd.R_move (Kd.R_bound (u.out q)) (fun i hi => h.out.block i hi.2.2.1 (fun he => ?_))) (fun _ hk => hk.1)
  obtain ⟨_, _, _, x, hx, cells, hc⟩ := hi
  obtain ⟨cells', hc'⟩ := k.ty i he.symm
  rw [hc] at hc'
  injection hc' with hc'
  injection hc' with _ ht
  exact y.out x hx ht⟩
instance UpSr.gb_ [h : GB w' o W] [k : OwnI o β w' b d2 e2] [y : TyNe d e e2] [u : UpSr d e w w'] : UpSr d e w W := ⟨fun q => by
  obtain ⟨f, q⟩ := u.out q
  refine ⟨f, ?_⟩
  refine Kd.R_mono (Kd.R_move (Kd.R_bound q) (fun i hi => h.out.block i hi.2.2.1 (fun he => ?_))) (fun _ hk => hk.1)
  obtain ⟨_, _, _, x, hx, cells, hc⟩ := hi
  obtain ⟨cells', hc'⟩ := k.ty i he.symm
  rw [hc] at hc'
  injection hc' with hc'
  injection hc' with _ ht
  exact y.out x hx ht⟩
instance UpT.kl_ (bs2 : List Nat) [h : KL w' bs2 W] [s : SubI w bs bs2] [u : UpT bs b e w w'] : UpT bs b e w W := ⟨u.out.then_ h.out (fun k hk => (s.out k hk).imp .inl id)⟩
instance UpT.kb_ [h : KB w' g W] [m : MemI g bs] [u : UpT bs b e w w'] : UpT bs b e w W := ⟨Kept.of_keep u.out h.out (.inl (.inl m.out))⟩
instance UpT.let_ [h : UB w' W] [u : UpT bs b e w w'] : UpT bs b e w W := ⟨u.out.below h.out⟩
instance UpT.far_ [k : GeI w.heap.size g] [u : UpT bs b e w W] : UpT bs b e w (W.setCell ⟨g, j, none⟩ v) := ⟨u.out.setCell (p := ⟨g, j, none⟩) (.inr k.out) v⟩
instance UpT.set_ [m : MemI g bs] [u : UpT bs b e w W] : UpT bs b e w (W.setCell ⟨g, j, none⟩ v) := ⟨u.out.setCell (p := ⟨g, j, none⟩) (.inl (.inl m.out)) v⟩
instance UpT.alloc_ [u : UpT bs b e w W] : UpT bs b e w (W.alloc ob) := ⟨u.out.alloc ob⟩
instance UpT.drewN_ [u : UpT bs b e w W] : UpT bs b e w (W.drewN n) := ⟨u.out⟩
instance UpT.drew_ [u : UpT bs b e w W] : UpT bs b e w W.drew := ⟨u.out⟩
instance UpT.refl_ : UpT bs b e w w := ⟨Kept.refl _ _⟩
instance UpT.gb_ (b2 : World) [h : GB w' o W] [k : OwnI o α w' b2 d e] [z : SzI b b2] [u : UpT bs b e w w'] : UpT bs b e w W := ⟨Kept.of_grown h.out u.out (fun q hq => by
  rcases Nat.lt_or_ge q w.heap.size with hl | hl
  · refine .inl ?_
    by_cases hs : TS bs b e w q
    · exact hs
    · refine .inr ⟨Nat.le_trans z.out (k.ge q hq), ?_⟩
      obtain ⟨cells, hc⟩ := k.ty q hq
      exact ⟨cells, (u.out.2 q hl hs).symm.trans hc⟩
  · exact .inr hl)⟩
instance SzI.kt_ [h : KT w' bs b α d e W] [u : SzI w w'] : SzI w W := ⟨Nat.le_trans u.out h.out.1⟩
instance UpT.kt_ (bs2 : List Nat) (b2 : World) [h : KT w' bs2 b2 α d e W] [s : SubI w bs bs2] [z : SzI b b2] [u : UpT bs b e w w'] : UpT bs b e w W := ⟨u.out.then_ h.out (fun q hq => by
  rcases hq with hq | ⟨hb, cells, hc⟩
  · exact (s.out q hq).imp .inl id
  · rcases Nat.lt_or_ge q w.heap.size with hl | hl
    · refine .inl ?_
      by_cases hs : TS bs b e w q
      · exact hs
      · exact .inr ⟨Nat.le_trans z.out hb, cells, (u.out.2 q hl hs).symm.trans hc⟩
    · exact .inr hl)⟩
instance UpL.kt_ (bs2 : List Nat) [h : KT w' bs2 b α d e W] [s : SubI w bs bs2] [z : SzI w b] [u : UpL bs w w'] : UpL bs w W := ⟨u.out.then_ h.out (fun q hq => hq.elim (s.out q) (fun hq => .inr (Nat.le_trans z.out hq.1)))⟩
theorem ts_blk {g t : Nat} (h : BT w g t) (hn : g ∉ bs) (ht : e ≠ t) : ¬ TS bs b e w g := fun hk => hk.elim hn (fun hk => by
  obtain ⟨cs, hc⟩ := h.out
  obtain ⟨cs', hc'⟩ := hk.2
  rw [hc] at hc'
  injection hc' with hc'
  injection hc' with _ hq
  exact ht hq.symm)
instance UpC.kt_ [h : KT w' bs b α d e W] [k : NiI g bs] [x : BT w' g t] [y : TyNe d e t] [u : UpC g w w' cs cs'] : UpC g w W cs cs' := ⟨fun t' q => blk_kept (u.out t' q) h.out (ts_blk e bs w' b x k.out (y.out e List.mem_cons_self))⟩
instance UpG.kt_ [h : KT w' bs b α d e W] [k : NiI g bs] [x : BT w' g t] [y : TyNe d e t] [u : UpG g w w'] : UpG g w W := ⟨fun t' cs q => blk_kept (u.out t' cs q) h.out (ts_blk e bs w' b x k.out (y.out e List.mem_cons_self))⟩
theorem ts_low {g : Nat} (hn : g ∉ bs) (hl : g < b.heap.size) : ¬ TS bs b e w g := fun hk => hk.elim hn (fun hk => Nat.not_le.2 hl hk.1)
instance UpC.ktl_ [h : KT w' bs b α d e W] [k : NiI g bs] [x : LtI g b] [u : UpC g w w' cs cs'] : UpC g w W cs cs' := ⟨fun t' q => blk_kept (u.out t' q) h.out (ts_low e bs w' b k.out x.out)⟩
instance UpG.ktl_ [h : KT w' bs b α d e W] [k : NiI g bs] [x : LtI g b] [u : UpG g w w'] : UpG g w W := ⟨fun t' cs q => blk_kept (u.out t' cs q) h.out (ts_low e bs w' b k.out x.out)⟩
theorem R_kt {d : Kd α} {e e2 base : Nat} {w W b : World} {bs : List Nat} {ok : Nat → Prop} {v : Value} {xs : List α} (q : d.R e w base ok v xs) (h : Kept w W (TS bs b e2 w)) (k : ∀ i ∈ bs, ∃ t, (∃ cs, w.heap[i]? = some (.cells cs t (0, 0))) ∧ ∀ q, q ∈ e :: d.E → q ≠ t) (y : ∀ q, q ∈ e :: d.E → q ≠ e2) : d.R e W base ok v xs :=
  Kd.R_mono (Kd.R_kept (Kd.R_mono (Kd.R_bound (R_all bs k q)) (fun _ hk => hk)) h (fun i hi hs => hs.elim hi.1.2 (fun hs => by
    obtain ⟨_, _, _, x, hx, cells, hc⟩ := hi
    obtain ⟨cells', hc'⟩ := hs.2
    rw [hc] at hc'
    injection hc' with hc'
    injection hc' with _ ht
    exact y x hx ht))) (fun _ hk => hk.1.1)
instance UpR.kt_ [h : KT w' bs b β d2 e2 W] [k : AllTy d e w' bs] [y : TyNe d e e2] [u : UpR d e w w'] : UpR d e w W := ⟨fun q => R_kt (u.out q) h.out k.out y.out⟩
instance UpSr.kt_ [h : KT w' bs b β d2 e2 W] [k : AllTy d e w' bs] [y : TyNe d e e2] [u : UpSr d e w w'] : UpSr d e w W := ⟨fun q => by obtain ⟨f, q⟩ := u.out q; exact ⟨f, R_kt (d := Kd.tag f d) q h.out k.out y.out⟩⟩
end
section
variable {α β : Type} {d : Kd α} {d2 : Kd β} {e n c e2 : Nat} {P : Program} {ops : Array Oper} {Q : Exit → Act → World → Prop} {rest : List Oper} {oi : Oper} {a : Act} {w1 w3 w4 b W : World} {A : Option Addr} {xs ys : List α} {p : α} {cs : List Value} {bs : List Nat} {o : Option Nat} {u v : Value} {zs : List β}
theorem rG {W' : World} {α2 : Type} {d3 : Kd α2} (h : Aside0 (d.R e w1 w3.heap.size (iv w3 w4) v xs)) [g : GB W o W'] [k : OwnI o α2 W b d3 e2] [z : SzI w4 b] [z2 : SzI b W] [i : UpR d e w1 W] : Aside0 (d.R e W' w3.heap.size (iv w3 w4) v xs) :=
  ⟨Kd.R_move (i.out h.out) (fun q hq => g.out.block q (by have := hq.2; have h2 := z.out; have h3 := z2.out; omega) (fun he => by have h1 := hq.2; have h2 := z.out; have h3 := k.ge q he.symm; omega))⟩
theorem ownI {w1 w3 : World} {ok : Nat → Prop} (h : Aside0 (d.R e w1 w3.heap.size ok (.slice A n c) xs)) [z : SzI w3 w1] : OwnI (Value.slice A n c).ownBlock α w1 w3 d e :=
  ⟨Kd.R_base h.out, Kd.R_typed h.out, fun W2 hg2 => Below.grown ⟨(Below.refl w1.heap.size w1).os, (Below.refl w1.heap.size w1).tape, (Below.refl w1.heap.size w1).output, Nat.le_refl _, fun _ _ => rfl⟩ hg2 z.out (Kd.R_base h.out)⟩
theorem szs (w : World) (a : Addr) (v : Value) : (w.setCell a v).heap.size = w.heap.size := by simp [World.setCell]
theorem gA (d : Kd α) (s x : Operand) (t e : TypeId) (z : Value) (bytes : Nat) (p : α) (cs : List Value) (b : World) (hy : Aside0 (ys = xs ++ [p])) (HO : Aside0 (d.R e w1 w3.heap.size (iv w3 w4) (.slice A n c) xs)) (hp : d.M W b.heap.size (fun _ => False) p cs) (hl : (xs.length + 1) * bytes ≤ 140737488355328)
    (h : ∀ A' c' w', GB W (Value.slice A n c).ownBlock w' → OwnI (Value.slice A n c).ownBlock α W b d e → Aside0 (d.R e w' b.heap.size (iv b w') (.slice A' ys.length c') ys) → wpList P ops Q rest (a.put oi.dst (.slice A' ys.length c')) w')
    [z1 : SzI b w3] [z2 : SzI b W] [i : UpR d e w1 W] (hgd : oi.guard = none := by rfl)
    (ho : oi.op = .call { callee := .builtin .append, args := #[s, x], argTypes := #[t, t] } := by rfl) (ht : P.underlying t = some (.slice e) := by assumption) (hinfo : (P.info? e).map (fun i => (i.zero, i.size, i.bytes)) = some (some z, d.sz, bytes) := by assumption) (hz : z.cells.size = d.sz := by rfl) (hs0 : 0 < d.sz := by decide) (hb0 : 0 < bytes := by omega)
    (hs : a.eval s = .slice A n c := by rfl) (hx : a.eval x = .slice (some ⟨W.heap.size, 0, none⟩) 1 1 := by first | rfl | (refine (rfl : _ = Value.slice (some ⟨_, 0, none⟩) 1 1).trans ?_; simp only [szs]; done)) : wpList P ops Q (oi :: rest) a (W.alloc (.cells cs.toArray e)) := by
  have h0 : d.R e W b.heap.size (fun _ => True) (.slice A n c) xs := Kd.R_mono (Kd.R_lower (i.out HO.out) z1.out) (fun _ _ => trivial)
  refine Kd.R_append d (w0 := W) b.heap.size hgd s x t e z bytes ho ht hinfo hz hs0 hb0 (.slice A n c) xs p cs (fun _ => True) (fun _ => False) hs hx hp (fun _ hk => hk.elim) (fun _ _ => trivial) h0 ⟨(Below.refl W.heap.size W).os, (Below.refl W.heap.size W).tape, (Below.refl W.heap.size W).output, Nat.le_refl _, fun _ _ => rfl⟩ z2.out hl ?_
  intro v1 w' hr hb hg _
  rw [← hy.out] at hr
  obtain ⟨A', c', rfl⟩ := Kd.R_slice hr
  refine h A' c' w' ⟨hg⟩ ⟨Kd.R_base h0, Kd.R_typed h0, fun W2 hg2 => ?_⟩ ⟨R_iv hr⟩
  exact Below.grown ⟨(Below.refl W.heap.size W).os, (Below.refl W.heap.size W).tape, (Below.refl W.heap.size W).output, Nat.le_refl _, fun _ _ => rfl⟩ hg2 z2.out (Kd.R_base h0)
theorem gR {zs : List α} {m c2 : Nat} {A2 : Option Addr} (d : Kd α) (s x : Operand) (t e : TypeId) (z : Value) (bytes : Nat) (b : World) (hy : Aside0 (ys = xs ++ zs)) (HO : Aside0 (d.R e w1 w3.heap.size (iv w3 w4) (.slice A n c) xs)) (HC : d.C W A2 m zs) (hl : (xs.length + m) * bytes ≤ 140737488355328)
    (h : ∀ A' c' w', GB W (Value.slice A n c).ownBlock w' → OwnI (Value.slice A n c).ownBlock α W b d e → Aside0 (d.R e w' b.heap.size (iv b w') (.slice A' ys.length c') ys) → wpList P ops Q rest (a.put oi.dst (.slice A' ys.length c')) w')
    [z1 : SzI b w3] [z2 : SzI b W] [i : UpR d e w1 W] (hKM : ∀ p cs, d.K W p cs → d.M W b.heap.size (fun _ => False) p cs := by exact fun _ _ h => h) (hgd : oi.guard = none := by rfl)
    (ho : oi.op = .call { callee := .builtin .append, args := #[s, x], argTypes := #[t, t] } := by rfl) (ht : P.underlying t = some (.slice e) := by assumption) (hinfo : (P.info? e).map (fun i => (i.zero, i.size, i.bytes)) = some (some z, d.sz, bytes) := by assumption) (hz : z.cells.size = d.sz := by rfl) (hs0 : 0 < d.sz := by decide) (hb0 : 0 < bytes := by omega)
    (hs : a.eval s = .slice A n c := by rfl) (hx : a.eval x = .slice A2 m c2 := by rfl) : wpList P ops Q (oi :: rest) a W := by
  have h0 : d.R e W b.heap.size (fun _ => True) (.slice A n c) xs := Kd.R_mono (Kd.R_lower (i.out HO.out) z1.out) (fun _ _ => trivial)
  refine Kd.R_append_rows d (w0 := W) b.heap.size hgd s x t e z bytes ho ht hinfo hz hs0 hb0 (.slice A n c) xs zs A2 m c2 (fun _ => True) (fun _ => False) hs hx h0 HC hKM (fun _ hk => hk.elim) (fun _ _ => trivial) ⟨(Below.refl W.heap.size W).os, (Below.refl W.heap.size W).tape, (Below.refl W.heap.size W).output, Nat.le_refl _, fun _ _ => rfl⟩ z2.out hl ?_
  intro v1 w' hr hb hg _
  rw [← hy.out] at hr
  obtain ⟨A', c', rfl⟩ := Kd.R_slice hr
  refine h A' c' w' ⟨hg⟩ ⟨Kd.R_base h0, Kd.R_typed h0, fun W2 hg2 => ?_⟩ ⟨R_iv hr⟩
  exact Below.grown ⟨(Below.refl W.heap.size W).os, (Below.refl W.heap.size W).tape, (Below.refl W.heap.size W).output, Nat.le_refl _, fun _ _ => rfl⟩ hg2 z2.out (Kd.R_base h0)
theorem kGR {zs : List α} {m c2 : Nat} {A2 : Option Addr} {md : Region.Mode} {S : World → Prop} {ds : List Nat} {fuel : Nat} {l' : Array Bool} {N : Tmp} (d : Kd α) (s x : Operand) (t e : TypeId) (z : Value) (bytes : Nat) (b : World) (hy : Aside0 (ys = xs ++ zs)) (HO : Aside0 (d.R e w1 w3.heap.size (iv w3 w4) (.slice A n c) xs)) (HC : d.C W A2 m zs) (hl : (xs.length + m) * bytes ≤ 140737488355328)
    (h : ∀ A' c' w', GB W (Value.slice A n c).ownBlock w' → OwnI (Value.slice A n c).ownBlock α W b d e → Aside0 (d.R e w' b.heap.size (iv b w') (.slice A' ys.length c') ys) → wpAnyLast P md ops Q S ds fuel l' (a.put (some N) (.slice A' ys.length c')) w')
    [z1 : SzI b w3] [z2 : SzI b W] [i : UpR d e w1 W] (hS : ∀ w', GB W (Value.slice A n c).ownBlock w' → OwnI (Value.slice A n c).ownBlock α W b d e → S w' := by intro _ _ _; exact UpL.out) (hKM : ∀ p cs, d.K W p cs → d.M W b.heap.size (fun _ => False) p cs := by exact fun _ _ h => h) (hN : oi.dst = some N := by exact rfl) (hw : Region.wanted oi (yielded ops a.tmps) = true := by rfl)
    (ho : oi.op = .call { callee := .builtin .append, args := #[s, x], argTypes := #[t, t] } := by rfl) (ht : P.underlying t = some (.slice e) := by assumption) (hinfo : (P.info? e).map (fun i => (i.zero, i.size, i.bytes)) = some (some z, d.sz, bytes) := by assumption) (hz : z.cells.size = d.sz := by rfl) (hs0 : 0 < d.sz := by decide) (hb0 : 0 < bytes := by omega)
    (hs : a.eval s = .slice A n c := by rfl) (hx : a.eval x = .slice A2 m c2 := by rfl) : Sk P md ops Q S ds fuel l' oi (some N) a W := by
  have h0 : d.R e W b.heap.size (fun _ => True) (.slice A n c) xs := Kd.R_mono (Kd.R_lower (i.out HO.out) z1.out) (fun _ _ => trivial)
  have hB : Below b.heap.size W W := ⟨(Below.refl W.heap.size W).os, (Below.refl W.heap.size W).tape, (Below.refl W.heap.size W).output, Nat.le_refl _, fun _ _ => rfl⟩
  have ow : OwnI (Value.slice A n c).ownBlock α W b d e := ⟨Kd.R_base h0, Kd.R_typed h0, fun W2 hg2 => Below.grown hB hg2 z2.out (Kd.R_base h0)⟩
  intro K hK
  have hh := Kd.R_append_rows_step (Kc := K) (Q := Q) (ops := ops) (a := a) d (w0 := W) b.heap.size hw s x t e z bytes ho ht hinfo hz hs0 hb0 (.slice A n c) xs zs A2 m c2 (fun _ => True) (fun _ => False) hs hx h0 HC hKM (fun _ hk => hk.elim) (fun _ _ => trivial) hB z2.out hl
    (fun v1 w' hr hb hg _ => by rw [hN]; rw [← hy.out] at hr; obtain ⟨A', c', rfl⟩ := Kd.R_slice hr; exact hK.out _ _ (hS w' ⟨hg⟩ ow) (fun _ => h A' c' w' ⟨hg⟩ ow ⟨R_iv hr⟩))
  rw [hN] at hh
  exact hh
theorem lE (N : Tmp) (e : Nat) (d : Kd α) (hy : Aside0 (ys = [])) (h : ∀ A c w', UB W w' → Aside0 (d.R e w' W.heap.size (iv W w') (.slice A ys.length c) ys) → wpList P ops Q rest (a.put oi.dst (.slice A ys.length c)) w')
    (hd : oi.dst = some N := by exact rfl) (hg : oi.guard = none := by rfl) (hrun : (execOp a.eval oi).run P W = .ok (.value (.slice (some ⟨W.heap.size, 0, none⟩) ([] : List α).length ([] : List α).length)) (W.alloc (.cells ([] : List Value).toArray e)) := by first | (go_simp; done) | (go_simp; rfl)) : wpList P ops Q (oi :: rest) a W := by
  obtain ⟨rfl⟩ := hy
  refine Kd.R_lit d (w0 := W) W.heap.size e hg hd (ok := fun _ => True) (okp := fun _ => True) (inner := []) hrun (Reps.none _ _) (fun _ h => h) trivial (Below.refl _ _) (Nat.le_refl _) (by simp) ?_
  intro v1 w' hr hb _ _
  obtain ⟨A, c, rfl⟩ := Kd.R_slice hr
  exact h A c w' ⟨hb⟩ ⟨R_iv hr⟩
end
class DisI (b c b2 c2 : World) : Prop where mk :: (out : ∀ k, iv b c k → ¬ iv b2 c2 k)
class NivI (g : Nat) (b c : World) : Prop where mk :: (out : ¬ iv b c g)
section
variable (w w' b c b2 c2 W : World) (g : Nat) (cs cs' : Array Value)
instance DisI.l_ [z : SzI c b2] : DisI b c b2 c2 := ⟨fun k h h2 => Nat.lt_irrefl k (Nat.lt_of_lt_of_le h.2 (Nat.le_trans z.out h2.1))⟩
instance DisI.r_ [z : SzI c2 b] : DisI b c b2 c2 := ⟨fun k h h2 => Nat.lt_irrefl k (Nat.lt_of_lt_of_le h2.2 (Nat.le_trans z.out h.1))⟩
instance NivI.lt_ [l : LtI g b] : NivI g b c := ⟨fun h => Nat.not_le.2 l.out h.1⟩
instance NivI.ge_ [k : GeI c.heap.size g] : NivI g b c := ⟨fun h => Nat.not_lt.2 k.out h.2⟩
end
section
variable {α β : Type} {d : Kd α} {ei e n cc : Nat} {P : Program} {ops : Array Oper} {Q : Exit → Act → World → Prop} {rest : List Oper} {oi : Oper} {a : Act} {w w0 w1 w' b c b2 c2 W : World} {f : FuncId} {fn : Func} {as : Array Operand} {ts : Array TypeId} {args : Array Value} {v : Value} {A : Option Addr} {xs ys : List α}
end
class RdG (g j : Nat) (w : outParam World) (v : outParam Value) : Prop where mk :: (out : ∃ cs t, w.heap[g]? = some (.cells cs t (0, 0)) ∧ cs[j]? = some v)
theorem RdG.of {w : World} {g j t : Nat} {v : Value} (hb : ∃ cs, w.heap[g]? = some (.cells cs t (0, 0))) (h : w.cell? ⟨g, j, none⟩ = some v) : RdG g j w v := ⟨by obtain ⟨cs, hb⟩ := hb; rw [blk_cell hb] at h; exact ⟨cs, t, hb, h⟩⟩
theorem cell_g {w W : World} {g j : Nat} {v : Value} [c : RdG g j w v] [u : UpG g w W] : W.cell? ⟨g, j, none⟩ = some v := by
  obtain ⟨cs, t, hb, h⟩ := c.out
  exact (blk_cell (u.out _ _ hb) j).trans h
class UpN (w W : World) : Prop where mk :: (out : ∀ k, k < w.heap.size → W.heap[k]? = w.heap[k]?)
instance UpN.of (w W : World) [u : UpW w W] : UpN w W := ⟨fun k hk => u.out.block k hk⟩
class AllGe (w : World) (bs : List Nat) : Prop where mk :: (out : ∀ b ∈ bs, w.heap.size ≤ b)
instance AllGe.nil_ (w : World) : AllGe w [] := ⟨by simp⟩
instance AllGe.cons_ (w : World) (b : Nat) (bs : List Nat) [k : GeI w.heap.size b] [r : AllGe w bs] : AllGe w (b :: bs) := ⟨fun c hc => by rcases List.mem_cons.1 hc with rfl | hc; exact k.out; exact r.out c hc⟩
instance UpN.kl_ (w w' W : World) (bs : List Nat) [b : KL w' bs W] [a : AllGe w bs] [z : SzI w w'] [u : UpN w w'] : UpN w W := ⟨fun k hk => (b.out.2 k (Nat.lt_of_lt_of_le hk z.out) (fun h => absurd (a.out k h) (Nat.not_le.2 hk))).trans (u.out k hk)⟩
class RdP (a : Addr) (w : outParam World) (v : outParam Value) : Prop where mk :: (out : w.cell? a = some v)
theorem cell_p {w W : World} {a : Addr} {v : Value} [c : RdP a w v] [u : UpN w W] : W.cell? a = some v := by
  have h := c.out
  have hb := World.block_lt_of_cell? w a h
  simp only [World.cell?] at h ⊢
  rw [u.out _ hb]
  exact h
class NbI (a : Addr) (g : outParam Nat) : Prop where mk :: (out : a.block ≠ g)
instance NbI.add_ (a : Addr) (n g : Nat) [b : NbI a g] : NbI (a.add n) g := ⟨by rw [show (a.add n).block = a.block by unfold Go.Addr.add; first | rfl | (split <;> rfl)]; exact b.out⟩
instance NbI.off_ (a : Addr) (n g : Nat) [b : NbI a g] : NbI ⟨a.block, n, none⟩ g := ⟨b.out⟩
theorem cell_q {w W : World} {a : Addr} {v : Value} {g : Nat} [c : RdP a w v] [b : NbI a g] [u : UpB w W g] : W.cell? a = some v := by
  have h := c.out
  have hb := World.block_lt_of_cell? w a h
  simp only [World.cell?] at h ⊢
  rw [u.out.2 _ hb b.out (by simp)]
  exact h
class RdR {α : outParam Type} (a : Addr) (d : outParam (Kd α)) (e : outParam Nat) (w : outParam World) (v : outParam Value) : Prop where mk :: (out : ∀ W, UpR d e w W → W.cell? a = some v)
theorem cell_r {α : Type} {d : Kd α} {e : Nat} {w W : World} {a : Addr} {v : Value} [c : RdR a d e w v] [u : UpR d e w W] : W.cell? a = some v := c.out W u
class AllNiv (bs : List Nat) (b c : World) : Prop where mk :: (out : ∀ k ∈ bs, ¬ iv b c k)
instance AllNiv.nil_ (b c : World) : AllNiv [] b c := ⟨by simp⟩
instance AllNiv.cons_ (g : Nat) (bs : List Nat) (b c : World) [k : NivI g b c] [r : AllNiv bs b c] : AllNiv (g :: bs) b c := ⟨fun x hx => by rcases List.mem_cons.1 hx with rfl | hx; exact k.out; exact r.out x hx⟩
section
variable {α β : Type} {d : Kd α} {d2 : Kd β} {e e2 : Nat} {w w1 w2 w3 w4 w5 w6 W : World} {u v : Value} {xs : List α} {ys : List β}
end
section
variable {P : Program} {ops : Array Oper} {Q : Exit → Act → World → Prop} {md : Region.Mode} {S : World → Prop} {ds : List Nat} {fuel : Nat} {l l' : Array Bool} {oi : Oper} {a : Act} {w w1 : World} {N : Option Tmp} {T : Bool × List (List Nat × List Nat)} {B : List Nat}
theorem sD {id n : Nat} (bs ds : List Nat) (hT : rtab .any ops = T) (hW : waitsOk T.2 B = true) (h : ∀ W', UB w W' → Aside0 (rtab .any ops = T) → Aside0 (waitsOk T.2 B = true) → wpAnyLast P .any ops Q (KO W' bs) ds n (bz n 0) a W')
    (hm : P.follows .mixedOrders = true := by kernel_rfl) (hn : ops.size = n := by rfl) (hl : Array.replicate n false = bz n 0 := by rfl) : (Code.region id ops true).wp P Q a w :=
  start_ (bz n 0) hm hn hl (Kept.refl _ _) (fun _ => h w.drew ⟨below_drew1 (Below.refl _ _)⟩ ⟨hT⟩ ⟨hW⟩)
theorem oZ (i : Nat) (l' : Array Bool) (hT : Aside0 (rtab md ops = T)) (hi : ops[i]? = some oi) (h : wpAnyLast P md ops Q S ds fuel l' a w1) (hrun : (execOp a.eval oi).run P w = .ok .skip w1 := by go_simp; rfl) (hN : oi.dst = none := by rfl) (hw : Region.wanted oi (yielded ops a.tmps) = true := by rfl)
    (hc : (readyT T.2 l.toList == [i] && l.toList.set i true == l'.toList) = true := by kernel_rfl) (hd : i ∈ ds := by decide) : wpAnyLast P md ops Q S ds (fuel + 1) l a w :=
  last_ l' hi hN (one_of hT.out hc) hd (fun K hK => skip_ hw hN hrun (hK.out _ _ h))
end
end Go.Proofs.YtdmjhgogljhfkaaGreatDoorW.PrintWords
