/- Shorter words for the printed steps: each is one row of a walk, what is told in the same way each time is found by itself. No condition of its own. -/
import Derived.Test.YtdmjhgogljhfkaaGreatDoorWUp
import Derived.Test.YtdmjhgogljhfkaaGreatDoorWLast
import Derived.Test.YtdmjhgogljhfkaaGreatDoorWTab
namespace Go.Proofs.YtdmjhgogljhfkaaGreatDoorW.PrintLast
open Go.RowKit Go.Proofs.YtdmjhgogljhfkaaGreatDoorW.PrintWords
/-- n Bools, told by a number's bits. -/
def bz (n m : Nat) : Array Bool := ((List.range n).map m.testBit).toArray
section
variable {P : Program} {ops : Array Oper} {Q : Exit → Act → World → Prop} {md : Region.Mode} {S : World → Prop} {ds : List Nat} {T : Bool × List (List Nat × List Nat)} {B : List Nat}
theorem pA {oi : Oper} {v : Value} {fuel : Nat} {l : Array Bool} {a a' : Act} {w : World} (i : Nat) (N : Option Tmp) (l' : Array Bool) (hT : Aside0 (rtab md ops = T))
    (h : wpAnyLast P md ops Q S ds fuel l' a' w) (hi : ops[i]? = some oi := by exact rfl) (hN : oi.dst = N := by exact rfl) (hc : anyT T l.toList l'.toList i = true := by kernel_rfl)
    (hQ : ∀ c a w, Q (.panic c) (a.put oi.dst v) w → Q (.panic c) a w := by exact fun _ _ _ h => h)
    (hw : Region.wanted oi (yielded ops a.tmps) = true := by rfl) (hy : ∀ w', (execOp a.eval oi).run P w' = .ok (.value v) w' := by intro w'; go_simp; with_reducible rfl)
    (ha : a.put N v = a' := by simp only [Act.put, List.setIfInBounds_toArray, List.set_cons_zero, List.set_cons_succ, i64_w, i32_w]; rfl) : wpAnyLast P md ops Q S ds (fuel + 1) l a w :=
  pure_ l' hi hN (any_of hT.out hc) hQ (Or.inl ⟨hw, hy⟩) ha h
theorem pU {oi : Oper} {fuel : Nat} {l : Array Bool} {a a' : Act} {w : World} (i : Nat) (N : Option Tmp) (l' : Array Bool) (hT : Aside0 (rtab md ops = T))
    (h : wpAnyLast P md ops Q S ds fuel l' a' w) (hi : ops[i]? = some oi := by exact rfl) (hN : oi.dst = N := by exact rfl) (hc : anyT T l.toList l'.toList i = true := by kernel_rfl)
    (hQ : ∀ c a w, Q (.panic c) (a.put oi.dst undef) w → Q (.panic c) a w := by exact fun _ _ _ h => h)
    (hw : Region.wanted oi (yielded ops a.tmps) = false := by rfl)
    (ha : a.put N undef = a' := by simp only [Act.put, List.setIfInBounds_toArray, List.set_cons_zero, List.set_cons_succ, i64_w, i32_w]; rfl) : wpAnyLast P md ops Q S ds (fuel + 1) l a w :=
  pure_ l' hi hN (any_of hT.out hc) hQ (Or.inr ⟨hw, rfl⟩) ha h
theorem tA {oi : Oper} {v : Value} {fuel : Nat} {l : Array Bool} {a a' : Act} {w : World} (i : Nat) (N : Option Tmp) (l' : Array Bool) (hT : Aside0 (rtab md ops = T)) (hB : Aside0 (waitsOk T.2 B = true)) (hS : S w)
    (h : wpAnyLast P md ops Q S ds fuel l' a' w) (hi : ops[i]? = some oi := by exact rfl) (hN : oi.dst = N := by exact rfl) (hc : takeW T B ds l.toList l'.toList i = true := by kernel_rfl)
    (hQ : ∀ c a w, Q (.panic c) (a.put oi.dst v) w → Q (.panic c) a w := by exact fun _ _ _ h => h)
    (hw : Region.wanted oi (yielded ops a.tmps) = true := by rfl) (hy : ∀ w', S w' → (execOp a.eval oi).run P w' = .ok (.value v) w' := by intro w' s; (repeat (have s_ := s.1; replace s := s.2)); go_simp; with_reducible rfl)
    (ha : a.put N v = a' := by simp only [Act.put, List.setIfInBounds_toArray, List.set_cons_zero, List.set_cons_succ, i64_w, i32_w]; rfl) : wpAnyLast P md ops Q S ds (fuel + 1) l a w :=
  take_ l' hi hN (take_ofW hT.out hB.out hc) hQ (Or.inl ⟨hw, hy⟩) hS ha h
theorem oA {oi : Oper} {fuel : Nat} {l : Array Bool} {a : Act} {w : World} (i : Nat) (N : Option Tmp) (l' : Array Bool) (hT : Aside0 (rtab md ops = T))
    (h : ∀ K : Act → World → Prop, Shut (∀ a' w', S w' → (S w' → wpAnyLast P md ops Q S ds fuel l' a' w') → K a' w') → if Region.wanted oi (yielded ops a.tmps) = true then Oper.wp P oi a w K Q else K (a.put N undef) w)
    (hi : ops[i]? = some oi := by exact rfl) (hN : oi.dst = N := by exact rfl) (hc : (readyT T.2 l.toList == [i] && l.toList.set i true == l'.toList) = true := by kernel_rfl) (hd : i ∉ ds := by decide) : wpAnyLast P md ops Q S ds (fuel + 1) l a w :=
  one_ l' hi hN (one_of hT.out hc) hd h
theorem nA {fuel : Nat} {l : Array Bool} {a a' : Act} {v : Value} {w : World} (N : Option Tmp) (h : wpAnyLast P md ops Q S ds fuel l a' w)
    (ha : a.put N v = a' := by simp only [Act.put, List.setIfInBounds_toArray, List.set_cons_zero, List.set_cons_succ, i64_w, i32_w]; rfl) : wpAnyLast P md ops Q S ds fuel l (a.put N v) w :=
  norm_ ha h
theorem gA {oi : Oper} {N : Option Tmp} {a : Act} {w : World} {K : Act → World → Prop} {f : FuncId} {fn : Func} {as : Array Operand} {ts : Array TypeId} (hf : P.funcs[f]? = some fn) (args : Array Value)
    (h : Calls P f args w fun e w' => ∃ v, e = .returned v ∧ K (a.put N v) w')
    (hname : (fn.name == "runtime.NumGoroutine") = false := by kernel_rfl) (hb : fn.body.isSome = true := by exact rfl)
    (hw : Region.wanted oi (yielded ops a.tmps) = true := by rfl) (hN : oi.dst = N := by exact rfl) (hop : oi.op = .call { callee := .value (.func f), args := as, argTypes := ts } := by exact rfl)
    (hargs : as.map a.eval = args := by (try simp only [List.map_toArray, List.map_cons, List.map_nil]); first | done | rfl | (simp only [List.length_drop, List.length_take]; rfl)) :
    if Region.wanted oi (yielded ops a.tmps) = true then Oper.wp P oi a w K Q else K (a.put N undef) w := goes_ hf hname hb args hw hN hop hargs h
theorem gB {rest : List Oper} {oi : Oper} {a : Act} {w : World} {f : FuncId} {fn : Func} {as : Array Operand} {ts : Array TypeId} (N : Option Tmp) (hf : P.funcs[f]? = some fn) (args : Array Value)
    (h : Calls P f args w fun e w' => ∃ v, e = .returned v ∧ wpList P ops Q rest (a.put N v) w')
    (hd : oi.dst = N := by exact rfl) (hg : oi.guard = none := by exact rfl) (hname : (fn.name == "runtime.NumGoroutine") = false := by kernel_rfl) (hb : fn.body.isSome = true := by exact rfl)
    (hop : oi.op = .call { callee := .value (.func f), args := as, argTypes := ts } := by exact rfl)
    (hargs : as.map a.eval = args := by (try simp only [List.map_toArray, List.map_cons, List.map_nil]); first | done | rfl | (simp only [List.length_drop, List.length_take]; rfl)) :
    wpList P ops Q (oi :: rest) a w := goesL_ N hd hg hf hname hb args hop hargs h
end
end Go.Proofs.YtdmjhgogljhfkaaGreatDoorW.PrintLast
namespace Go.Proofs.YtdmjhgogljhfkaaGreatDoorW.PrintWords
open Go.RowKit
section
variable {P : Program} {ops : Array Oper} {rest : List Oper} {o : Oper} {a : Act} {Q : Exit → Act → World → Prop}
theorem gd (N : Tmp) {W : World} (h : wpList P ops Q (o :: rest) a W) (_hN : o.dst = some N := by exact rfl) : wpList P ops Q (o :: rest) a W := h
theorem bA {W : World} (N : Tmp) (cs : Array Value) (t : TypeId)
    (h : ∀ g, g = W.heap.size → ∀ w1, w1.heap[g]? = some (.cells cs t (0, 0)) → Below W.heap.size W w1 → wpList P ops Q rest (a.put o.dst (.pointer (some ⟨g, 0, none⟩))) w1)
    (hd : o.dst = some N := by exact rfl) (hgd : o.guard = none := by rfl)
    (hrun : (execOp a.eval o).run P W = .ok (.value (.pointer (some ⟨W.heap.size, 0, none⟩))) (W.alloc (.cells cs t (0, 0))) := by first | (go_simp; done) | (go_simp; rfl)) : wpList P ops Q (o :: rest) a W :=
  box_event hgd hd hrun h
end
/-- What stays as it was, told anew. -/
theorem bk {w W w' : World} {g : Nat} {o : Obj} (h : Aside0 (w.heap[g]? = some o)) (hb : Below W.heap.size W w') [u : Up w W] : Aside0 (w'.heap[g]? = some o) := ⟨blk_below (kI h.out) hb⟩
theorem bs {w0 w W w' : World} (h : Aside0 (Below w0.heap.size w0 w)) (hb : Below W.heap.size W w') [u : UpS w0 w W] : Aside0 (Below w0.heap.size w0 w') := ⟨below_step (bI h.out) hb⟩
theorem bg {w0 w W : World} {g : Nat} (hg : g = W.heap.size) (h : Aside0 (Below w0.heap.size w0 w)) [u : UpS w0 w W] : Aside0 (w0.heap.size ≤ g) := ⟨by rw [hg]; exact below_size (bI h.out)⟩
theorem b1 {w W : World} {g g' : Nat} {o : Obj} (h : Aside0 (w.heap[g]? = some o)) (hg : g' = W.heap.size) [u : Up w W] : Aside0 (g ≠ g') := ⟨by rw [hg]; exact Nat.ne_of_lt (blk_lt (kI h.out))⟩
theorem b2 {w W : World} {g g' : Nat} {o : Obj} (h : Aside0 (w.heap[g]? = some o)) (hg : g' = W.heap.size) [u : Up w W] : Aside0 (g' ≠ g) := ⟨by rw [hg]; exact Nat.ne_of_gt (blk_lt (kI h.out))⟩
theorem gi {n g : Nat} (h : Aside0 (n ≤ g)) : GeI n g := ⟨h.out⟩
theorem ni {a b : Nat} (h : Aside0 (a ≠ b)) : NeI a b := ⟨h.out⟩
theorem ch {α : Type} {d : Kd α} {w0 w W : World} {A : Option Addr} {n : Nat} {xs : List α} (h : Aside0 (d.C w0 A n xs)) (hb : Aside0 (Below w0.heap.size w0 w)) [u : Up w W] : d.C W A n xs := cI (Kd.C_below h.out hb.out)
section
variable {α : Type} {d : Kd α} {e base : Nat} {w W w' : World} {ok : Nat → Prop} {v u : Value} {xs : List α}
theorem rb (h : Aside0 (d.R e w base ok v xs)) (hb : Below W.heap.size W w') [i : Up w W] : Aside0 (d.R e w' base ok v xs) := ⟨Kd.R_below (rI h.out) hb⟩
theorem sb (h : Aside0 (d.S e w base ok v xs)) (hb : Below W.heap.size W w') [i : Up w W] : Aside0 (d.S e w' base ok v xs) := ⟨Kd.S_below (sI h.out) hb⟩
end
/-- The block g of W holds cs', where it held cs in w: behind draws, new blocks, stores. -/
class UpP (g : Nat) (w W : World) (cs : Array Value) (cs' : outParam (Array Value)) : Prop where mk :: (out : ∀ t : TypeId, w.heap[g]? = some (.cells cs t (0, 0)) → W.heap[g]? = some (.cells cs' t (0, 0)))
instance UpP.refl_ (g : Nat) (w : World) (cs : Array Value) : UpP g w w cs cs := ⟨fun _ h => h⟩
instance UpP.drewN_ (g n : Nat) (w W : World) (cs cs' : Array Value) [u : UpP g w W cs cs'] : UpP g w (W.drewN n) cs cs' := ⟨fun t h => blk_drewN (u.out t h) n⟩
instance UpP.drew_ (g : Nat) (w W : World) (cs cs' : Array Value) [u : UpP g w W cs cs'] : UpP g w W.drew cs cs' := ⟨fun t h => blk_drew (u.out t h)⟩
instance UpP.alloc_ (g : Nat) (w W : World) (cs cs' : Array Value) (o : Obj) [u : UpP g w W cs cs'] : UpP g w (W.alloc o) cs cs' := ⟨fun t h => blk_alloc (u.out t h) o⟩
instance UpP.far_ (g p j : Nat) (w W : World) (cs cs' : Array Value) (v : Value) [u : UpP g w W cs cs'] [k : NeI g p] : UpP g w (W.setCell ⟨p, j, none⟩ v) cs cs' := ⟨fun t h => blk_far (p := ⟨p, j, none⟩) (u.out t h) k.out v⟩
instance UpP.set_ (g j : Nat) (w W : World) (cs cs' : Array Value) (v : Value) [u : UpP g w W cs cs'] : UpP g w (W.setCell ⟨g, j, none⟩ v) cs (cs'.setIfInBounds j v) := ⟨fun t h => blk_put (u.out t h) j v rfl⟩
theorem pI {g : Nat} {w W : World} {cs cs1 cs2 : Array Value} {t : TypeId} (h : Aside0 (w.heap[g]? = some (.cells cs t (0, 0)))) [u : UpP g w W cs cs1] (e : cs1 = cs2 := by rfl) : W.heap[g]? = some (.cells cs2 t (0, 0)) := e ▸ u.out t h.out
theorem bp {g : Nat} {w W w' : World} {cs cs1 : Array Value} {t : TypeId} (h : Aside0 (w.heap[g]? = some (.cells cs t (0, 0)))) (hb : Below W.heap.size W w') (cs2 : Array Value) [u : UpP g w W cs cs1] (e : cs1 = cs2 := by rfl) : Aside0 (w'.heap[g]? = some (.cells cs2 t (0, 0))) := ⟨blk_below (e ▸ u.out t h.out) hb⟩
theorem bn {g : Nat} {w W W1 : World} {o : Obj} {row : Option Nat} (h : Aside0 (w.heap[g]? = some o)) (hg : W.grownBy W1 row) (hne : some g ≠ row) [u : Up w W] : Aside0 (W1.heap[g]? = some o) := ⟨blk_grown (kI h.out) hg hne⟩
theorem bq {g g' : Nat} {w W W1 : World} {o : Obj} (h : Aside0 (w.heap[g']? = some o)) (hk : KeepBut W W1 g none) (hne : Aside0 (g' ≠ g)) [u : Up w W] : Aside0 (W1.heap[g']? = some o) := ⟨KeepBut.blk hk (kI h.out) hne.out (by simp)⟩
theorem kt {g : Nat} {w0 w W W1 : World} (h : Aside0 (KeepBut w0 w g none)) (hk : KeepBut W W1 g none) [u : UpK w0 w W g] : Aside0 (KeepBut w0 W1 g none) := ⟨KeepBut.trans (hI h.out) hk (.inl rfl)⟩
theorem kb {g : Nat} {w0 w W W1 : World} (h : Aside0 (KeepBut w0 w g none)) (hb : Below W.heap.size W W1) [u : UpK w0 w W g] : Aside0 (KeepBut w0 W1 g none) := ⟨KeepBut.trans (hI h.out) (KeepBut.of_below hb g none) (.inl rfl)⟩
theorem bh {g q : Nat} {w0 w W : World} (hg : q = W.heap.size) (h : Aside0 (KeepBut w0 w g none)) [u : UpK w0 w W g] : Aside0 (w0.heap.size ≤ q) := ⟨by rw [hg]; exact keep_size (hI h.out)⟩
theorem bx {w w1 : World} {p : Addr} {v : Value} (h : Aside0 (Below w.heap.size w w1)) (hx : w.cell? p = some v) : w1.cell? p = some v := (h.out.cell (World.block_lt_of_cell? w _ hx)).trans hx
section
variable {w : World} {g t : Nat} {a b c d e f h i : Value} {l : List Value}
theorem cs1 (k : Aside0 (w.heap[g]? = some (.cells (a :: l).toArray t (0, 0)))) : w.cell? ⟨g, 0, none⟩ = some a ∧ w.frozen? ⟨g, 0, none⟩ = false := ⟨bc0 k.out, blk_frozen k.out 0⟩
theorem cs2 (k : Aside0 (w.heap[g]? = some (.cells (a :: b :: l).toArray t (0, 0)))) : w.cell? ⟨g, 0, none⟩ = some a ∧ w.cell? ⟨g, 1, none⟩ = some b ∧ w.frozen? ⟨g, 0, none⟩ = false ∧ w.frozen? ⟨g, 1, none⟩ = false := ⟨bc0 k.out, bc1 k.out, blk_frozen k.out 0, blk_frozen k.out 1⟩
theorem cs3 (k : Aside0 (w.heap[g]? = some (.cells (a :: b :: c :: l).toArray t (0, 0)))) : w.cell? ⟨g, 0, none⟩ = some a ∧ w.cell? ⟨g, 1, none⟩ = some b ∧ w.cell? ⟨g, 2, none⟩ = some c ∧ w.frozen? ⟨g, 0, none⟩ = false ∧ w.frozen? ⟨g, 1, none⟩ = false ∧ w.frozen? ⟨g, 2, none⟩ = false := ⟨bc0 k.out, bc1 k.out, bc2 k.out, blk_frozen k.out 0, blk_frozen k.out 1, blk_frozen k.out 2⟩
theorem cs4 (k : Aside0 (w.heap[g]? = some (.cells (a :: b :: c :: d :: l).toArray t (0, 0)))) : w.cell? ⟨g, 0, none⟩ = some a ∧ w.cell? ⟨g, 1, none⟩ = some b ∧ w.cell? ⟨g, 2, none⟩ = some c ∧ w.cell? ⟨g, 3, none⟩ = some d ∧ w.frozen? ⟨g, 0, none⟩ = false ∧ w.frozen? ⟨g, 1, none⟩ = false ∧ w.frozen? ⟨g, 2, none⟩ = false ∧ w.frozen? ⟨g, 3, none⟩ = false := ⟨bc0 k.out, bc1 k.out, bc2 k.out, bc3 k.out, blk_frozen k.out 0, blk_frozen k.out 1, blk_frozen k.out 2, blk_frozen k.out 3⟩
end
/-- A bind that came to something. -/
theorem oB {α β : Type} {o : Option α} {f : α → Option β} {r : β} (h : o.bind f = some r) : ∃ a, Aside0 (o = some a) ∧ f a = some r := by obtain ⟨a, h1, h2⟩ := Option.bind_eq_some_iff.mp h; exact ⟨a, ⟨h1⟩, h2⟩
end Go.Proofs.YtdmjhgogljhfkaaGreatDoorW.PrintWords
