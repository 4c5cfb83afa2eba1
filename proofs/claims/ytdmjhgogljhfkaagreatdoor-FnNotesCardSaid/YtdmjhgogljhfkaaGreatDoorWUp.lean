/- Short words for what stays as it was behind draws and new blocks: found by instance search. No condition of its own. -/
import Derived.Test.YtdmjhgogljhfkaaGreatDoorWWords
import Derived.Test.YtdmjhgogljhfkaaGreatDoorWApart
import Derived.Test.YtdmjhgogljhfkaaGreatDoorWN
namespace Go.Proofs.YtdmjhgogljhfkaaGreatDoorW.PrintWords
open Go.RowKit
/-- W is w behind draws and new blocks. -/
class Up (w W : World) : Prop where mk :: (out : Below w.heap.size w W)
instance Up.refl_ (w : World) : Up w w := ⟨Below.refl _ _⟩
instance Up.drewN_ (w W : World) (n : Nat) [u : Up w W] : Up w (W.drewN n) := ⟨pw_below_drewN u.out n⟩
instance Up.drew_ (w W : World) [u : Up w W] : Up w W.drew := ⟨below_drew1 u.out⟩
instance Up.setdrew_ (w : World) (n : Nat) (p : Addr) (v : Value) : Up (w.setCell p v) ((w.drewN n).setCell p v) := ⟨pw_below_drewN (W := w.setCell p v) (Below.refl _ _) n⟩
instance Up.alloc_ (w W : World) (o : Obj) [u : Up w W] : Up w (W.alloc o) := ⟨below_alloc u.out o⟩
class GeI (n g : Nat) : Prop where mk :: (out : n ≤ g)
/-- The same, and behind stores into blocks of the call's own. -/
class UpS (w0 w W : World) : Prop where mk :: (out : Below w0.heap.size w0 w → Below w0.heap.size w0 W)
instance UpS.refl_ (w0 w : World) : UpS w0 w w := ⟨fun h => h⟩
instance UpS.drewN_ (w0 w W : World) (n : Nat) [u : UpS w0 w W] : UpS w0 w (W.drewN n) := ⟨fun h => pw_below_drewN (u.out h) n⟩
instance UpS.drew_ (w0 w W : World) [u : UpS w0 w W] : UpS w0 w W.drew := ⟨fun h => below_drew1 (u.out h)⟩
instance UpS.alloc_ (w0 w W : World) (o : Obj) [u : UpS w0 w W] : UpS w0 w (W.alloc o) := ⟨fun h => below_alloc (u.out h) o⟩
instance UpS.set_ (w0 w W : World) (g j : Nat) (v : Value) [u : UpS w0 w W] [k : GeI w0.heap.size g] : UpS w0 w (W.setCell ⟨g, j, none⟩ v) := ⟨fun h => below_set (u.out h) k.out⟩
theorem bI {w0 w W : World} (h : Below w0.heap.size w0 w) [u : UpS w0 w W] : Below w0.heap.size w0 W := u.out h
theorem kI {w W : World} {g : Nat} {o : Obj} (h : w.heap[g]? = some o) [u : Up w W] : W.heap[g]? = some o := blk_below h u.out
theorem cI {α : Type} {d : Kd α} {w W : World} {A : Option Addr} {n : Nat} {xs : List α} (h : d.C w A n xs) [u : Up w W] : d.C W A n xs := Kd.C_below h u.out
theorem cE {α : Type} {d : Kd α} {w W : World} {A : Option Addr} {n m : Nat} {xs : List α} (e : n = m) (h : d.C w A n xs) [u : Up w W] : d.C W A m xs := e ▸ Kd.C_below h u.out
theorem cQ {α : Type} {d : Kd α} {w : World} {A : Option Addr} {n m : Nat} {xs : List α} (e : n = m) (h : d.C w A n xs) : d.C w A m xs := e ▸ h
theorem rI {α : Type} {d : Kd α} {e base : Nat} {w W : World} {ok : Nat → Prop} {v : Value} {xs : List α} (h : d.R e w base ok v xs) [u : Up w W] : d.R e W base ok v xs := Kd.R_below h u.out
theorem sI {α : Type} {d : Kd α} {e base : Nat} {w W : World} {ok : Nat → Prop} {v : Value} {xs : List α} (h : d.S e w base ok v xs) [u : Up w W] : d.S e W base ok v xs := Kd.S_below h u.out
theorem nI {α : Type} {d : Kd α} {e base : Nat} {w W : World} {ok : Nat → Prop} {v : Value} {xs : List α} (h : d.N e w base ok v xs) [u : Up w W] : d.N e W base ok v xs := Kd.N_below h u.out
class NeI (a b : Nat) : Prop where mk :: (out : a ≠ b)
/-- The block g of W is what it was in w: behind draws, new blocks, stores into other blocks. -/
class UpG (g : Nat) (w W : World) : Prop where mk :: (out : ∀ (t : TypeId) (cs : Array Value), w.heap[g]? = some (.cells cs t (0, 0)) → W.heap[g]? = some (.cells cs t (0, 0)))
instance UpG.refl_ (g : Nat) (w : World) : UpG g w w := ⟨fun _ _ h => h⟩
instance UpG.drewN_ (g : Nat) (w W : World) (n : Nat) [u : UpG g w W] : UpG g w (W.drewN n) := ⟨fun t cs h => blk_drewN (u.out t cs h) n⟩
instance UpG.drew_ (g : Nat) (w W : World) [u : UpG g w W] : UpG g w W.drew := ⟨fun t cs h => blk_drew (u.out t cs h)⟩
instance UpG.alloc_ (g : Nat) (w W : World) (o : Obj) [u : UpG g w W] : UpG g w (W.alloc o) := ⟨fun t cs h => blk_alloc (u.out t cs h) o⟩
instance UpG.set_ (g p j : Nat) (w W : World) (v : Value) [u : UpG g w W] [k : NeI g p] : UpG g w (W.setCell ⟨p, j, none⟩ v) := ⟨fun t cs h => blk_far (p := ⟨p, j, none⟩) (u.out t cs h) k.out v⟩
theorem gI {w W : World} {g : Nat} {t : TypeId} {cs : Array Value} (h : w.heap[g]? = some (.cells cs t (0, 0))) [u : UpG g w W] : W.heap[g]? = some (.cells cs t (0, 0)) := u.out t cs h
class UpK (w0 w W : World) (g : Nat) : Prop where mk :: (out : KeepBut w0 w g none → KeepBut w0 W g none)
instance UpK.refl_ (w0 w : World) (g : Nat) : UpK w0 w w g := ⟨fun h => h⟩
instance UpK.drewN_ (w0 w W : World) (g n : Nat) [u : UpK w0 w W g] : UpK w0 w (W.drewN n) g := ⟨fun h => keep_drewN (u.out h) n⟩
instance UpK.drew_ (w0 w W : World) (g : Nat) [u : UpK w0 w W g] : UpK w0 w W.drew g := ⟨fun h => keep_drew (u.out h)⟩
instance UpK.alloc_ (w0 w W : World) (g : Nat) (o : Obj) [u : UpK w0 w W g] : UpK w0 w (W.alloc o) g := ⟨fun h => keep_alloc (u.out h) o⟩
instance UpK.far_ (w0 w W : World) (g p j : Nat) (v : Value) [u : UpK w0 w W g] [k : GeI w0.heap.size p] : UpK w0 w (W.setCell ⟨p, j, none⟩ v) g := ⟨fun h => keep_far (p := ⟨p, j, none⟩) (u.out h) k.out v⟩
instance UpK.set_ (w0 w W : World) (g j : Nat) (v : Value) [u : UpK w0 w W g] : UpK w0 w (W.setCell ⟨g, j, none⟩ v) g := ⟨fun h => KeepBut.set_ (u.out h) j v⟩
theorem hI {w0 w W : World} {g : Nat} (h : KeepBut w0 w g none) [u : UpK w0 w W g] : KeepBut w0 W g none := u.out h
section
variable {w : World} {g : Nat} {t : TypeId} {a b c d e f h i : Value} {l : List Value}
theorem bc0 (k : w.heap[g]? = some (.cells (a :: l).toArray t (0, 0))) : w.cell? ⟨g, 0, none⟩ = some a := (blk_cell k 0).trans rfl
theorem bc1 (k : w.heap[g]? = some (.cells (a :: b :: l).toArray t (0, 0))) : w.cell? ⟨g, 1, none⟩ = some b := (blk_cell k 1).trans rfl
theorem bc2 (k : w.heap[g]? = some (.cells (a :: b :: c :: l).toArray t (0, 0))) : w.cell? ⟨g, 2, none⟩ = some c := (blk_cell k 2).trans rfl
theorem bc3 (k : w.heap[g]? = some (.cells (a :: b :: c :: d :: l).toArray t (0, 0))) : w.cell? ⟨g, 3, none⟩ = some d := (blk_cell k 3).trans rfl
theorem bc4 (k : w.heap[g]? = some (.cells (a :: b :: c :: d :: e :: l).toArray t (0, 0))) : w.cell? ⟨g, 4, none⟩ = some e := (blk_cell k 4).trans rfl
theorem bc5 (k : w.heap[g]? = some (.cells (a :: b :: c :: d :: e :: f :: l).toArray t (0, 0))) : w.cell? ⟨g, 5, none⟩ = some f := (blk_cell k 5).trans rfl
end
end Go.Proofs.YtdmjhgogljhfkaaGreatDoorW.PrintWords
