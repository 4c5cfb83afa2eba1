/- Short words for what stays as it was behind draws and new blocks: found by instance search. No condition of its own. -/
import Derived.Test.YtlkmjjojjlihaaaWWords
import Derived.Test.YtlkmjjojjlihaaaWApart
import Derived.Test.YtlkmjjojjlihaaaWN
namespace Go.Proofs.YtlkmjjojjlihaaaW.PrintWords
open Go.RowKit
/-- W is w behind draws and new blocks. -/
class Up (w W : World) : Prop where mk :: (out : Below w.heap.size w W)
instance Up.refl_ (w : World) : Up w w := ⟨Below.refl _ _⟩
instance Up.drewN_ (w W : World) (n : Nat) [u : Up w W] : Up w (W.drewN n) := ⟨pw_below_drewN u.out n⟩
instance Up.drew_ (w W : World) [u : Up w W] : Up w W.drew := ⟨below_drew1 u.out⟩
instance Up.alloc_ (w W : World) (o : Obj) [u : Up w W] : Up w (W.alloc o) := ⟨below_alloc u.out o⟩
class GeI (n g : Nat) : Prop where mk :: (out : n ≤ g)
/-- The same, and behind stores into blocks of the call's own. -/
class UpS (w0 w W : World) : Prop where mk :: (out : Below w0.heap.size w0 w → Below w0.heap.size w0 W)
instance UpS.refl_ (w0 w : World) : UpS w0 w w := ⟨fun h => h⟩
instance UpS.drewN_ (w0 w W : World) (n : Nat) [u : UpS w0 w W] : UpS w0 w (W.drewN n) := ⟨fun h => pw_below_drewN (u.out h) n⟩
instance UpS.drew_ (w0 w W : World) [u : UpS w0 w W] : UpS w0 w W.drew := ⟨fun h => below_drew1 (u.out h)⟩
instance UpS.alloc_ (w0 w W : World) (o : Obj) [u : UpS w0 w W] : UpS w0 w (W.alloc o) := ⟨fun h => below_alloc (u.out h) o⟩
instance UpS.set_ (w0 w W : World) (g j : Nat) (v : Value) [u : UpS w0 w W] [k : GeI w0.heap.size g] : UpS w0 w (W.setCell ⟨g, j, none⟩ v) := ⟨fun h => below_set (u.out h) k.out⟩
theorem bI {w0 w W : World} (h : Below w0.heap.size w0 w) [u : UpS w0 w W] : Below w0.heap.size w0 W := u.out h
theorem kI {w W : World} {g : Nat} {o : Obj} (h : w.heap[g]? = some o) [u : Up w W] : W.heap[g]? = some o := blk_below h u.out
theorem rI {α : Type} {d : Kd α} {e base : Nat} {w W : World} {ok : Nat → Prop} {v : Value} {xs : List α} (h : d.R e w base ok v xs) [u : Up w W] : d.R e W base ok v xs := Kd.R_below h u.out
theorem sI {α : Type} {d : Kd α} {e base : Nat} {w W : World} {ok : Nat → Prop} {v : Value} {xs : List α} (h : d.S e w base ok v xs) [u : Up w W] : d.S e W base ok v xs := Kd.S_below h u.out
theorem nI {α : Type} {d : Kd α} {e base : Nat} {w W : World} {ok : Nat → Prop} {v : Value} {xs : List α} (h : d.N e w base ok v xs) [u : Up w W] : d.N e W base ok v xs := Kd.N_below h u.out
end Go.Proofs.YtlkmjjojjlihaaaW.PrintWords
