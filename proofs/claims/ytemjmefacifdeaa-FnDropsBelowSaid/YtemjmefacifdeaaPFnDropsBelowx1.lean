-- By a program of this session, out of the translation (the print of the kit, with turns of its own). Lean checks it.
import Derived.Test.YtemjmefacifdeaaPFnDropsBelowx0
namespace Go.Proofs.Ytemjmefacifdeaa.PFnDropsBelow
open Go.RowKit Go.Proofs.YtemjmefacifdeaaW.PrintWords Go.Proofs.YtemjmefacifdeaaW.PrintLast Go.Proofs.YtemjmefacifdeaaW.PrintMore
attribute [local go_sem] max2_int min2_int max_two min_two max_three min_three max_four min_four   -- for this text's walks alone
set_option linter.unusedVariables false
set_option linter.unusedSimpArgs false

/-! ### laws_big: function 13 -/
def laws_big.f (l0 : List Int) : Option (Bool) := some (decide ((l0.length : Int) > 1048576))
set_option maxHeartbeats 8000000 in
set_option maxRecDepth 100000 in
theorem laws_big.calls (A0 : Option Addr) (c0 : Nat) (l0 : List Int) (r : Bool) (w : World) (hr0 : Kd.C (Kd.int .u8) w A0 l0.length l0) (hc0 : l0.length ≤ c0) (h : laws_big.f l0 = some r) :
  Calls Try.prog 13 #[.slice A0 l0.length c0] w fun e w' => e = .returned (.bool r) ∧ Drawn0 w w' := by
 have HR0 := Aside0.mk hr0; have HC0 := Aside0.mk hc0; clear hr0 hc0; have H : (some (decide ((l0.length : Int) > 1048576))) = some r := h; clear h; obtain rfl := Option.some.inj H
 go_enter Try.func13, Try.ntmps13
 go_wp2
 go_ret
 exact ⟨y0_21, y0_18⟩

/-- A state of type 68 at block g of W; what its slices lead to came in by w0. -/
def IsS68 (w0 W : World) (g : Nat) (f0 : List Int) (f1 : Int) (f2 : Int) : Prop := ∃ A0 c0, W.heap[g]? = some (.cells #[.slice A0 f0.length c0, .int .i64 f1, .int .i64 f2] 68 (0, 0)) ∧ w0.heap.size ≤ g ∧ Kd.C (Kd.int .u8) w0 A0 f0.length f0
theorem IsS68.grown {w0 W : World} {g : Nat} {f0 : List Int} {f1 : Int} {f2 : Int} {W1 : World} {row : Option Nat} (h : IsS68 w0 W g f0 f1 f2) (hw : W.grownBy W1 row) (hne : some g ≠ row) : IsS68 w0 W1 g f0 f1 f2 := by
 obtain ⟨A0, c0, hb, hg, hr0⟩ := h
 exact ⟨A0, c0, blk_grown hb hw hne, hg, hr0⟩
theorem IsS68.own_neN {w0 W : World} {g : Nat} {f0 : List Int} {f1 : Int} {f2 : Int} {α : Type} {d : Kd α} {e : Nat} {base : Nat} {ok : Nat → Prop} {v : Value} {xs : List α} (h : IsS68 w0 W g f0 f1 f2) (ho : Kd.N d e W base ok v xs) (ht : e ≠ 68) : some g ≠ v.ownBlock := by
 obtain ⟨A0, c0, hb, hg, hr0⟩ := h
 exact Kd.N_ne ho hb ht
theorem IsS68.fresh {w0 W : World} {g : Nat} {f0 : List Int} {f1 : Int} {f2 : Int} (h : IsS68 w0 W g f0 f1 f2) : ∀ k, W.heap.size ≤ k → k ≠ g := by
 obtain ⟨A0, c0, hb, hg, hr0⟩ := h
 exact Kd.freshB hb
theorem IsS68.kept {w0 W : World} {g : Nat} {f0 : List Int} {f1 : Int} {f2 : Int} {W1 : World} {S : Nat → Prop} (h : IsS68 w0 W g f0 f1 f2) (hk : Kept W W1 S) (hne : ¬ S g) : IsS68 w0 W1 g f0 f1 f2 := by
 obtain ⟨A0, c0, hb, hg, hr0⟩ := h
 exact ⟨A0, c0, blk_kept hb hk hne, hg, hr0⟩
theorem IsS68.below {w0 W : World} {g : Nat} {f0 : List Int} {f1 : Int} {f2 : Int} {W1 : World} (h : IsS68 w0 W g f0 f1 f2) (hw : Below W.heap.size W W1) : IsS68 w0 W1 g f0 f1 f2 := h.grown (grown_of_below hw none) (by simp)
theorem IsS68.alloc {w0 W : World} {g : Nat} {f0 : List Int} {f1 : Int} {f2 : Int} (h : IsS68 w0 W g f0 f1 f2) (o : Obj) : IsS68 w0 (W.alloc o) g f0 f1 f2 := h.below (below_alloc (Below.refl _ _) o)
theorem IsS68.drewN {w0 W : World} {g : Nat} {f0 : List Int} {f1 : Int} {f2 : Int} (h : IsS68 w0 W g f0 f1 f2) (m : Nat) : IsS68 w0 (W.drewN m) g f0 f1 f2 := h
theorem IsS68.drew {w0 W : World} {g : Nat} {f0 : List Int} {f1 : Int} {f2 : Int} (h : IsS68 w0 W g f0 f1 f2) : IsS68 w0 W.drew g f0 f1 f2 := h
theorem IsS68.at_ {w0 W : World} {g : Nat} {f0 : List Int} {f1 : Int} {f2 : Int} {w' : World} {m : Nat} (hq : W.drewN m = w') (h : IsS68 w0 W g f0 f1 f2) : IsS68 w0 w' g f0 f1 f2 := by subst hq; exact IsS68.drewN h m
theorem IsS68.apart {w0 W : World} {g : Nat} {f0 : List Int} {f1 : Int} {f2 : Int} {α : Type} {d : Kd α} {e : Nat} {base : Nat} {ok : Nat → Prop} {v : Value} {xs : List α} (h : IsS68 w0 W g f0 f1 f2) (ho : d.R e W base ok v xs) (ht : ∀ q, q ∈ e :: d.E → q ≠ 68) : d.R e W base (fun k => ok k ∧ k ≠ g) v xs := by
 obtain ⟨A0, c0, hb, hg, hr0⟩ := h
 exact Kd.R_types ho hb ht
theorem IsS68.own_ne {w0 W : World} {g : Nat} {f0 : List Int} {f1 : Int} {f2 : Int} {α : Type} {d : Kd α} {e : Nat} {base : Nat} {ok : Nat → Prop} {v : Value} {xs : List α} (h : IsS68 w0 W g f0 f1 f2) (ho : d.R e W base ok v xs) (ht : e ≠ 68) : some g ≠ v.ownBlock := by
 obtain ⟨A0, c0, hb, hg, hr0⟩ := h
 exact Kd.R_ne ho hb ht
theorem IsS68.apartQ {w0 W : World} {g : Nat} {f0 : List Int} {f1 : Int} {f2 : Int} {α : Type} {d : Kd α} {e : Nat} {base : Nat} {ok : Nat → Prop} {v : Value} {xs : List α} (h : IsS68 w0 W g f0 f1 f2) (ho : d.Q e W base ok v xs) (ht : ∀ q, q ∈ e :: d.E → q ≠ 68) : d.Q e W base (fun k => ok k ∧ k ≠ g) v xs := by
 obtain ⟨A0, c0, hb, hg, hr0⟩ := h
 exact Kd.Q_types ho hb ht
theorem IsS68.own_neQ {w0 W : World} {g : Nat} {f0 : List Int} {f1 : Int} {f2 : Int} {α : Type} {d : Kd α} {e : Nat} {base : Nat} {ok : Nat → Prop} {v : Value} {xs : List α} (h : IsS68 w0 W g f0 f1 f2) (ho : d.Q e W base ok v xs) (ht : e ≠ 68) : some g ≠ v.ownBlock := by
 obtain ⟨A0, c0, hb, hg, hr0⟩ := h
 exact Kd.Q_ne ho hb ht
theorem IsS68.apartS {w0 W : World} {g : Nat} {f0 : List Int} {f1 : Int} {f2 : Int} {α : Type} {d : Kd α} {e : Nat} {base : Nat} {ok : Nat → Prop} {v : Value} {xs : List α} (h : IsS68 w0 W g f0 f1 f2) (ho : d.S e W base ok v xs) (ht : ∀ q, q ∈ e :: d.E → q ≠ 68) : d.S e W base (fun k => ok k ∧ k ≠ g) v xs := by
 obtain ⟨A0, c0, hb, hg, hr0⟩ := h
 exact Kd.S_types ho hb ht
theorem IsS68.own_neS {w0 W : World} {g : Nat} {f0 : List Int} {f1 : Int} {f2 : Int} {α : Type} {d : Kd α} {e : Nat} {base : Nat} {ok : Nat → Prop} {v : Value} {xs : List α} (h : IsS68 w0 W g f0 f1 f2) (ho : d.S e W base ok v xs) (ht : e ≠ 68) : some g ≠ v.ownBlock := by
 obtain ⟨A0, c0, hb, hg, hr0⟩ := h
 exact Kd.S_ne ho hb ht
theorem IsS68.lt {w0 W : World} {g : Nat} {f0 : List Int} {f1 : Int} {f2 : Int} (h : IsS68 w0 W g f0 f1 f2) : g < W.heap.size := by
 obtain ⟨A0, c0, hb, hg, hr0⟩ := h
 exact blk_lt hb
theorem IsS68.ge {w0 W : World} {g : Nat} {f0 : List Int} {f1 : Int} {f2 : Int} (h : IsS68 w0 W g f0 f1 f2) : w0.heap.size ≤ g := by
 obtain ⟨A0, c0, hb, hg, hr0⟩ := h
 exact hg
theorem IsS68.ne_blk {w0 W : World} {g : Nat} {f0 : List Int} {f1 : Int} {f2 : Int} {a : Nat} {cs : Array Value} {t : TypeId} {fr : Nat × Nat} (h : IsS68 w0 W g f0 f1 f2) (hb2 : W.heap[a]? = some (.cells cs t fr)) (ht : t ≠ 68) : g ≠ a := by
 obtain ⟨A0, c0, hb, hg, hr0⟩ := h
 rintro rfl
 rw [hb] at hb2
 injection hb2 with hb2
 injection hb2 with _ ht2
 exact ht ht2.symm
theorem IsS68.far {w0 W : World} {g : Nat} {f0 : List Int} {f1 : Int} {f2 : Int} {p : Addr} (h : IsS68 w0 W g f0 f1 f2) (hne : g ≠ p.block) (u : Value) : IsS68 w0 (W.setCell p u) g f0 f1 f2 := by
 obtain ⟨A0, c0, hb, hg, hr0⟩ := h
 exact ⟨A0, c0, blk_far hb hne u, hg, hr0⟩
theorem cellS68_0 {W : World} {g : Nat} {A0 : Option Addr} {c0 : Nat} {f0 : List Int} {f1 : Int} {f2 : Int} (h : W.heap[g]? = some (.cells #[.slice A0 f0.length c0, .int .i64 f1, .int .i64 f2] 68 (0, 0))) : W.cell? ⟨g, 0, none⟩ = some (.slice A0 f0.length c0) := (blk_cell h 0).trans rfl
theorem cellS68_1 {W : World} {g : Nat} {A0 : Option Addr} {c0 : Nat} {f0 : List Int} {f1 : Int} {f2 : Int} (h : W.heap[g]? = some (.cells #[.slice A0 f0.length c0, .int .i64 f1, .int .i64 f2] 68 (0, 0))) : W.cell? ⟨g, 1, none⟩ = some (.int .i64 f1) := (blk_cell h 1).trans rfl
theorem IsS68.set_1 {w0 W : World} {g : Nat} {f0 : List Int} {f1 : Int} {f2 : Int} (h : IsS68 w0 W g f0 f1 f2) (x : Int) : IsS68 w0 (W.setCell ⟨g, 1, none⟩ (.int .i64 x)) g f0 x f2 := by
 obtain ⟨A0, c0, hb, hg, hr0⟩ := h
 exact ⟨A0, c0, by simpa using blk_set hb 1 (.int .i64 x), hg, hr0⟩
theorem cellS68_2 {W : World} {g : Nat} {A0 : Option Addr} {c0 : Nat} {f0 : List Int} {f1 : Int} {f2 : Int} (h : W.heap[g]? = some (.cells #[.slice A0 f0.length c0, .int .i64 f1, .int .i64 f2] 68 (0, 0))) : W.cell? ⟨g, 2, none⟩ = some (.int .i64 f2) := (blk_cell h 2).trans rfl
theorem IsS68.set_2 {w0 W : World} {g : Nat} {f0 : List Int} {f1 : Int} {f2 : Int} (h : IsS68 w0 W g f0 f1 f2) (x : Int) : IsS68 w0 (W.setCell ⟨g, 2, none⟩ (.int .i64 x)) g f0 f1 x := by
 obtain ⟨A0, c0, hb, hg, hr0⟩ := h
 exact ⟨A0, c0, by simpa using blk_set hb 2 (.int .i64 x), hg, hr0⟩
theorem IsS68.new (w0 W : World) (A0 : Option Addr) (c0 : Nat) (f0 : List Int) (f1 : Int) (f2 : Int) (hB : Below w0.heap.size w0 W) (hr0 : Kd.C (Kd.int .u8) w0 A0 f0.length f0) : IsS68 w0 (W.alloc (.cells #[.slice A0 f0.length c0, .int .i64 f1, .int .i64 f2] 68)) W.heap.size f0 f1 f2 := ⟨A0, c0, by simpa using heap_alloc_new W _, hB.size, hr0⟩

/-! ### spec_l1New: function 41 -/
def spec_l1New.l0 : Nat → List Int → Int → Int → Option (List Int × Int × Int)
 | 0, _, _, _ => none
 | k + 1, x0, x3, x4 => if x4 < (x0.length : Int) then (if x4 < 4000 then (if 0 ≤ x4 then (spec_l1New.l0 k x0 (Go.bits .and .i64 (wrap64 ((wrap64 ((wrap64 (x3 * 131)) + (wrap64 (rd x0 x4)))) + 7)) 1073741823) (wrap64 (x4 + 1))) else (none)) else (some (x0, 0, x3))) else (some (x0, 0, x3))
def spec_l1New.f (k : Nat) (l0 : List Int) : Option (List Int × Int × Int) := spec_l1New.l0 k l0 (wrap64 (26583 + (l0.length : Int))) 0
theorem spec_l1New.mono_l : ∀ k, (∀ y0 y1 y2, LeO (spec_l1New.l0 k y0 y1 y2) (spec_l1New.l0 (k + 1) y0 y1 y2))
 | 0 => fun _ _ _ r h => by simp [spec_l1New.l0] at h
 | k + 1 => by
  have ih0 := spec_l1New.mono_l k
  intro y0 y1 y2
  unfold spec_l1New.l0
  repeat' first | (with_reducible exact ih0 _ _ _) | (with_reducible exact LeO.refl _) | (with_reducible exact LeO.none _) | (with_reducible refine LeO.ite ?_ ?_) | (with_reducible refine LeO.bind ?_ (fun _ => ?_))
theorem spec_l1New.mono : ∀ a0 k, LeO (spec_l1New.f k a0) (spec_l1New.f (k + 1) a0) := by
 intro a0 k
 have ih0 := spec_l1New.mono_l k
 unfold spec_l1New.f
 repeat' first | (with_reducible exact ih0 _ _ _) | (with_reducible exact LeO.refl _) | (with_reducible exact LeO.none _) | (with_reducible refine LeO.ite ?_ ?_) | (with_reducible refine LeO.bind ?_ (fun _ => ?_))
set_option maxHeartbeats 8000000 in
set_option maxRecDepth 100000 in
theorem spec_l1New.calls (k : Nat) (A0 : Option Addr) (c0 : Nat) (l0 : List Int) (r1 : List Int) (r2 : Int) (r3 : Int) (w0 w : World) (hB : Below w0.heap.size w0 w) (hr0 : Kd.C (Kd.int .u8) w0 A0 l0.length l0) (hc0 : l0.length ≤ c0) (h : spec_l1New.f k l0 = some (r1, r2, r3)) :
  Calls Try.prog 41 #[.slice A0 l0.length c0] w fun e w' => ∃ g_ : Nat, e = .returned (.pointer (some ⟨g_, 0, none⟩)) ∧ IsS68 w0 w' g_ r1 r2 r3 ∧ Below w0.heap.size w0 w' ∧ Below w.heap.size w w' := by
 have hu68 := Try.underlying68; have HR0 := Aside0.mk hr0; have HC0 := Aside0.mk hc0; clear hr0 hc0; have HBW := Aside0.mk (Below.refl w.heap.size w); have HW0 := Aside0.mk hB.size; have HB := Aside0.mk hB; clear hB; have H : (spec_l1New.l0 k l0 (wrap64 (26583 + (l0.length : Int))) 0) = some (r1, r2, r3) := h; clear h; have H' := Aside0.mk H; clear H
 go_enter Try.func41, Try.ntmps41
 go_wp2
 go_loopg [3, 4] k (fun kq v3 v4 w' => ∃ (x3_1 : Int) (x4_1 : Int), v3 = .int .i64 x3_1 ∧ v4 = .int .i64 x4_1 ∧ Aside0 (spec_l1New.l0 kq l0 x3_1 x4_1 = some (r1, r2, r3)) ∧ Aside0 (kq ≤ k) ∧ Aside0 (Below w0.heap.size w0 w') ∧ Aside0 (Below w.heap.size w w'))
 case atStart => exact ⟨(wrap64 (26583 + (l0.length : Int))), (0), y0_21, y0_21, H', ⟨Nat.le_refl _⟩, ⟨bI HB.out⟩, ⟨bI HBW.out⟩⟩
 case round =>
  clear H'; obtain ⟨x3_1, x4_1, rfl, rfl, HA, HK1, HB, HBW⟩ := hrel; cases gk with
  | zero => exact absurd HA.out (by simp [spec_l1New.l0])
  | succ k1 =>
   have H := HA.out; clear HA
   simp only [spec_l1New.l0] at H
   by_cases c2 : x4_1 < (l0.length : Int)
   ·
    rw [if_pos c2] at H
    have c2b0 : decide (x4_1 < (l0.length : Int)) = true := decide_eq_true c2; clear c2
    by_cases c3 : x4_1 < 4000
    ·
     rw [if_pos c3] at H
     have c3b0 : decide (x4_1 < 4000) = true := decide_eq_true c3; clear c3
     by_cases c4 : 0 ≤ x4_1
     rotate_left
     ·
      rw [if_neg c4] at H
      exact absurd H (by simp)
     rw [if_pos c4] at H
     have c4b0 : decide (0 ≤ x4_1) = true := decide_eq_true c4; clear c4; have H' := Aside0.mk H; clear H; have p101 : 0 ≤ (x4_1 : Int) := of_decide_eq_true y0_20; have q101 : x4_1 < (l0.length : Int) := of_decide_eq_true y0_20; obtain ⟨ad101, e101, hx101_0⟩ := Kd.at_int HR0.out x4_1 p101 q101; cases e101; replace hx101_0 := pw_cell_below HB.out hx101_0; replace p101 := eq_true p101; replace q101 := eq_true q101
     go_wp2
     go_roundg k1
     case measure => have := HK1.out; omega
     case rel => exact ⟨(Go.bits .and .i64 (wrap64 ((wrap64 ((wrap64 (x3_1 * 131)) + (wrap64 (rd l0 x4_1)))) + 7)) 1073741823), (wrap64 (x4_1 + 1)), y0_21, y0_21, H', ⟨y0_25⟩, ⟨bI HB.out⟩, ⟨bI HBW.out⟩⟩
    rw [if_neg c3] at H
    have c3b0 : decide (x4_1 < 4000) = false := decide_eq_false c3; clear c3
    simp only [Option.some.injEq, Prod.mk.injEq] at H
    obtain ⟨rfl, rfl, rfl⟩ := H
    go_wp2_with (first | ((with_reducible refine gd 31 ?_); refine bA 31 #[.slice A0 l0.length c0, .int .i64 0, .int .i64 x3_1] 68 ?_; intro gb102 hg w5 hbox hb; replace HB := bs HB hb; have BK102 := Aside0.mk (hbox); have GW102 := bg hg HBW; have GJ102 := gi GW102; have GE102 := Aside0.mk ((Nat.le_trans HW0.out (by rw [hg]; exact (below_size (bI HBW.out)) : w.heap.size ≤ gb102) : w0.heap.size ≤ gb102)); have GI102 := gi GE102; replace HBW := Aside0.mk (below_step HBW.out hb); clear hb hbox hg))
    go_ret
    exact ⟨_, rfl, (show IsS68 w0 _ gb102 l0 0 x3_1 from ⟨_, _, pI BK102, GE102.out, HR0.out⟩), bI HB.out, bI HBW.out⟩
   rw [if_neg c2] at H
   have c2b0 : decide (x4_1 < (l0.length : Int)) = false := decide_eq_false c2; clear c2
   simp only [Option.some.injEq, Prod.mk.injEq] at H
   obtain ⟨rfl, rfl, rfl⟩ := H
   go_wp2_with (first | ((with_reducible refine gd 31 ?_); refine bA 31 #[.slice A0 l0.length c0, .int .i64 0, .int .i64 x3_1] 68 ?_; intro gb103 hg w6 hbox hb; replace HB := bs HB hb; have BK103 := Aside0.mk (hbox); have GW103 := bg hg HBW; have GJ103 := gi GW103; have GE103 := Aside0.mk ((Nat.le_trans HW0.out (by rw [hg]; exact (below_size (bI HBW.out)) : w.heap.size ≤ gb103) : w0.heap.size ≤ gb103)); have GI103 := gi GE103; replace HBW := Aside0.mk (below_step HBW.out hb); clear hb hbox hg))
   go_ret
   exact ⟨_, rfl, (show IsS68 w0 _ gb103 l0 0 x3_1 from ⟨_, _, pI BK103, GE103.out, HR0.out⟩), bI HB.out, bI HBW.out⟩

/-! ### spec_l1Byte: function 59 -/
def spec_l1Byte.f (s0_0 : List Int) (s0_1 : Int) (s0_2 : Int) : Option (Int × Int × Int) := if s0_1 < (s0_0.length : Int) then (if 0 ≤ s0_1 then (some (Go.bits .and .i64 (wrap64 ((Go.bits .and .i64 (Go.bits .xor .i64 ((wrap64 ((wrap64 (s0_2 * 6364136223846793005)) + 1442695040888963407)) / 8589934592) ((wrap64 ((wrap64 (s0_2 * 6364136223846793005)) + 1442695040888963407)) / 35184372088832)) 255) + (wrap64 (rd s0_0 s0_1)))) 255, wrap64 (s0_1 + 1), wrap64 ((wrap64 (s0_2 * 6364136223846793005)) + 1442695040888963407))) else (none)) else (some (Go.bits .and .i64 (Go.bits .xor .i64 ((wrap64 ((wrap64 (s0_2 * 6364136223846793005)) + 1442695040888963407)) / 8589934592) ((wrap64 ((wrap64 (s0_2 * 6364136223846793005)) + 1442695040888963407)) / 35184372088832)) 255, s0_1, wrap64 ((wrap64 (s0_2 * 6364136223846793005)) + 1442695040888963407)))
set_option maxHeartbeats 8000000 in
set_option maxRecDepth 100000 in
theorem spec_l1Byte.calls (g : Nat) (s0_0 : List Int) (s0_1 : Int) (s0_2 : Int) (r1 : Int) (r2 : Int) (r3 : Int) (w0 w : World) (hI : IsS68 w0 w g s0_0 s0_1 s0_2) (hB : Below w0.heap.size w0 w) (h : spec_l1Byte.f s0_0 s0_1 s0_2 = some (r1, r2, r3)) :
  Calls Try.prog 59 #[.pointer (some ⟨g, 0, none⟩)] w fun e w' => e = .returned (.int .i64 r1) ∧ IsS68 w0 w' g s0_0 r2 r3 ∧ Below w0.heap.size w0 w' ∧ KeepBut w w' g none := by
 have HI0 := Aside0.mk hI; have HK := Aside0.mk (KeepBut.refl w g none); have HL := Aside0.mk hB.size; clear hI; have HW0 := Aside0.mk hB.size; have HB := Aside0.mk hB; clear hB; have H : (if s0_1 < (s0_0.length : Int) then (if 0 ≤ s0_1 then (some (Go.bits .and .i64 (wrap64 ((Go.bits .and .i64 (Go.bits .xor .i64 ((wrap64 ((wrap64 (s0_2 * 6364136223846793005)) + 1442695040888963407)) / 8589934592) ((wrap64 ((wrap64 (s0_2 * 6364136223846793005)) + 1442695040888963407)) / 35184372088832)) 255) + (wrap64 (rd s0_0 s0_1)))) 255, wrap64 (s0_1 + 1), wrap64 ((wrap64 (s0_2 * 6364136223846793005)) + 1442695040888963407))) else (none)) else (some (Go.bits .and .i64 (Go.bits .xor .i64 ((wrap64 ((wrap64 (s0_2 * 6364136223846793005)) + 1442695040888963407)) / 8589934592) ((wrap64 ((wrap64 (s0_2 * 6364136223846793005)) + 1442695040888963407)) / 35184372088832)) 255, s0_1, wrap64 ((wrap64 (s0_2 * 6364136223846793005)) + 1442695040888963407)))) = some (r1, r2, r3) := h; clear h
 by_cases c2 : s0_1 < (s0_0.length : Int)
 ·
  rw [if_pos c2] at H
  have c2b0 : decide (s0_1 < (s0_0.length : Int)) = true := decide_eq_true c2; clear c2
  by_cases c3 : 0 ≤ s0_1
  rotate_left
  ·
   rw [if_neg c3] at H
   exact absurd H (by simp)
  rw [if_pos c3] at H
  have c3b0 : decide (0 ≤ s0_1) = true := decide_eq_true c3; clear c3
  simp only [Option.some.injEq, Prod.mk.injEq] at H
  obtain ⟨rfl, rfl, rfl⟩ := H; obtain ⟨ASz4_0, cSz4_0, HGz4, hgz4, HSz4_0⟩ := HI0.out; have hcz4_0 := cellS68_0 HGz4; have hcz4_1 := cellS68_1 HGz4; have hcz4_2 := cellS68_2 HGz4; have hfz4_1 := blk_frozen HGz4 1; have hfz4_2 := blk_frozen HGz4 2; clear HGz4 hgz4; have p104 : 0 ≤ (s0_1 : Int) := of_decide_eq_true y0_20; have q104 : s0_1 < (s0_0.length : Int) := of_decide_eq_true y0_20; obtain ⟨ad104, e104, hx104_0⟩ := Kd.at_int HSz4_0 s0_1 p104 q104; cases e104
  have hn104_0 : ad104.block ≠ g := Nat.ne_of_lt (Nat.lt_of_lt_of_le (by have := World.block_lt_of_cell? _ _ hx104_0; first | rwa [add_block] at this | exact this) (IsS68.ge HI0.out))
  replace hx104_0 := pw_cell_below HB.out hx104_0
  replace hx104_0 := (cell_far (p := ⟨g, 2, none⟩) (by first | (rw [add_block]; exact hn104_0) | (show (Addr.add _ _).block ≠ _; rw [add_block]; exact hn104_0) | exact hn104_0) (.int .i64 (wrap64 ((wrap64 (s0_2 * 6364136223846793005)) + 1442695040888963407)))).trans hx104_0
  (try have hy104_0 := fun (n_ : Nat) => (show (((w.drewN n_).setCell ⟨g, 2, none⟩ (.int .i64 (wrap64 ((wrap64 (s0_2 * 6364136223846793005)) + 1442695040888963407))))).cell? _ = some _ from hx104_0))
  clear hn104_0; replace p104 := eq_true p104; replace q104 := eq_true q104
  go_enter Try.func59, Try.ntmps59
  go_wp2
  repeat (go_quiet (fail); try go_wp2)
  go_ret
  exact ⟨y0_16, y0_9, y0_8, hI HK.out⟩
 rw [if_neg c2] at H
 have c2b0 : decide (s0_1 < (s0_0.length : Int)) = false := decide_eq_false c2; clear c2
 simp only [Option.some.injEq, Prod.mk.injEq] at H
 obtain ⟨rfl, rfl, rfl⟩ := H; obtain ⟨ASz5_0, cSz5_0, HGz5, hgz5, HSz5_0⟩ := HI0.out; have hcz5_0 := cellS68_0 HGz5; have hcz5_1 := cellS68_1 HGz5; have hcz5_2 := cellS68_2 HGz5; have hfz5_1 := blk_frozen HGz5 1; have hfz5_2 := blk_frozen HGz5 2; clear HGz5 hgz5
 go_enter Try.func59, Try.ntmps59
 go_wp2
 repeat (go_quiet (fail); try go_wp2)
 go_ret
 exact ⟨y0_16, y0_9, y0_8, hI HK.out⟩

/-! ### spec_l1Below: function 44 -/
def spec_l1Below.f (s0_0 : List Int) (s0_1 : Int) (s0_2 : Int) (a1 : Int) : Option (Int × Int × Int) := if a1 ≤ 0 then (some (0, s0_1, s0_2)) else (if a1 ≤ 256 then ((spec_l1Byte.f s0_0 s0_1 s0_2).bind fun bt105 => (if a1 = 0 then (none) else (some (Int.tmod bt105.1 a1, bt105.2.1, bt105.2.2)))) else ((spec_l1Byte.f s0_0 s0_1 s0_2).bind fun bt108 => ((spec_l1Byte.f s0_0 bt108.2.1 bt108.2.2).bind fun bt111 => ((spec_l1Byte.f s0_0 bt111.2.1 bt111.2.2).bind fun bt114 => ((spec_l1Byte.f s0_0 bt114.2.1 bt114.2.2).bind fun bt117 => (if a1 = 0 then (none) else (some (Int.tmod (wrap64 ((wrap64 ((wrap64 ((wrap64 (bt108.1 * 16777216)) + (wrap64 (bt111.1 * 65536)))) + (wrap64 (bt114.1 * 256)))) + bt117.1)) a1, bt117.2.1, bt117.2.2))))))))
set_option maxHeartbeats 8000000 in
set_option maxRecDepth 100000 in
theorem spec_l1Below.calls (g : Nat) (s0_0 : List Int) (s0_1 : Int) (s0_2 : Int) (a1 : Int) (r1 : Int) (r2 : Int) (r3 : Int) (w0 w : World) (hI : IsS68 w0 w g s0_0 s0_1 s0_2) (hB : Below w0.heap.size w0 w) (h : spec_l1Below.f s0_0 s0_1 s0_2 a1 = some (r1, r2, r3)) :
  Calls Try.prog 44 #[.pointer (some ⟨g, 0, none⟩), .int .i64 a1] w fun e w' => e = .returned (.int .i64 r1) ∧ IsS68 w0 w' g s0_0 r2 r3 ∧ Below w0.heap.size w0 w' ∧ KeepBut w w' g none := by
 have HI0 := Aside0.mk hI; have HK := Aside0.mk (KeepBut.refl w g none); have HL := Aside0.mk hB.size; clear hI; have HW0 := Aside0.mk hB.size; have HB := Aside0.mk hB; clear hB
 have H : (if a1 ≤ 0 then (some (0, s0_1, s0_2)) else (if a1 ≤ 256 then ((spec_l1Byte.f s0_0 s0_1 s0_2).bind fun bt105 => (if a1 = 0 then (none) else (some (Int.tmod bt105.1 a1, bt105.2.1, bt105.2.2)))) else ((spec_l1Byte.f s0_0 s0_1 s0_2).bind fun bt108 => ((spec_l1Byte.f s0_0 bt108.2.1 bt108.2.2).bind fun bt111 => ((spec_l1Byte.f s0_0 bt111.2.1 bt111.2.2).bind fun bt114 => ((spec_l1Byte.f s0_0 bt114.2.1 bt114.2.2).bind fun bt117 => (if a1 = 0 then (none) else (some (Int.tmod (wrap64 ((wrap64 ((wrap64 ((wrap64 (bt108.1 * 16777216)) + (wrap64 (bt111.1 * 65536)))) + (wrap64 (bt114.1 * 256)))) + bt117.1)) a1, bt117.2.1, bt117.2.2))))))))) = some (r1, r2, r3) := h
 clear h
 by_cases c3 : a1 ≤ 0
 ·
  rw [if_pos c3] at H
  have c3b0 : decide (a1 ≤ 0) = true := decide_eq_true c3; clear c3
  simp only [Option.some.injEq, Prod.mk.injEq] at H
  obtain ⟨rfl, rfl, rfl⟩ := H
  go_enter Try.func44, Try.ntmps44
  go_wp2
  go_ret
  exact ⟨y0_16, y0_9, y0_8, hI HK.out⟩
 rw [if_neg c3] at H
 have c3b0 : decide (a1 ≤ 0) = false := decide_eq_false c3; clear c3
 by_cases c4 : a1 ≤ 256
 ·
  rw [if_pos c4] at H
  have c4b0 : decide (a1 ≤ 256) = true := decide_eq_true c4; clear c4; obtain ⟨⟨t105, t106, t107⟩, A50, H⟩ := Option.bind_eq_some_iff.mp H
  try dsimp only at H
  have A5 := Aside0.mk A50; clear A50
  by_cases c6 : a1 = 0
  ·
   rw [if_pos c6] at H
   exact absurd H (by simp)
  rw [if_neg c6] at H
  have c6b0 : (a1 == 0) = false := beq_eq_false_iff_ne.mpr c6; have c6b1 : (a1 != 0) = true := bne_iff_ne.mpr c6
  simp only [Option.some.injEq, Prod.mk.injEq] at H
  obtain ⟨rfl, rfl, rfl⟩ := H
  go_enter Try.func44, Try.ntmps44
  go_wp2_with (first | ((with_reducible refine gate_callee (f := 59) rfl ?_); refine gB (some 14) Try.func59 #[.pointer (some ⟨g, 0, none⟩)] ?_; (with_reducible refine (spec_l1Byte.calls g s0_0 s0_1 s0_2 t105 t106 t107 w0 _ ?side1 ?side2 A5.out).mono ?_); (case side1 => repeat (first | (with_reducible first | exact HI0.out | apply IsS68.alloc | apply IsS68.drewN | apply IsS68.drew | apply IsS68.set_1 | apply IsS68.set_2) | exact HI0.out)); (case side2 => repeat (first | (with_reducible first | exact HB.out | apply below_alloc | apply pw_below_drewN | apply below_drew1 | refine below_set ?_ (IsS68.ge HI0.out)) | exact HB.out)); rintro e w7 ⟨rfl, hi, hb, hk⟩; refine ⟨_, rfl, ?_⟩; replace HK := kt HK hk; replace HB := Aside0.mk (hb); replace HI0 := Aside0.mk (hi); (try clear hb); (try clear hb2); (try clear hk); (try clear hi)))
  go_ret
  exact ⟨y0_16, y0_9, y0_8, hI HK.out⟩
 rw [if_neg c4] at H
 have c4b0 : decide (a1 ≤ 256) = false := decide_eq_false c4; clear c4; obtain ⟨⟨t108, t109, t110⟩, A80, H⟩ := Option.bind_eq_some_iff.mp H
 try dsimp only at H
 have A8 := Aside0.mk A80; clear A80; obtain ⟨⟨t111, t112, t113⟩, A90, H⟩ := Option.bind_eq_some_iff.mp H
 try dsimp only at H
 have A9 := Aside0.mk A90; clear A90; obtain ⟨⟨t114, t115, t116⟩, A100, H⟩ := Option.bind_eq_some_iff.mp H
 try dsimp only at H
 have A10 := Aside0.mk A100; clear A100; obtain ⟨⟨t117, t118, t119⟩, A110, H⟩ := Option.bind_eq_some_iff.mp H
 try dsimp only at H
 have A11 := Aside0.mk A110; clear A110
 by_cases c12 : a1 = 0
 ·
  rw [if_pos c12] at H
  exact absurd H (by simp)
 rw [if_neg c12] at H
 have c12b0 : (a1 == 0) = false := beq_eq_false_iff_ne.mpr c12; have c12b1 : (a1 != 0) = true := bne_iff_ne.mpr c12
 simp only [Option.some.injEq, Prod.mk.injEq] at H
 obtain ⟨rfl, rfl, rfl⟩ := H
 go_enter Try.func44, Try.ntmps44
 go_wp2_with (first | ((with_reducible refine gate_callee (f := 59) rfl ?_); refine gB (some 18) Try.func59 #[.pointer (some ⟨g, 0, none⟩)] ?_; (with_reducible refine (spec_l1Byte.calls g s0_0 s0_1 s0_2 t108 t109 t110 w0 _ ?side1 ?side2 A8.out).mono ?_); (case side1 => repeat (first | (with_reducible first | exact HI0.out | apply IsS68.alloc | apply IsS68.drewN | apply IsS68.drew | apply IsS68.set_1 | apply IsS68.set_2) | exact HI0.out)); (case side2 => repeat (first | (with_reducible first | exact HB.out | apply below_alloc | apply pw_below_drewN | apply below_drew1 | refine below_set ?_ (IsS68.ge HI0.out)) | exact HB.out)); rintro e w13 ⟨rfl, hi, hb, hk⟩; refine ⟨_, rfl, ?_⟩; replace HK := kt HK hk; replace HB := Aside0.mk (hb); replace HI0 := Aside0.mk (hi); (try clear hb); (try clear hb2); (try clear hk); (try clear hi)) | ((with_reducible refine gate_callee (f := 59) rfl ?_); refine gB (some 20) Try.func59 #[.pointer (some ⟨g, 0, none⟩)] ?_; (with_reducible refine (spec_l1Byte.calls g s0_0 t109 t110 t111 t112 t113 w0 _ ?side1 ?side2 A9.out).mono ?_); (case side1 => repeat (first | (with_reducible first | exact HI0.out | apply IsS68.alloc | apply IsS68.drewN | apply IsS68.drew | apply IsS68.set_1 | apply IsS68.set_2) | exact HI0.out)); (case side2 => repeat (first | (with_reducible first | exact HB.out | apply below_alloc | apply pw_below_drewN | apply below_drew1 | refine below_set ?_ (IsS68.ge HI0.out)) | exact HB.out)); rintro e w14 ⟨rfl, hi, hb, hk⟩; refine ⟨_, rfl, ?_⟩; replace HK := kt HK hk; replace HB := Aside0.mk (hb); replace HI0 := Aside0.mk (hi); (try clear hb); (try clear hb2); (try clear hk); (try clear hi)) | ((with_reducible refine gate_callee (f := 59) rfl ?_); refine gB (some 22) Try.func59 #[.pointer (some ⟨g, 0, none⟩)] ?_; (with_reducible refine (spec_l1Byte.calls g s0_0 t112 t113 t114 t115 t116 w0 _ ?side1 ?side2 A10.out).mono ?_); (case side1 => repeat (first | (with_reducible first | exact HI0.out | apply IsS68.alloc | apply IsS68.drewN | apply IsS68.drew | apply IsS68.set_1 | apply IsS68.set_2) | exact HI0.out)); (case side2 => repeat (first | (with_reducible first | exact HB.out | apply below_alloc | apply pw_below_drewN | apply below_drew1 | refine below_set ?_ (IsS68.ge HI0.out)) | exact HB.out)); rintro e w15 ⟨rfl, hi, hb, hk⟩; refine ⟨_, rfl, ?_⟩; replace HK := kt HK hk; replace HB := Aside0.mk (hb); replace HI0 := Aside0.mk (hi); (try clear hb); (try clear hb2); (try clear hk); (try clear hi)) | ((with_reducible refine gate_callee (f := 59) rfl ?_); refine gB (some 24) Try.func59 #[.pointer (some ⟨g, 0, none⟩)] ?_; (with_reducible refine (spec_l1Byte.calls g s0_0 t115 t116 t117 t118 t119 w0 _ ?side1 ?side2 A11.out).mono ?_); (case side1 => repeat (first | (with_reducible first | exact HI0.out | apply IsS68.alloc | apply IsS68.drewN | apply IsS68.drew | apply IsS68.set_1 | apply IsS68.set_2) | exact HI0.out)); (case side2 => repeat (first | (with_reducible first | exact HB.out | apply below_alloc | apply pw_below_drewN | apply below_drew1 | refine below_set ?_ (IsS68.ge HI0.out)) | exact HB.out)); rintro e w16 ⟨rfl, hi, hb, hk⟩; refine ⟨_, rfl, ?_⟩; replace HK := kt HK hk; replace HB := Aside0.mk (hb); replace HI0 := Aside0.mk (hi); (try clear hb); (try clear hb2); (try clear hk); (try clear hi)))
 go_ret
 exact ⟨y0_16, y0_9, y0_8, hI HK.out⟩

/-! ### spec_SetHas: function 60 -/
def spec_SetHas.l0 : Nat → List Int → Int → Int → Option (Bool)
 | 0, _, _, _ => none
 | k + 1, x0, x1, x5 => if x5 < (x0.length : Int) then (if 0 ≤ x5 then (if (rd x0 x5) = x1 then (some true) else (spec_SetHas.l0 k x0 x1 (wrap64 (x5 + 1)))) else (none)) else (some false)
def spec_SetHas.f (k : Nat) (l0 : List Int) (a1 : Int) : Option (Bool) := spec_SetHas.l0 k l0 a1 0
theorem spec_SetHas.mono_l : ∀ k, (∀ y0 y1 y2, LeO (spec_SetHas.l0 k y0 y1 y2) (spec_SetHas.l0 (k + 1) y0 y1 y2))
 | 0 => fun _ _ _ r h => by simp [spec_SetHas.l0] at h
 | k + 1 => by
  have ih0 := spec_SetHas.mono_l k
  intro y0 y1 y2
  unfold spec_SetHas.l0
  repeat' first | (with_reducible exact ih0 _ _ _) | (with_reducible exact LeO.refl _) | (with_reducible exact LeO.none _) | (with_reducible refine LeO.ite ?_ ?_) | (with_reducible refine LeO.bind ?_ (fun _ => ?_))
theorem spec_SetHas.mono : ∀ a0 a1 k, LeO (spec_SetHas.f k a0 a1) (spec_SetHas.f (k + 1) a0 a1) := by
 intro a0 a1 k
 have ih0 := spec_SetHas.mono_l k
 unfold spec_SetHas.f
 repeat' first | (with_reducible exact ih0 _ _ _) | (with_reducible exact LeO.refl _) | (with_reducible exact LeO.none _) | (with_reducible refine LeO.ite ?_ ?_) | (with_reducible refine LeO.bind ?_ (fun _ => ?_))
set_option maxHeartbeats 8000000 in
set_option maxRecDepth 100000 in
theorem spec_SetHas.calls (k : Nat) (A0 : Option Addr) (c0 : Nat) (l0 : List Int) (a1 : Int) (r : Bool) (w : World) (hr0 : Kd.C (Kd.int .i64) w A0 l0.length l0) (hc0 : l0.length ≤ c0) (h : spec_SetHas.f k l0 a1 = some r) :
  Calls Try.prog 60 #[.slice A0 l0.length c0, .int .i64 a1] w fun e w' => e = .returned (.bool r) ∧ Drawn0 w w' := by
 have HR0 := Aside0.mk hr0; have HC0 := Aside0.mk hc0; clear hr0 hc0; have H : (spec_SetHas.l0 k l0 a1 0) = some r := h; clear h; have H' := Aside0.mk H; clear H
 go_enter Try.func60, Try.ntmps60
 go_wp2
 go_loopg [5] k (fun kq v5 w' => ∃ (x5_1 : Int), v5 = .int .i64 x5_1 ∧ Aside0 (spec_SetHas.l0 kq l0 a1 x5_1 = some r) ∧ Aside0 (kq ≤ k) ∧ Drawn0 w w')
 case atStart => exact ⟨(0), y0_21, H', ⟨Nat.le_refl _⟩, y0_18⟩
 case round =>
  clear H'
  try clear p2
  obtain ⟨x5_1, rfl, HA, HK1, ⟨m1, rfl⟩⟩ := hrel; cases gk with
  | zero => exact absurd HA.out (by simp [spec_SetHas.l0])
  | succ k1 =>
   have H := HA.out; clear HA
   simp only [spec_SetHas.l0] at H
   by_cases c3 : x5_1 < (l0.length : Int)
   ·
    rw [if_pos c3] at H
    have c3b0 : decide (x5_1 < (l0.length : Int)) = true := decide_eq_true c3; clear c3
    by_cases c4 : 0 ≤ x5_1
    rotate_left
    ·
     rw [if_neg c4] at H
     exact absurd H (by simp)
    rw [if_pos c4] at H
    have c4b0 : decide (0 ≤ x5_1) = true := decide_eq_true c4; clear c4
    by_cases c5 : (rd l0 x5_1) = a1
    ·
     rw [if_pos c5] at H
     have c5b0 : ((rd l0 x5_1) == a1) = true := beq_iff_eq.mpr c5; have c5b1 : ((rd l0 x5_1) != a1) = false := bne_eq_false_iff_eq.mpr c5; clear c5; obtain rfl := Option.some.inj H; have p120 : 0 ≤ (x5_1 : Int) := of_decide_eq_true y0_20; have q120 : x5_1 < (l0.length : Int) := of_decide_eq_true y0_20; obtain ⟨ad120, e120, hx120_0⟩ := Kd.at_int HR0.out x5_1 p120 q120; cases e120; replace p120 := eq_true p120; replace q120 := eq_true q120
     go_wp2
     go_ret
     exact ⟨y0_21, y0_18⟩
    rw [if_neg c5] at H
    have c5b0 : ((rd l0 x5_1) == a1) = false := beq_eq_false_iff_ne.mpr c5; have c5b1 : ((rd l0 x5_1) != a1) = true := bne_iff_ne.mpr c5; have H' := Aside0.mk H; clear H; have p120 : 0 ≤ (x5_1 : Int) := of_decide_eq_true y0_20; have q120 : x5_1 < (l0.length : Int) := of_decide_eq_true y0_20; obtain ⟨ad120, e120, hx120_0⟩ := Kd.at_int HR0.out x5_1 p120 q120; cases e120; replace p120 := eq_true p120; replace q120 := eq_true q120
    go_wp2
    go_roundg k1
    case measure => have := HK1.out; omega
    case rel => exact ⟨(wrap64 (x5_1 + 1)), y0_21, H', ⟨y0_25⟩, y0_18⟩
   rw [if_neg c3] at H
   have c3b0 : decide (x5_1 < (l0.length : Int)) = false := decide_eq_false c3; clear c3; obtain rfl := Option.some.inj H
   go_wp2
   go_ret
   exact ⟨y0_21, y0_18⟩

/-! ### spec_SetAdd: function 48 -/
def spec_SetAdd.l0 : Nat → List Int → Int → Int → Option (List Int)
 | 0, _, _, _ => none
 | k + 1, x0, x1, x5 => if x5 < (x0.length : Int) then (if 0 ≤ x5 then (if (rd x0 x5) < x1 then (spec_SetAdd.l0 k x0 x1 (wrap64 (x5 + 1))) else ((some (([] : List Int) : List Int)).bind fun y129 => (if x5 ≤ (x0.length : Int) then (if y129.length + (x0.take (x5 : Int).toNat).length < 17592186044416 then ((some (y129 ++ (x0.take (x5 : Int).toNat) : List Int)).bind fun y133 => (if y133.length < 17592186044416 then ((some (y133 ++ [x1] : List Int)).bind fun y136 => (if y136.length + (x0.drop (x5 : Int).toNat).length < 17592186044416 then (some (y136 ++ (x0.drop (x5 : Int).toNat))) else (none))) else (none))) else (none)) else (none)))) else (none)) else ((some (([] : List Int) : List Int)).bind fun y143 => (if 0 ≤ x5 then (if x5 ≤ (x0.length : Int) then (if y143.length + (x0.take (x5 : Int).toNat).length < 17592186044416 then ((some (y143 ++ (x0.take (x5 : Int).toNat) : List Int)).bind fun y147 => (if y147.length < 17592186044416 then ((some (y147 ++ [x1] : List Int)).bind fun y150 => (if y150.length + (x0.drop (x5 : Int).toNat).length < 17592186044416 then (some (y150 ++ (x0.drop (x5 : Int).toNat))) else (none))) else (none))) else (none)) else (none)) else (none)))
def spec_SetAdd.f (k : Nat) (l0 : List Int) (a1 : Int) : Option (List Int) := (spec_SetHas.f k l0 a1).bind fun t121 => (if t121 = true then ((some (([] : List Int) : List Int)).bind fun y122 => (if y122.length + l0.length < 17592186044416 then (some (y122 ++ l0)) else (none))) else (spec_SetAdd.l0 k l0 a1 0))
theorem spec_SetAdd.mono_l : ∀ k, (∀ y0 y1 y2, LeO (spec_SetAdd.l0 k y0 y1 y2) (spec_SetAdd.l0 (k + 1) y0 y1 y2))
 | 0 => fun _ _ _ r h => by simp [spec_SetAdd.l0] at h
 | k + 1 => by
  have ih0 := spec_SetAdd.mono_l k
  intro y0 y1 y2
  unfold spec_SetAdd.l0
  repeat' first | (with_reducible exact ih0 _ _ _) | (with_reducible exact spec_SetHas.mono _ _ _) | (with_reducible exact LeO.refl _) | (with_reducible exact LeO.none _) | (with_reducible refine LeO.ite ?_ ?_) | (with_reducible refine LeO.bind ?_ (fun _ => ?_))
theorem spec_SetAdd.mono : ∀ a0 a1 k, LeO (spec_SetAdd.f k a0 a1) (spec_SetAdd.f (k + 1) a0 a1) := by
 intro a0 a1 k
 have ih0 := spec_SetAdd.mono_l k
 unfold spec_SetAdd.f
 repeat' first | (with_reducible exact ih0 _ _ _) | (with_reducible exact spec_SetHas.mono _ _ _) | (with_reducible exact LeO.refl _) | (with_reducible exact LeO.none _) | (with_reducible refine LeO.ite ?_ ?_) | (with_reducible refine LeO.bind ?_ (fun _ => ?_))
set_option maxHeartbeats 8000000 in
set_option maxRecDepth 100000 in
theorem spec_SetAdd.calls (k : Nat) (A0 : Option Addr) (c0 : Nat) (l0 : List Int) (a1 : Int) (r : List Int) (w : World) (hr0 : Kd.C (Kd.int .i64) w A0 l0.length l0) (hc0 : l0.length ≤ c0) (h : spec_SetAdd.f k l0 a1 = some r) :
  Calls Try.prog 48 #[.slice A0 l0.length c0, .int .i64 a1] w fun e w' => ∃ v0_ : Value, e = .returned (v0_) ∧ Kd.R (Kd.int .i64) 3 w' w.heap.size (fun _ => True) v0_ r ∧ Below w.heap.size w w' := by
 have HR0 := Aside0.mk hr0; have HC0 := Aside0.mk hc0; clear hr0 hc0; have HB := Aside0.mk (Below.refl w.heap.size w)
 have H : ((spec_SetHas.f k l0 a1).bind fun t121 => (if t121 = true then ((some (([] : List Int) : List Int)).bind fun y122 => (if y122.length + l0.length < 17592186044416 then (some (y122 ++ l0)) else (none))) else (spec_SetAdd.l0 k l0 a1 0))) = some r := h
 clear h; obtain ⟨t121, A30, H⟩ := Option.bind_eq_some_iff.mp H
 try dsimp only at H
 have A3 := Aside0.mk A30; clear A30
 by_cases c4 : t121 = true
 ·
  subst c4
  rw [if_pos rfl] at H
  obtain ⟨y122, hy122⟩ : ∃ y_ : List Int, y_ = (([] : List Int)) := ⟨_, rfl⟩
  replace H : (if y122.length + l0.length < 17592186044416 then (some (y122 ++ l0)) else (none)) = some r := by first | (rw [hy122]; with_reducible exact H) | (have H2_ := (Option.bind_some _ _).symm.trans H; rw [hy122]; with_reducible exact H2_) | (have H2_ := (Option.bind_some _ _).symm.trans H; with_reducible exact H2_) | with_reducible exact H | (rw [hy122]; exact H) | exact H
  have Ny122 := Aside0.mk hy122; clear hy122
  by_cases c5 : y122.length + l0.length < 17592186044416
  rotate_left
  ·
   rw [if_neg c5] at H
   exact absurd H (by simp)
  rw [if_pos c5] at H
  have LMc5 := Aside0.mk c5; clear c5; obtain ⟨y125, hy125⟩ : ∃ y_ : List Int, y_ = (y122 ++ l0) := ⟨_, rfl⟩
  replace H : (some y125) = some r := by first | (rw [hy125]; with_reducible exact H) | (have H2_ := (Option.bind_some _ _).symm.trans H; rw [hy125]; with_reducible exact H2_) | (have H2_ := (Option.bind_some _ _).symm.trans H; with_reducible exact H2_) | with_reducible exact H | (rw [hy125]; exact H) | exact H
  have Ny125 := Aside0.mk hy125; clear hy125; obtain rfl := Option.some.inj H
  go_enter Try.func48, Try.ntmps48
  go_wp2_with (first | ((with_reducible refine gate_callee (f := 60) rfl ?_); refine gB (some 9) Try.func60 #[.slice A0 l0.length c0, .int .i64 a1] ?_; (with_reducible refine (spec_SetHas.calls k _ _ l0 a1 true _ ?side1 ?side2 A3.out).mono ?_); (case side1 => exact cI HR0.out); (case side2 => exact HC0.out); rintro e w' ⟨rfl, ⟨nd, rfl⟩⟩; refine ⟨_, rfl, ?_⟩) | ((with_reducible refine gate_dst (N := 10) rfl ?_); refine Kd.R_lit (Kd.int .i64) _ 3 ?hg (N := 10) ?hd (xs := ([] : List Int)) (inner := []) (ok := fun _ => True) (okp := fun _ => True) ?hr ?hp (fun _ hk => hk) trivial (Below.refl _ _) (Nat.le_refl _) (by simp) ?_; (case hd => rfl); (case hg => rfl); (case hr => first | (go_simp; done) | (go_simp; rfl)); (case hp => exact (Reps.none _ _)); intro v123 w6 ho7 hb hg_ hnew_; clear hg_ hnew_; (first | rw [← Ny122.out] at ho7 | (simp only [Int.reduceToNat] at ho7; rw [← Ny122.out] at ho7)); have HO124 := Aside0.mk (Kd.R_lower ho7 (below_size (bI HB.out))); replace HB := bs HB hb; clear hb ho7) | ((with_reducible refine gate_builtin (b := .append) (xs := #[.tmp 10, .tmp 11]) rfl ?_); at_builtin; refine Kd.R_append_rows (Kd.int .i64) (w0 := w) w.heap.size rfl (.tmp 10) (.tmp 11) 22 3 (.int .i64 0) 8 rfl Try.underlying22 info3 rfl (by decide) (by omega) v123 y122 l0 _ _ _ (fun _ => True) (fun _ => False) rfl rfl ?aO ?aR (fun _ _ h => h) (fun _ h => h.elim) ?aF ?aB ?aS ?aL ?_; (case aR => exact ch HR0 HB); (case aB => exact (bI HB.out)); (case aF => exact (fun _ _ => trivial)); (case aO => exact (rI HO124.out)); (case aS => exact (below_size (bI HB.out))); (case aL => have := LMc5.out; omega); intro v126 w8 ho hb hg hat; rw [← Ny125.out] at ho; have n0_ := Aside0.mk (hb); have n1_ := Aside0.mk (ho); clear HB; clear HO124; have HB := n0_; have HO127 := n1_; clear n0_ n1_; clear ho hb hg hat))
  go_ret
  exact ⟨_, y0_16, by (with_reducible repeat (first | apply Kd.R_alloc | apply Kd.R_drewN | apply Kd.R_drew)); exact HO127.out, bI HB.out⟩
 replace c4 := Bool.eq_false_iff.mpr c4; subst c4
 rw [if_neg (show ¬ (false = true) by decide)] at H
 have H' := Aside0.mk H; clear H
 go_enter Try.func48, Try.ntmps48
 go_wp2_with (first | ((with_reducible refine gate_callee (f := 60) rfl ?_); refine gB (some 9) Try.func60 #[.slice A0 l0.length c0, .int .i64 a1] ?_; (with_reducible refine (spec_SetHas.calls k _ _ l0 a1 false _ ?side1 ?side2 A3.out).mono ?_); (case side1 => exact cI HR0.out); (case side2 => exact HC0.out); rintro e w' ⟨rfl, ⟨nd, rfl⟩⟩; refine ⟨_, rfl, ?_⟩))
 go_loopg [5] k (fun kq v5 w' => ∃ (x5_1 : Int), v5 = .int .i64 x5_1 ∧ Aside0 (spec_SetAdd.l0 kq l0 a1 x5_1 = some r) ∧ Aside0 (kq ≤ k) ∧ Aside0 (Below w.heap.size w w'))
 case atStart => exact ⟨(0), y0_21, H', ⟨Nat.le_refl _⟩, ⟨bI HB.out⟩⟩
 case round =>
  clear H'
  try clear p2
  try clear c4
  try clear c5
  try clear c6
  obtain ⟨x5_1, rfl, HA, HK1, HB⟩ := hrel; cases gk with
  | zero => exact absurd HA.out (by simp [spec_SetAdd.l0])
  | succ k1 =>
   have H := HA.out; clear HA
   simp only [spec_SetAdd.l0] at H
   by_cases c9 : x5_1 < (l0.length : Int)
   ·
    rw [if_pos c9] at H
    have c9b0 : decide (x5_1 < (l0.length : Int)) = true := decide_eq_true c9; clear c9
    by_cases c10 : 0 ≤ x5_1
    rotate_left
    ·
     rw [if_neg c10] at H
     exact absurd H (by simp)
    rw [if_pos c10] at H
    have c10b0 : decide (0 ≤ x5_1) = true := decide_eq_true c10; clear c10
    by_cases c11 : (rd l0 x5_1) < a1
    ·
     rw [if_pos c11] at H
     have c11b0 : decide ((rd l0 x5_1) < a1) = true := decide_eq_true c11; clear c11; have H' := Aside0.mk H; clear H; have p128 : 0 ≤ (x5_1 : Int) := of_decide_eq_true y0_20; have q128 : x5_1 < (l0.length : Int) := of_decide_eq_true y0_20; obtain ⟨ad128, e128, hx128_0⟩ := Kd.at_int HR0.out x5_1 p128 q128; cases e128; replace hx128_0 := bx HB hx128_0; replace p128 := eq_true p128; replace q128 := eq_true q128
     go_wp2
     go_roundg k1
     case measure => have := HK1.out; omega
     case rel => exact ⟨(wrap64 (x5_1 + 1)), y0_21, H', ⟨y0_25⟩, ⟨bI HB.out⟩⟩
    rw [if_neg c11] at H
    have c11b0 : decide ((rd l0 x5_1) < a1) = false := decide_eq_false c11; clear c11; obtain ⟨y129, hy129⟩ : ∃ y_ : List Int, y_ = (([] : List Int)) := ⟨_, rfl⟩
    replace H : (if x5_1 ≤ (l0.length : Int) then (if y129.length + (l0.take (x5_1 : Int).toNat).length < 17592186044416 then ((some (y129 ++ (l0.take (x5_1 : Int).toNat) : List Int)).bind fun y133 => (if y133.length < 17592186044416 then ((some (y133 ++ [a1] : List Int)).bind fun y136 => (if y136.length + (l0.drop (x5_1 : Int).toNat).length < 17592186044416 then (some (y136 ++ (l0.drop (x5_1 : Int).toNat))) else (none))) else (none))) else (none)) else (none)) = some r := by first | (rw [hy129]; with_reducible exact H) | (have H2_ := (Option.bind_some _ _).symm.trans H; rw [hy129]; with_reducible exact H2_) | (have H2_ := (Option.bind_some _ _).symm.trans H; with_reducible exact H2_) | with_reducible exact H | (rw [hy129]; exact H) | exact H
    have Ny129 := Aside0.mk hy129; clear hy129; have c12b0 := eq_true (of_decide_eq_true y0_20 : 0 ≤ x5_1)
    by_cases c13 : x5_1 ≤ (l0.length : Int)
    rotate_left
    ·
     rw [if_neg c13] at H
     exact absurd H (by simp)
    rw [if_pos c13] at H
    have c13b0 := eq_true c13; have c13b1 : decide (x5_1 ≤ (l0.length : Int)) = true := decide_eq_true c13; clear c13
    by_cases c14 : y129.length + (l0.take (x5_1 : Int).toNat).length < 17592186044416
    rotate_left
    ·
     rw [if_neg c14] at H
     exact absurd H (by simp)
    rw [if_pos c14] at H
    have LMc14 := Aside0.mk c14; clear c14; obtain ⟨y133, hy133⟩ : ∃ y_ : List Int, y_ = (y129 ++ (l0.take (x5_1 : Int).toNat)) := ⟨_, rfl⟩
    replace H : (if y133.length < 17592186044416 then ((some (y133 ++ [a1] : List Int)).bind fun y136 => (if y136.length + (l0.drop (x5_1 : Int).toNat).length < 17592186044416 then (some (y136 ++ (l0.drop (x5_1 : Int).toNat))) else (none))) else (none)) = some r := by first | (rw [hy133]; with_reducible exact H) | (have H2_ := (Option.bind_some _ _).symm.trans H; rw [hy133]; with_reducible exact H2_) | (have H2_ := (Option.bind_some _ _).symm.trans H; with_reducible exact H2_) | with_reducible exact H | (rw [hy133]; exact H) | exact H
    have Ny133 := Aside0.mk hy133; clear hy133
    by_cases c15 : y133.length < 17592186044416
    rotate_left
    ·
     rw [if_neg c15] at H
     exact absurd H (by simp)
    rw [if_pos c15] at H
    have LMc15 := Aside0.mk c15; clear c15; obtain ⟨y136, hy136⟩ : ∃ y_ : List Int, y_ = (y133 ++ [a1]) := ⟨_, rfl⟩
    replace H : (if y136.length + (l0.drop (x5_1 : Int).toNat).length < 17592186044416 then (some (y136 ++ (l0.drop (x5_1 : Int).toNat))) else (none)) = some r := by first | (rw [hy136]; with_reducible exact H) | (have H2_ := (Option.bind_some _ _).symm.trans H; rw [hy136]; with_reducible exact H2_) | (have H2_ := (Option.bind_some _ _).symm.trans H; with_reducible exact H2_) | with_reducible exact H | (rw [hy136]; exact H) | exact H
    have Ny136 := Aside0.mk hy136; clear hy136; have c16b0 := eq_true (of_decide_eq_true y0_20 : 0 ≤ x5_1); have c17b0 := eq_true (of_decide_eq_true y0_20 : x5_1 ≤ (l0.length : Int))
    by_cases c18 : y136.length + (l0.drop (x5_1 : Int).toNat).length < 17592186044416
    rotate_left
    ·
     rw [if_neg c18] at H
     exact absurd H (by simp)
    rw [if_pos c18] at H
    have LMc18 := Aside0.mk c18; clear c18; obtain ⟨y140, hy140⟩ : ∃ y_ : List Int, y_ = (y136 ++ (l0.drop (x5_1 : Int).toNat)) := ⟨_, rfl⟩
    replace H : (some y140) = some r := by first | (rw [hy140]; with_reducible exact H) | (have H2_ := (Option.bind_some _ _).symm.trans H; rw [hy140]; with_reducible exact H2_) | (have H2_ := (Option.bind_some _ _).symm.trans H; with_reducible exact H2_) | with_reducible exact H | (rw [hy140]; exact H) | exact H
    have Ny140 := Aside0.mk hy140; clear hy140; obtain rfl := Option.some.inj H; have p128 : 0 ≤ (x5_1 : Int) := of_decide_eq_true y0_20; have q128 : x5_1 < (l0.length : Int) := of_decide_eq_true y0_20; obtain ⟨ad128, e128, hx128_0⟩ := Kd.at_int HR0.out x5_1 p128 q128; cases e128; replace hx128_0 := bx HB hx128_0; replace p128 := eq_true p128; replace q128 := eq_true q128
    go_wp2_with (first | ((with_reducible refine gate_dst (N := 27) rfl ?_); refine Kd.R_lit (Kd.int .i64) _ 3 ?hg (N := 27) ?hd (xs := ([] : List Int)) (inner := []) (ok := fun _ => True) (okp := fun _ => True) ?hr ?hp (fun _ hk => hk) trivial (Below.refl _ _) (Nat.le_refl _) (by simp) ?_; (case hd => rfl); (case hg => rfl); (case hr => first | (go_simp; done) | (go_simp; rfl)); (case hp => exact (Reps.none _ _)); intro v130 w19 ho20 hb hg_ hnew_; clear hg_ hnew_; (first | rw [← Ny129.out] at ho20 | (simp only [Int.reduceToNat] at ho20; rw [← Ny129.out] at ho20)); have HO131 := Aside0.mk (Kd.R_lower ho20 (below_size (bI HB.out))); replace HB := bs HB hb; clear hb ho20; obtain ⟨i021, hi021, _, hsz21, _⟩ := info_parts info3; obtain ⟨hcut21, hA21, hC21⟩ := print_take_of (P := Try.prog) (Value.int .i64) 0 22 3 .i64 Try.underlying22 hi021 hsz21 (some ad128) c0 l0 x5_1 (of_decide_eq_true y0_20) (of_decide_eq_true y0_20) HC0.out; have HR132 := Aside0.mk (Kd.C_of_reads (h1 := fun _ => rfl) (hA21 _ (Kd.reads_of_C HR0.out))); have HC132 := Aside0.mk hC21; clear hA21 hC21 hi021 hsz21) | ((with_reducible refine gate_builtin (b := .append) (xs := #[.tmp 27, .tmp 30]) rfl ?_); at_builtin; refine Kd.R_append_rows (Kd.int .i64) (w0 := w) w.heap.size rfl (.tmp 27) (.tmp 30) 22 3 (.int .i64 0) 8 rfl Try.underlying22 info3 rfl (by decide) (by omega) v130 y129 (l0.take (x5_1 : Int).toNat) _ _ _ (fun _ => True) (fun _ => False) rfl rfl ?aO ?aR (fun _ _ h => h) (fun _ h => h.elim) ?aF ?aB ?aS ?aL ?_; (case aR => first | exact cE (show (l0.take (x5_1 : Int).toNat).length = x5_1.toNat from y0_10) (Kd.C_below HR132.out HB.out) | (exact ch HR132 HB)); (case aB => exact (bI HB.out)); (case aF => exact (fun _ _ => trivial)); (case aO => exact (rI HO131.out)); (case aS => exact (below_size (bI HB.out))); (case aL => have := LMc14.out; have hlx_ := (show (l0.take (x5_1 : Int).toNat).length = x5_1.toNat from y0_10); omega); intro v134 w22 ho hb hg hat; rw [← Ny133.out] at ho; have n0_ := Aside0.mk (hb); have n1_ := Aside0.mk (ho); clear HB; clear HO131; have HB := n0_; have HO135 := n1_; clear n0_ n1_; clear ho hb hg hat) | ((with_reducible refine gate_builtin (b := .append) (xs := #[.tmp 32, .tmp 34]) rfl ?_); at_builtin; refine Kd.R_append (Kd.int .i64) (w0 := w) w.heap.size rfl (.tmp 32) (.tmp 34) 22 3 (.int .i64 0) 8 rfl Try.underlying22 info3 rfl (by decide) (by omega) v134 y133 a1 [.int .i64 a1] (fun _ => True) (fun _ => False) rfl rfl ?aP (fun _ hk => hk.elim) ?aF ?aO ?aB ?aS ?aL ?_; (case aP => exact rfl); (case aB => exact (bI HB.out)); (case aF => exact (fun _ _ => trivial)); (case aO => exact (rI HO135.out)); (case aS => exact (below_size (bI HB.out))); (case aL => have := LMc15.out; omega); intro v137 w23 ho hb hg hat; rw [← Ny136.out] at ho; have n0_ := Aside0.mk (hb); have n1_ := Aside0.mk (ho); clear HB; clear HO135; have HB := n0_; have HO138 := n1_; clear n0_ n1_; clear ho hb hg hat; obtain ⟨i024, hi024, _, hsz24, _⟩ := info_parts info3; obtain ⟨A24, hcut24, hA24, hC24⟩ := print_drop_of (P := Try.prog) (Value.int .i64) 0 22 3 .i64 Try.underlying22 hi024 hsz24 (some ad128) c0 l0 x5_1 (of_decide_eq_true y0_20) (of_decide_eq_true y0_20) HC0.out; have HR139 := Aside0.mk (Kd.C_of_reads (h1 := fun _ => rfl) (hA24 _ (Kd.reads_of_C HR0.out))); have HC139 := Aside0.mk hC24; clear hA24 hC24 hi024 hsz24) | ((with_reducible refine gate_builtin (b := .append) (xs := #[.tmp 36, .tmp 39]) rfl ?_); at_builtin; refine Kd.R_append_rows (Kd.int .i64) (w0 := w) w.heap.size rfl (.tmp 36) (.tmp 39) 22 3 (.int .i64 0) 8 rfl Try.underlying22 info3 rfl (by decide) (by omega) v137 y136 (l0.drop (x5_1 : Int).toNat) _ _ _ (fun _ => True) (fun _ => False) rfl rfl ?aO ?aR (fun _ _ h => h) (fun _ h => h.elim) ?aF ?aB ?aS ?aL ?_; (case aR => first | exact cE (show (l0.drop (x5_1 : Int).toNat).length = (l0.length - x5_1.toNat) from List.length_drop) (Kd.C_below HR139.out HB.out) | (exact ch HR139 HB)); (case aB => exact (bI HB.out)); (case aF => exact (fun _ _ => trivial)); (case aO => exact (rI HO138.out)); (case aS => exact (below_size (bI HB.out))); (case aL => have := LMc18.out; have hlx_ := (show (l0.drop (x5_1 : Int).toNat).length = (l0.length - x5_1.toNat) from List.length_drop); omega); intro v141 w25 ho hb hg hat; rw [← Ny140.out] at ho; have n0_ := Aside0.mk (hb); have n1_ := Aside0.mk (ho); clear HB; clear HO138; have HB := n0_; have HO142 := n1_; clear n0_ n1_; clear ho hb hg hat))
    go_ret
    exact ⟨_, y0_16, by (with_reducible repeat (first | apply Kd.R_alloc | apply Kd.R_drewN | apply Kd.R_drew)); exact HO142.out, bI HB.out⟩
   rw [if_neg c9] at H
   have c9b0 : decide (x5_1 < (l0.length : Int)) = false := decide_eq_false c9; clear c9; obtain ⟨y143, hy143⟩ : ∃ y_ : List Int, y_ = (([] : List Int)) := ⟨_, rfl⟩
   replace H : (if 0 ≤ x5_1 then (if x5_1 ≤ (l0.length : Int) then (if y143.length + (l0.take (x5_1 : Int).toNat).length < 17592186044416 then ((some (y143 ++ (l0.take (x5_1 : Int).toNat) : List Int)).bind fun y147 => (if y147.length < 17592186044416 then ((some (y147 ++ [a1] : List Int)).bind fun y150 => (if y150.length + (l0.drop (x5_1 : Int).toNat).length < 17592186044416 then (some (y150 ++ (l0.drop (x5_1 : Int).toNat))) else (none))) else (none))) else (none)) else (none)) else (none)) = some r := by first | (rw [hy143]; with_reducible exact H) | (have H2_ := (Option.bind_some _ _).symm.trans H; rw [hy143]; with_reducible exact H2_) | (have H2_ := (Option.bind_some _ _).symm.trans H; with_reducible exact H2_) | with_reducible exact H | (rw [hy143]; exact H) | exact H
   have Ny143 := Aside0.mk hy143; clear hy143
   by_cases c26 : 0 ≤ x5_1
   ·
    rw [if_pos c26] at H
    have c26b0 := eq_true c26; have c26b1 : decide (0 ≤ x5_1) = true := decide_eq_true c26; clear c26
    by_cases c27 : x5_1 ≤ (l0.length : Int)
    rotate_left
    ·
     rw [if_neg c27] at H
     exact absurd H (by simp)
    rw [if_pos c27] at H
    have c27b0 := eq_true c27; have c27b1 : decide (x5_1 ≤ (l0.length : Int)) = true := decide_eq_true c27; clear c27
    by_cases c28 : y143.length + (l0.take (x5_1 : Int).toNat).length < 17592186044416
    rotate_left
    ·
     rw [if_neg c28] at H
     exact absurd H (by simp)
    rw [if_pos c28] at H
    have LMc28 := Aside0.mk c28; clear c28; obtain ⟨y147, hy147⟩ : ∃ y_ : List Int, y_ = (y143 ++ (l0.take (x5_1 : Int).toNat)) := ⟨_, rfl⟩
    replace H : (if y147.length < 17592186044416 then ((some (y147 ++ [a1] : List Int)).bind fun y150 => (if y150.length + (l0.drop (x5_1 : Int).toNat).length < 17592186044416 then (some (y150 ++ (l0.drop (x5_1 : Int).toNat))) else (none))) else (none)) = some r := by first | (rw [hy147]; with_reducible exact H) | (have H2_ := (Option.bind_some _ _).symm.trans H; rw [hy147]; with_reducible exact H2_) | (have H2_ := (Option.bind_some _ _).symm.trans H; with_reducible exact H2_) | with_reducible exact H | (rw [hy147]; exact H) | exact H
    have Ny147 := Aside0.mk hy147; clear hy147
    by_cases c29 : y147.length < 17592186044416
    rotate_left
    ·
     rw [if_neg c29] at H
     exact absurd H (by simp)
    rw [if_pos c29] at H
    have LMc29 := Aside0.mk c29; clear c29; obtain ⟨y150, hy150⟩ : ∃ y_ : List Int, y_ = (y147 ++ [a1]) := ⟨_, rfl⟩
    replace H : (if y150.length + (l0.drop (x5_1 : Int).toNat).length < 17592186044416 then (some (y150 ++ (l0.drop (x5_1 : Int).toNat))) else (none)) = some r := by first | (rw [hy150]; with_reducible exact H) | (have H2_ := (Option.bind_some _ _).symm.trans H; rw [hy150]; with_reducible exact H2_) | (have H2_ := (Option.bind_some _ _).symm.trans H; with_reducible exact H2_) | with_reducible exact H | (rw [hy150]; exact H) | exact H
    have Ny150 := Aside0.mk hy150; clear hy150; have c30b0 := eq_true (of_decide_eq_true y0_20 : 0 ≤ x5_1); have c31b0 := eq_true (of_decide_eq_true y0_20 : x5_1 ≤ (l0.length : Int))
    by_cases c32 : y150.length + (l0.drop (x5_1 : Int).toNat).length < 17592186044416
    rotate_left
    ·
     rw [if_neg c32] at H
     exact absurd H (by simp)
    rw [if_pos c32] at H
    have LMc32 := Aside0.mk c32; clear c32; obtain ⟨y154, hy154⟩ : ∃ y_ : List Int, y_ = (y150 ++ (l0.drop (x5_1 : Int).toNat)) := ⟨_, rfl⟩
    replace H : (some y154) = some r := by first | (rw [hy154]; with_reducible exact H) | (have H2_ := (Option.bind_some _ _).symm.trans H; rw [hy154]; with_reducible exact H2_) | (have H2_ := (Option.bind_some _ _).symm.trans H; with_reducible exact H2_) | with_reducible exact H | (rw [hy154]; exact H) | exact H
    have Ny154 := Aside0.mk hy154; clear hy154; obtain rfl := Option.some.inj H
    go_wp2_with (first | ((with_reducible refine gate_dst (N := 27) rfl ?_); refine Kd.R_lit (Kd.int .i64) _ 3 ?hg (N := 27) ?hd (xs := ([] : List Int)) (inner := []) (ok := fun _ => True) (okp := fun _ => True) ?hr ?hp (fun _ hk => hk) trivial (Below.refl _ _) (Nat.le_refl _) (by simp) ?_; (case hd => rfl); (case hg => rfl); (case hr => first | (go_simp; done) | (go_simp; rfl)); (case hp => exact (Reps.none _ _)); intro v144 w33 ho34 hb hg_ hnew_; clear hg_ hnew_; (first | rw [← Ny143.out] at ho34 | (simp only [Int.reduceToNat] at ho34; rw [← Ny143.out] at ho34)); have HO145 := Aside0.mk (Kd.R_lower ho34 (below_size (bI HB.out))); replace HB := bs HB hb; clear hb ho34; obtain ⟨i035, hi035, _, hsz35, _⟩ := info_parts info3; obtain ⟨hcut35, hA35, hC35⟩ := print_take_of (P := Try.prog) (Value.int .i64) 0 22 3 .i64 Try.underlying22 hi035 hsz35 A0 c0 l0 x5_1 (of_decide_eq_true y0_20) (of_decide_eq_true y0_20) HC0.out; have HR146 := Aside0.mk (Kd.C_of_reads (h1 := fun _ => rfl) (hA35 _ (Kd.reads_of_C HR0.out))); have HC146 := Aside0.mk hC35; clear hA35 hC35 hi035 hsz35) | ((with_reducible refine gate_builtin (b := .append) (xs := #[.tmp 27, .tmp 30]) rfl ?_); at_builtin; refine Kd.R_append_rows (Kd.int .i64) (w0 := w) w.heap.size rfl (.tmp 27) (.tmp 30) 22 3 (.int .i64 0) 8 rfl Try.underlying22 info3 rfl (by decide) (by omega) v144 y143 (l0.take (x5_1 : Int).toNat) _ _ _ (fun _ => True) (fun _ => False) rfl rfl ?aO ?aR (fun _ _ h => h) (fun _ h => h.elim) ?aF ?aB ?aS ?aL ?_; (case aR => first | exact cE (show (l0.take (x5_1 : Int).toNat).length = x5_1.toNat from y0_10) (Kd.C_below HR146.out HB.out) | (exact ch HR146 HB)); (case aB => exact (bI HB.out)); (case aF => exact (fun _ _ => trivial)); (case aO => exact (rI HO145.out)); (case aS => exact (below_size (bI HB.out))); (case aL => have := LMc28.out; have hlx_ := (show (l0.take (x5_1 : Int).toNat).length = x5_1.toNat from y0_10); omega); intro v148 w36 ho hb hg hat; rw [← Ny147.out] at ho; have n0_ := Aside0.mk (hb); have n1_ := Aside0.mk (ho); clear HB; clear HO145; have HB := n0_; have HO149 := n1_; clear n0_ n1_; clear ho hb hg hat) | ((with_reducible refine gate_builtin (b := .append) (xs := #[.tmp 32, .tmp 34]) rfl ?_); at_builtin; refine Kd.R_append (Kd.int .i64) (w0 := w) w.heap.size rfl (.tmp 32) (.tmp 34) 22 3 (.int .i64 0) 8 rfl Try.underlying22 info3 rfl (by decide) (by omega) v148 y147 a1 [.int .i64 a1] (fun _ => True) (fun _ => False) rfl rfl ?aP (fun _ hk => hk.elim) ?aF ?aO ?aB ?aS ?aL ?_; (case aP => exact rfl); (case aB => exact (bI HB.out)); (case aF => exact (fun _ _ => trivial)); (case aO => exact (rI HO149.out)); (case aS => exact (below_size (bI HB.out))); (case aL => have := LMc29.out; omega); intro v151 w37 ho hb hg hat; rw [← Ny150.out] at ho; have n0_ := Aside0.mk (hb); have n1_ := Aside0.mk (ho); clear HB; clear HO149; have HB := n0_; have HO152 := n1_; clear n0_ n1_; clear ho hb hg hat; obtain ⟨i038, hi038, _, hsz38, _⟩ := info_parts info3; obtain ⟨A38, hcut38, hA38, hC38⟩ := print_drop_of (P := Try.prog) (Value.int .i64) 0 22 3 .i64 Try.underlying22 hi038 hsz38 A0 c0 l0 x5_1 (of_decide_eq_true y0_20) (of_decide_eq_true y0_20) HC0.out; have HR153 := Aside0.mk (Kd.C_of_reads (h1 := fun _ => rfl) (hA38 _ (Kd.reads_of_C HR0.out))); have HC153 := Aside0.mk hC38; clear hA38 hC38 hi038 hsz38) | ((with_reducible refine gate_builtin (b := .append) (xs := #[.tmp 36, .tmp 39]) rfl ?_); at_builtin; refine Kd.R_append_rows (Kd.int .i64) (w0 := w) w.heap.size rfl (.tmp 36) (.tmp 39) 22 3 (.int .i64 0) 8 rfl Try.underlying22 info3 rfl (by decide) (by omega) v151 y150 (l0.drop (x5_1 : Int).toNat) _ _ _ (fun _ => True) (fun _ => False) rfl rfl ?aO ?aR (fun _ _ h => h) (fun _ h => h.elim) ?aF ?aB ?aS ?aL ?_; (case aR => first | exact cE (show (l0.drop (x5_1 : Int).toNat).length = (l0.length - x5_1.toNat) from List.length_drop) (Kd.C_below HR153.out HB.out) | (exact ch HR153 HB)); (case aB => exact (bI HB.out)); (case aF => exact (fun _ _ => trivial)); (case aO => exact (rI HO152.out)); (case aS => exact (below_size (bI HB.out))); (case aL => have := LMc32.out; have hlx_ := (show (l0.drop (x5_1 : Int).toNat).length = (l0.length - x5_1.toNat) from List.length_drop); omega); intro v155 w39 ho hb hg hat; rw [← Ny154.out] at ho; have n0_ := Aside0.mk (hb); have n1_ := Aside0.mk (ho); clear HB; clear HO152; have HB := n0_; have HO156 := n1_; clear n0_ n1_; clear ho hb hg hat))
    go_ret
    exact ⟨_, y0_16, by (with_reducible repeat (first | apply Kd.R_alloc | apply Kd.R_drewN | apply Kd.R_drew)); exact HO156.out, bI HB.out⟩
   rw [if_neg c26] at H
   exact absurd H (by simp)

/-! ### spec_SetJoin: function 27 -/
mutual
def spec_SetJoin.l0 : Nat → List Int → List Int → List Int → Int → Option (List Int)
 | 0, _, _, _, _ => none
 | k + 1, x0, x1, x5, x6 => if x6 < (x0.length : Int) then (if 0 ≤ x6 then ((spec_SetAdd.f k x5 (rd x0 x6)).bind fun t161 => (spec_SetJoin.l0 k x0 x1 t161 (wrap64 (x6 + 1)))) else (none)) else (spec_SetJoin.l1 k x1 x5 0)
def spec_SetJoin.l1 : Nat → List Int → List Int → Int → Option (List Int)
 | 0, _, _, _ => none
 | k + 1, x1, x5, x7 => if x7 < (x1.length : Int) then (if 0 ≤ x7 then ((spec_SetAdd.f k x5 (rd x1 x7)).bind fun t165 => (spec_SetJoin.l1 k x1 t165 (wrap64 (x7 + 1)))) else (none)) else (some x5)
end
def spec_SetJoin.f (k : Nat) (l0 : List Int) (l1 : List Int) : Option (List Int) := spec_SetJoin.l0 k l0 l1 (([] : List Int)) 0
theorem spec_SetJoin.mono_l : ∀ k, (∀ y0 y1 y2 y3, LeO (spec_SetJoin.l0 k y0 y1 y2 y3) (spec_SetJoin.l0 (k + 1) y0 y1 y2 y3)) ∧ (∀ y0 y1 y2, LeO (spec_SetJoin.l1 k y0 y1 y2) (spec_SetJoin.l1 (k + 1) y0 y1 y2))
 | 0 => ⟨fun _ _ _ _ r h => by simp [spec_SetJoin.l0] at h, fun _ _ _ r h => by simp [spec_SetJoin.l1] at h⟩
 | k + 1 => by
  obtain ⟨ih0, ih1⟩ := spec_SetJoin.mono_l k
  refine ⟨?_, ?_⟩
  ·
   intro y0 y1 y2 y3
   unfold spec_SetJoin.l0
   repeat' first | (with_reducible exact ih0 _ _ _ _) | (with_reducible exact ih1 _ _ _) | (with_reducible exact spec_SetAdd.mono _ _ _) | (with_reducible exact LeO.refl _) | (with_reducible exact LeO.none _) | (with_reducible refine LeO.ite ?_ ?_) | (with_reducible refine LeO.bind ?_ (fun _ => ?_))
  intro y0 y1 y2
  unfold spec_SetJoin.l1
  repeat' first | (with_reducible exact ih0 _ _ _ _) | (with_reducible exact ih1 _ _ _) | (with_reducible exact spec_SetAdd.mono _ _ _) | (with_reducible exact LeO.refl _) | (with_reducible exact LeO.none _) | (with_reducible refine LeO.ite ?_ ?_) | (with_reducible refine LeO.bind ?_ (fun _ => ?_))
theorem spec_SetJoin.mono : ∀ a0 a1 k, LeO (spec_SetJoin.f k a0 a1) (spec_SetJoin.f (k + 1) a0 a1) := by
 intro a0 a1 k
 obtain ⟨ih0, ih1⟩ := spec_SetJoin.mono_l k
 unfold spec_SetJoin.f
 repeat' first | (with_reducible exact ih0 _ _ _ _) | (with_reducible exact ih1 _ _ _) | (with_reducible exact spec_SetAdd.mono _ _ _) | (with_reducible exact LeO.refl _) | (with_reducible exact LeO.none _) | (with_reducible refine LeO.ite ?_ ?_) | (with_reducible refine LeO.bind ?_ (fun _ => ?_))
set_option maxHeartbeats 8000000 in
set_option maxRecDepth 100000 in
theorem spec_SetJoin.calls (k : Nat) (A0 : Option Addr) (c0 : Nat) (l0 : List Int) (A1 : Option Addr) (c1 : Nat) (l1 : List Int) (r : List Int) (w : World) (hr0 : Kd.C (Kd.int .i64) w A0 l0.length l0) (hc0 : l0.length ≤ c0) (hr1 : Kd.C (Kd.int .i64) w A1 l1.length l1) (hc1 : l1.length ≤ c1) (h : spec_SetJoin.f k l0 l1 = some r) :
  Calls Try.prog 27 #[.slice A0 l0.length c0, .slice A1 l1.length c1] w fun e w' => ∃ v0_ : Value, e = .returned (v0_) ∧ Kd.R (Kd.int .i64) 3 w' w.heap.size (fun _ => True) v0_ r ∧ Below w.heap.size w w' := by
 have HR0 := Aside0.mk hr0; have HC0 := Aside0.mk hc0; clear hr0 hc0; have HR1 := Aside0.mk hr1; have HC1 := Aside0.mk hc1; clear hr1 hc1; have HB := Aside0.mk (Below.refl w.heap.size w); have H : (spec_SetJoin.l0 k l0 l1 (([] : List Int)) 0) = some r := h; clear h; obtain ⟨y157, hy157⟩ : ∃ y_ : List Int, y_ = (([] : List Int)) := ⟨_, rfl⟩
 replace H : (spec_SetJoin.l0 k l0 l1 y157 0) = some r := by first | (rw [hy157]; with_reducible exact H) | (have H2_ := (Option.bind_some _ _).symm.trans H; rw [hy157]; with_reducible exact H2_) | (have H2_ := (Option.bind_some _ _).symm.trans H; with_reducible exact H2_) | with_reducible exact H | (rw [hy157]; exact H) | exact H
 have Ny157 := Aside0.mk hy157; clear hy157; have H' := Aside0.mk H; clear H
 go_enter Try.func27, Try.ntmps27
 go_wp2_with (first | ((with_reducible refine gate_dst (N := 8) rfl ?_); refine Kd.R_lit (Kd.int .i64) _ 3 ?hg (N := 8) ?hd (xs := ([] : List Int)) (inner := []) (ok := fun _ => True) (okp := fun _ => True) ?hr ?hp (fun _ hk => hk) trivial (Below.refl _ _) (Nat.le_refl _) (by simp) ?_; (case hd => rfl); (case hg => rfl); (case hr => first | (go_simp; done) | (go_simp; rfl)); (case hp => exact (Reps.none _ _)); intro v158 w3 ho4 hb hg_ hnew_; clear hg_ hnew_; (first | rw [← Ny157.out] at ho4 | (simp only [Int.reduceToNat] at ho4; rw [← Ny157.out] at ho4)); have HO159 := Aside0.mk (Kd.R_lower ho4 (below_size (bI HB.out))); replace HB := bs HB hb; clear hb ho4))
 go_loopg [5, 6] k (fun kq v5 v6 w' => ∃ (x5_1 : List Int) (x6_1 : Int), v6 = .int .i64 x6_1 ∧ Aside0 (spec_SetJoin.l0 kq l0 l1 x5_1 x6_1 = some r) ∧ Aside0 (kq ≤ k) ∧ Aside0 (Kd.R (Kd.int .i64) 3 w' w.heap.size (fun _ => True) v5 x5_1) ∧ Aside0 (Below w.heap.size w w'))
 case atStart => exact ⟨(y157), (0), y0_21, H', ⟨Nat.le_refl _⟩, ⟨by (with_reducible repeat (first | apply Kd.R_alloc | apply Kd.R_drewN | apply Kd.R_drew)); exact HO159.out⟩, ⟨bI HB.out⟩⟩
 case round =>
  clear H'
  try clear c1
  try clear c2
  try clear p2
  obtain ⟨x5_1, x6_1, rfl, HA, HK1, HO_5, HB⟩ := hrel; cases gk with
  | zero => exact absurd HA.out (by simp [spec_SetJoin.l0])
  | succ k1 =>
   have H := HA.out; clear HA
   simp only [spec_SetJoin.l0] at H
   by_cases c5 : x6_1 < (l0.length : Int)
   ·
    rw [if_pos c5] at H
    have c5b0 : decide (x6_1 < (l0.length : Int)) = true := decide_eq_true c5; clear c5
    by_cases c6 : 0 ≤ x6_1
    rotate_left
    ·
     rw [if_neg c6] at H
     exact absurd H (by simp)
    rw [if_pos c6] at H
    have c6b0 : decide (0 ≤ x6_1) = true := decide_eq_true c6; clear c6; obtain ⟨t161, A70, H⟩ := Option.bind_eq_some_iff.mp H
    try dsimp only at H
    have A7 := Aside0.mk A70; clear A70; have H' := Aside0.mk H; clear H; have p160 : 0 ≤ (x6_1 : Int) := of_decide_eq_true y0_20; have q160 : x6_1 < (l0.length : Int) := of_decide_eq_true y0_20; obtain ⟨ad160, e160, hx160_0⟩ := Kd.at_int HR0.out x6_1 p160 q160; cases e160; replace hx160_0 := bx HB hx160_0; replace p160 := eq_true p160; replace q160 := eq_true q160; obtain ⟨Ao8, co8, eo8⟩ := Kd.R_slice HO_5.out; subst eo8
    go_wp2_with (first | ((with_reducible refine gate_callee (f := 48) rfl ?_); refine gB (some 20) Try.func48 #[.slice Ao8 x5_1.length co8, .int .i64 (rd l0 x6_1)] ?_; (with_reducible refine (spec_SetAdd.calls k1 _ _ x5_1 (rd l0 x6_1) t161 _ ?side1 ?side2 A7.out).mono ?_); (case side1 => repeat (first | exact (Kd.R_reads' HO_5.out).2.2 | (with_reducible refine Kd.C_alloc ?_ _) | (with_reducible refine Kd.C_drewN ?_ _) | (with_reducible refine Kd.C_drew ?_))); (case side2 => exact (Kd.R_reads' HO_5.out).2.1); rintro e w9 ⟨v162, rfl, ho0, hb⟩; refine ⟨_, rfl, ?_⟩; have HO163 := Aside0.mk (Kd.R_lower (Kd.R_new' ho0 (Kd.R_lt (rI HO_5.out))) (below_size (bI HB.out))); replace HO_5 := Aside0.mk (Kd.R_elder' (rI HO_5.out) (Kd.R_base ho0) hb); replace HB := bs HB hb; (try clear hb); (try clear ho0)))
    go_roundg k1
    case measure => have := HK1.out; omega
    case rel => exact ⟨(t161), (wrap64 (x6_1 + 1)), y0_21, H', ⟨y0_25⟩, ⟨by (with_reducible repeat (first | apply Kd.R_alloc | apply Kd.R_drewN | apply Kd.R_drew)); exact Kd.R_mono HO163.out (fun _ hk => trivial)⟩, ⟨bI HB.out⟩⟩
   rw [if_neg c5] at H
   have c5b0 : decide (x6_1 < (l0.length : Int)) = false := decide_eq_false c5; clear c5; have H' := Aside0.mk H; clear H
   go_wp2
   go_loopg [5, 7] k1 (fun kq v5 v7 w' => ∃ (x5_2 : List Int) (x7_2 : Int), v7 = .int .i64 x7_2 ∧ Aside0 (spec_SetJoin.l1 kq l1 x5_2 x7_2 = some r) ∧ Aside0 (kq ≤ k1) ∧ Aside0 (Kd.R (Kd.int .i64) 3 w' w.heap.size (fun _ => True) v5 x5_2) ∧ Aside0 (Below w.heap.size w w'))
   case atStart => exact ⟨(x5_1), (0), y0_21, H', ⟨Nat.le_refl _⟩, ⟨y0_13⟩, ⟨bI HB.out⟩⟩
   case round =>
    clear H'
    try clear c1
    try clear p1
    try clear q1
    try clear hx1
    try clear c2
    try clear p2
    try clear c4
    try clear c5
    try clear c5b0
    try clear c6
    try clear c6b0
    try clear p6
    try clear hx160_0
    try clear p160
    try clear p2
    try clear q160
    obtain ⟨x5_2, x7_2, rfl, HA, HK2, HO_5, HB⟩ := hrel; cases gk with
    | zero => exact absurd HA.out (by simp [spec_SetJoin.l1])
    | succ k2 =>
     have H := HA.out; clear HA
     simp only [spec_SetJoin.l1] at H
     by_cases c10 : x7_2 < (l1.length : Int)
     ·
      rw [if_pos c10] at H
      have c10b0 : decide (x7_2 < (l1.length : Int)) = true := decide_eq_true c10; clear c10
      by_cases c11 : 0 ≤ x7_2
      rotate_left
      ·
       rw [if_neg c11] at H
       exact absurd H (by simp)
      rw [if_pos c11] at H
      have c11b0 : decide (0 ≤ x7_2) = true := decide_eq_true c11; clear c11; obtain ⟨t165, A120, H⟩ := Option.bind_eq_some_iff.mp H
      try dsimp only at H
      have A12 := Aside0.mk A120; clear A120; have H' := Aside0.mk H; clear H; have p164 : 0 ≤ (x7_2 : Int) := of_decide_eq_true y0_20; have q164 : x7_2 < (l1.length : Int) := of_decide_eq_true y0_20; obtain ⟨ad164, e164, hx164_0⟩ := Kd.at_int HR1.out x7_2 p164 q164; cases e164; replace hx164_0 := bx HB hx164_0; replace p164 := eq_true p164; replace q164 := eq_true q164; obtain ⟨Ao13, co13, eo13⟩ := Kd.R_slice HO_5.out; subst eo13
      go_wp2_with (first | ((with_reducible refine gate_callee (f := 48) rfl ?_); refine gB (some 32) Try.func48 #[.slice Ao13 x5_2.length co13, .int .i64 (rd l1 x7_2)] ?_; (with_reducible refine (spec_SetAdd.calls k2 _ _ x5_2 (rd l1 x7_2) t165 _ ?side1 ?side2 A12.out).mono ?_); (case side1 => repeat (first | exact (Kd.R_reads' HO_5.out).2.2 | (with_reducible refine Kd.C_alloc ?_ _) | (with_reducible refine Kd.C_drewN ?_ _) | (with_reducible refine Kd.C_drew ?_))); (case side2 => exact (Kd.R_reads' HO_5.out).2.1); rintro e w14 ⟨v166, rfl, ho0, hb⟩; refine ⟨_, rfl, ?_⟩; have HO167 := Aside0.mk (Kd.R_lower (Kd.R_new' ho0 (Kd.R_lt (rI HO_5.out))) (below_size (bI HB.out))); replace HO_5 := Aside0.mk (Kd.R_elder' (rI HO_5.out) (Kd.R_base ho0) hb); replace HB := bs HB hb; (try clear hb); (try clear ho0)))
      go_roundg k2
      case measure => have := HK1.out; have := HK2.out; omega
      case rel => exact ⟨(t165), (wrap64 (x7_2 + 1)), y0_21, H', ⟨by have := HK1.out; have := HK2.out; omega⟩, ⟨by (with_reducible repeat (first | apply Kd.R_alloc | apply Kd.R_drewN | apply Kd.R_drew)); exact Kd.R_mono HO167.out (fun _ hk => trivial)⟩, ⟨bI HB.out⟩⟩
     rw [if_neg c10] at H
     have c10b0 : decide (x7_2 < (l1.length : Int)) = false := decide_eq_false c10; clear c10; obtain rfl := Option.some.inj H
     go_wp2
     go_ret
     exact ⟨_, y0_16, y0_13, bI HB.out⟩

end Go.Proofs.Ytemjmefacifdeaa.PFnDropsBelow
