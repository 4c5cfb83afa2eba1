import Derived.Test.YtdmjhgogljhfkaaGreatDoorPFnPartsx0
import Derived.Test.YtdmjhgogljhfkaaGreatDoorPFnPartsx2
import Derived.Test.YtdmjhgogljhfkaaGreatDoorPFnPartsx4
import Derived.Test.YtdmjhgogljhfkaaGreatDoorPFnPartsx1
namespace Go.Proofs.YtdmjhgogljhfkaaGreatDoor.PFnParts
open Go.RowKit Go.Proofs.YtdmjhgogljhfkaaGreatDoorW.PrintWords Go.Proofs.YtdmjhgogljhfkaaGreatDoorW.PrintLast Go.Proofs.YtdmjhgogljhfkaaGreatDoorW.PrintMore
attribute [local go_sem] max2_int min2_int max_two min_two max_three min_three max_four min_four
attribute [local go_sem] cell_in frozen_in cell_g cell_p cell_r cell_q
set_option synthInstance.maxSize 1000000
set_option synthInstance.maxHeartbeats 2000000
set_option linter.unusedVariables false
set_option linter.unusedSimpArgs false
set_option maxHeartbeats 8000000
set_option maxRecDepth 100000
def IsS149 (w0 W : World) (g : Nat) (f0 : List Int) (f1 : Int) (f2 : Int) : Prop := ∃ A0 c0, W.heap[g]? = some (.cells #[.slice A0 f0.length c0, .int .i64 f1, .int .i64 f2] 149 (0, 0)) ∧ w0.heap.size ≤ g ∧ Kd.C (Kd.int .u8) w0 A0 f0.length f0 ∧ f0.length ≤ c0
theorem IsS149.grown {w0 W : World} {g : Nat} {f0 : List Int} {f1 : Int} {f2 : Int} {W1 : World} {row : Option Nat} (h : IsS149 w0 W g f0 f1 f2) (hw : W.grownBy W1 row) (hne : some g ≠ row) : IsS149 w0 W1 g f0 f1 f2 := by
 obtain ⟨A0, c0, hb, hg, hr0, hl0⟩ := h
 exact ⟨A0, c0, blk_grown hb hw hne, hg, hr0, hl0⟩
theorem IsS149.below {w0 W : World} {g : Nat} {f0 : List Int} {f1 : Int} {f2 : Int} {W1 : World} (h : IsS149 w0 W g f0 f1 f2) (hw : Below W.heap.size W W1) : IsS149 w0 W1 g f0 f1 f2 := h.grown (grown_of_below hw none) (by simp)
theorem IsS149.alloc {w0 W : World} {g : Nat} {f0 : List Int} {f1 : Int} {f2 : Int} (h : IsS149 w0 W g f0 f1 f2) (o : Obj) : IsS149 w0 (W.alloc o) g f0 f1 f2 := h.below (below_alloc (Below.refl _ _) o)
theorem IsS149.drewN {w0 W : World} {g : Nat} {f0 : List Int} {f1 : Int} {f2 : Int} (h : IsS149 w0 W g f0 f1 f2) (m : Nat) : IsS149 w0 (W.drewN m) g f0 f1 f2 := h
theorem IsS149.drew {w0 W : World} {g : Nat} {f0 : List Int} {f1 : Int} {f2 : Int} (h : IsS149 w0 W g f0 f1 f2) : IsS149 w0 W.drew g f0 f1 f2 := h
theorem IsS149.at_ {w0 W : World} {g : Nat} {f0 : List Int} {f1 : Int} {f2 : Int} {w' : World} {m : Nat} (hq : W.drewN m = w') (h : IsS149 w0 W g f0 f1 f2) : IsS149 w0 w' g f0 f1 f2 := by subst hq; exact IsS149.drewN h m
theorem IsS149.apart {w0 W : World} {g : Nat} {f0 : List Int} {f1 : Int} {f2 : Int} {α : Type} {d : Kd α} {e : Nat} {base : Nat} {ok : Nat → Prop} {v : Value} {xs : List α} (h : IsS149 w0 W g f0 f1 f2) (ho : d.R e W base ok v xs) (ht : ∀ q, q ∈ e :: d.E → q ≠ 149) : d.R e W base (fun k => ok k ∧ k ≠ g) v xs := by
 obtain ⟨A0, c0, hb, hg, hr0, hl0⟩ := h
 exact Kd.R_types ho hb ht
theorem IsS149.own_ne {w0 W : World} {g : Nat} {f0 : List Int} {f1 : Int} {f2 : Int} {α : Type} {d : Kd α} {e : Nat} {base : Nat} {ok : Nat → Prop} {v : Value} {xs : List α} (h : IsS149 w0 W g f0 f1 f2) (ho : d.R e W base ok v xs) (ht : e ≠ 149) : some g ≠ v.ownBlock := by
 obtain ⟨A0, c0, hb, hg, hr0, hl0⟩ := h
 exact Kd.R_ne ho hb ht
theorem IsS149.lt {w0 W : World} {g : Nat} {f0 : List Int} {f1 : Int} {f2 : Int} (h : IsS149 w0 W g f0 f1 f2) : g < W.heap.size := by
 obtain ⟨A0, c0, hb, hg, hr0, hl0⟩ := h
 exact blk_lt hb
theorem IsS149.ge {w0 W : World} {g : Nat} {f0 : List Int} {f1 : Int} {f2 : Int} (h : IsS149 w0 W g f0 f1 f2) : w0.heap.size ≤ g := by
 obtain ⟨A0, c0, hb, hg, hr0, hl0⟩ := h
 exact hg
theorem IsS149.far {w0 W : World} {g : Nat} {f0 : List Int} {f1 : Int} {f2 : Int} {p : Addr} (h : IsS149 w0 W g f0 f1 f2) (hne : g ≠ p.block) (u : Value) : IsS149 w0 (W.setCell p u) g f0 f1 f2 := by
 obtain ⟨A0, c0, hb, hg, hr0, hl0⟩ := h
 exact ⟨A0, c0, blk_far hb hne u, hg, hr0, hl0⟩
theorem cellS149_0 {W : World} {g : Nat} {A0 : Option Addr} {c0 : Nat} {f0 : List Int} {f1 : Int} {f2 : Int} (h : W.heap[g]? = some (.cells #[.slice A0 f0.length c0, .int .i64 f1, .int .i64 f2] 149 (0, 0))) : W.cell? ⟨g, 0, none⟩ = some (.slice A0 f0.length c0) := (blk_cell h 0).trans rfl
theorem cellS149_1 {W : World} {g : Nat} {A0 : Option Addr} {c0 : Nat} {f0 : List Int} {f1 : Int} {f2 : Int} (h : W.heap[g]? = some (.cells #[.slice A0 f0.length c0, .int .i64 f1, .int .i64 f2] 149 (0, 0))) : W.cell? ⟨g, 1, none⟩ = some (.int .i64 f1) := (blk_cell h 1).trans rfl
theorem IsS149.set_1 {w0 W : World} {g : Nat} {f0 : List Int} {f1 : Int} {f2 : Int} (h : IsS149 w0 W g f0 f1 f2) (x : Int) : IsS149 w0 (W.setCell ⟨g, 1, none⟩ (.int .i64 x)) g f0 x f2 := by
 obtain ⟨A0, c0, hb, hg, hr0, hl0⟩ := h
 exact ⟨A0, c0, by simpa using blk_set hb 1 (.int .i64 x), hg, hr0, hl0⟩
theorem cellS149_2 {W : World} {g : Nat} {A0 : Option Addr} {c0 : Nat} {f0 : List Int} {f1 : Int} {f2 : Int} (h : W.heap[g]? = some (.cells #[.slice A0 f0.length c0, .int .i64 f1, .int .i64 f2] 149 (0, 0))) : W.cell? ⟨g, 2, none⟩ = some (.int .i64 f2) := (blk_cell h 2).trans rfl
theorem IsS149.set_2 {w0 W : World} {g : Nat} {f0 : List Int} {f1 : Int} {f2 : Int} (h : IsS149 w0 W g f0 f1 f2) (x : Int) : IsS149 w0 (W.setCell ⟨g, 2, none⟩ (.int .i64 x)) g f0 f1 x := by
 obtain ⟨A0, c0, hb, hg, hr0, hl0⟩ := h
 exact ⟨A0, c0, by simpa using blk_set hb 2 (.int .i64 x), hg, hr0, hl0⟩
theorem iS149 {w0 w W : World} {g : Nat} {f0 : List Int} {f1 : Int} {f2 : Int} (h : Aside0 (IsS149 w0 w g f0 f1 f2)) [u : UpG g w W] : IsS149 w0 W g f0 f1 f2 := by obtain ⟨_, _, hb, r⟩ := h.out; exact ⟨_, _, u.out _ _ hb, r⟩
theorem iB149 {w0 w : World} {g : Nat} {f0 : List Int} {f1 : Int} {f2 : Int} (h : Aside0 (IsS149 w0 w g f0 f1 f2)) : StB g w 149 := ⟨by obtain ⟨_, _, hb, r⟩ := h.out; exact ⟨_, hb⟩⟩
instance (w0 : World) (g : Nat) (f0 : List Int) (f1 : Int) (f2 : Int) : StP (fun w => IsS149 w0 w g f0 f1 f2) g 149 := ⟨fun w h => (iB149 ⟨h⟩).out⟩
instance (w0 : World) (f0 : List Int) (f1 : Int) (f2 : Int) : StN (fun g w => IsS149 w0 w g f0 f1 f2) w0 149 := ⟨fun g w h => (iB149 ⟨h⟩).out, fun g w h => IsS149.ge h⟩
def spec_l1New.l0 : Nat → List Int → Int → Int → Option (List Int × Int × Int)
 | 0, _, _, _ => none
 | k + 1, x0, x3, x4 => if x4 < (x0.length : Int) then (if x4 < 4000 then (if 0 ≤ x4 then (spec_l1New.l0 k x0 (Go.bits .and .i64 (wrap64 ((wrap64 ((wrap64 (x3 * 131)) + (wrap64 (rd x0 x4)))) + 7)) 1073741823) (wrap64 (x4 + 1))) else (none)) else (some (x0, 0, x3))) else (some (x0, 0, x3))
def spec_l1New.f (k : Nat) (l0 : List Int) : Option (List Int × Int × Int) := spec_l1New.l0 k l0 (wrap64 (26583 + (l0.length : Int))) 0
theorem spec_l1New.calls (k : Nat) (A0 : Option Addr) (c0 : Nat) (l0 : List Int) (r1 : List Int) (r2 : Int) (r3 : Int) (w0 w : World) (hB : Below w0.heap.size w0 w) (hr0 : Kd.C (Kd.int .u8) w0 A0 l0.length l0) (hc0 : l0.length ≤ c0) (h : spec_l1New.f k l0 = some (r1, r2, r3)) :
  Calls Tryz.prog 90 #[.slice A0 l0.length c0] w fun e w' => ∃ g_ : Nat, e = .returned (.pointer (some ⟨g_, 0, none⟩)) ∧ IsS149 w0 w' g_ r1 r2 r3 ∧ Below w0.heap.size w0 w' ∧ Below w.heap.size w w' := by
 have hu149 := Tryz.underlying149; have HR0 := Aside0.mk hr0; have HC0 := Aside0.mk hc0; clear hr0 hc0; have HBW := Aside0.mk (Below.refl w.heap.size w); have HW0 := Aside0.mk hB.size; have HB := Aside0.mk hB; clear hB; have H := h; unfold spec_l1New.f at H; clear h; have H' := Aside0.mk H; clear H
 go_enter Tryz.func90, Tryz.ntmps90
 go_wp2
 go_loopg [3, 4] k (fun kq v3 v4 w' => ∃ (x3_1 : Int) (x4_1 : Int), v3 = .int .i64 x3_1 ∧ v4 = .int .i64 x4_1 ∧ Aside0 (spec_l1New.l0 kq l0 x3_1 x4_1 = some (r1, r2, r3)) ∧ Aside0 (kq ≤ k) ∧ Aside0 (Below w0.heap.size w0 w') ∧ Aside0 (Below w.heap.size w w'))
 case atStart => exact ⟨(wrap64 (26583 + (l0.length : Int))), (0), y0_17, y0_17, H', ⟨Nat.le_refl _⟩, ⟨bI HB.out⟩, ⟨bI HBW.out⟩⟩
 case round =>
  clear H'; obtain ⟨x3_1, x4_1, rfl, rfl, HA, HK1, HB, HBW⟩ := hrel; cases gk with
  | zero => exact absurd HA.out (by simp [spec_l1New.l0])
  | succ k1 =>
   have H := HA.out; clear HA
   simp only [spec_l1New.l0] at H
   by_cases c2 : x4_1 < (l0.length : Int)
   ·
    rw [if_pos c2] at H
    have c2b0 : decide (x4_1 < (l0.length : Int)) = true := decide_eq_true c2; clear c2
    by_cases c3 : x4_1 < 4000
    ·
     rw [if_pos c3] at H
     have c3b0 : decide (x4_1 < 4000) = true := decide_eq_true c3; clear c3
     by_cases c4 : 0 ≤ x4_1
     rotate_left
     ·
      rw [if_neg c4] at H
      exact absurd H (by simp)
     rw [if_pos c4] at H
     have c4b0 : decide (0 ≤ x4_1) = true := decide_eq_true c4; clear c4; have H' := Aside0.mk H; clear H; have p509 : 0 ≤ (x4_1 : Int) := of_decide_eq_true y0_16; have q509 : x4_1 < (l0.length : Int) := of_decide_eq_true y0_16; obtain ⟨ad509, e509, hx509_0⟩ := Kd.at_int HR0.out x4_1 p509 q509; cases e509; replace hx509_0 := pw_cell_below HB.out hx509_0; replace p509 := eq_true p509; replace q509 := eq_true q509
     go_wp2
     go_roundg k1
     case measure => have := HK1.out; omega
     case rel => exact ⟨(Go.bits .and .i64 (wrap64 ((wrap64 ((wrap64 (x3_1 * 131)) + (wrap64 (rd l0 x4_1)))) + 7)) 1073741823), (wrap64 (x4_1 + 1)), y0_17, y0_17, H', ⟨y0_20⟩, ⟨bI HB.out⟩, ⟨bI HBW.out⟩⟩
    rw [if_neg c3] at H
    have c3b0 : decide (x4_1 < 4000) = false := decide_eq_false c3; clear c3
    simp only [Option.some.injEq, Prod.mk.injEq] at H
    obtain ⟨rfl, rfl, rfl⟩ := H
    go_wp2_with (first | ((with_reducible refine gd 31 ?_); refine bA 31 #[.slice A0 l0.length c0, .int .i64 0, .int .i64 x3_1] 149 ?_; intro gb510 hg w5 hbox hb; replace HB := bs HB hb; have BK510 := Aside0.mk (hbox); have GW510 := bg hg HBW; have GJ510 := gi GW510; have GE510 := Aside0.mk ((Nat.le_trans HW0.out (by rw [hg]; exact (below_size (bI HBW.out)) : w.heap.size ≤ gb510) : w0.heap.size ≤ gb510)); have GI510 := gi GE510; replace HBW := Aside0.mk (below_step HBW.out hb); clear hb hbox hg))
    go_ret
    exact ⟨_, rfl, (show IsS149 w0 _ gb510 l0 0 x3_1 from ⟨_, _, pI BK510, GE510.out, HR0.out, HC0.out⟩), bI HB.out, bI HBW.out⟩
   rw [if_neg c2] at H
   have c2b0 : decide (x4_1 < (l0.length : Int)) = false := decide_eq_false c2; clear c2
   simp only [Option.some.injEq, Prod.mk.injEq] at H
   obtain ⟨rfl, rfl, rfl⟩ := H
   go_wp2_with (first | ((with_reducible refine gd 31 ?_); refine bA 31 #[.slice A0 l0.length c0, .int .i64 0, .int .i64 x3_1] 149 ?_; intro gb511 hg w6 hbox hb; replace HB := bs HB hb; have BK511 := Aside0.mk (hbox); have GW511 := bg hg HBW; have GJ511 := gi GW511; have GE511 := Aside0.mk ((Nat.le_trans HW0.out (by rw [hg]; exact (below_size (bI HBW.out)) : w.heap.size ≤ gb511) : w0.heap.size ≤ gb511)); have GI511 := gi GE511; replace HBW := Aside0.mk (below_step HBW.out hb); clear hb hbox hg))
   go_ret
   exact ⟨_, rfl, (show IsS149 w0 _ gb511 l0 0 x3_1 from ⟨_, _, pI BK511, GE511.out, HR0.out, HC0.out⟩), bI HB.out, bI HBW.out⟩
def spec_l1Byte.f (s0_0 : List Int) (s0_1 : Int) (s0_2 : Int) : Option (Int × Int × Int) := if s0_1 < (s0_0.length : Int) then (if 0 ≤ s0_1 then (some (Go.bits .and .i64 (wrap64 ((Go.bits .and .i64 (Go.bits .xor .i64 ((wrap64 ((wrap64 (s0_2 * 6364136223846793005)) + 1442695040888963407)) / 8589934592) ((wrap64 ((wrap64 (s0_2 * 6364136223846793005)) + 1442695040888963407)) / 35184372088832)) 255) + (wrap64 (rd s0_0 s0_1)))) 255, wrap64 (s0_1 + 1), wrap64 ((wrap64 (s0_2 * 6364136223846793005)) + 1442695040888963407))) else (none)) else (some (Go.bits .and .i64 (Go.bits .xor .i64 ((wrap64 ((wrap64 (s0_2 * 6364136223846793005)) + 1442695040888963407)) / 8589934592) ((wrap64 ((wrap64 (s0_2 * 6364136223846793005)) + 1442695040888963407)) / 35184372088832)) 255, s0_1, wrap64 ((wrap64 (s0_2 * 6364136223846793005)) + 1442695040888963407)))
theorem spec_l1Byte.calls (g : Nat) (s0_0 : List Int) (s0_1 : Int) (s0_2 : Int) (r1 : Int) (r2 : Int) (r3 : Int) (w0 w : World) (hI : IsS149 w0 w g s0_0 s0_1 s0_2) (hB : Below w0.heap.size w0 w) (h : spec_l1Byte.f s0_0 s0_1 s0_2 = some (r1, r2, r3)) :
  Calls Tryz.prog 146 #[.pointer (some ⟨g, 0, none⟩)] w fun e w' => e = .returned (.int .i64 r1) ∧ IsS149 w0 w' g s0_0 r2 r3 ∧ Below w0.heap.size w0 w' ∧ KeepBut w w' g none := by
 have HI0 := Aside0.mk hI; have HK := Aside0.mk (KeepBut.refl w g none); have HL := Aside0.mk hB.size; clear hI; have HW0 := Aside0.mk hB.size; have HB := Aside0.mk hB; clear hB; have H := h; unfold spec_l1Byte.f at H; clear h
 by_cases c2 : s0_1 < (s0_0.length : Int)
 ·
  rw [if_pos c2] at H
  have c2b0 : decide (s0_1 < (s0_0.length : Int)) = true := decide_eq_true c2; clear c2
  by_cases c3 : 0 ≤ s0_1
  rotate_left
  ·
   rw [if_neg c3] at H
   exact absurd H (by simp)
  rw [if_pos c3] at H
  have c3b0 : decide (0 ≤ s0_1) = true := decide_eq_true c3; clear c3
  simp only [Option.some.injEq, Prod.mk.injEq] at H
  obtain ⟨rfl, rfl, rfl⟩ := H; obtain ⟨ASz4_0, cSz4_0, HGz4, hgz4, HSz4_0, HSLz4_0⟩ := HI0.out; have hcz4_0 := cellS149_0 HGz4; have hcz4_1 := cellS149_1 HGz4; have hcz4_2 := cellS149_2 HGz4; have hfz4_1 := blk_frozen HGz4 1; have hfz4_2 := blk_frozen HGz4 2; clear HGz4 hgz4; have p512 : 0 ≤ (s0_1 : Int) := of_decide_eq_true y0_16; have q512 : s0_1 < (s0_0.length : Int) := of_decide_eq_true y0_16; obtain ⟨ad512, e512, hx512_0⟩ := Kd.at_int HSz4_0 s0_1 p512 q512; cases e512
  have hn512_0 : ad512.block ≠ g := Nat.ne_of_lt (Nat.lt_of_lt_of_le (by have := World.block_lt_of_cell? _ _ hx512_0; first | rwa [add_block] at this | exact this) (IsS149.ge HI0.out))
  replace hx512_0 := pw_cell_below HB.out hx512_0
  replace hx512_0 := (cell_far (p := ⟨g, 2, none⟩) (by first | (rw [add_block]; exact hn512_0) | (show (Addr.add _ _).block ≠ _; rw [add_block]; exact hn512_0) | exact hn512_0) (.int .i64 (wrap64 ((wrap64 (s0_2 * 6364136223846793005)) + 1442695040888963407)))).trans hx512_0
  (try have hy512_0 := fun (n_ : Nat) => (show (((w.drewN n_).setCell ⟨g, 2, none⟩ (.int .i64 (wrap64 ((wrap64 (s0_2 * 6364136223846793005)) + 1442695040888963407))))).cell? _ = some _ from hx512_0))
  clear hn512_0; replace p512 := eq_true p512; replace q512 := eq_true q512
  go_enter Tryz.func146, Tryz.ntmps146
  go_wp2
  repeat (go_quiet (fail); try go_wp2)
  go_ret
  exact ⟨y0_12, y0_6, y0_7, hI HK.out⟩
 rw [if_neg c2] at H
 have c2b0 : decide (s0_1 < (s0_0.length : Int)) = false := decide_eq_false c2; clear c2
 simp only [Option.some.injEq, Prod.mk.injEq] at H
 obtain ⟨rfl, rfl, rfl⟩ := H; obtain ⟨ASz5_0, cSz5_0, HGz5, hgz5, HSz5_0, HSLz5_0⟩ := HI0.out; have hcz5_0 := cellS149_0 HGz5; have hcz5_1 := cellS149_1 HGz5; have hcz5_2 := cellS149_2 HGz5; have hfz5_1 := blk_frozen HGz5 1; have hfz5_2 := blk_frozen HGz5 2; clear HGz5 hgz5
 go_enter Tryz.func146, Tryz.ntmps146
 go_wp2
 repeat (go_quiet (fail); try go_wp2)
 go_ret
 exact ⟨y0_12, y0_6, y0_7, hI HK.out⟩
def spec_l1Below.f (s0_0 : List Int) (s0_1 : Int) (s0_2 : Int) (a1 : Int) : Option (Int × Int × Int) := if a1 ≤ 0 then (some (0, s0_1, s0_2)) else (if a1 ≤ 256 then ((spec_l1Byte.f s0_0 s0_1 s0_2).bind fun bt513 => (if a1 = 0 then (none) else (some (Int.tmod bt513.1 a1, bt513.2.1, bt513.2.2)))) else ((spec_l1Byte.f s0_0 s0_1 s0_2).bind fun bt516 => ((spec_l1Byte.f s0_0 bt516.2.1 bt516.2.2).bind fun bt519 => ((spec_l1Byte.f s0_0 bt519.2.1 bt519.2.2).bind fun bt522 => ((spec_l1Byte.f s0_0 bt522.2.1 bt522.2.2).bind fun bt525 => (if a1 = 0 then (none) else (some (Int.tmod (wrap64 ((wrap64 ((wrap64 ((wrap64 (bt516.1 * 16777216)) + (wrap64 (bt519.1 * 65536)))) + (wrap64 (bt522.1 * 256)))) + bt525.1)) a1, bt525.2.1, bt525.2.2))))))))
theorem spec_l1Below.calls (g : Nat) (s0_0 : List Int) (s0_1 : Int) (s0_2 : Int) (a1 : Int) (r1 : Int) (r2 : Int) (r3 : Int) (w0 w : World) (hI : IsS149 w0 w g s0_0 s0_1 s0_2) (hB : Below w0.heap.size w0 w) (h : spec_l1Below.f s0_0 s0_1 s0_2 a1 = some (r1, r2, r3)) :
  Calls Tryz.prog 97 #[.pointer (some ⟨g, 0, none⟩), .int .i64 a1] w fun e w' => e = .returned (.int .i64 r1) ∧ IsS149 w0 w' g s0_0 r2 r3 ∧ Below w0.heap.size w0 w' ∧ KeepBut w w' g none := by
 have HI0 := Aside0.mk hI; have HK := Aside0.mk (KeepBut.refl w g none); have HL := Aside0.mk hB.size; clear hI; have HW0 := Aside0.mk hB.size; have HB := Aside0.mk hB; clear hB
 have H := h; unfold spec_l1Below.f at H
 clear h; have i0_ := iB149 HI0; have i1_ : LB w0 w := ⟨HB.out⟩
 go_enter Tryz.func97, Tryz.ntmps97
 have H' := Aside0.mk H; clear H
 go_upto_if 10 with fail
 have H := H'.out; clear H'
 by_cases c3 : a1 ≤ 0
 ·
  rw [if_pos c3] at H
  have c3b0 : decide (a1 ≤ 0) = true := decide_eq_true c3; clear c3
  (first | rw [c3b0] | (simp only [i64_w, i32_w]; rw [c3b0]) | skip)
  simp only [Option.some.injEq, Prod.mk.injEq] at H
  obtain ⟨rfl, rfl, rfl⟩ := H
  go_wp2
  go_ret
  exact ⟨y0_17, iS149 HI0, UpW.out, UpB.out⟩
 rw [if_neg c3] at H
 have c3b0 : decide (a1 ≤ 0) = false := decide_eq_false c3; clear c3
 (first | rw [c3b0] | (simp only [i64_w, i32_w]; rw [c3b0]) | skip)
 by_cases c4 : a1 ≤ 256
 ·
  rw [if_pos c4] at H
  have c4b0 : decide (a1 ≤ 256) = true := decide_eq_true c4; clear c4; obtain ⟨⟨t513, t514, t515⟩, A5, H⟩ := oB H; (try dsimp only at H)
  by_cases c6 : a1 = 0
  ·
   rw [if_pos c6] at H
   exact absurd H (by simp)
  rw [if_neg c6] at H
  have c6b0 : (a1 == 0) = false := beq_eq_false_iff_ne.mpr c6; have c6b1 : (a1 != 0) = true := bne_iff_ne.mpr c6
  simp only [Option.some.injEq, Prod.mk.injEq] at H
  obtain ⟨rfl, rfl, rfl⟩ := H
  go_wp2_with (first | ((with_reducible refine gate_callee (f := 146) rfl ?_); refine gK (some 14) Tryz.func146 (spec_l1Byte.calls (hI := iS149 HI0) (hB := UpW.out) (w := _) (h := A5.out)) ?_; intro w7 _ _ _ HI8))
  go_ret
  exact ⟨y0_17, iS149 HI8, UpW.out, UpB.out⟩
 rw [if_neg c4] at H
 have c4b0 : decide (a1 ≤ 256) = false := decide_eq_false c4; clear c4; obtain ⟨⟨t516, t517, t518⟩, A9, H⟩ := oB H; (try dsimp only at H); obtain ⟨⟨t519, t520, t521⟩, A10, H⟩ := oB H; (try dsimp only at H); obtain ⟨⟨t522, t523, t524⟩, A11, H⟩ := oB H; (try dsimp only at H); obtain ⟨⟨t525, t526, t527⟩, A12, H⟩ := oB H; (try dsimp only at H)
 by_cases c13 : a1 = 0
 ·
  rw [if_pos c13] at H
  exact absurd H (by simp)
 rw [if_neg c13] at H
 have c13b0 : (a1 == 0) = false := beq_eq_false_iff_ne.mpr c13; have c13b1 : (a1 != 0) = true := bne_iff_ne.mpr c13
 simp only [Option.some.injEq, Prod.mk.injEq] at H
 obtain ⟨rfl, rfl, rfl⟩ := H
 go_wp2_with (first | ((with_reducible refine gate_callee (f := 146) rfl ?_); refine gK (some 18) Tryz.func146 (spec_l1Byte.calls (hI := iS149 HI0) (hB := UpW.out) (w := _) (h := A9.out)) ?_; intro w14 _ _ _ HI15) | ((with_reducible refine gate_callee (f := 146) rfl ?_); refine gK (some 20) Tryz.func146 (spec_l1Byte.calls (hI := iS149 HI15) (hB := UpW.out) (w := _) (h := A10.out)) ?_; intro w16 _ _ _ HI17) | ((with_reducible refine gate_callee (f := 146) rfl ?_); refine gK (some 22) Tryz.func146 (spec_l1Byte.calls (hI := iS149 HI17) (hB := UpW.out) (w := _) (h := A11.out)) ?_; intro w18 _ _ _ HI19) | ((with_reducible refine gate_callee (f := 146) rfl ?_); refine gK (some 24) Tryz.func146 (spec_l1Byte.calls (hI := iS149 HI19) (hB := UpW.out) (w := _) (h := A12.out)) ?_; intro w20 _ _ _ HI21))
 go_ret
 exact ⟨y0_17, iS149 HI21, UpW.out, UpB.out⟩
def spec_l7DrawConf.f (s0_0 : List Int) (s0_1 : Int) (s0_2 : Int) : Option (Int × Int × Int × Int) := (spec_l1Below.f s0_0 s0_1 s0_2 4).bind fun bt529 => ((spec_l1Below.f s0_0 bt529.2.1 bt529.2.2 3).bind fun bt532 => (some (wrap64 (4 + bt529.1), wrap64 (1 + bt532.1), bt532.2.1, bt532.2.2)))
theorem spec_l7DrawConf.calls (g : Nat) (s0_0 : List Int) (s0_1 : Int) (s0_2 : Int) (r1 : Int) (r2 : Int) (r3 : Int) (r4 : Int) (w0 w : World) (hI : IsS149 w0 w g s0_0 s0_1 s0_2) (hB : Below w0.heap.size w0 w) (h : spec_l7DrawConf.f s0_0 s0_1 s0_2 = some (r1, r2, r3, r4)) :
  Calls Tryz.prog 91 #[.pointer (some ⟨g, 0, none⟩)] w fun e w' => e = .returned (.agg #[.int .i64 r1, .int .i64 r2]) ∧ IsS149 w0 w' g s0_0 r3 r4 ∧ Below w0.heap.size w0 w' ∧ KeepBut w w' g none := by
 have hu32 := Tryz.underlying32; have HI0 := Aside0.mk hI; have HK := Aside0.mk (KeepBut.refl w g none); have HL := Aside0.mk hB.size; clear hI; have HW0 := Aside0.mk hB.size; have HB := Aside0.mk hB; clear hB
 have H := h; unfold spec_l7DrawConf.f at H
 clear h; obtain ⟨⟨t529, t530, t531⟩, A2, H⟩ := oB H; (try dsimp only at H); obtain ⟨⟨t532, t533, t534⟩, A3, H⟩ := oB H; (try dsimp only at H)
 simp only [Option.some.injEq, Prod.mk.injEq] at H
 obtain ⟨rfl, rfl, rfl, rfl⟩ := H; have i0_ := iB149 HI0; have i1_ : LB w0 w := ⟨HB.out⟩
 go_enter Tryz.func91, Tryz.ntmps91
 go_wp2_with (first | ((with_reducible refine gd 2 ?_); refine bL 2 #[.int .i64 0, .int .i64 0] 32 ?_; intro gb528 w4 _ _ _) | ((with_reducible refine gate_callee (f := 97) rfl ?_); refine gK (some 4) Tryz.func97 (spec_l1Below.calls (hI := iS149 HI0) (hB := UpW.out) (w := _) (h := A2.out)) ?_; intro w5 _ _ _ HI6) | ((with_reducible refine gate_callee (f := 97) rfl ?_); refine gK (some 7) Tryz.func97 (spec_l1Below.calls (hI := iS149 HI6) (hB := UpW.out) (w := _) (h := A3.out)) ?_; intro w7 _ _ _ HI8))
 refine bodyPost_ret (results_cell_row rfl _ _ gb528 32 #[.int .i64 (wrap64 (4 + t529)), .int .i64 (wrap64 (1 + t532))] (0, 0) _ rfl xB Tryz.underlying32 rfl (by kernel_rfl)) rfl ?_
 exact ⟨y0_17, iS149 HI8, UpW.out, UpB.out⟩
def spec_l1PickInt.f (s0_0 : List Int) (s0_1 : Int) (s0_2 : Int) (l1 : List Int) : Option (Int × Int × Int) := (spec_l1Below.f s0_0 s0_1 s0_2 (l1.length : Int)).bind fun bt535 => (if 0 ≤ bt535.1 then (if bt535.1 < (l1.length : Int) then (some (rd l1 bt535.1, bt535.2.1, bt535.2.2)) else (none)) else (none))
theorem spec_l1PickInt.calls (g : Nat) (s0_0 : List Int) (s0_1 : Int) (s0_2 : Int) (A1 : Option Addr) (c1 : Nat) (l1 : List Int) (r1 : Int) (r2 : Int) (r3 : Int) (w0 w : World) (hI : IsS149 w0 w g s0_0 s0_1 s0_2) (hB : Below w0.heap.size w0 w) (hr1 : Kd.C (Kd.int .i64) w A1 l1.length l1) (hc1 : l1.length ≤ c1) (hf1 : ∀ ad, A1 = some ad → 0 < l1.length → ad.block ≠ g) (h : spec_l1PickInt.f s0_0 s0_1 s0_2 l1 = some (r1, r2, r3)) :
  Calls Tryz.prog 132 #[.pointer (some ⟨g, 0, none⟩), .slice A1 l1.length c1] w fun e w' => e = .returned (.int .i64 r1) ∧ IsS149 w0 w' g s0_0 r2 r3 ∧ Below w0.heap.size w0 w' ∧ KeepBut w w' g none := by
 have HR1 := Aside0.mk hr1; have HC1 := Aside0.mk hc1; clear hr1 hc1; have HI0 := Aside0.mk hI; have HK := Aside0.mk (KeepBut.refl w g none); have HL := Aside0.mk hB.size; clear hI; have HW0 := Aside0.mk hB.size; have HB := Aside0.mk hB; clear hB
 have H := h; unfold spec_l1PickInt.f at H
 clear h; obtain ⟨⟨t535, t536, t537⟩, A3, H⟩ := oB H; (try dsimp only at H)
 by_cases c4 : 0 ≤ t535
 ·
  rw [if_pos c4] at H
  have c4b0 : decide (0 ≤ t535) = true := decide_eq_true c4; clear c4
  by_cases c5 : t535 < (l1.length : Int)
  rotate_left
  ·
   rw [if_neg c5] at H
   exact absurd H (by simp)
  rw [if_pos c5] at H
  have c5b0 : decide (t535 < (l1.length : Int)) = true := decide_eq_true c5; clear c5
  simp only [Option.some.injEq, Prod.mk.injEq] at H
  obtain ⟨rfl, rfl, rfl⟩ := H; have i0_ := iB149 HI0; have i1_ : LB w0 w := ⟨HB.out⟩
  go_enter Tryz.func132, Tryz.ntmps132
  go_wp2_with (first | ((with_reducible refine gate_callee (f := 97) rfl ?_); refine gK (some 9) Tryz.func97 (spec_l1Below.calls (hI := iS149 HI0) (hB := UpW.out) (w := _) (h := A3.out)) ?_; intro w6 _ _ _ HI7; have p538 : 0 ≤ (t535 : Int) := of_decide_eq_true y0_16; have q538 : t535 < (l1.length : Int) := of_decide_eq_true y0_16; obtain ⟨ad538, e538, hx538_0⟩ := Kd.at_int HR1.out t535 p538 q538; cases e538; have nb538 : NbI ad538 g := ⟨hf1 _ rfl (by omega)⟩; have i538_0_ := RdP.mk hx538_0; clear hx538_0; replace p538 := eq_true p538; replace q538 := eq_true q538))
  go_ret
  exact ⟨y0_17, iS149 HI7, UpW.out, UpB.out⟩
 rw [if_neg c4] at H
 exact absurd H (by simp)
def spec_l1Once.f (s0_0 : List Int) (s0_1 : Int) (s0_2 : Int) (a1 : Int) : Option (Bool × Int × Int) := (spec_l1Below.f s0_0 s0_1 s0_2 a1).bind fun bt539 => (some ((bt539.1 == 0), bt539.2.1, bt539.2.2))
theorem spec_l1Once.calls (g : Nat) (s0_0 : List Int) (s0_1 : Int) (s0_2 : Int) (a1 : Int) (r1 : Bool) (r2 : Int) (r3 : Int) (w0 w : World) (hI : IsS149 w0 w g s0_0 s0_1 s0_2) (hB : Below w0.heap.size w0 w) (h : spec_l1Once.f s0_0 s0_1 s0_2 a1 = some (r1, r2, r3)) :
  Calls Tryz.prog 93 #[.pointer (some ⟨g, 0, none⟩), .int .i64 a1] w fun e w' => e = .returned (.bool r1) ∧ IsS149 w0 w' g s0_0 r2 r3 ∧ Below w0.heap.size w0 w' ∧ KeepBut w w' g none := by
 have HI0 := Aside0.mk hI; have HK := Aside0.mk (KeepBut.refl w g none); have HL := Aside0.mk hB.size; clear hI; have HW0 := Aside0.mk hB.size; have HB := Aside0.mk hB; clear hB
 have H := h; unfold spec_l1Once.f at H
 clear h; obtain ⟨⟨t539, t540, t541⟩, A3, H⟩ := oB H; (try dsimp only at H)
 simp only [Option.some.injEq, Prod.mk.injEq] at H
 obtain ⟨rfl, rfl, rfl⟩ := H; have i0_ := iB149 HI0; have i1_ : LB w0 w := ⟨HB.out⟩
 go_enter Tryz.func93, Tryz.ntmps93
 go_wp2_with (first | ((with_reducible refine gate_callee (f := 97) rfl ?_); refine gK (some 7) Tryz.func97 (spec_l1Below.calls (hI := iS149 HI0) (hB := UpW.out) (w := _) (h := A3.out)) ?_; intro w4 _ _ _ HI5))
 go_ret
 exact ⟨y0_17, iS149 HI5, UpW.out, UpB.out⟩
def spec_l2DrawRight.f (s0_0 : List Int) (s0_1 : Int) (s0_2 : Int) : Option (Int × Int × Int × Int × Int × Int) := (spec_l1Below.f s0_0 s0_1 s0_2 4).bind fun bt543 => ((spec_l1Below.f s0_0 bt543.2.1 bt543.2.2 4).bind fun bt546 => ((spec_l1PickInt.f s0_0 bt546.2.1 bt546.2.2 (([0, 5, 60, 100, 1000] : List Int))).bind fun bt552 => ((spec_l1Below.f s0_0 bt552.2.1 bt552.2.2 3).bind fun bt555 => (some (bt543.1, bt546.1, bt552.1, bt555.1, bt555.2.1, bt555.2.2)))))
theorem spec_l2DrawRight.calls (g : Nat) (s0_0 : List Int) (s0_1 : Int) (s0_2 : Int) (r1 : Int) (r2 : Int) (r3 : Int) (r4 : Int) (r5 : Int) (r6 : Int) (w0 w : World) (hI : IsS149 w0 w g s0_0 s0_1 s0_2) (hB : Below w0.heap.size w0 w) (h : spec_l2DrawRight.f s0_0 s0_1 s0_2 = some (r1, r2, r3, r4, r5, r6)) :
  Calls Tryz.prog 149 #[.pointer (some ⟨g, 0, none⟩)] w fun e w' => e = .returned (.agg #[.int .i64 r1, .int .i64 r2, .int .i64 r3, .int .i64 r4]) ∧ IsS149 w0 w' g s0_0 r5 r6 ∧ Below w0.heap.size w0 w' ∧ KeepBut w w' g none := by
 have hu156 := Tryz.underlying156; have HI0 := Aside0.mk hI; have HK := Aside0.mk (KeepBut.refl w g none); have HL := Aside0.mk hB.size; clear hI; have HW0 := Aside0.mk hB.size; have HB := Aside0.mk hB; clear hB
 have H := h; unfold spec_l2DrawRight.f at H
 clear h; obtain ⟨⟨t543, t544, t545⟩, A2, H⟩ := oB H; (try dsimp only at H); obtain ⟨⟨t546, t547, t548⟩, A3, H⟩ := oB H; (try dsimp only at H); obtain ⟨y549, hy549⟩ : ∃ y_ : List Int, y_ = (([0, 5, 60, 100, 1000] : List Int)) := ⟨_, rfl⟩
 replace H : ((spec_l1PickInt.f s0_0 t547 t548 y549).bind fun bt552 => ((spec_l1Below.f s0_0 bt552.2.1 bt552.2.2 3).bind fun bt555 => (some (t543, t546, bt552.1, bt555.1, bt555.2.1, bt555.2.2)))) = some (r1, r2, r3, r4, r5, r6) := by first | (rw [hy549]; with_reducible exact H) | (rw [hy549]; with_reducible exact (Option.bind_some _ _).symm.trans H) | (rw [hy549]; exact H) | exact H
 have Ny549 := Aside0.mk hy549; clear hy549; obtain ⟨⟨t552, t553, t554⟩, A4, H⟩ := oB H; (try dsimp only at H); obtain ⟨⟨t555, t556, t557⟩, A5, H⟩ := oB H; (try dsimp only at H)
 simp only [Option.some.injEq, Prod.mk.injEq] at H
 obtain ⟨rfl, rfl, rfl, rfl, rfl, rfl⟩ := H; have i0_ := iB149 HI0; have i1_ : LB w0 w := ⟨HB.out⟩
 go_enter Tryz.func149, Tryz.ntmps149
 go_wp2_with (first | ((with_reducible refine gd 2 ?_); refine bL 2 #[.int .i64 0, .int .i64 0, .int .i64 0, .int .i64 0] 156 ?_; intro gb542 w6 _ _ _) | ((with_reducible refine gate_callee (f := 97) rfl ?_); refine gK (some 4) Tryz.func97 (spec_l1Below.calls (hI := iS149 HI0) (hB := UpW.out) (w := _) (h := A2.out)) ?_; intro w7 _ _ _ HI8) | ((with_reducible refine gate_callee (f := 97) rfl ?_); refine gK (some 6) Tryz.func97 (spec_l1Below.calls (hI := iS149 HI8) (hB := UpW.out) (w := _) (h := A3.out)) ?_; intro w9 _ _ _ HI10) | ((with_reducible refine gate_dst (N := 8) rfl ?_); refine lL 8 3 (Kd.int .i64) rfl Ny549 ?_; intro Ao550 co550 w11 _ HO551) | ((with_reducible refine gate_callee (f := 132) rfl ?_); refine gK (some 9) Tryz.func132 (spec_l1PickInt.calls (hI := iS149 HI10) (hB := UpW.out) (hr1 := rC HO551) (hc1 := rL HO551) (hf1 := fS HO551) (w := _) (h := A4.out)) ?_; intro w12 _ _ _ HI13) | ((with_reducible refine gate_callee (f := 97) rfl ?_); refine gK (some 11) Tryz.func97 (spec_l1Below.calls (hI := iS149 HI13) (hB := UpW.out) (w := _) (h := A5.out)) ?_; intro w14 _ _ _ HI15))
 refine bodyPost_ret (results_cell_row rfl _ _ gb542 156 #[.int .i64 t543, .int .i64 t546, .int .i64 t552, .int .i64 t555] (0, 0) _ rfl xB Tryz.underlying156 rfl (by kernel_rfl)) rfl ?_
 exact ⟨y0_17, iS149 HI15, UpW.out, UpB.out⟩
def spec_TxsText.l0 : Nat → List (S156) → ByteArray → Int → Option (ByteArray)
 | 0, _, _, _ => none
 | k + 1, x0, x3, x4 => if x4 < (x0.length : Int) then (if 0 ≤ x4 then ((spec_TxOk.f ((rd_T156 x0 x4).f0) ((rd_T156 x0 x4).f1) ((rd_T156 x0 x4).f2) ((rd_T156 x0 x4).f3)).bind fun t559 => (if t559 = true then (if x4 > 0 then (if x3.size + 1 ≤ 9223372036854775807 then ((spec_TxText.f k ((rd_T156 x0 x4).f0) ((rd_T156 x0 x4).f1) ((rd_T156 x0 x4).f2) ((rd_T156 x0 x4).f3)).bind fun t561 => (if (x3 ++ (⟨#[44]⟩ : ByteArray)).size + t561.size ≤ 9223372036854775807 then (spec_TxsText.l0 k x0 ((x3 ++ (⟨#[44]⟩ : ByteArray)) ++ t561) (wrap64 (x4 + 1))) else (none))) else (none)) else ((spec_TxText.f k ((rd_T156 x0 x4).f0) ((rd_T156 x0 x4).f1) ((rd_T156 x0 x4).f2) ((rd_T156 x0 x4).f3)).bind fun t563 => (if x3.size + t563.size ≤ 9223372036854775807 then (spec_TxsText.l0 k x0 (x3 ++ t563) (wrap64 (x4 + 1))) else (none)))) else (some (⟨#[]⟩ : ByteArray)))) else (none)) else (some x3)
def spec_TxsText.f (k : Nat) (l0 : List (S156)) : Option (ByteArray) := spec_TxsText.l0 k l0 (⟨#[]⟩ : ByteArray) 0
theorem spec_TxsText.calls (k : Nat) (A0 : Option Addr) (c0 : Nat) (l0 : List (S156)) (r : ByteArray) (w : World) (hr0 : Kd.C k156 w A0 l0.length l0) (hc0 : l0.length ≤ c0) (h : spec_TxsText.f k l0 = some r) :
  Calls Tryz.prog 173 #[.slice A0 l0.length c0] w fun e w' => e = .returned (.string r) ∧ Below w.heap.size w w' := by
 have hu156 := Tryz.underlying156; have HR0 := Aside0.mk hr0; have HC0 := Aside0.mk hc0; clear hr0 hc0; have HB := Aside0.mk (Below.refl w.heap.size w); have H := h; unfold spec_TxsText.f at H; clear h
 go_enter Tryz.func173, Tryz.ntmps173
 have H' := Aside0.mk H; clear H
 go_wp2
 refine wC ?_; intro w2 _
 go_loopg [3, 4] k (fun kq v3 v4 w' => ∃ (x3_1 : ByteArray) (x4_1 : Int), v3 = .string x3_1 ∧ v4 = .int .i64 x4_1 ∧ Aside0 (spec_TxsText.l0 kq l0 x3_1 x4_1 = some r) ∧ Aside0 (kq ≤ k) ∧ UB w2 w')
 case atStart => exact ⟨((⟨#[]⟩ : ByteArray)), (0), y0_17, y0_17, H', ⟨Nat.le_refl _⟩, ⟨UpW.out⟩⟩
 case round =>
  clear H'; obtain ⟨x3_1, x4_1, rfl, rfl, HA, HK1, _⟩ := hrel; cases gk with
  | zero => exact absurd HA.out (by simp [spec_TxsText.l0])
  | succ k1 =>
   have H := HA.out; clear HA
   simp only [spec_TxsText.l0] at H
   by_cases c3 : x4_1 < (l0.length : Int)
   ·
    rw [if_pos c3] at H
    have c3b0 : decide (x4_1 < (l0.length : Int)) = true := decide_eq_true c3; clear c3
    by_cases c4 : 0 ≤ x4_1
    rotate_left
    ·
     rw [if_neg c4] at H
     exact absurd H (by simp)
    rw [if_pos c4] at H
    have c4b0 : decide (0 ≤ x4_1) = true := decide_eq_true c4; clear c4; obtain ⟨t559, A5, H⟩ := oB H; (try dsimp only at H); have H' := Aside0.mk H; clear H; have p558 : 0 ≤ (x4_1 : Int) := of_decide_eq_true y0_16; have q558 : x4_1 < (l0.length : Int) := of_decide_eq_true y0_16; obtain ⟨ad558, e558, hx558_0, hx558_1, hx558_2, hx558_3⟩ := at_T156 HR0.out x4_1 p558 q558; cases e558; have i558_0_ := RdP.mk hx558_0; have i558_1_ := RdP.mk hx558_1; have i558_2_ := RdP.mk hx558_2; have i558_3_ := RdP.mk hx558_3; clear hx558_0 hx558_1 hx558_2 hx558_3; replace p558 := eq_true p558; replace q558 := eq_true q558
    go_upto_if 16 with (first | ((with_reducible refine gate_callee (f := 172) rfl ?_); refine gC (some 15) Tryz.func172 (spec_TxOk.calls (w := _) (h := A5.out)) ?_; intro w6 _))
    have H := H'.out; clear H'
    by_cases c7 : t559 = true
    ·
     subst c7
     rw [if_pos rfl] at H
     by_cases c8 : x4_1 > 0
     ·
      rw [if_pos c8] at H
      have c8b0 : decide (0 < x4_1) = true := decide_eq_true c8; clear c8
      (first | rw [c8b0] | (simp only [i64_w, i32_w]; rw [c8b0]) | skip)
      by_cases c9 : x3_1.size + 1 ≤ 9223372036854775807
      rotate_left
      ·
       rw [if_neg c9] at H
       exact absurd H (by simp)
      rw [if_pos c9] at H
      have c9b0 := eq_true c9; have c9b1 : decide (x3_1.size + 1 ≤ 9223372036854775807) = true := decide_eq_true c9
      try have c9b2 : (9223372036854775807 < x3_1.size + 1) = False := eq_false (Nat.not_lt.2 c9)
      obtain ⟨t561, A10, H⟩ := oB H; (try dsimp only at H)
      by_cases c11 : (x3_1 ++ (⟨#[44]⟩ : ByteArray)).size + t561.size ≤ 9223372036854775807
      rotate_left
      ·
       rw [if_neg c11] at H
       exact absurd H (by simp)
      rw [if_pos c11] at H
      have c11b0 := eq_true c11; have c11b1 : decide ((x3_1 ++ (⟨#[44]⟩ : ByteArray)).size + t561.size ≤ 9223372036854775807) = true := decide_eq_true c11
      try have c11b2 : (9223372036854775807 < (x3_1 ++ (⟨#[44]⟩ : ByteArray)).size + t561.size) = False := eq_false (Nat.not_lt.2 c11)
      (try have c11b3 : (9223372036854775807 < x3_1.size + 1 + t561.size) = False := eq_false (by have h_ := c11; simp only [ByteArray.size_append, ByteArray.size_extract, show (⟨#[44]⟩ : ByteArray).size = 1 from rfl] at h_; omega))
      have H' := Aside0.mk H; clear H; have p560 : 0 ≤ (x4_1 : Int) := of_decide_eq_true y0_16; have q560 : x4_1 < (l0.length : Int) := of_decide_eq_true y0_16; obtain ⟨ad560, e560, hx560_0, hx560_1, hx560_2, hx560_3⟩ := at_T156 HR0.out x4_1 p560 q560
      obtain rfl : ad558 = ad560 := (by injection e560)
      have i560_0_ := RdP.mk hx560_0; have i560_1_ := RdP.mk hx560_1; have i560_2_ := RdP.mk hx560_2; have i560_3_ := RdP.mk hx560_3; clear hx560_0 hx560_1 hx560_2 hx560_3; replace p560 := eq_true p560; replace q560 := eq_true q560
      go_wp2_with (first | ((with_reducible refine gate_callee (f := 194) rfl ?_); refine gC (some 26) Tryz.func194 (spec_TxText.calls (w := _) (h := A10.out)) ?_; intro w12 _))
      go_roundg k1
      case measure => have := HK1.out; omega
      case rel => exact ⟨((x3_1 ++ (⟨#[44]⟩ : ByteArray)) ++ t561), (wrap64 (x4_1 + 1)), y0_17, y0_17, H', ⟨y0_20⟩, ⟨UpW.out⟩⟩
     rw [if_neg c8] at H
     have c8b0 : decide (0 < x4_1) = false := decide_eq_false c8; clear c8
     (first | rw [c8b0] | (simp only [i64_w, i32_w]; rw [c8b0]) | skip)
     obtain ⟨t563, A13, H⟩ := oB H; (try dsimp only at H)
     by_cases c14 : x3_1.size + t563.size ≤ 9223372036854775807
     rotate_left
     ·
      rw [if_neg c14] at H
      exact absurd H (by simp)
     rw [if_pos c14] at H
     have c14b0 := eq_true c14; have c14b1 : decide (x3_1.size + t563.size ≤ 9223372036854775807) = true := decide_eq_true c14
     try have c14b2 : (9223372036854775807 < x3_1.size + t563.size) = False := eq_false (Nat.not_lt.2 c14)
     have H' := Aside0.mk H; clear H; have p562 : 0 ≤ (x4_1 : Int) := of_decide_eq_true y0_16; have q562 : x4_1 < (l0.length : Int) := of_decide_eq_true y0_16; obtain ⟨ad562, e562, hx562_0, hx562_1, hx562_2, hx562_3⟩ := at_T156 HR0.out x4_1 p562 q562
     obtain rfl : ad558 = ad562 := (by injection e562)
     have i562_0_ := RdP.mk hx562_0; have i562_1_ := RdP.mk hx562_1; have i562_2_ := RdP.mk hx562_2; have i562_3_ := RdP.mk hx562_3; clear hx562_0 hx562_1 hx562_2 hx562_3; replace p562 := eq_true p562; replace q562 := eq_true q562
     go_wp2_with (first | ((with_reducible refine gate_callee (f := 194) rfl ?_); refine gC (some 26) Tryz.func194 (spec_TxText.calls (w := _) (h := A13.out)) ?_; intro w15 _))
     go_roundg k1
     case measure => have := HK1.out; omega
     case rel => exact ⟨(x3_1 ++ t563), (wrap64 (x4_1 + 1)), y0_17, y0_17, H', ⟨y0_20⟩, ⟨UpW.out⟩⟩
    replace c7 := Bool.eq_false_iff.mpr c7; subst c7
    rw [if_neg Bool.false_ne_true] at H
    obtain rfl := Option.some.inj H
    go_wp2
    go_ret
    exact ⟨y0_17, UpW.out⟩
   rw [if_neg c3] at H
   have c3b0 : decide (x4_1 < (l0.length : Int)) = false := decide_eq_false c3; clear c3; obtain rfl := Option.some.inj H
   go_wp2
   go_ret
   exact ⟨y0_17, UpW.out⟩
def spec_NameOf.l0 : Nat → ByteArray → Int → List (S156) → Int → Option (ByteArray)
 | 0, _, _, _, _ => none
 | k + 1, x0, x1, x2, x7 => if x7 < (x2.length : Int) then (if 0 ≤ x7 then ((spec_TxOk.f ((rd_T156 x2 x7).f0) ((rd_T156 x2 x7).f1) ((rd_T156 x2 x7).f2) ((rd_T156 x2 x7).f3)).bind fun t565 => (if t565 = true then (spec_NameOf.l0 k x0 x1 x2 (wrap64 (x7 + 1))) else (some (⟨#[]⟩ : ByteArray)))) else (none)) else (if x0.size + 1 ≤ 9223372036854775807 then ((spec_Digits.f k x1).bind fun t566 => (if (x0 ++ (⟨#[47]⟩ : ByteArray)).size + t566.size ≤ 9223372036854775807 then (if ((x0 ++ (⟨#[47]⟩ : ByteArray)) ++ t566).size + 1 ≤ 9223372036854775807 then ((spec_TxsText.f k x2).bind fun t567 => (if (((x0 ++ (⟨#[47]⟩ : ByteArray)) ++ t566) ++ (⟨#[124]⟩ : ByteArray)).size + t567.size ≤ 9223372036854775807 then ((spec_NameOk.f k ((((x0 ++ (⟨#[47]⟩ : ByteArray)) ++ t566) ++ (⟨#[124]⟩ : ByteArray)) ++ t567)).bind fun t568 => (if t568 = true then (some ((((x0 ++ (⟨#[47]⟩ : ByteArray)) ++ t566) ++ (⟨#[124]⟩ : ByteArray)) ++ t567)) else (some (⟨#[]⟩ : ByteArray)))) else (none))) else (none)) else (none))) else (none))
def spec_NameOf.f (k : Nat) (a0 : ByteArray) (a1 : Int) (l2 : List (S156)) : Option (ByteArray) := spec_NameOf.l0 k a0 a1 l2 0
theorem spec_NameOf.calls (k : Nat) (a0 : ByteArray) (a1 : Int) (A2 : Option Addr) (c2 : Nat) (l2 : List (S156)) (r : ByteArray) (w : World) (hr2 : Kd.C k156 w A2 l2.length l2) (hc2 : l2.length ≤ c2) (h : spec_NameOf.f k a0 a1 l2 = some r) :
  Calls Tryz.prog 150 #[.string a0, .int .i64 a1, .slice A2 l2.length c2] w fun e w' => e = .returned (.string r) ∧ Below w.heap.size w w' := by
 have hu156 := Tryz.underlying156; have HR2 := Aside0.mk hr2; have HC2 := Aside0.mk hc2; clear hr2 hc2; have HB := Aside0.mk (Below.refl w.heap.size w); have H := h; unfold spec_NameOf.f at H; clear h
 go_enter Tryz.func150, Tryz.ntmps150
 have H' := Aside0.mk H; clear H
 go_wp2
 refine wC ?_; intro w4 _
 go_loopg [7] k (fun kq v7 w' => ∃ (x7_1 : Int), v7 = .int .i64 x7_1 ∧ Aside0 (spec_NameOf.l0 kq a0 a1 l2 x7_1 = some r) ∧ Aside0 (kq ≤ k) ∧ UB w4 w')
 case atStart => exact ⟨(0), y0_17, H', ⟨Nat.le_refl _⟩, ⟨UpW.out⟩⟩
 case round =>
  clear H'; obtain ⟨x7_1, rfl, HA, HK1, _⟩ := hrel; cases gk with
  | zero => exact absurd HA.out (by simp [spec_NameOf.l0])
  | succ k1 =>
   have H := HA.out; clear HA
   simp only [spec_NameOf.l0] at H
   by_cases c5 : x7_1 < (l2.length : Int)
   ·
    rw [if_pos c5] at H
    have c5b0 : decide (x7_1 < (l2.length : Int)) = true := decide_eq_true c5; clear c5
    by_cases c6 : 0 ≤ x7_1
    rotate_left
    ·
     rw [if_neg c6] at H
     exact absurd H (by simp)
    rw [if_pos c6] at H
    have c6b0 : decide (0 ≤ x7_1) = true := decide_eq_true c6; clear c6; obtain ⟨t565, A7, H⟩ := oB H; (try dsimp only at H); have H' := Aside0.mk H; clear H; have p564 : 0 ≤ (x7_1 : Int) := of_decide_eq_true y0_16; have q564 : x7_1 < (l2.length : Int) := of_decide_eq_true y0_16; obtain ⟨ad564, e564, hx564_0, hx564_1, hx564_2, hx564_3⟩ := at_T156 HR2.out x7_1 p564 q564; cases e564; have i564_0_ := RdP.mk hx564_0; have i564_1_ := RdP.mk hx564_1; have i564_2_ := RdP.mk hx564_2; have i564_3_ := RdP.mk hx564_3; clear hx564_0 hx564_1 hx564_2 hx564_3; replace p564 := eq_true p564; replace q564 := eq_true q564
    go_upto_if 20 with (first | ((with_reducible refine gate_callee (f := 172) rfl ?_); refine gC (some 19) Tryz.func172 (spec_TxOk.calls (w := _) (h := A7.out)) ?_; intro w8 _))
    have H := H'.out; clear H'
    by_cases c9 : t565 = true
    ·
     subst c9
     rw [if_pos rfl] at H
     have H' := Aside0.mk H; clear H
     go_wp2
     go_roundg k1
     case measure => have := HK1.out; omega
     case rel => exact ⟨(wrap64 (x7_1 + 1)), y0_17, H', ⟨y0_20⟩, ⟨UpW.out⟩⟩
    replace c9 := Bool.eq_false_iff.mpr c9; subst c9
    rw [if_neg Bool.false_ne_true] at H
    obtain rfl := Option.some.inj H
    go_wp2
    go_ret
    exact ⟨y0_17, UpW.out⟩
   rw [if_neg c5] at H
   have c5b0 : decide (x7_1 < (l2.length : Int)) = false := decide_eq_false c5; clear c5
   by_cases c10 : a0.size + 1 ≤ 9223372036854775807
   ·
    rw [if_pos c10] at H
    have c10b0 := eq_true c10; have c10b1 : decide (a0.size + 1 ≤ 9223372036854775807) = true := decide_eq_true c10
    try have c10b2 : (9223372036854775807 < a0.size + 1) = False := eq_false (Nat.not_lt.2 c10)
    obtain ⟨t566, A11, H⟩ := oB H; (try dsimp only at H)
    by_cases c12 : (a0 ++ (⟨#[47]⟩ : ByteArray)).size + t566.size ≤ 9223372036854775807
    rotate_left
    ·
     rw [if_neg c12] at H
     exact absurd H (by simp)
    rw [if_pos c12] at H
    have c12b0 := eq_true c12; have c12b1 : decide ((a0 ++ (⟨#[47]⟩ : ByteArray)).size + t566.size ≤ 9223372036854775807) = true := decide_eq_true c12
    try have c12b2 : (9223372036854775807 < (a0 ++ (⟨#[47]⟩ : ByteArray)).size + t566.size) = False := eq_false (Nat.not_lt.2 c12)
    (try have c12b3 : (9223372036854775807 < a0.size + 1 + t566.size) = False := eq_false (by have h_ := c12; simp only [ByteArray.size_append, ByteArray.size_extract, show (⟨#[47]⟩ : ByteArray).size = 1 from rfl] at h_; omega))
    by_cases c13 : ((a0 ++ (⟨#[47]⟩ : ByteArray)) ++ t566).size + 1 ≤ 9223372036854775807
    rotate_left
    ·
     rw [if_neg c13] at H
     exact absurd H (by simp)
    rw [if_pos c13] at H
    have c13b0 := eq_true c13; have c13b1 : decide (((a0 ++ (⟨#[47]⟩ : ByteArray)) ++ t566).size + 1 ≤ 9223372036854775807) = true := decide_eq_true c13
    try have c13b2 : (9223372036854775807 < ((a0 ++ (⟨#[47]⟩ : ByteArray)) ++ t566).size + 1) = False := eq_false (Nat.not_lt.2 c13)
    (try have c13b3 : (9223372036854775807 < a0.size + 1 + t566.size + 1) = False := eq_false (by have h_ := c13; simp only [ByteArray.size_append, ByteArray.size_extract, show (⟨#[47]⟩ : ByteArray).size = 1 from rfl] at h_; omega))
    obtain ⟨t567, A14, H⟩ := oB H; (try dsimp only at H)
    by_cases c15 : (((a0 ++ (⟨#[47]⟩ : ByteArray)) ++ t566) ++ (⟨#[124]⟩ : ByteArray)).size + t567.size ≤ 9223372036854775807
    rotate_left
    ·
     rw [if_neg c15] at H
     exact absurd H (by simp)
    rw [if_pos c15] at H
    have c15b0 := eq_true c15; have c15b1 : decide ((((a0 ++ (⟨#[47]⟩ : ByteArray)) ++ t566) ++ (⟨#[124]⟩ : ByteArray)).size + t567.size ≤ 9223372036854775807) = true := decide_eq_true c15
    try have c15b2 : (9223372036854775807 < (((a0 ++ (⟨#[47]⟩ : ByteArray)) ++ t566) ++ (⟨#[124]⟩ : ByteArray)).size + t567.size) = False := eq_false (Nat.not_lt.2 c15)
    (try have c15b3 : (9223372036854775807 < a0.size + 1 + t566.size + 1 + t567.size) = False := eq_false (by have h_ := c15; simp only [ByteArray.size_append, ByteArray.size_extract, show (⟨#[124]⟩ : ByteArray).size = 1 from rfl, show (⟨#[47]⟩ : ByteArray).size = 1 from rfl] at h_; omega))
    obtain ⟨t568, A16, H⟩ := oB H; (try dsimp only at H); have H' := Aside0.mk H; clear H
    go_upto_if 32 with (first | ((with_reducible refine gate_callee (f := 166) rfl ?_); refine gC (some 24) Tryz.func166 (spec_Digits.calls (w := _) (h := A11.out)) ?_; intro w17 _) | ((with_reducible refine gate_callee (f := 173) rfl ?_); refine gC (some 28) Tryz.func173 (spec_TxsText.calls (hr0 := pC HR2) (hc0 := HC2.out) (w := _) (h := A14.out)) ?_; intro w18 _) | ((with_reducible refine gate_callee (f := 112) rfl ?_); refine gC (some 31) Tryz.func112 (spec_NameOk.calls (w := _) (h := A16.out)) ?_; intro w19 _))
    have H := H'.out; clear H'
    by_cases c20 : t568 = true
    ·
     subst c20
     rw [if_pos rfl] at H
     obtain rfl := Option.some.inj H
     go_wp2
     go_ret
     exact ⟨y0_17, UpW.out⟩
    replace c20 := Bool.eq_false_iff.mpr c20; subst c20
    rw [if_neg Bool.false_ne_true] at H
    obtain rfl := Option.some.inj H
    go_wp2
    go_ret
    exact ⟨y0_17, UpW.out⟩
   rw [if_neg c10] at H
   exact absurd H (by simp)
mutual
def spec_l5DrawRight.l0 : Nat → ByteArray → Int → Int → List Int → Int → Int → Option (ByteArray × Int × Int)
 | 0, _, _, _, _, _, _ => none
 | k + 1, x3, x4, x5, x1000, x1001, x1002 => (spec_l1Below.f x1000 x1001 x1002 6).bind fun bt569 => (if x5 < bt569.1 then ((spec_l1Below.f x1000 bt569.2.1 bt569.2.2 4).bind fun bt572 => (spec_l5DrawRight.l1 k x3 (wrap64 ((wrap64 (x4 + 1)) + (wrap64 (Int.tdiv bt572.1 3)))) x5 (([] : List (S156))) 0 x1000 bt572.2.1 bt572.2.2)) else (some (x3, bt569.2.1, bt569.2.2)))
def spec_l5DrawRight.l1 : Nat → ByteArray → Int → Int → List (S156) → Int → List Int → Int → Int → Option (ByteArray × Int × Int)
 | 0, _, _, _, _, _, _, _, _ => none
 | k + 1, x3, x4, x5, x6, x7, x1000, x1001, x1002 => (spec_l1Below.f x1000 x1001 x1002 3).bind fun bt578 => (if x7 < bt578.1 then ((spec_l2DrawRight.f x1000 bt578.2.1 bt578.2.2).bind fun bt581 => (if x6.length < 4398046511104 then (spec_l5DrawRight.l1 k x3 x4 x5 (x6 ++ [(⟨bt581.1, bt581.2.1, bt581.2.2.1, bt581.2.2.2.1⟩ : S156)]) (wrap64 (x7 + 1)) x1000 bt581.2.2.2.2.1 bt581.2.2.2.2.2) else (none))) else ((spec_NameOf.f k x3 x4 x6).bind fun t590 => (spec_l5DrawRight.l0 k t590 x4 (wrap64 (x5 + 1)) x1000 bt578.2.1 bt578.2.2)))
end
def spec_l5DrawRight.f (k : Nat) (s0_0 : List Int) (s0_1 : Int) (s0_2 : Int) : Option (ByteArray × Int × Int) := spec_l5DrawRight.l0 k (⟨#[]⟩ : ByteArray) 0 0 s0_0 s0_1 s0_2
theorem spec_l5DrawRight.calls (k : Nat) (g : Nat) (s0_0 : List Int) (s0_1 : Int) (s0_2 : Int) (r1 : ByteArray) (r2 : Int) (r3 : Int) (w0 w : World) (hI : IsS149 w0 w g s0_0 s0_1 s0_2) (hB : Below w0.heap.size w0 w) (h : spec_l5DrawRight.f k s0_0 s0_1 s0_2 = some (r1, r2, r3)) :
  Calls Tryz.prog 101 #[.pointer (some ⟨g, 0, none⟩)] w fun e w' => e = .returned (.string r1) ∧ IsS149 w0 w' g s0_0 r2 r3 ∧ Below w0.heap.size w0 w' ∧ KeepBut w w' g none := by
 have HI0 := Aside0.mk hI; have HK := Aside0.mk (KeepBut.refl w g none); have HL := Aside0.mk hB.size; clear hI; have HW0 := Aside0.mk hB.size; have HB := Aside0.mk hB; clear hB; have H := h; unfold spec_l5DrawRight.f at H; clear h; have i0_ := iB149 HI0; have i1_ : LB w0 w := ⟨HB.out⟩
 go_enter Tryz.func101, Tryz.ntmps101
 have H' := Aside0.mk H; clear H
 go_wp2
 refine wC ?_; intro w2 _
 go_loopg [3, 4, 5] k (fun kq v3 v4 v5 w' => ∃ (x3_1 : ByteArray) (x4_1 : Int) (x5_1 : Int) (x1001_1 : Int) (x1002_1 : Int), v3 = .string x3_1 ∧ v4 = .int .i64 x4_1 ∧ v5 = .int .i64 x5_1 ∧ Aside0 (spec_l5DrawRight.l0 kq x3_1 x4_1 x5_1 s0_0 x1001_1 x1002_1 = some (r1, r2, r3)) ∧ Aside0 (kq ≤ k) ∧ StB g w' 149 ∧ Aside0 (IsS149 w0 w' g s0_0 x1001_1 x1002_1) ∧ KL w2 [g] w' ∧ LB w0 w' ∧ KS w g w')
 case atStart => exact ⟨((⟨#[]⟩ : ByteArray)), (0), (0), (s0_1), (s0_2), y0_17, y0_17, y0_17, H', ⟨Nat.le_refl _⟩, iB149 ⟨iS149 HI0⟩, ⟨iS149 HI0⟩, ⟨UpL.out⟩, ⟨UpW.out⟩, ⟨UpB.out⟩⟩
 case round =>
  clear H'; obtain ⟨x3_1, x4_1, x5_1, x1001_1, x1002_1, rfl, rfl, rfl, HA, HK1, _, HI3, _, _, _⟩ := hrel; cases gk with
  | zero => exact absurd HA.out (by simp [spec_l5DrawRight.l0])
  | succ k1 =>
   have H := HA.out; clear HA
   simp only [spec_l5DrawRight.l0] at H
   obtain ⟨⟨t569, t570, t571⟩, A4, H⟩ := oB H; (try dsimp only at H); have H' := Aside0.mk H; clear H
   go_upto_if 11 with (first | ((with_reducible refine gate_callee (f := 97) rfl ?_); refine gK (some 10) Tryz.func97 (spec_l1Below.calls (hI := iS149 HI3) (hB := UpW.out) (w := _) (h := A4.out)) ?_; intro w5 _ _ _ HI6))
   have H := H'.out; clear H'
   by_cases c7 : x5_1 < t569
   ·
    rw [if_pos c7] at H
    have c7b0 : decide (x5_1 < t569) = true := decide_eq_true c7; clear c7
    (first | rw [c7b0] | (simp only [i64_w, i32_w]; rw [c7b0]) | skip)
    obtain ⟨⟨t572, t573, t574⟩, A8, H⟩ := oB H; (try dsimp only at H); obtain ⟨y575, hy575⟩ : ∃ y_ : List (S156), y_ = (([] : List (S156))) := ⟨_, rfl⟩
    replace H : (spec_l5DrawRight.l1 k1 x3_1 (wrap64 ((wrap64 (x4_1 + 1)) + (wrap64 (Int.tdiv t572 3)))) x5_1 y575 0 s0_0 t573 t574) = some (r1, r2, r3) := by first | (rw [hy575]; with_reducible exact H) | (rw [hy575]; with_reducible exact (Option.bind_some _ _).symm.trans H) | (rw [hy575]; exact H) | exact H
    have Ny575 := Aside0.mk hy575; clear hy575; have H' := Aside0.mk H; clear H
    go_wp2_with (first | ((with_reducible refine gate_callee (f := 97) rfl ?_); refine gK (some 17) Tryz.func97 (spec_l1Below.calls (hI := iS149 HI6) (hB := UpW.out) (w := _) (h := A8.out)) ?_; intro w9 _ _ _ HI10) | ((with_reducible refine gate_dst (N := 20) rfl ?_); refine lE 20 156 k156 Ny575 ?_; intro Ao576 co576 w11 _ HO577))
    refine wC ?_; intro w12 _
    go_loopg [6, 7] k1 (fun kq v6 v7 w' => ∃ (x6_2 : List (S156)) (x7_2 : Int) (x1001_2 : Int) (x1002_2 : Int) (Ao6_2 : Option Addr) (co6_2 : Nat), v6 = .slice Ao6_2 x6_2.length co6_2 ∧ v7 = .int .i64 x7_2 ∧ Aside0 (spec_l5DrawRight.l1 kq x3_1 (wrap64 ((wrap64 (x4_1 + 1)) + (wrap64 (Int.tdiv t572 3)))) x5_1 x6_2 x7_2 s0_0 x1001_2 x1002_2 = some (r1, r2, r3)) ∧ Aside0 (kq ≤ k1) ∧ Aside0 (Kd.R k156 156 w' w9.heap.size (iv w9 w') (.slice Ao6_2 x6_2.length co6_2) x6_2) ∧ StB g w' 149 ∧ Aside0 (IsS149 w0 w' g s0_0 x1001_2 x1002_2) ∧ KT w12 [g] w9 _ k156 156 w' ∧ LB w0 w' ∧ KS w g w')
    case atStart => exact ⟨(y575), (0), (t573), (t574), (Ao576), (co576), y0_17, y0_17, H', ⟨Nat.le_refl _⟩, ⟨rJ HO577⟩, iB149 ⟨iS149 HI10⟩, ⟨iS149 HI10⟩, ⟨UpT.out⟩, ⟨UpW.out⟩, ⟨UpB.out⟩⟩
    case round =>
     clear H'; obtain ⟨x6_2, x7_2, x1001_2, x1002_2, Ao6_2, co6_2, rfl, rfl, HA, HK2, HO_6, _, HI13, _, _, _⟩ := hrel; have HO_20 := HO577; cases gk with
     | zero => exact absurd HA.out (by simp [spec_l5DrawRight.l1])
     | succ k2 =>
      have H := HA.out; clear HA
      simp only [spec_l5DrawRight.l1] at H
      obtain ⟨⟨t578, t579, t580⟩, A14, H⟩ := oB H; (try dsimp only at H); have H' := Aside0.mk H; clear H
      go_upto_if 24 with (first | ((with_reducible refine gate_callee (f := 97) rfl ?_); refine gK (some 23) Tryz.func97 (spec_l1Below.calls (hI := iS149 HI13) (hB := UpW.out) (w := _) (h := A14.out)) ?_; intro w15 _ _ _ HI16))
      have H := H'.out; clear H'
      by_cases c17 : x7_2 < t578
      ·
       rw [if_pos c17] at H
       have c17b0 : decide (x7_2 < t578) = true := decide_eq_true c17; clear c17
       (first | rw [c17b0] | (simp only [i64_w, i32_w]; rw [c17b0]) | skip)
       obtain ⟨⟨t581, t582, t583, t584, t585, t586⟩, A18, H⟩ := oB H; (try dsimp only at H)
       by_cases c19 : x6_2.length < 4398046511104
       rotate_left
       ·
        rw [if_neg c19] at H
        exact absurd H (by simp)
       rw [if_pos c19] at H
       have LMc19 := Aside0.mk c19; clear c19; obtain ⟨y587, hy587⟩ : ∃ y_ : List (S156), y_ = (x6_2 ++ [(⟨t581, t582, t583, t584⟩ : S156)]) := ⟨_, rfl⟩
       replace H : (spec_l5DrawRight.l1 k2 x3_1 (wrap64 ((wrap64 (x4_1 + 1)) + (wrap64 (Int.tdiv t572 3)))) x5_1 y587 (wrap64 (x7_2 + 1)) s0_0 t585 t586) = some (r1, r2, r3) := by first | (rw [hy587]; with_reducible exact H) | (rw [hy587]; with_reducible exact (Option.bind_some _ _).symm.trans H) | (rw [hy587]; exact H) | exact H
       have Ny587 := Aside0.mk hy587; clear hy587; have H' := Aside0.mk H; clear H
       go_wp2_with (first | ((with_reducible refine gate_callee (f := 149) rfl ?_); refine gK (some 29) Tryz.func149 (spec_l2DrawRight.calls (hI := iS149 HI16) (hB := UpW.out) (w := _) (h := A18.out)) ?_; intro w20 _ _ _ HI21) | ((with_reducible refine gate_builtin (b := .append) (xs := #[.tmp 27, .tmp 30]) rfl ?_); at_builtin; refine gA k156 (.tmp 27) (.tmp 30) 154 156 (.agg #[(.int .i64 0), (.int .i64 0), (.int .i64 0), (.int .i64 0)]) 32 (⟨t581, t582, t583, t584⟩ : S156) [.int .i64 t581, .int .i64 t582, .int .i64 t583, .int .i64 t584] w9 Ny587 HO_6 (k156_mkM _ _ _ (⟨t581, t582, t583, t584⟩ : S156)) (by have := LMc19.out; omega) ?_ (ht := Tryz.underlying154) (hinfo := info156); intro Ao588 co588 w22 _ _ HO589))
       go_roundg k2
       case measure => have := HK1.out; have := HK2.out; omega
       case rel => exact ⟨(y587), (wrap64 (x7_2 + 1)), (t585), (t586), (Ao588), (co588), y0_17, y0_17, H', ⟨by have := HK1.out; have := HK2.out; omega⟩, ⟨rJ HO589⟩, iB149 ⟨iS149 HI21⟩, ⟨iS149 HI21⟩, ⟨UpT.out⟩, ⟨UpW.out⟩, ⟨UpB.out⟩⟩
      rw [if_neg c17] at H
      have c17b0 : decide (x7_2 < t578) = false := decide_eq_false c17; clear c17
      (first | rw [c17b0] | (simp only [i64_w, i32_w]; rw [c17b0]) | skip)
      obtain ⟨t590, A23, H⟩ := oB H; (try dsimp only at H); have H' := Aside0.mk H; clear H
      go_wp2_with (first | ((with_reducible refine gate_callee (f := 150) rfl ?_); refine gC (some 35) Tryz.func150 (spec_NameOf.calls (hr2 := rC HO_6) (hc2 := rL HO_6) (w := _) (h := A23.out)) ?_; intro w24 _))
      go_roundg k2
      case measure => have := HK1.out; have := HK2.out; omega
      case rel => exact ⟨(t590), ((wrap64 ((wrap64 (x4_1 + 1)) + (wrap64 (Int.tdiv t572 3))))), (wrap64 (x5_1 + 1)), (t579), (t580), y0_17, y0_17, y0_17, H', ⟨by have := HK1.out; have := HK2.out; omega⟩, iB149 ⟨iS149 HI16⟩, ⟨iS149 HI16⟩, ⟨UpL.out⟩, ⟨UpW.out⟩, ⟨UpB.out⟩⟩
   rw [if_neg c7] at H
   have c7b0 : decide (x5_1 < t569) = false := decide_eq_false c7; clear c7
   (first | rw [c7b0] | (simp only [i64_w, i32_w]; rw [c7b0]) | skip)
   simp only [Option.some.injEq, Prod.mk.injEq] at H
   obtain ⟨rfl, rfl, rfl⟩ := H
   go_wp2
   go_ret
   exact ⟨y0_17, iS149 HI6, UpW.out, UpB.out⟩
def spec_l1Max.f (a0 : Int) (a1 : Int) : Option (Int) := if a0 > a1 then (some a0) else (some a1)
theorem spec_l1Max.calls (a0 : Int) (a1 : Int) (r : Int) (w : World) (h : spec_l1Max.f a0 a1 = some r) :
  Calls Tryz.prog 165 #[.int .i64 a0, .int .i64 a1] w fun e w' => e = .returned (.int .i64 r) ∧ Drawn0 w w' := by
 have H := h; unfold spec_l1Max.f at H; clear h
 by_cases c3 : a0 > a1
 ·
  rw [if_pos c3] at H
  have c3b0 : decide (a1 < a0) = true := decide_eq_true c3; clear c3; obtain rfl := Option.some.inj H
  go_enter Tryz.func165, Tryz.ntmps165
  go_wp2
  go_ret
  exact ⟨y0_17, y0_15⟩
 rw [if_neg c3] at H
 have c3b0 : decide (a1 < a0) = false := decide_eq_false c3; clear c3; obtain rfl := Option.some.inj H
 go_enter Tryz.func165, Tryz.ntmps165
 go_wp2
 go_ret
 exact ⟨y0_17, y0_15⟩
mutual
def spec_l10DrawRight.j0 : Nat → Bool → List Int → Int → Int → Int → Int → Int → ByteArray → Option (Int × ByteArray × List Int × Int × Int)
 | 0, _, _, _, _, _, _, _, _ => none
 | k + 1, x19, x1000, x1001, x1002, x592000, x592001, x598000, x598001 => if x19 = true then ((spec_l1Below.f x1000 x1001 x1002 4).bind fun bt601 => (spec_l10DrawRight.j1 k x1000 bt601.2.1 bt601.2.2 x592000 x592001 (wrap64 (1 + bt601.1)) (⟨#[]⟩ : ByteArray))) else (spec_l10DrawRight.j1 k x1000 x1001 x1002 x592000 x592001 x598000 x598001)
def spec_l10DrawRight.j1 : Nat → List Int → Int → Int → Int → Int → Int → ByteArray → Option (Int × ByteArray × List Int × Int × Int)
 | 0, _, _, _, _, _, _, _ => none
 | k + 1, x1000, x1001, x1002, x592000, x592001, x598000, x598001 => spec_l10DrawRight.l0 k 0 x1000 x1001 x1002 x592000 x592001 x598000 x598001 ([] : List Int)
def spec_l10DrawRight.l0 : Nat → Int → List Int → Int → Int → Int → Int → Int → ByteArray → List Int → Option (Int × ByteArray × List Int × Int × Int)
 | 0, _, _, _, _, _, _, _, _, _ => none
 | k + 1, x7, x1000, x1001, x1002, x592000, x592001, x598000, x598001, x598002 => (spec_l1Below.f x1000 x1001 x1002 7).bind fun bt604 => (if x7 < (wrap64 (1 + bt604.1)) then ((spec_l1Max.f x592000 4).bind fun t607 => ((spec_l1Below.f x1000 bt604.2.1 bt604.2.2 t607).bind fun bt608 => ((spec_SetAdd.f k x598002 bt608.1).bind fun t611 => (spec_l10DrawRight.l0 k (wrap64 (x7 + 1)) x1000 bt608.2.1 bt608.2.2 x592000 x592001 x598000 x598001 t611)))) else (some (x598000, x598001, x598002, bt604.2.1, bt604.2.2)))
end
def spec_l10DrawRight.f (k : Nat) (s0_0 : List Int) (s0_1 : Int) (s0_2 : Int) (a1_0 : Int) (a1_1 : Int) : Option (Int × ByteArray × List Int × Int × Int) := (spec_l5DrawRight.f k s0_0 s0_1 s0_2).bind fun bt593 => ((spec_ViewOf.f k bt593.1).bind fun t596 => ((spec_l1Once.f s0_0 bt593.2.1 bt593.2.2 4).bind fun bt598 => (if bt598.1 = true then (spec_l10DrawRight.j0 k true s0_0 bt598.2.1 bt598.2.2 a1_0 a1_1 t596 bt593.1) else (spec_l10DrawRight.j0 k (bt593.1.toList == ([] : List UInt8)) s0_0 bt598.2.1 bt598.2.2 a1_0 a1_1 t596 bt593.1))))
def spec_l10DrawRight.T8 : Bool × List (List Nat × List Nat) := (true, [([], []), ([0], [0]), ([], []), ([], []), ([3], [3]), ([4], [4]), ([2, 5, 5], [2, 5]), ([1, 6, 6], [1, 6]), ([0, 1, 2, 3, 4, 5, 6, 7], []), ([8, 7, 7, 0, 1, 2, 3, 4, 5, 6, 7], [7, 8])])
def spec_l10DrawRight.B8 : List Nat := [0, 1, 0, 0, 8, 24, 60, 127, 255, 511]
theorem spec_l10DrawRight.tab8 : rtab .any (opsOf Tryz.f141 8) = spec_l10DrawRight.T8 := by kernel_rfl
theorem spec_l10DrawRight.bits8 : waitsOk spec_l10DrawRight.T8.2 spec_l10DrawRight.B8 = true := by kernel_rfl
theorem spec_l10DrawRight.calls (k : Nat) (g : Nat) (s0_0 : List Int) (s0_1 : Int) (s0_2 : Int) (a1_0 : Int) (a1_1 : Int) (r1 : Int) (r2 : ByteArray) (r3 : List Int) (r4 : Int) (r5 : Int) (w0 w : World) (hI : IsS149 w0 w g s0_0 s0_1 s0_2) (hB : Below w0.heap.size w0 w) (h : spec_l10DrawRight.f k s0_0 s0_1 s0_2 a1_0 a1_1 = some (r1, r2, r3, r4, r5)) :
  Calls Tryz.prog 141 #[.pointer (some ⟨g, 0, none⟩), .agg #[.int .i64 a1_0, .int .i64 a1_1]] w fun e w' => ∃ v2_ : Value, e = .returned (.agg #[.int .i64 r1, .string r2, v2_]) ∧ Kd.R (Kd.int .i64) 3 w' w.heap.size (fun _ => True) v2_ r3 ∧ IsS149 w0 w' g s0_0 r4 r5 ∧ Below w0.heap.size w0 w' ∧ KeepBut w w' g none := by
 have hu32 := Tryz.underlying32; have hu48 := Tryz.underlying48; have HI0 := Aside0.mk hI; have HK := Aside0.mk (KeepBut.refl w g none); have HL := Aside0.mk hB.size; clear hI; have HW0 := Aside0.mk hB.size; have HB := Aside0.mk hB; clear hB
 have H := h; unfold spec_l10DrawRight.f at H
 clear h; obtain ⟨⟨t593, t594, t595⟩, A3, H⟩ := oB H; (try dsimp only at H); obtain ⟨t596, A4, H⟩ := oB H; (try dsimp only at H); have HC5 := Aside0.mk H; clear H
 go_enter Tryz.func141, Tryz.ntmps141
 go_upto_region 3 with (first | ((with_reducible refine gd 3 ?_); refine bA 3 #[.int .i64 a1_0, .int .i64 a1_1] 32 ?_; intro gb591 hg w6 hbox hb; replace HB : Aside0 (Below w0.heap.size w0 _) := Aside0.mk (below_step y0_7 hb); have BK591 := Aside0.mk (hbox); have GW591 := bh hg HK; have GJ591 := gi GW591; have GE591 := Aside0.mk ((Nat.le_trans HW0.out (y0_13 : w.heap.size ≤ gb591) : w0.heap.size ≤ gb591)); have GI591 := gi GE591; replace HK := kb HK hb; have NB0_591 := Aside0.mk ((y0_2 : g ≠ gb591)); have NI0_591 := ni NB0_591; have NB591_0 := Aside0.mk ((y0_3 : gb591 ≠ g)); have NI591_0 := ni NB591_0; replace HI0 := Aside0.mk (IsS149.below y0_6 hb); clear hb hbox hg) | ((with_reducible refine gd 4 ?_); refine bA 4 #[.int .i64 0, .string (⟨#[]⟩ : ByteArray), .slice none 0 0] 48 ?_; intro gb592 hg w7 hbox hb; replace HB : Aside0 (Below w0.heap.size w0 _) := Aside0.mk (below_step y0_5 hb); have BK592 := Aside0.mk (hbox); have GW592 := bh hg HK; have GJ592 := gi GW592; have GE592 := Aside0.mk ((Nat.le_trans HW0.out (y0_13 : w.heap.size ≤ gb592) : w0.heap.size ≤ gb592)); have GI592 := gi GE592; replace HK := kb HK hb; have NB591_592 := b1 BK591 hg; have NI591_592 := ni NB591_592; have NB592_591 := b2 BK591 hg; have NI592_591 := ni NB592_591; replace BK591 := bk BK591 hb; have NB0_592 := Aside0.mk ((y0_0 : g ≠ gb592)); have NI0_592 := ni NB0_592; have NB592_0 := Aside0.mk ((y0_1 : gb592 ≠ g)); have NI592_0 := ni NB592_0; replace HI0 := Aside0.mk (IsS149.below y0_4 hb); clear hb hbox hg) | ((with_reducible refine gate_callee (f := 101) rfl ?_); refine gB (some 9) Tryz.func101 #[.pointer (some ⟨g, 0, none⟩)] ?_; (with_reducible refine (spec_l5DrawRight.calls k g s0_0 s0_1 s0_2 t593 t594 t595 w0 _ ?side1 ?side2 A3.out).mono ?_); (case side1 => repeat (first | (with_reducible first | exact HI0.out | apply IsS149.alloc | apply IsS149.drewN | apply IsS149.drew | apply IsS149.set_1 | apply IsS149.set_2 | refine IsS149.far ?_ NeI.out _) | exact HI0.out)); (case side2 => repeat (first | (with_reducible first | exact HB.out | apply below_alloc | apply pw_below_drewN | apply below_drew1 | refine below_set ?_ (IsS149.ge HI0.out) | refine below_set ?_ GeI.out) | exact HB.out)); rintro e w8 ⟨rfl, hi, hb, hk⟩; refine ⟨_, rfl, ?_⟩; replace BK591 := bq BK591 hk NB591_0; replace BK592 := bq BK592 hk NB592_0; replace HK := kt HK hk; replace HB := Aside0.mk (hb); replace HI0 := Aside0.mk (hi); (try clear hb); (try clear hb2); (try clear hk); (try clear hi)) | ((with_reducible refine gate_callee (f := 113) rfl ?_); refine gB (some 11) Tryz.func113 #[.string t593] ?_; (with_reducible refine (spec_ViewOf.calls k t593 t596 _ A4.out).mono ?_); rintro e w9 ⟨rfl, hb⟩; refine ⟨_, rfl, ?_⟩; replace BK591 := bk BK591 hb; replace BK592 := bk BK592 hb; replace HK := kb HK hb; replace HB : Aside0 (Below w0.heap.size w0 _) := Aside0.mk (below_step y0_5 hb); replace HI0 := Aside0.mk (IsS149.below y0_4 hb); (try clear hb); (try clear hb2); (try clear hk); (try clear hi)) | ((with_reducible refine gd 6 ?_); refine bA 6 #[.int .i64 0, .string (⟨#[]⟩ : ByteArray), .slice none 0 0] 48 ?_; intro gb597 hg w10 hbox hb; replace HB : Aside0 (Below w0.heap.size w0 _) := Aside0.mk (below_step y0_5 hb); have BK597 := Aside0.mk (hbox); have GW597 := bh hg HK; have GJ597 := gi GW597; have GE597 := Aside0.mk ((Nat.le_trans HW0.out (y0_13 : w.heap.size ≤ gb597) : w0.heap.size ≤ gb597)); have GI597 := gi GE597; replace HK := kb HK hb; have NB591_597 := b1 BK591 hg; have NI591_597 := ni NB591_597; have NB597_591 := b2 BK591 hg; have NI597_591 := ni NB597_591; replace BK591 := bk BK591 hb; have NB592_597 := b1 BK592 hg; have NI592_597 := ni NB592_597; have NB597_592 := b2 BK592 hg; have NI597_592 := ni NB597_592; replace BK592 := bk BK592 hb; have NB0_597 := Aside0.mk ((by rw [hg]; exact Nat.ne_of_lt (IsS149.lt (show IsS149 w0 _ g s0_0 t594 t595 from y0_4)) : g ≠ gb597)); have NI0_597 := ni NB0_597; have NB597_0 := Aside0.mk ((by rw [hg]; exact Nat.ne_of_gt (IsS149.lt (show IsS149 w0 _ g s0_0 t594 t595 from y0_4)) : gb597 ≠ g)); have NI597_0 := ni NB597_0; replace HI0 := Aside0.mk (IsS149.below y0_4 hb); clear hb hbox hg; have hnb11 := NB597_591.out; have hnc11 := NB591_597.out; have hnb12 := NB597_592.out; have hnc12 := NB592_597.out; have hnb13 := NB597_0.out; have hnc13 := NB0_597.out; obtain ⟨hcz14_0, hcz14_1, hcz14_2, hfz14_0, hfz14_1, hfz14_2⟩ := cs3 BK597))
 (try simp only [Act.put, List.setIfInBounds_toArray, List.set_cons_zero, List.set_cons_succ])
 go_cut [19] (fun v19 wc => ∃ (kq : Nat) (x19_4 : Bool) (x1001_4 : Int) (x1002_4 : Int), v19 = .bool x19_4 ∧ Aside0 (spec_l10DrawRight.j0 kq x19_4 s0_0 x1001_4 x1002_4 a1_0 a1_1 t596 t593 = some (r1, r2, r3, r4, r5)) ∧ Aside0 (kq ≤ k) ∧ Aside0 (wc.heap[gb591]? = some (.cells #[.int .i64 a1_0, .int .i64 a1_1] 32 (0, 0))) ∧ Aside0 (wc.heap[gb592]? = some (.cells #[.int .i64 0, .string (⟨#[]⟩ : ByteArray), (.slice none 0 0)] 48 (0, 0))) ∧ Aside0 (wc.heap[gb597]? = some (.cells #[.int .i64 t596, .string t593, (.slice none 0 0)] 48 (0, 0))) ∧ Aside0 (IsS149 w0 wc g s0_0 x1001_4 x1002_4) ∧ Aside0 (KeepBut w wc g none) ∧ Aside0 (Below w0.heap.size w0 wc))
 case first =>
  have H := HC5.out; clear HC5; obtain ⟨⟨t598, t599, t600⟩, A15, H⟩ := oB H; (try dsimp only at H)
  by_cases c16 : t598 = true
  ·
   subst c16
   rw [if_pos rfl] at H
   have H' := Aside0.mk H; clear H
   go_wp2_with (first | ((with_reducible refine gate_callee (f := 93) rfl ?_); refine gB (some 15) Tryz.func93 #[.pointer (some ⟨g, 0, none⟩), .int .i64 4] ?_; (with_reducible refine (spec_l1Once.calls g s0_0 t594 t595 4 true t599 t600 w0 _ ?side1 ?side2 A15.out).mono ?_); (case side1 => repeat (first | (with_reducible first | exact HI0.out | apply IsS149.alloc | apply IsS149.drewN | apply IsS149.drew | apply IsS149.set_1 | apply IsS149.set_2 | refine IsS149.far ?_ NeI.out _) | exact HI0.out)); (case side2 => repeat (first | (with_reducible first | exact HB.out | apply below_alloc | apply pw_below_drewN | apply below_drew1 | refine below_set ?_ (IsS149.ge HI0.out) | refine below_set ?_ GeI.out) | exact HB.out)); rintro e w17 ⟨rfl, hi, hb, hk⟩; refine ⟨_, rfl, ?_⟩; replace BK591 := Aside0.mk (KeepBut.blk hk (g' := gb591) (o := .cells #[.int .i64 a1_0, .int .i64 a1_1] 32 (0, 0)) (gI BK591.out) NB591_0.out (by simp)); replace BK592 := Aside0.mk (KeepBut.blk hk (g' := gb592) (o := .cells #[.int .i64 0, .string (⟨#[]⟩ : ByteArray), .slice none 0 0] 48 (0, 0)) (gI BK592.out) NB592_0.out (by simp)); replace BK597 := Aside0.mk (KeepBut.blk hk (g' := gb597) (o := .cells #[.int .i64 t596, .string t593, .slice none 0 0] 48 (0, 0)) (pI BK597) NB597_0.out (by simp)); replace HK := kt HK hk; replace HB := Aside0.mk (hb); replace HI0 := Aside0.mk (hi); (try clear hb); (try clear hb2); (try clear hk); (try clear hi)))
   go_meet
   case rel => exact ⟨_, (true), (t599), (t600), y0_17, H', ⟨y0_18⟩, ⟨gI BK591.out⟩, ⟨gI BK592.out⟩, ⟨gI BK597.out⟩, ⟨y0_4⟩, ⟨hI HK.out⟩, ⟨y0_5⟩⟩
  replace c16 := Bool.eq_false_iff.mpr c16; subst c16
  rw [if_neg Bool.false_ne_true] at H
  have H' := Aside0.mk H; clear H
  go_wp2_with (first | ((with_reducible refine gate_callee (f := 93) rfl ?_); refine gB (some 15) Tryz.func93 #[.pointer (some ⟨g, 0, none⟩), .int .i64 4] ?_; (with_reducible refine (spec_l1Once.calls g s0_0 t594 t595 4 false t599 t600 w0 _ ?side1 ?side2 A15.out).mono ?_); (case side1 => repeat (first | (with_reducible first | exact HI0.out | apply IsS149.alloc | apply IsS149.drewN | apply IsS149.drew | apply IsS149.set_1 | apply IsS149.set_2 | refine IsS149.far ?_ NeI.out _) | exact HI0.out)); (case side2 => repeat (first | (with_reducible first | exact HB.out | apply below_alloc | apply pw_below_drewN | apply below_drew1 | refine below_set ?_ (IsS149.ge HI0.out) | refine below_set ?_ GeI.out) | exact HB.out)); rintro e w18 ⟨rfl, hi, hb, hk⟩; refine ⟨_, rfl, ?_⟩; replace BK591 := Aside0.mk (KeepBut.blk hk (g' := gb591) (o := .cells #[.int .i64 a1_0, .int .i64 a1_1] 32 (0, 0)) (gI BK591.out) NB591_0.out (by simp)); replace BK592 := Aside0.mk (KeepBut.blk hk (g' := gb592) (o := .cells #[.int .i64 0, .string (⟨#[]⟩ : ByteArray), .slice none 0 0] 48 (0, 0)) (gI BK592.out) NB592_0.out (by simp)); replace BK597 := Aside0.mk (KeepBut.blk hk (g' := gb597) (o := .cells #[.int .i64 t596, .string t593, .slice none 0 0] 48 (0, 0)) (pI BK597) NB597_0.out (by simp)); replace HK := kt HK hk; replace HB := Aside0.mk (hb); replace HI0 := Aside0.mk (hi); (try clear hb); (try clear hb2); (try clear hk); (try clear hi)))
  go_meet
  case rel => exact ⟨_, ((t593.toList == ([] : List UInt8))), (t599), (t600), y0_17, H', ⟨y0_18⟩, ⟨gI BK591.out⟩, ⟨gI BK592.out⟩, ⟨gI BK597.out⟩, ⟨y0_4⟩, ⟨hI HK.out⟩, ⟨y0_5⟩⟩
 case rest =>
  clear HC5
  try clear c1
  try clear p2
  try clear c9
  try clear c10
  try clear c11
  try clear c12
  try clear c13
  try clear c14
  try clear c16
  try clear hcz14_0
  try clear hcz14_1
  try clear hcz14_2
  try clear hfz14_0
  try clear hfz14_1
  try clear hfz14_2
  obtain ⟨kq, x19_4, x1001_4, x1002_4, rfl, HA, HJ4, BK591, BK592, BK597, HI0, HK, HB⟩ := hcut; cases kq with
  | zero => exact absurd HA.out (by simp [spec_l10DrawRight.j0])
  | succ kj4 =>
   have H := HA.out; clear HA
   simp only [spec_l10DrawRight.j0] at H
   have HC19 := Aside0.mk H; clear H
   go_upto_if 19 with (fail)
   go_cut [] (fun wc => ∃ (kq : Nat) (x1001_18 : Int) (x1002_18 : Int) (x598000_18 : Int) (x598001_18 : ByteArray), Aside0 (spec_l10DrawRight.j1 kq s0_0 x1001_18 x1002_18 a1_0 a1_1 x598000_18 x598001_18 = some (r1, r2, r3, r4, r5)) ∧ Aside0 (kq ≤ kj4) ∧ Aside0 (wc.heap[gb591]? = some (.cells #[.int .i64 a1_0, .int .i64 a1_1] 32 (0, 0))) ∧ Aside0 (wc.heap[gb592]? = some (.cells #[.int .i64 0, .string (⟨#[]⟩ : ByteArray), (.slice none 0 0)] 48 (0, 0))) ∧ Aside0 (wc.heap[gb597]? = some (.cells #[.int .i64 x598000_18, .string x598001_18, (.slice none 0 0)] 48 (0, 0))) ∧ Aside0 (IsS149 w0 wc g s0_0 x1001_18 x1002_18) ∧ Aside0 (KeepBut w wc g none) ∧ Aside0 (Below w0.heap.size w0 wc))
   case first =>
    have H := HC19.out; clear HC19
    by_cases c20 : x19_4 = true
    ·
     subst c20
     rw [if_pos rfl] at H
     obtain ⟨⟨t601, t602, t603⟩, A21, H⟩ := oB H; (try dsimp only at H); have H' := Aside0.mk H; clear H
     go_wp2_with (first | ((with_reducible refine gate_callee (f := 97) rfl ?_); refine gB (some 21) Tryz.func97 #[.pointer (some ⟨g, 0, none⟩), .int .i64 4] ?_; (with_reducible refine (spec_l1Below.calls g s0_0 x1001_4 x1002_4 4 t601 t602 t603 w0 _ ?side1 ?side2 A21.out).mono ?_); (case side1 => repeat (first | (with_reducible first | exact HI0.out | apply IsS149.alloc | apply IsS149.drewN | apply IsS149.drew | apply IsS149.set_1 | apply IsS149.set_2 | refine IsS149.far ?_ NeI.out _) | exact HI0.out)); (case side2 => repeat (first | (with_reducible first | exact HB.out | apply below_alloc | apply pw_below_drewN | apply below_drew1 | refine below_set ?_ (IsS149.ge HI0.out) | refine below_set ?_ GeI.out) | exact HB.out)); rintro e w22 ⟨rfl, hi, hb, hk⟩; refine ⟨_, rfl, ?_⟩; replace BK591 := bq BK591 hk NB591_0; replace BK592 := bq BK592 hk NB592_0; replace BK597 := bq BK597 hk NB597_0; replace HK := kt HK hk; replace HB := Aside0.mk (hb); replace HI0 := Aside0.mk (hi); (try clear hb); (try clear hb2); (try clear hk); (try clear hi); have hnb23 := NB597_591.out; have hnc23 := NB591_597.out; have hnb24 := NB597_592.out; have hnc24 := NB592_597.out; have hnb25 := NB597_0.out; have hnc25 := NB0_597.out; obtain ⟨hcz26_0, hcz26_1, hcz26_2, hfz26_0, hfz26_1, hfz26_2⟩ := cs3 BK597))
     go_meet
     case rel => exact ⟨_, (t602), (t603), (wrap64 (1 + t601)), ((⟨#[]⟩ : ByteArray)), H', ⟨by have := HJ4.out; first | omega | exact Nat.le_refl _⟩, ⟨gI BK591.out⟩, ⟨gI BK592.out⟩, ⟨pI BK597⟩, ⟨y0_4⟩, ⟨hI HK.out⟩, ⟨y0_5⟩⟩
    replace c20 := Bool.eq_false_iff.mpr c20; subst c20
    rw [if_neg Bool.false_ne_true] at H
    have H' := Aside0.mk H; clear H
    go_wp2
    go_meet
    case rel => exact ⟨_, (x1001_4), (x1002_4), (t596), (t593), H', ⟨by have := HJ4.out; first | omega | exact Nat.le_refl _⟩, ⟨gI BK591.out⟩, ⟨gI BK592.out⟩, ⟨gI BK597.out⟩, ⟨y0_4⟩, ⟨hI HK.out⟩, ⟨y0_5⟩⟩
   case rest =>
    clear HC19
    try clear c1
    try clear c2
    try clear p2
    try clear p6
    try clear c9
    try clear c10
    try clear c11
    try clear c12
    try clear c13
    try clear c14
    try clear c16
    try clear c20
    try clear c23
    try clear c24
    try clear c25
    try clear hcz14_0
    try clear hcz14_1
    try clear hcz14_2
    try clear hcz26_0
    try clear hcz26_1
    try clear hcz26_2
    try clear hfz14_0
    try clear hfz14_1
    try clear hfz14_2
    try clear hfz26_0
    try clear hfz26_1
    try clear hfz26_2
    try clear p2
    obtain ⟨kq, x1001_18, x1002_18, x598000_18, x598001_18, HA, HJ18, BK591, BK592, BK597, HI0, HK, HB⟩ := hcut; cases kq with
    | zero => exact absurd HA.out (by simp [spec_l10DrawRight.j1])
    | succ kj18 =>
     have H := HA.out; clear HA
     simp only [spec_l10DrawRight.j1] at H
     have H' := Aside0.mk H; clear H
     go_wp2
     go_loopg [7] kj18 (fun kq v7 w' => ∃ (x7_3 : Int) (x1001_3 : Int) (x1002_3 : Int) (x598002_3 : List Int) (u598002 : Value), v7 = .int .i64 x7_3 ∧ Aside0 (spec_l10DrawRight.l0 kq x7_3 s0_0 x1001_3 x1002_3 a1_0 a1_1 x598000_18 x598001_18 x598002_3 = some (r1, r2, r3, r4, r5)) ∧ Aside0 (kq ≤ kj18) ∧ Aside0 (Kd.R (Kd.int .i64) 3 w' w.heap.size (fun _ => True) u598002 x598002_3) ∧ Aside0 (w'.heap[gb591]? = some (.cells #[.int .i64 a1_0, .int .i64 a1_1] 32 (0, 0))) ∧ Aside0 (w'.heap[gb592]? = some (.cells #[.int .i64 0, .string (⟨#[]⟩ : ByteArray), (.slice none 0 0)] 48 (0, 0))) ∧ Aside0 (w'.heap[gb597]? = some (.cells #[.int .i64 x598000_18, .string x598001_18, u598002] 48 (0, 0))) ∧ Aside0 (IsS149 w0 w' g s0_0 x1001_3 x1002_3) ∧ Aside0 (KeepBut w w' g none) ∧ Aside0 (Below w0.heap.size w0 w'))
     case atStart => exact ⟨(0), (x1001_18), (x1002_18), (([] : List Int)), (.slice none 0 0), y0_17, H', ⟨Nat.le_refl _⟩, ⟨y0_9⟩, ⟨gI BK591.out⟩, ⟨gI BK592.out⟩, ⟨gI BK597.out⟩, ⟨y0_4⟩, ⟨hI HK.out⟩, ⟨y0_5⟩⟩
     case round =>
      clear H'
      try clear c1
      try clear c2
      try clear p2
      try clear p6
      try clear c9
      try clear c10
      try clear c11
      try clear c12
      try clear c13
      try clear c14
      try clear c16
      try clear c20
      try clear c23
      try clear c24
      try clear c25
      try clear hcz14_0
      try clear hcz14_1
      try clear hcz14_2
      try clear hcz26_0
      try clear hcz26_1
      try clear hcz26_2
      try clear hfz14_0
      try clear hfz14_1
      try clear hfz14_2
      try clear hfz26_0
      try clear hfz26_1
      try clear hfz26_2
      try clear p2
      try clear p6
      obtain ⟨x7_3, x1001_3, x1002_3, x598002_3, u598002, rfl, HA, HK3, HO_598002, BK591, BK592, BK597, HI0, HK, HB⟩ := hrel; cases gk with
      | zero => exact absurd HA.out (by simp [spec_l10DrawRight.l0])
      | succ k3 =>
       have H := HA.out; clear HA
       simp only [spec_l10DrawRight.l0] at H
       obtain ⟨⟨t604, t605, t606⟩, A27, H⟩ := oB H; (try dsimp only at H)
       by_cases c28 : x7_3 < (wrap64 (1 + t604))
       ·
        rw [if_pos c28] at H
        have c28b0 : decide (x7_3 < (wrap64 (1 + t604))) = true := decide_eq_true c28; clear c28; obtain ⟨t607, A29, H⟩ := oB H; (try dsimp only at H); obtain ⟨⟨t608, t609, t610⟩, A30, H⟩ := oB H; (try dsimp only at H); obtain ⟨t611, A31, H⟩ := oB H; (try dsimp only at H); have H' := Aside0.mk H; clear H
        try go_wp2_with (first | ((with_reducible refine gate_callee (f := 97) rfl ?_); refine gB (some 26) Tryz.func97 #[.pointer (some ⟨g, 0, none⟩), .int .i64 7] ?_; (with_reducible refine (spec_l1Below.calls g s0_0 x1001_3 x1002_3 7 t604 t605 t606 w0 _ ?side1 ?side2 A27.out).mono ?_); (case side1 => repeat (first | (with_reducible first | exact HI0.out | apply IsS149.alloc | apply IsS149.drewN | apply IsS149.drew | apply IsS149.set_1 | apply IsS149.set_2 | refine IsS149.far ?_ NeI.out _) | exact HI0.out)); (case side2 => repeat (first | (with_reducible first | exact HB.out | apply below_alloc | apply pw_below_drewN | apply below_drew1 | refine below_set ?_ (IsS149.ge HI0.out) | refine below_set ?_ GeI.out) | exact HB.out)); rintro e w32 ⟨rfl, hi, hb, hk⟩; refine ⟨_, rfl, ?_⟩; replace HO_598002 := Aside0.mk (Kd.R_mono (Kd.R_keep (IsS149.apart (show IsS149 w0 _ g s0_0 x1001_3 x1002_3 from y0_4) (rI HO_598002.out) (by decide)) hk (fun _ h => h.2)) (fun _ h => h.1)); replace BK591 := bq BK591 hk NB591_0; replace BK592 := bq BK592 hk NB592_0; replace BK597 := bq BK597 hk NB597_0; replace HK := kt HK hk; replace HB := Aside0.mk (hb); replace HI0 := Aside0.mk (hi); (try clear hb); (try clear hb2); (try clear hk); (try clear hi)))
        replace HO_598002 := Aside0.mk (Kd.R_drew HO_598002.out); replace BK591 := Aside0.mk (blk_drew BK591.out); replace BK592 := Aside0.mk (blk_drew BK592.out); replace BK597 := Aside0.mk (blk_drew BK597.out); replace HI0 := Aside0.mk (IsS149.drew HI0.out); replace HK := Aside0.mk (keep_drew HK.out); replace HB := Aside0.mk (below_drew1 HB.out)
        refine start_ (n := 10) (S := fun w' => w'.cell? ⟨gb597, 0, none⟩ = some (.int .i64 x598000_18) ∧ w'.cell? ⟨gb597, 1, none⟩ = some (.string x598001_18) ∧ w'.cell? ⟨gb597, 2, none⟩ = some (u598002) ∧ w'.cell? ⟨gb591, 0, none⟩ = some (.int .i64 a1_0) ∧ w'.cell? ⟨gb591, 1, none⟩ = some (.int .i64 a1_1)) (ds := [9]) #[false, false, false, false, false, false, false, false, false, false] (by kernel_rfl) rfl rfl ⟨bc0 BK597.out, bc1 BK597.out, bc2 BK597.out, bc0 BK591.out, bc1 BK591.out⟩ (fun hHeld => ?_); refine with_tabW spec_l10DrawRight.tab8 spec_l10DrawRight.bits8 (fun HT_ HW_ => ?_)
        generalize w32.drew = w33 at HO_598002 BK591 BK592 BK597 HI0 HK HB hHeld ⊢
        refine pA 0 (some 31) (bz 10 1) HT_ ?_
        refine pA 2 (some 33) (bz 10 5) HT_ ?_
        refine pA 3 (some 34) (bz 10 13) HT_ ?_
        refine tA 1 (some 32) (bz 10 15) HT_ HW_ hHeld ?_
        refine tA 4 (some 35) (bz 10 31) HT_ HW_ hHeld ?_
        refine oA 5 (some 36) (bz 10 63) HT_ (fun K hK => ?_)
        refine gA Tryz.func165 #[.int .i64 a1_0, .int .i64 4] ?_
        with_reducible refine (spec_l1Max.calls a1_0 4 t607 _ A29.out).mono ?_
        rintro e w' ⟨rfl, ⟨nd, rfl⟩⟩
        refine ⟨_, rfl, ?_⟩
        refine hK.out _ _ ⟨bc0 BK597.out, bc1 BK597.out, bc2 BK597.out, bc0 BK591.out, bc1 BK591.out⟩ (fun hHeld => ?_)
        clear hK K
        refine nA (some 36) ?_
        refine oA 6 (some 37) (bz 10 127) HT_ (fun K hK => ?_)
        refine gA Tryz.func97 #[.pointer (some ⟨g, 0, none⟩), .int .i64 t607] ?_
        with_reducible refine (spec_l1Below.calls g s0_0 t605 t606 t607 t608 t609 t610 w0 _ ?side1 ?side2 A30.out).mono ?_
        (case side1 => repeat (first | (with_reducible first | exact HI0.out | apply IsS149.alloc | apply IsS149.drewN | apply IsS149.drew | apply IsS149.set_1 | apply IsS149.set_2 | refine IsS149.far ?_ NeI.out _) | exact HI0.out))
        (case side2 => repeat (first | (with_reducible first | exact HB.out | apply below_alloc | apply pw_below_drewN | apply below_drew1 | refine below_set ?_ (IsS149.ge HI0.out) | refine below_set ?_ GeI.out) | exact HB.out))
        rintro e w34 ⟨rfl, hi, hb, hk⟩
        refine ⟨_, rfl, ?_⟩
        replace HO_598002 := Aside0.mk (Kd.R_mono (Kd.R_keep (IsS149.apart (show IsS149 w0 _ g s0_0 t605 t606 from y0_4) (rI HO_598002.out) (by decide)) hk (fun _ h => h.2)) (fun _ h => h.1))
        replace BK591 := bq BK591 hk NB591_0; replace BK592 := bq BK592 hk NB592_0; replace BK597 := bq BK597 hk NB597_0; replace HK := kt HK hk; replace HB := Aside0.mk (hb); replace HI0 := Aside0.mk (hi)
        (try clear hb)
        (try clear hb2)
        (try clear hk)
        (try clear hi)
        obtain ⟨Ao35, co35, eo35⟩ := Kd.R_slice HO_598002.out
        (first | subst eo35 | (injection eo35 with f1_ f2_ f3_; have f4_ := f1_.symm; have f5_ := f3_.symm; clear f1_ f2_ f3_; subst f4_; subst f5_))
        refine hK.out _ _ ⟨bc0 BK597.out, bc1 BK597.out, bc2 BK597.out, bc0 BK591.out, bc1 BK591.out⟩ (fun hHeld => ?_)
        clear hK K
        refine nA (some 37) ?_
        refine oA 7 (some 38) (bz 10 255) HT_ (fun K hK => ?_)
        refine gA Tryz.func145 #[.slice Ao35 x598002_3.length co35, .int .i64 t608] ?_
        with_reducible refine (spec_SetAdd.calls k3 _ _ x598002_3 t608 t611 _ ?side1 ?side2 A31.out).mono ?_
        (case side1 => repeat (first | exact (Kd.R_reads' HO_598002.out).2.2 | (with_reducible refine Kd.C_alloc ?_ _) | (with_reducible refine Kd.C_drewN ?_ _) | (with_reducible refine Kd.C_drew ?_)))
        (case side2 => exact (Kd.R_reads' HO_598002.out).2.1)
        rintro e w36 ⟨v612, rfl, ho0, hb⟩
        refine ⟨_, rfl, ?_⟩
        have HO613 := Aside0.mk (Kd.R_lower (Kd.R_new' ho0 (Kd.R_lt (rI HO_598002.out))) (keep_size (w := w) (g := g) (row := none) (hI HK.out))); replace HO_598002 := Aside0.mk (Kd.R_elder' (rI HO_598002.out) (Kd.R_base ho0) hb); replace BK591 := bk BK591 hb; replace BK592 := bk BK592 hb; replace BK597 := bk BK597 hb; replace HK := kb HK hb; replace HB : Aside0 (Below w0.heap.size w0 _) := Aside0.mk (below_step y0_5 hb); replace HI0 := Aside0.mk (IsS149.below y0_4 hb)
        (try clear hb)
        (try clear hb2)
        (try clear hk)
        (try clear hi)
        (try clear ho0)
        obtain ⟨Ao37, co37, eo37⟩ := Kd.R_slice HO613.out
        (first | subst eo37 | (injection eo37 with f1_ f2_ f3_; have f4_ := f1_.symm; have f5_ := f3_.symm; clear f1_ f2_ f3_; subst f4_; subst f5_))
        refine hK.out _ _ ⟨bc0 BK597.out, bc1 BK597.out, bc2 BK597.out, bc0 BK591.out, bc1 BK591.out⟩ (fun hHeld => ?_)
        clear hK K
        refine nA (some 38) ?_
        refine pA 8 (some 39) (bz 10 511) HT_ ?_
        refine last_ (i := 9) (N := none) #[true, true, true, true, true, true, true, true, true, true] rfl rfl (one_of HT_.out (by kernel_rfl)) (by decide) (fun K hK => ?_)
        have hs38 : w36.cell? ⟨gb597, 2, none⟩ = some (.slice Ao35 x598002_3.length co35) := bc2 BK597.out; have hfs38 := blk_frozen BK597.out 2; have hns38_0 := NB591_597.out; have hns38_1 := NB592_597.out; have hms38_0 := NB597_591.out; have hms38_1 := NB597_592.out
        refine skip_ (w1 := ?_) (by rfl) rfl ?_ ?_
        rotate_left
        ·
         go_simp
         rfl
        refine hK.out _ _ ?_
        clear hK K
        refine done_ (done_of HT_.out (by kernel_rfl)) ?_
        try go_wp2
        go_roundg k3
        case measure => have := HJ4.out; have := HJ18.out; have := HK3.out; omega
        case rel => exact ⟨(wrap64 (x7_3 + 1)), (t609), (t610), (t611), (.slice Ao37 t611.length co37), y0_17, H', ⟨by have := HJ4.out; have := HJ18.out; have := HK3.out; omega⟩, ⟨by (with_reducible repeat (first | apply Kd.R_alloc | apply Kd.R_drewN | apply Kd.R_drew)); exact Kd.R_mono (Kd.R_far (p := ⟨gb597, 2, none⟩) (Kd.R_types HO613.out BK597.out (by decide)) (fun _ hk => hk.2) (.slice Ao37 t611.length co37)) (fun _ hk => trivial)⟩, ⟨gI BK591.out⟩, ⟨gI BK592.out⟩, ⟨pI BK597⟩, ⟨y0_4⟩, ⟨hI HK.out⟩, ⟨y0_5⟩⟩
       rw [if_neg c28] at H
       have c28b0 : decide (x7_3 < (wrap64 (1 + t604))) = false := decide_eq_false c28; clear c28
       simp only [Option.some.injEq, Prod.mk.injEq] at H
       obtain ⟨rfl, rfl, rfl, rfl, rfl⟩ := H
       go_wp2_with (first | ((with_reducible refine gate_callee (f := 97) rfl ?_); refine gB (some 26) Tryz.func97 #[.pointer (some ⟨g, 0, none⟩), .int .i64 7] ?_; (with_reducible refine (spec_l1Below.calls g s0_0 x1001_3 x1002_3 7 t604 t605 t606 w0 _ ?side1 ?side2 A27.out).mono ?_); (case side1 => repeat (first | (with_reducible first | exact HI0.out | apply IsS149.alloc | apply IsS149.drewN | apply IsS149.drew | apply IsS149.set_1 | apply IsS149.set_2 | refine IsS149.far ?_ NeI.out _) | exact HI0.out)); (case side2 => repeat (first | (with_reducible first | exact HB.out | apply below_alloc | apply pw_below_drewN | apply below_drew1 | refine below_set ?_ (IsS149.ge HI0.out) | refine below_set ?_ GeI.out) | exact HB.out)); rintro e w39 ⟨rfl, hi, hb, hk⟩; refine ⟨_, rfl, ?_⟩; replace HO_598002 := Aside0.mk (Kd.R_mono (Kd.R_keep (IsS149.apart (show IsS149 w0 _ g s0_0 x1001_3 x1002_3 from y0_4) (rI HO_598002.out) (by decide)) hk (fun _ h => h.2)) (fun _ h => h.1)); replace BK591 := bq BK591 hk NB591_0; replace BK592 := bq BK592 hk NB592_0; replace BK597 := bq BK597 hk NB597_0; replace HK := kt HK hk; replace HB := Aside0.mk (hb); replace HI0 := Aside0.mk (hi); (try clear hb); (try clear hb2); (try clear hk); (try clear hi); have hnb40 := NB597_591.out; have hnc40 := NB591_597.out; have hnb41 := NB597_592.out; have hnc41 := NB592_597.out; have hnb42 := NB597_0.out; have hnc42 := NB0_597.out; obtain ⟨hcz43_0, hcz43_1, hcz43_2, hfz43_0, hfz43_1, hfz43_2⟩ := cs3 BK597; have hnb44 := NB592_591.out; have hnc44 := NB591_592.out; have hnb45 := NB592_0.out; have hnc45 := NB0_592.out; obtain ⟨hcz46_0, hcz46_1, hcz46_2, hfz46_0, hfz46_1, hfz46_2⟩ := cs3 BK592; obtain ⟨Ao47, co47, eo47⟩ := Kd.R_slice HO_598002.out; subst eo47))
       refine bodyPost_ret (results_cell_row rfl _ _ gb592 48 #[.int .i64 x598000_18, .string x598001_18, .slice Ao47 x598002_3.length co47] (0, 0) _ rfl (pI BK592) Tryz.underlying48 rfl (by kernel_rfl)) rfl ?_
       exact ⟨_, y0_12, by (with_reducible repeat (first | apply Kd.R_alloc | apply Kd.R_drewN | apply Kd.R_drew)); exact Kd.R_mono (Kd.R_far (p := ⟨gb592, 2, none⟩) (Kd.R_far (p := ⟨gb592, 1, none⟩) (Kd.R_far (p := ⟨gb592, 0, none⟩) (Kd.R_types HO_598002.out BK592.out (by decide)) (fun _ hk => hk.2) (.int .i64 x598000_18)) (fun _ hk => hk.2) (.string x598001_18)) (fun _ hk => hk.2) (.slice Ao47 x598002_3.length co47)) (fun _ hk => trivial), y0_4, y0_5, hI HK.out⟩
end Go.Proofs.YtdmjhgogljhfkaaGreatDoor.PFnParts
