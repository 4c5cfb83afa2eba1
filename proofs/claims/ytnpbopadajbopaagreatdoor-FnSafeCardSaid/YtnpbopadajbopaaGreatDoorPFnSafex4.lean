-- By a program of this session, out of the translation (the print of the kit, with turns of its own). Lean checks it.
import Derived.Test.YtnpbopadajbopaaGreatDoorPFnSafex0
import Derived.Test.YtnpbopadajbopaaGreatDoorPFnSafex1
import Derived.Test.YtnpbopadajbopaaGreatDoorPFnSafex3
namespace Go.Proofs.YtnpbopadajbopaaGreatDoor.PFnSafe
open Go.RowKit Go.Proofs.YtnpbopadajbopaaGreatDoorW.PrintWords Go.Proofs.YtnpbopadajbopaaGreatDoorW.PrintLast Go.Proofs.YtnpbopadajbopaaGreatDoorW.PrintMore
attribute [local go_sem] max2_int min2_int max_two min_two max_three min_three max_four min_four   -- for this text's walks alone
attribute [local go_sem] cell_in frozen_in
set_option synthInstance.maxSize 1000000
set_option synthInstance.maxHeartbeats 2000000
set_option linter.unusedVariables false
set_option linter.unusedSimpArgs false

/-! ### spec_l1PickInt: function 160 -/
def spec_l1PickInt.f (s0_0 : List Int) (s0_1 : Int) (s0_2 : Int) (l1 : List Int) : Option (Int × Int × Int) := (spec_l1Below.f s0_0 s0_1 s0_2 (l1.length : Int)).bind fun bt234 => (if 0 ≤ bt234.1 then (if bt234.1 < (l1.length : Int) then (some (rd l1 bt234.1, bt234.2.1, bt234.2.2)) else (none)) else (none))
set_option maxHeartbeats 8000000 in
set_option maxRecDepth 100000 in
theorem spec_l1PickInt.calls (g : Nat) (s0_0 : List Int) (s0_1 : Int) (s0_2 : Int) (A1 : Option Addr) (c1 : Nat) (l1 : List Int) (r1 : Int) (r2 : Int) (r3 : Int) (w0 w : World) (hI : IsS188 w0 w g s0_0 s0_1 s0_2) (hB : Below w0.heap.size w0 w) (hr1 : Kd.C (Kd.int .i64) w A1 l1.length l1) (hc1 : l1.length ≤ c1) (hf1 : ∀ ad, A1 = some ad → 0 < l1.length → ad.block ≠ g) (h : spec_l1PickInt.f s0_0 s0_1 s0_2 l1 = some (r1, r2, r3)) :
  Calls Tryz.prog 160 #[.pointer (some ⟨g, 0, none⟩), .slice A1 l1.length c1] w fun e w' => e = .returned (.int .i64 r1) ∧ IsS188 w0 w' g s0_0 r2 r3 ∧ Below w0.heap.size w0 w' ∧ KeepBut w w' g none := by
 have HR1 := Aside0.mk hr1; have HC1 := Aside0.mk hc1; clear hr1 hc1; have HI0 := Aside0.mk hI; have HK := Aside0.mk (KeepBut.refl w g none); have HL := Aside0.mk hB.size; clear hI; have HW0 := Aside0.mk hB.size; have HB := Aside0.mk hB; clear hB
 have H := h; unfold spec_l1PickInt.f at H
 clear h; obtain ⟨⟨t234, t235, t236⟩, A3, H⟩ := oB H; (try dsimp only at H)
 by_cases c4 : 0 ≤ t234
 ·
  rw [if_pos c4] at H
  have c4b0 : decide (0 ≤ t234) = true := decide_eq_true c4; clear c4
  by_cases c5 : t234 < (l1.length : Int)
  rotate_left
  ·
   rw [if_neg c5] at H
   exact absurd H (by simp)
  rw [if_pos c5] at H
  have c5b0 : decide (t234 < (l1.length : Int)) = true := decide_eq_true c5; clear c5
  simp only [Option.some.injEq, Prod.mk.injEq] at H
  obtain ⟨rfl, rfl, rfl⟩ := H
  go_enter Tryz.func160, Tryz.ntmps160
  go_wp2_with (first | ((with_reducible refine gate_callee (f := 150) rfl ?_); refine gB (some 9) Tryz.func150 #[.pointer (some ⟨g, 0, none⟩), .int .i64 (l1.length : Int)] ?_; (with_reducible refine (spec_l1Below.calls g s0_0 s0_1 s0_2 (l1.length : Int) t234 t235 t236 w0 _ ?side1 ?side2 A3.out).mono ?_); (case side1 => repeat (first | (with_reducible first | exact HI0.out | apply IsS188.alloc | apply IsS188.drewN | apply IsS188.drew | apply IsS188.set_1 | apply IsS188.set_2) | exact HI0.out)); (case side2 => repeat (first | (with_reducible first | exact HB.out | apply below_alloc | apply pw_below_drewN | apply below_drew1 | refine below_set ?_ (IsS188.ge HI0.out)) | exact HB.out)); rintro e w6 ⟨rfl, hi, hb, hk⟩; refine ⟨_, rfl, ?_⟩; replace HK := kt HK hk; replace HB := Aside0.mk (hb); replace HI0 := Aside0.mk (hi); (try clear hb); (try clear hb2); (try clear hk); (try clear hi); have p237 : 0 ≤ (t234 : Int) := of_decide_eq_true y0_15; have q237 : t234 < (l1.length : Int) := of_decide_eq_true y0_15; obtain ⟨ad237, e237, hx237_0⟩ := Kd.at_int HR1.out t234 p237 q237; cases e237; replace hx237_0 := keep_cell HK.out hx237_0 (by first | (rw [add_block]; exact hf1 _ rfl (by omega)) | exact hf1 _ rfl (by omega) | exact hf1 ad237 rfl (by omega)); replace p237 := eq_true p237; replace q237 := eq_true q237))
  go_ret
  exact ⟨y0_11, y0_4, y0_5, hI HK.out⟩
 rw [if_neg c4] at H
 exact absurd H (by simp)

/-! ### spec_l2DrawRight: function 209 -/
def spec_l2DrawRight.f (s0_0 : List Int) (s0_1 : Int) (s0_2 : Int) : Option (Int × Int × Int × Int × Int × Int) := (spec_l1Below.f s0_0 s0_1 s0_2 4).bind fun bt239 => ((spec_l1Below.f s0_0 bt239.2.1 bt239.2.2 4).bind fun bt242 => ((spec_l1PickInt.f s0_0 bt242.2.1 bt242.2.2 (([0, 5, 60, 100, 1000] : List Int))).bind fun bt248 => ((spec_l1Below.f s0_0 bt248.2.1 bt248.2.2 3).bind fun bt251 => (some (bt239.1, bt242.1, bt248.1, bt251.1, bt251.2.1, bt251.2.2)))))
set_option maxHeartbeats 8000000 in
set_option maxRecDepth 100000 in
theorem spec_l2DrawRight.calls (g : Nat) (s0_0 : List Int) (s0_1 : Int) (s0_2 : Int) (r1 : Int) (r2 : Int) (r3 : Int) (r4 : Int) (r5 : Int) (r6 : Int) (w0 w : World) (hI : IsS188 w0 w g s0_0 s0_1 s0_2) (hB : Below w0.heap.size w0 w) (h : spec_l2DrawRight.f s0_0 s0_1 s0_2 = some (r1, r2, r3, r4, r5, r6)) :
  Calls Tryz.prog 209 #[.pointer (some ⟨g, 0, none⟩)] w fun e w' => e = .returned (.agg #[.int .i64 r1, .int .i64 r2, .int .i64 r3, .int .i64 r4]) ∧ IsS188 w0 w' g s0_0 r5 r6 ∧ Below w0.heap.size w0 w' ∧ KeepBut w w' g none := by
 have hu204 := Tryz.underlying204; have HI0 := Aside0.mk hI; have HK := Aside0.mk (KeepBut.refl w g none); have HL := Aside0.mk hB.size; clear hI; have HW0 := Aside0.mk hB.size; have HB := Aside0.mk hB; clear hB
 have H := h; unfold spec_l2DrawRight.f at H
 clear h; obtain ⟨⟨t239, t240, t241⟩, A2, H⟩ := oB H; (try dsimp only at H); obtain ⟨⟨t242, t243, t244⟩, A3, H⟩ := oB H; (try dsimp only at H); obtain ⟨y245, hy245⟩ : ∃ y_ : List Int, y_ = (([0, 5, 60, 100, 1000] : List Int)) := ⟨_, rfl⟩
 replace H : ((spec_l1PickInt.f s0_0 t243 t244 y245).bind fun bt248 => ((spec_l1Below.f s0_0 bt248.2.1 bt248.2.2 3).bind fun bt251 => (some (t239, t242, bt248.1, bt251.1, bt251.2.1, bt251.2.2)))) = some (r1, r2, r3, r4, r5, r6) := by first | (rw [hy245]; with_reducible exact H) | (have H2_ := (Option.bind_some _ _).symm.trans H; rw [hy245]; with_reducible exact H2_) | (have H2_ := (Option.bind_some _ _).symm.trans H; with_reducible exact H2_) | with_reducible exact H | (rw [hy245]; exact H) | exact H
 have Ny245 := Aside0.mk hy245; clear hy245; obtain ⟨⟨t248, t249, t250⟩, A4, H⟩ := oB H; (try dsimp only at H); obtain ⟨⟨t251, t252, t253⟩, A5, H⟩ := oB H; (try dsimp only at H)
 simp only [Option.some.injEq, Prod.mk.injEq] at H
 obtain ⟨rfl, rfl, rfl, rfl, rfl, rfl⟩ := H; have i0_ := iB188 HI0; have i1_ : LB w0 w := ⟨HB.out⟩
 go_enter Tryz.func209, Tryz.ntmps209
 go_wp2_with (first | ((with_reducible refine gd 2 ?_); refine bL 2 #[.int .i64 0, .int .i64 0, .int .i64 0, .int .i64 0] 204 ?_; intro gb238 w6 _ _ _) | ((with_reducible refine gate_callee (f := 150) rfl ?_); refine gK (some 4) Tryz.func150 (spec_l1Below.calls (hI := iS188 HI0) (hB := UpW.out) (w := _) (h := A2.out)) ?_; intro w7 _ _ _ HI8) | ((with_reducible refine gate_callee (f := 150) rfl ?_); refine gK (some 6) Tryz.func150 (spec_l1Below.calls (hI := iS188 HI8) (hB := UpW.out) (w := _) (h := A3.out)) ?_; intro w9 _ _ _ HI10) | ((with_reducible refine gate_dst (N := 8) rfl ?_); refine lL 8 3 (Kd.int .i64) rfl Ny245 ?_; intro Ao246 co246 w11 _ HO247) | ((with_reducible refine gate_callee (f := 160) rfl ?_); refine gK (some 9) Tryz.func160 (spec_l1PickInt.calls (hI := iS188 HI10) (hB := UpW.out) (hr1 := rC HO247) (hc1 := rL HO247) (hf1 := fS HO247) (w := _) (h := A4.out)) ?_; intro w12 _ _ _ HI13) | ((with_reducible refine gate_callee (f := 150) rfl ?_); refine gK (some 11) Tryz.func150 (spec_l1Below.calls (hI := iS188 HI13) (hB := UpW.out) (w := _) (h := A5.out)) ?_; intro w14 _ _ _ HI15))
 refine bodyPost_ret (results_cell_row rfl _ _ gb238 204 #[.int .i64 t239, .int .i64 t242, .int .i64 t248, .int .i64 t251] (0, 0) _ rfl xB Tryz.underlying204 rfl (by kernel_rfl)) rfl ?_
 exact ⟨y0_16, iS188 HI15, UpW.out, UpB.out⟩

/-! ### spec_l5DrawRight: function 152 -/
mutual
def spec_l5DrawRight.l0 : Nat → ByteArray → Int → Int → List Int → Int → Int → Option (ByteArray × Int × Int)
 | 0, _, _, _, _, _, _ => none
 | k + 1, x3, x4, x5, x1000, x1001, x1002 => (spec_l1Below.f x1000 x1001 x1002 6).bind fun bt254 => (if x5 < bt254.1 then ((spec_l1Below.f x1000 bt254.2.1 bt254.2.2 4).bind fun bt257 => (spec_l5DrawRight.l1 k x3 (wrap64 ((wrap64 (x4 + 1)) + (wrap64 (Int.tdiv bt257.1 3)))) x5 (([] : List (S204))) 0 x1000 bt257.2.1 bt257.2.2)) else (some (x3, bt254.2.1, bt254.2.2)))
def spec_l5DrawRight.l1 : Nat → ByteArray → Int → Int → List (S204) → Int → List Int → Int → Int → Option (ByteArray × Int × Int)
 | 0, _, _, _, _, _, _, _, _ => none
 | k + 1, x3, x4, x5, x6, x7, x1000, x1001, x1002 => (spec_l1Below.f x1000 x1001 x1002 3).bind fun bt263 => (if x7 < bt263.1 then ((spec_l2DrawRight.f x1000 bt263.2.1 bt263.2.2).bind fun bt266 => (if x6.length < 4398046511104 then (spec_l5DrawRight.l1 k x3 x4 x5 (x6 ++ [(⟨bt266.1, bt266.2.1, bt266.2.2.1, bt266.2.2.2.1⟩ : S204)]) (wrap64 (x7 + 1)) x1000 bt266.2.2.2.2.1 bt266.2.2.2.2.2) else (none))) else ((spec_NameOf.f k x3 x4 x6).bind fun t275 => (spec_l5DrawRight.l0 k t275 x4 (wrap64 (x5 + 1)) x1000 bt263.2.1 bt263.2.2)))
end
def spec_l5DrawRight.f (k : Nat) (s0_0 : List Int) (s0_1 : Int) (s0_2 : Int) : Option (ByteArray × Int × Int) := spec_l5DrawRight.l0 k (⟨#[]⟩ : ByteArray) 0 0 s0_0 s0_1 s0_2
theorem spec_l5DrawRight.mono_l : ∀ k, (∀ y0 y1 y2 y3 y4 y5, LeO (spec_l5DrawRight.l0 k y0 y1 y2 y3 y4 y5) (spec_l5DrawRight.l0 (k + 1) y0 y1 y2 y3 y4 y5)) ∧ (∀ y0 y1 y2 y3 y4 y5 y6 y7, LeO (spec_l5DrawRight.l1 k y0 y1 y2 y3 y4 y5 y6 y7) (spec_l5DrawRight.l1 (k + 1) y0 y1 y2 y3 y4 y5 y6 y7))
 | 0 => ⟨fun _ _ _ _ _ _ r h => by simp [spec_l5DrawRight.l0] at h, fun _ _ _ _ _ _ _ _ r h => by simp [spec_l5DrawRight.l1] at h⟩
 | k + 1 => by
  obtain ⟨ih0, ih1⟩ := spec_l5DrawRight.mono_l k
  refine ⟨?_, ?_⟩
  ·
   intro y0 y1 y2 y3 y4 y5
   unfold spec_l5DrawRight.l0
   repeat' first | (with_reducible exact ih0 _ _ _ _ _ _) | (with_reducible exact ih1 _ _ _ _ _ _ _ _) | (with_reducible exact spec_NameOf.mono _ _ _ _) | (with_reducible exact LeO.refl _) | (with_reducible exact LeO.none _) | (with_reducible refine LeO.ite ?_ ?_) | (with_reducible refine LeO.bind ?_ (fun _ => ?_))
  intro y0 y1 y2 y3 y4 y5 y6 y7
  unfold spec_l5DrawRight.l1
  repeat' first | (with_reducible exact ih0 _ _ _ _ _ _) | (with_reducible exact ih1 _ _ _ _ _ _ _ _) | (with_reducible exact spec_NameOf.mono _ _ _ _) | (with_reducible exact LeO.refl _) | (with_reducible exact LeO.none _) | (with_reducible refine LeO.ite ?_ ?_) | (with_reducible refine LeO.bind ?_ (fun _ => ?_))
theorem spec_l5DrawRight.mono : ∀ a0 a1 a2 k, LeO (spec_l5DrawRight.f k a0 a1 a2) (spec_l5DrawRight.f (k + 1) a0 a1 a2) := by
 intro a0 a1 a2 k
 obtain ⟨ih0, ih1⟩ := spec_l5DrawRight.mono_l k
 unfold spec_l5DrawRight.f
 repeat' first | (with_reducible exact ih0 _ _ _ _ _ _) | (with_reducible exact ih1 _ _ _ _ _ _ _ _) | (with_reducible exact spec_NameOf.mono _ _ _ _) | (with_reducible exact LeO.refl _) | (with_reducible exact LeO.none _) | (with_reducible refine LeO.ite ?_ ?_) | (with_reducible refine LeO.bind ?_ (fun _ => ?_))
set_option maxHeartbeats 8000000 in
set_option maxRecDepth 100000 in
theorem spec_l5DrawRight.calls (k : Nat) (g : Nat) (s0_0 : List Int) (s0_1 : Int) (s0_2 : Int) (r1 : ByteArray) (r2 : Int) (r3 : Int) (w0 w : World) (hI : IsS188 w0 w g s0_0 s0_1 s0_2) (hB : Below w0.heap.size w0 w) (h : spec_l5DrawRight.f k s0_0 s0_1 s0_2 = some (r1, r2, r3)) :
  Calls Tryz.prog 152 #[.pointer (some ⟨g, 0, none⟩)] w fun e w' => e = .returned (.string r1) ∧ IsS188 w0 w' g s0_0 r2 r3 ∧ Below w0.heap.size w0 w' ∧ KeepBut w w' g none := by
 have HI0 := Aside0.mk hI; have HK := Aside0.mk (KeepBut.refl w g none); have HL := Aside0.mk hB.size; clear hI; have HW0 := Aside0.mk hB.size; have HB := Aside0.mk hB; clear hB; have H := h; unfold spec_l5DrawRight.f at H; clear h; have i0_ := iB188 HI0; have i1_ : LB w0 w := ⟨HB.out⟩
 go_enter Tryz.func152, Tryz.ntmps152
 have H' := Aside0.mk H; clear H
 go_wp2
 refine wC ?_; intro w2 _
 go_loopg [3, 4, 5] k (fun kq v3 v4 v5 w' => ∃ (x3_1 : ByteArray) (x4_1 : Int) (x5_1 : Int) (x1001_1 : Int) (x1002_1 : Int), v3 = .string x3_1 ∧ v4 = .int .i64 x4_1 ∧ v5 = .int .i64 x5_1 ∧ Aside0 (spec_l5DrawRight.l0 kq x3_1 x4_1 x5_1 s0_0 x1001_1 x1002_1 = some (r1, r2, r3)) ∧ Aside0 (kq ≤ k) ∧ StB g w' 188 ∧ Aside0 (IsS188 w0 w' g s0_0 x1001_1 x1002_1) ∧ KL w2 [g] w' ∧ LB w0 w' ∧ KS w g w')
 case atStart => exact ⟨((⟨#[]⟩ : ByteArray)), (0), (0), (s0_1), (s0_2), y0_16, y0_16, y0_16, H', ⟨Nat.le_refl _⟩, iB188 ⟨iS188 HI0⟩, ⟨iS188 HI0⟩, ⟨UpL.out⟩, ⟨UpW.out⟩, ⟨UpB.out⟩⟩
 case round =>
  clear H'; obtain ⟨x3_1, x4_1, x5_1, x1001_1, x1002_1, rfl, rfl, rfl, HA, HK1, _, HI3, _, _, _⟩ := hrel; cases gk with
  | zero => exact absurd HA.out (by simp [spec_l5DrawRight.l0])
  | succ k1 =>
   have H := HA.out; clear HA
   simp only [spec_l5DrawRight.l0] at H
   obtain ⟨⟨t254, t255, t256⟩, A4, H⟩ := oB H; (try dsimp only at H); have H' := Aside0.mk H; clear H
   go_upto_if 11 with (first | ((with_reducible refine gate_callee (f := 150) rfl ?_); refine gK (some 10) Tryz.func150 (spec_l1Below.calls (hI := iS188 HI3) (hB := UpW.out) (w := _) (h := A4.out)) ?_; intro w5 _ _ _ HI6))
   have H := H'.out; clear H'
   by_cases c7 : x5_1 < t254
   ·
    rw [if_pos c7] at H
    have c7b0 : decide (x5_1 < t254) = true := decide_eq_true c7; clear c7
    (first | rw [c7b0] | (simp only [i64_w, i32_w]; rw [c7b0]) | skip)
    obtain ⟨⟨t257, t258, t259⟩, A8, H⟩ := oB H; (try dsimp only at H); obtain ⟨y260, hy260⟩ : ∃ y_ : List (S204), y_ = (([] : List (S204))) := ⟨_, rfl⟩
    replace H : (spec_l5DrawRight.l1 k1 x3_1 (wrap64 ((wrap64 (x4_1 + 1)) + (wrap64 (Int.tdiv t257 3)))) x5_1 y260 0 s0_0 t258 t259) = some (r1, r2, r3) := by first | (rw [hy260]; with_reducible exact H) | (have H2_ := (Option.bind_some _ _).symm.trans H; rw [hy260]; with_reducible exact H2_) | (have H2_ := (Option.bind_some _ _).symm.trans H; with_reducible exact H2_) | with_reducible exact H | (rw [hy260]; exact H) | exact H
    have Ny260 := Aside0.mk hy260; clear hy260; have H' := Aside0.mk H; clear H
    go_wp2_with (first | ((with_reducible refine gate_callee (f := 150) rfl ?_); refine gK (some 17) Tryz.func150 (spec_l1Below.calls (hI := iS188 HI6) (hB := UpW.out) (w := _) (h := A8.out)) ?_; intro w9 _ _ _ HI10) | ((with_reducible refine gate_dst (N := 20) rfl ?_); refine lE 20 204 k204 Ny260 ?_; intro Ao261 co261 w11 _ HO262))
    refine wC ?_; intro w12 _
    go_loopg [6, 7] k1 (fun kq v6 v7 w' => ∃ (x6_2 : List (S204)) (x7_2 : Int) (x1001_2 : Int) (x1002_2 : Int) (Ao6_2 : Option Addr) (co6_2 : Nat), v6 = .slice Ao6_2 x6_2.length co6_2 ∧ v7 = .int .i64 x7_2 ∧ Aside0 (spec_l5DrawRight.l1 kq x3_1 (wrap64 ((wrap64 (x4_1 + 1)) + (wrap64 (Int.tdiv t257 3)))) x5_1 x6_2 x7_2 s0_0 x1001_2 x1002_2 = some (r1, r2, r3)) ∧ Aside0 (kq ≤ k1) ∧ Aside0 (Kd.R k204 204 w' w9.heap.size (iv w9 w') (.slice Ao6_2 x6_2.length co6_2) x6_2) ∧ StB g w' 188 ∧ Aside0 (IsS188 w0 w' g s0_0 x1001_2 x1002_2) ∧ KT w12 [g] w9 _ k204 204 w' ∧ LB w0 w' ∧ KS w g w')
    case atStart => exact ⟨(y260), (0), (t258), (t259), (Ao261), (co261), y0_16, y0_16, H', ⟨Nat.le_refl _⟩, ⟨rJ HO262⟩, iB188 ⟨iS188 HI10⟩, ⟨iS188 HI10⟩, ⟨UpT.out⟩, ⟨UpW.out⟩, ⟨UpB.out⟩⟩
    case round =>
     clear H'; obtain ⟨x6_2, x7_2, x1001_2, x1002_2, Ao6_2, co6_2, rfl, rfl, HA, HK2, HO_6, _, HI13, _, _, _⟩ := hrel; have HO_20 := HO262; cases gk with
     | zero => exact absurd HA.out (by simp [spec_l5DrawRight.l1])
     | succ k2 =>
      have H := HA.out; clear HA
      simp only [spec_l5DrawRight.l1] at H
      obtain ⟨⟨t263, t264, t265⟩, A14, H⟩ := oB H; (try dsimp only at H); have H' := Aside0.mk H; clear H
      go_upto_if 24 with (first | ((with_reducible refine gate_callee (f := 150) rfl ?_); refine gK (some 23) Tryz.func150 (spec_l1Below.calls (hI := iS188 HI13) (hB := UpW.out) (w := _) (h := A14.out)) ?_; intro w15 _ _ _ HI16))
      have H := H'.out; clear H'
      by_cases c17 : x7_2 < t263
      ·
       rw [if_pos c17] at H
       have c17b0 : decide (x7_2 < t263) = true := decide_eq_true c17; clear c17
       (first | rw [c17b0] | (simp only [i64_w, i32_w]; rw [c17b0]) | skip)
       obtain ⟨⟨t266, t267, t268, t269, t270, t271⟩, A18, H⟩ := oB H; (try dsimp only at H)
       by_cases c19 : x6_2.length < 4398046511104
       rotate_left
       ·
        rw [if_neg c19] at H
        exact absurd H (by simp)
       rw [if_pos c19] at H
       have LMc19 := Aside0.mk c19; clear c19; obtain ⟨y272, hy272⟩ : ∃ y_ : List (S204), y_ = (x6_2 ++ [(⟨t266, t267, t268, t269⟩ : S204)]) := ⟨_, rfl⟩
       replace H : (spec_l5DrawRight.l1 k2 x3_1 (wrap64 ((wrap64 (x4_1 + 1)) + (wrap64 (Int.tdiv t257 3)))) x5_1 y272 (wrap64 (x7_2 + 1)) s0_0 t270 t271) = some (r1, r2, r3) := by first | (rw [hy272]; with_reducible exact H) | (have H2_ := (Option.bind_some _ _).symm.trans H; rw [hy272]; with_reducible exact H2_) | (have H2_ := (Option.bind_some _ _).symm.trans H; with_reducible exact H2_) | with_reducible exact H | (rw [hy272]; exact H) | exact H
       have Ny272 := Aside0.mk hy272; clear hy272; have H' := Aside0.mk H; clear H
       go_wp2_with (first | ((with_reducible refine gate_callee (f := 209) rfl ?_); refine gK (some 29) Tryz.func209 (spec_l2DrawRight.calls (hI := iS188 HI16) (hB := UpW.out) (w := _) (h := A18.out)) ?_; intro w20 _ _ _ HI21) | ((with_reducible refine gate_builtin (b := .append) (xs := #[.tmp 27, .tmp 30]) rfl ?_); at_builtin; refine gA k204 (.tmp 27) (.tmp 30) 101 204 (.agg #[(.int .i64 0), (.int .i64 0), (.int .i64 0), (.int .i64 0)]) 32 (⟨t266, t267, t268, t269⟩ : S204) [.int .i64 t266, .int .i64 t267, .int .i64 t268, .int .i64 t269] w9 Ny272 HO_6 (k204_mkM _ _ _ (⟨t266, t267, t268, t269⟩ : S204)) (by have := LMc19.out; omega) ?_ (ht := Tryz.underlying101) (hinfo := info204); intro Ao273 co273 w22 _ _ HO274))
       go_roundg k2
       case measure => have := HK1.out; have := HK2.out; omega
       case rel => exact ⟨(y272), (wrap64 (x7_2 + 1)), (t270), (t271), (Ao273), (co273), y0_16, y0_16, H', ⟨by have := HK1.out; have := HK2.out; omega⟩, ⟨rJ HO274⟩, iB188 ⟨iS188 HI21⟩, ⟨iS188 HI21⟩, ⟨UpT.out⟩, ⟨UpW.out⟩, ⟨UpB.out⟩⟩
      rw [if_neg c17] at H
      have c17b0 : decide (x7_2 < t263) = false := decide_eq_false c17; clear c17
      (first | rw [c17b0] | (simp only [i64_w, i32_w]; rw [c17b0]) | skip)
      obtain ⟨t275, A23, H⟩ := oB H; (try dsimp only at H); have H' := Aside0.mk H; clear H
      go_wp2_with (first | ((with_reducible refine gate_callee (f := 163) rfl ?_); refine gC (some 35) Tryz.func163 (spec_NameOf.calls (hr2 := rC HO_6) (hc2 := rL HO_6) (w := _) (h := A23.out)) ?_; intro w24 _))
      go_roundg k2
      case measure => have := HK1.out; have := HK2.out; omega
      case rel => exact ⟨(t275), ((wrap64 ((wrap64 (x4_1 + 1)) + (wrap64 (Int.tdiv t257 3))))), (wrap64 (x5_1 + 1)), (t264), (t265), y0_16, y0_16, y0_16, H', ⟨by have := HK1.out; have := HK2.out; omega⟩, iB188 ⟨iS188 HI16⟩, ⟨iS188 HI16⟩, ⟨UpL.out⟩, ⟨UpW.out⟩, ⟨UpB.out⟩⟩
   rw [if_neg c7] at H
   have c7b0 : decide (x5_1 < t254) = false := decide_eq_false c7; clear c7
   (first | rw [c7b0] | (simp only [i64_w, i32_w]; rw [c7b0]) | skip)
   simp only [Option.some.injEq, Prod.mk.injEq] at H
   obtain ⟨rfl, rfl, rfl⟩ := H
   go_wp2
   go_ret
   exact ⟨y0_16, iS188 HI6, UpW.out, UpB.out⟩

/-! ### spec_l1Pick: function 225 -/
def spec_l1Pick.f (s0_0 : List Int) (s0_1 : Int) (s0_2 : Int) (l1 : List ByteArray) : Option (ByteArray × Int × Int) := (spec_l1Below.f s0_0 s0_1 s0_2 (l1.length : Int)).bind fun bt276 => (if 0 ≤ bt276.1 then (if bt276.1 < (l1.length : Int) then (some (rdOf ByteArray.empty l1 bt276.1, bt276.2.1, bt276.2.2)) else (none)) else (none))
set_option maxHeartbeats 8000000 in
set_option maxRecDepth 100000 in
theorem spec_l1Pick.calls (g : Nat) (s0_0 : List Int) (s0_1 : Int) (s0_2 : Int) (A1 : Option Addr) (c1 : Nat) (l1 : List ByteArray) (r1 : ByteArray) (r2 : Int) (r3 : Int) (w0 w : World) (hI : IsS188 w0 w g s0_0 s0_1 s0_2) (hB : Below w0.heap.size w0 w) (hr1 : Kd.C Kd.string w A1 l1.length l1) (hc1 : l1.length ≤ c1) (hf1 : ∀ ad, A1 = some ad → 0 < l1.length → ad.block ≠ g) (h : spec_l1Pick.f s0_0 s0_1 s0_2 l1 = some (r1, r2, r3)) :
  Calls Tryz.prog 225 #[.pointer (some ⟨g, 0, none⟩), .slice A1 l1.length c1] w fun e w' => e = .returned (.string r1) ∧ IsS188 w0 w' g s0_0 r2 r3 ∧ Below w0.heap.size w0 w' ∧ KeepBut w w' g none := by
 have HR1 := Aside0.mk hr1; have HC1 := Aside0.mk hc1; clear hr1 hc1; have HI0 := Aside0.mk hI; have HK := Aside0.mk (KeepBut.refl w g none); have HL := Aside0.mk hB.size; clear hI; have HW0 := Aside0.mk hB.size; have HB := Aside0.mk hB; clear hB
 have H := h; unfold spec_l1Pick.f at H
 clear h; obtain ⟨⟨t276, t277, t278⟩, A3, H⟩ := oB H; (try dsimp only at H)
 by_cases c4 : 0 ≤ t276
 ·
  rw [if_pos c4] at H
  have c4b0 : decide (0 ≤ t276) = true := decide_eq_true c4; clear c4
  by_cases c5 : t276 < (l1.length : Int)
  rotate_left
  ·
   rw [if_neg c5] at H
   exact absurd H (by simp)
  rw [if_pos c5] at H
  have c5b0 : decide (t276 < (l1.length : Int)) = true := decide_eq_true c5; clear c5
  simp only [Option.some.injEq, Prod.mk.injEq] at H
  obtain ⟨rfl, rfl, rfl⟩ := H
  go_enter Tryz.func225, Tryz.ntmps225
  go_wp2_with (first | ((with_reducible refine gate_callee (f := 150) rfl ?_); refine gB (some 9) Tryz.func150 #[.pointer (some ⟨g, 0, none⟩), .int .i64 (l1.length : Int)] ?_; (with_reducible refine (spec_l1Below.calls g s0_0 s0_1 s0_2 (l1.length : Int) t276 t277 t278 w0 _ ?side1 ?side2 A3.out).mono ?_); (case side1 => repeat (first | (with_reducible first | exact HI0.out | apply IsS188.alloc | apply IsS188.drewN | apply IsS188.drew | apply IsS188.set_1 | apply IsS188.set_2) | exact HI0.out)); (case side2 => repeat (first | (with_reducible first | exact HB.out | apply below_alloc | apply pw_below_drewN | apply below_drew1 | refine below_set ?_ (IsS188.ge HI0.out)) | exact HB.out)); rintro e w6 ⟨rfl, hi, hb, hk⟩; refine ⟨_, rfl, ?_⟩; replace HK := kt HK hk; replace HB := Aside0.mk (hb); replace HI0 := Aside0.mk (hi); (try clear hb); (try clear hb2); (try clear hk); (try clear hi); have p279 : 0 ≤ (t276 : Int) := of_decide_eq_true y0_15; have q279 : t276 < (l1.length : Int) := of_decide_eq_true y0_15; obtain ⟨ad279, e279, hx279_0⟩ := Kd.at_string HR1.out t276 p279 q279; cases e279; replace hx279_0 := keep_cell HK.out hx279_0 (by first | (rw [add_block]; exact hf1 _ rfl (by omega)) | exact hf1 _ rfl (by omega) | exact hf1 ad279 rfl (by omega)); replace p279 := eq_true p279; replace q279 := eq_true q279))
  go_ret
  exact ⟨y0_11, y0_4, y0_5, hI HK.out⟩
 rw [if_neg c4] at H
 exact absurd H (by simp)

/-! ### spec_l2Dent: function 192 -/
def spec_l2Dent.f (s0_0 : List Int) (s0_1 : Int) (s0_2 : Int) (a1 : ByteArray) : Option (ByteArray × Int × Int) := (spec_l1Below.f s0_0 s0_1 s0_2 (wrap64 ((a1.size : Int) + 1))).bind fun bt280 => ((spec_l1Below.f s0_0 bt280.2.1 bt280.2.2 5).bind fun bt283 => (if bt283.1 = 0 then (if 0 ≤ bt280.1 then (if bt280.1 ≤ (a1.size : Int) then (some (a1.extract 0 (bt280.1 : Int).toNat, bt283.2.1, bt283.2.2)) else (none)) else (none)) else (if bt283.1 = 1 then (if 0 ≤ bt280.1 then (if bt280.1 ≤ (a1.size : Int) then ((spec_l1Pick.f s0_0 bt283.2.1 bt283.2.2 (([(⟨#[48]⟩ : ByteArray), (⟨#[44]⟩ : ByteArray), (⟨#[62]⟩ : ByteArray), (⟨#[47]⟩ : ByteArray), (⟨#[124]⟩ : ByteArray), (⟨#[120]⟩ : ByteArray), (⟨#[49]⟩ : ByteArray)] : List ByteArray))).bind fun bt289 => (if (a1.extract 0 (bt280.1 : Int).toNat).size + bt289.1.size ≤ 9223372036854775807 then (if ((a1.extract 0 (bt280.1 : Int).toNat) ++ bt289.1).size + (a1.extract (bt280.1 : Int).toNat a1.size).size ≤ 9223372036854775807 then (some (((a1.extract 0 (bt280.1 : Int).toNat) ++ bt289.1) ++ (a1.extract (bt280.1 : Int).toNat a1.size), bt289.2.1, bt289.2.2)) else (none)) else (none))) else (none)) else (none)) else (some (a1, bt283.2.1, bt283.2.2)))))
def spec_l2Dent.T6 : Bool × List (List Nat × List Nat) := (true, [([], []), ([], []), ([0, 1], [0, 1]), ([], []), ([], []), ([3, 4], [3, 4]), ([2, 5], [2, 5]), ([], []), ([], []), ([7, 8], [7, 8]), ([6, 9], [6, 9]), ([10, 5, 0, 1, 2, 3, 4, 5, 6, 7, 8, 9, 10], [10])])
def spec_l2Dent.B6 : List Nat := [0, 0, 3, 0, 0, 24, 63, 0, 0, 384, 1023, 2047]
theorem spec_l2Dent.tab6 : rtab .any (opsOf Tryz.f192 6) = spec_l2Dent.T6 := by kernel_rfl
theorem spec_l2Dent.bits6 : waitsOk spec_l2Dent.T6.2 spec_l2Dent.B6 = true := by kernel_rfl
set_option maxHeartbeats 8000000 in
set_option maxRecDepth 100000 in
theorem spec_l2Dent.calls (g : Nat) (s0_0 : List Int) (s0_1 : Int) (s0_2 : Int) (a1 : ByteArray) (r1 : ByteArray) (r2 : Int) (r3 : Int) (w0 w : World) (hI : IsS188 w0 w g s0_0 s0_1 s0_2) (hB : Below w0.heap.size w0 w) (h : spec_l2Dent.f s0_0 s0_1 s0_2 a1 = some (r1, r2, r3)) :
  Calls Tryz.prog 192 #[.pointer (some ⟨g, 0, none⟩), .string a1] w fun e w' => e = .returned (.string r1) ∧ IsS188 w0 w' g s0_0 r2 r3 ∧ Below w0.heap.size w0 w' ∧ KeepBut w w' g none := by
 have HI0 := Aside0.mk hI; have HK := Aside0.mk (KeepBut.refl w g none); have HL := Aside0.mk hB.size; clear hI; have HW0 := Aside0.mk hB.size; have HB := Aside0.mk hB; clear hB
 have H := h; unfold spec_l2Dent.f at H
 clear h; obtain ⟨⟨t280, t281, t282⟩, A3, H⟩ := oB H; (try dsimp only at H); obtain ⟨⟨t283, t284, t285⟩, A4, H⟩ := oB H; (try dsimp only at H)
 by_cases c5 : t283 = 0
 ·
  rw [if_pos c5] at H
  have c5b0 : (t283 == 0) = true := beq_iff_eq.mpr c5; have c5b1 : (t283 != 0) = false := bne_eq_false_iff_eq.mpr c5; clear c5
  by_cases c6 : 0 ≤ t280
  rotate_left
  ·
   rw [if_neg c6] at H
   exact absurd H (by simp)
  rw [if_pos c6] at H
  have c6b0 := eq_true c6; have c6b1 : decide (0 ≤ t280) = true := decide_eq_true c6; clear c6
  by_cases c7 : t280 ≤ (a1.size : Int)
  rotate_left
  ·
   rw [if_neg c7] at H
   exact absurd H (by simp)
  rw [if_pos c7] at H
  have c7b0 := eq_true c7; have c7b1 : decide (t280 ≤ (a1.size : Int)) = true := decide_eq_true c7; clear c7
  simp only [Option.some.injEq, Prod.mk.injEq] at H
  obtain ⟨rfl, rfl, rfl⟩ := H
  go_enter Tryz.func192, Tryz.ntmps192
  go_wp2_with (first | ((with_reducible refine gate_callee (f := 150) rfl ?_); refine gB (some 10) Tryz.func150 #[.pointer (some ⟨g, 0, none⟩), .int .i64 (wrap64 ((a1.size : Int) + 1))] ?_; (with_reducible refine (spec_l1Below.calls g s0_0 s0_1 s0_2 (wrap64 ((a1.size : Int) + 1)) t280 t281 t282 w0 _ ?side1 ?side2 A3.out).mono ?_); (case side1 => repeat (first | (with_reducible first | exact HI0.out | apply IsS188.alloc | apply IsS188.drewN | apply IsS188.drew | apply IsS188.set_1 | apply IsS188.set_2) | exact HI0.out)); (case side2 => repeat (first | (with_reducible first | exact HB.out | apply below_alloc | apply pw_below_drewN | apply below_drew1 | refine below_set ?_ (IsS188.ge HI0.out)) | exact HB.out)); rintro e w8 ⟨rfl, hi, hb, hk⟩; refine ⟨_, rfl, ?_⟩; replace HK := kt HK hk; replace HB := Aside0.mk (hb); replace HI0 := Aside0.mk (hi); (try clear hb); (try clear hb2); (try clear hk); (try clear hi)) | ((with_reducible refine gate_callee (f := 150) rfl ?_); refine gB (some 12) Tryz.func150 #[.pointer (some ⟨g, 0, none⟩), .int .i64 5] ?_; (with_reducible refine (spec_l1Below.calls g s0_0 t281 t282 5 t283 t284 t285 w0 _ ?side1 ?side2 A4.out).mono ?_); (case side1 => repeat (first | (with_reducible first | exact HI0.out | apply IsS188.alloc | apply IsS188.drewN | apply IsS188.drew | apply IsS188.set_1 | apply IsS188.set_2) | exact HI0.out)); (case side2 => repeat (first | (with_reducible first | exact HB.out | apply below_alloc | apply pw_below_drewN | apply below_drew1 | refine below_set ?_ (IsS188.ge HI0.out)) | exact HB.out)); rintro e w9 ⟨rfl, hi, hb, hk⟩; refine ⟨_, rfl, ?_⟩; replace HK := kt HK hk; replace HB := Aside0.mk (hb); replace HI0 := Aside0.mk (hi); (try clear hb); (try clear hb2); (try clear hk); (try clear hi)))
  go_ret
  exact ⟨y0_11, y0_4, y0_5, hI HK.out⟩
 rw [if_neg c5] at H
 have c5b0 : (t283 == 0) = false := beq_eq_false_iff_ne.mpr c5; have c5b1 : (t283 != 0) = true := bne_iff_ne.mpr c5
 by_cases c10 : t283 = 1
 ·
  rw [if_pos c10] at H
  have c10b0 : (t283 == 1) = true := beq_iff_eq.mpr c10; have c10b1 : (t283 != 1) = false := bne_eq_false_iff_eq.mpr c10; clear c10
  by_cases c11 : 0 ≤ t280
  rotate_left
  ·
   rw [if_neg c11] at H
   exact absurd H (by simp)
  rw [if_pos c11] at H
  have c11b0 := eq_true c11; have c11b1 : decide (0 ≤ t280) = true := decide_eq_true c11; clear c11
  by_cases c12 : t280 ≤ (a1.size : Int)
  rotate_left
  ·
   rw [if_neg c12] at H
   exact absurd H (by simp)
  rw [if_pos c12] at H
  have c12b0 := eq_true c12; have c12b1 : decide (t280 ≤ (a1.size : Int)) = true := decide_eq_true c12; clear c12; obtain ⟨y286, hy286⟩ : ∃ y_ : List ByteArray, y_ = (([(⟨#[48]⟩ : ByteArray), (⟨#[44]⟩ : ByteArray), (⟨#[62]⟩ : ByteArray), (⟨#[47]⟩ : ByteArray), (⟨#[124]⟩ : ByteArray), (⟨#[120]⟩ : ByteArray), (⟨#[49]⟩ : ByteArray)] : List ByteArray)) := ⟨_, rfl⟩
  replace H : ((spec_l1Pick.f s0_0 t284 t285 y286).bind fun bt289 => (if (a1.extract 0 (t280 : Int).toNat).size + bt289.1.size ≤ 9223372036854775807 then (if ((a1.extract 0 (t280 : Int).toNat) ++ bt289.1).size + (a1.extract (t280 : Int).toNat a1.size).size ≤ 9223372036854775807 then (some (((a1.extract 0 (t280 : Int).toNat) ++ bt289.1) ++ (a1.extract (t280 : Int).toNat a1.size), bt289.2.1, bt289.2.2)) else (none)) else (none))) = some (r1, r2, r3) := by first | (rw [hy286]; with_reducible exact H) | (have H2_ := (Option.bind_some _ _).symm.trans H; rw [hy286]; with_reducible exact H2_) | (have H2_ := (Option.bind_some _ _).symm.trans H; with_reducible exact H2_) | with_reducible exact H | (rw [hy286]; exact H) | exact H
  have Ny286 := Aside0.mk hy286; clear hy286; obtain ⟨⟨t289, t290, t291⟩, A13, H⟩ := oB H; (try dsimp only at H)
  by_cases c14 : (a1.extract 0 (t280 : Int).toNat).size + t289.size ≤ 9223372036854775807
  rotate_left
  ·
   rw [if_neg c14] at H
   exact absurd H (by simp)
  rw [if_pos c14] at H
  have c14b0 := eq_true c14; have c14b1 : decide ((a1.extract 0 (t280 : Int).toNat).size + t289.size ≤ 9223372036854775807) = true := decide_eq_true c14
  try have c14b2 : (9223372036854775807 < (a1.extract 0 (t280 : Int).toNat).size + t289.size) = False := eq_false (Nat.not_lt.2 c14)
  (try have c14b3 : (9223372036854775807 < t280.toNat + t289.size) = False := eq_false (by have h_ := c14; simp only [ByteArray.size_append, ByteArray.size_extract] at h_; have h0_ : (t280 : Int) ≤ (a1.size : Int) := of_decide_eq_true (by assumption); omega))
  have c15b0 := eq_true (of_decide_eq_true y0_15 : 0 ≤ t280); have c16b0 := eq_true (of_decide_eq_true y0_15 : t280 ≤ (a1.size : Int))
  by_cases c17 : ((a1.extract 0 (t280 : Int).toNat) ++ t289).size + (a1.extract (t280 : Int).toNat a1.size).size ≤ 9223372036854775807
  rotate_left
  ·
   rw [if_neg c17] at H
   exact absurd H (by simp)
  rw [if_pos c17] at H
  have c17b0 := eq_true c17; have c17b1 : decide (((a1.extract 0 (t280 : Int).toNat) ++ t289).size + (a1.extract (t280 : Int).toNat a1.size).size ≤ 9223372036854775807) = true := decide_eq_true c17
  try have c17b2 : (9223372036854775807 < ((a1.extract 0 (t280 : Int).toNat) ++ t289).size + (a1.extract (t280 : Int).toNat a1.size).size) = False := eq_false (Nat.not_lt.2 c17)
  (try have c17b3 : (9223372036854775807 < t280.toNat + t289.size + (a1.size - t280.toNat)) = False := eq_false (by have h_ := c17; simp only [ByteArray.size_append, ByteArray.size_extract] at h_; have h0_ : (t280 : Int) ≤ (a1.size : Int) := of_decide_eq_true (by assumption); omega))
  simp only [Option.some.injEq, Prod.mk.injEq] at H
  obtain ⟨rfl, rfl, rfl⟩ := H
  go_enter Tryz.func192, Tryz.ntmps192
  try go_wp2_with (first | ((with_reducible refine gate_callee (f := 150) rfl ?_); refine gB (some 10) Tryz.func150 #[.pointer (some ⟨g, 0, none⟩), .int .i64 (wrap64 ((a1.size : Int) + 1))] ?_; (with_reducible refine (spec_l1Below.calls g s0_0 s0_1 s0_2 (wrap64 ((a1.size : Int) + 1)) t280 t281 t282 w0 _ ?side1 ?side2 A3.out).mono ?_); (case side1 => repeat (first | (with_reducible first | exact HI0.out | apply IsS188.alloc | apply IsS188.drewN | apply IsS188.drew | apply IsS188.set_1 | apply IsS188.set_2) | exact HI0.out)); (case side2 => repeat (first | (with_reducible first | exact HB.out | apply below_alloc | apply pw_below_drewN | apply below_drew1 | refine below_set ?_ (IsS188.ge HI0.out)) | exact HB.out)); rintro e w18 ⟨rfl, hi, hb, hk⟩; refine ⟨_, rfl, ?_⟩; replace HK := kt HK hk; replace HB := Aside0.mk (hb); replace HI0 := Aside0.mk (hi); (try clear hb); (try clear hb2); (try clear hk); (try clear hi)) | ((with_reducible refine gate_callee (f := 150) rfl ?_); refine gB (some 12) Tryz.func150 #[.pointer (some ⟨g, 0, none⟩), .int .i64 5] ?_; (with_reducible refine (spec_l1Below.calls g s0_0 t281 t282 5 t283 t284 t285 w0 _ ?side1 ?side2 A4.out).mono ?_); (case side1 => repeat (first | (with_reducible first | exact HI0.out | apply IsS188.alloc | apply IsS188.drewN | apply IsS188.drew | apply IsS188.set_1 | apply IsS188.set_2) | exact HI0.out)); (case side2 => repeat (first | (with_reducible first | exact HB.out | apply below_alloc | apply pw_below_drewN | apply below_drew1 | refine below_set ?_ (IsS188.ge HI0.out)) | exact HB.out)); rintro e w19 ⟨rfl, hi, hb, hk⟩; refine ⟨_, rfl, ?_⟩; replace HK := kt HK hk; replace HB := Aside0.mk (hb); replace HI0 := Aside0.mk (hi); (try clear hb); (try clear hb2); (try clear hk); (try clear hi)))
  replace HI0 := Aside0.mk (IsS188.drew HI0.out); replace HK := Aside0.mk (keep_drew HK.out); replace HB := Aside0.mk (below_drew1 HB.out)
  refine start_ (n := 12) (S := fun w' => True) (ds := []) #[false, false, false, false, false, false, false, false, false, false, false, false] (by kernel_rfl) rfl rfl trivial (fun hHeld => ?_); refine with_tabW spec_l2Dent.tab6 spec_l2Dent.bits6 (fun HT_ HW_ => ?_)
  generalize w19.drew = w20 at HI0 HK HB hHeld ⊢
  refine pA 0 (some 20) (bz 12 1) HT_ ?_
  refine pA 1 (some 21) (bz 12 3) HT_ ?_
  refine pA 2 (some 22) (bz 12 7) HT_ ?_
  refine pA 3 (some 23) (bz 12 15) HT_ ?_
  refine pA 7 (some 27) (bz 12 143) HT_ ?_
  refine pA 8 (some 28) (bz 12 399) HT_ ?_
  refine pA 9 (some 29) (bz 12 911) HT_ ?_
  refine oA 4 (some 24) (bz 12 927) HT_ (fun K hK => ?_)
  refine Kd.R_lit_step Kd.string _ 9 ?hg (N := 24) ?hd (xs := ([(⟨#[48]⟩ : ByteArray), (⟨#[44]⟩ : ByteArray), (⟨#[62]⟩ : ByteArray), (⟨#[47]⟩ : ByteArray), (⟨#[124]⟩ : ByteArray), (⟨#[120]⟩ : ByteArray), (⟨#[49]⟩ : ByteArray)] : List ByteArray)) (inner := [.string (⟨#[48]⟩ : ByteArray), .string (⟨#[44]⟩ : ByteArray), .string (⟨#[62]⟩ : ByteArray), .string (⟨#[47]⟩ : ByteArray), .string (⟨#[124]⟩ : ByteArray), .string (⟨#[120]⟩ : ByteArray), .string (⟨#[49]⟩ : ByteArray)]) (ok := fun _ => True) (okp := fun _ => True) ?hr ?hp (fun _ hk => hk) trivial (Below.refl _ _) (Nat.le_refl _) (by simp) ?_; (case hd => rfl); (case hg => rfl); (case hr => first | (go_simp; done) | (go_simp; rfl)); (case hp => exact (Reps.one (show Kd.M Kd.string _ _ _ (⟨#[48]⟩ : ByteArray) [.string (⟨#[48]⟩ : ByteArray)] from rfl) (Reps.one (show Kd.M Kd.string _ _ _ (⟨#[44]⟩ : ByteArray) [.string (⟨#[44]⟩ : ByteArray)] from rfl) (Reps.one (show Kd.M Kd.string _ _ _ (⟨#[62]⟩ : ByteArray) [.string (⟨#[62]⟩ : ByteArray)] from rfl) (Reps.one (show Kd.M Kd.string _ _ _ (⟨#[47]⟩ : ByteArray) [.string (⟨#[47]⟩ : ByteArray)] from rfl) (Reps.one (show Kd.M Kd.string _ _ _ (⟨#[124]⟩ : ByteArray) [.string (⟨#[124]⟩ : ByteArray)] from rfl) (Reps.one (show Kd.M Kd.string _ _ _ (⟨#[120]⟩ : ByteArray) [.string (⟨#[120]⟩ : ByteArray)] from rfl) (Reps.one (show Kd.M Kd.string _ _ _ (⟨#[49]⟩ : ByteArray) [.string (⟨#[49]⟩ : ByteArray)] from rfl) (Reps.none _ _)))))))))
  intro v287 w21 ho22 hb hg_ hnew_
  clear hg_ hnew_
  (first | rw [← Ny286.out] at ho22 | (simp only [Int.reduceToNat] at ho22; rw [← Ny286.out] at ho22))
  have HO288 := Aside0.mk (Kd.R_lower ho22 (keep_size (w := w) (g := g) (row := none) (hI HK.out))); replace HK := kb HK hb; replace HB : Aside0 (Below w0.heap.size w0 _) := Aside0.mk (below_step y0_5 hb); replace HI0 := Aside0.mk (IsS188.below y0_4 hb); clear hb ho22; obtain ⟨Ao23, co23, eo23⟩ := Kd.R_slice HO288.out
  (first | subst eo23 | (injection eo23 with f1_ f2_ f3_; have f4_ := f1_.symm; have f5_ := f3_.symm; clear f1_ f2_ f3_; subst f4_; subst f5_))
  refine hK.out _ _ trivial (fun hHeld => ?_)
  clear hK K
  refine nA (some 24) ?_
  refine oA 5 (some 25) (bz 12 959) HT_ (fun K hK => ?_)
  refine gA Tryz.func225 #[.pointer (some ⟨g, 0, none⟩), .slice Ao23 y286.length co23] ?_
  with_reducible refine (spec_l1Pick.calls g s0_0 t284 t285 _ _ y286 t289 t290 t291 w0 _ ?side1 ?side2 ?side3 ?side4 ?side5 A13.out).mono ?_
  (case side1 => repeat (first | (with_reducible first | exact HI0.out | apply IsS188.alloc | apply IsS188.drewN | apply IsS188.drew | apply IsS188.set_1 | apply IsS188.set_2) | exact HI0.out))
  (case side2 => repeat (first | (with_reducible first | exact HB.out | apply below_alloc | apply pw_below_drewN | apply below_drew1 | refine below_set ?_ (IsS188.ge HI0.out)) | exact HB.out))
  (case side3 => repeat (first | exact (Kd.R_reads' HO288.out).2.2 | (with_reducible refine Kd.C_alloc ?_ _) | (with_reducible refine Kd.C_drewN ?_ _) | (with_reducible refine Kd.C_drew ?_)))
  (case side4 => exact (Kd.R_reads' HO288.out).2.1)
  (case side5 => exact far_slice (IsS188.own_ne HI0.out HO288.out (by decide)))
  rintro e w24 ⟨rfl, hi, hb, hk⟩
  refine ⟨_, rfl, ?_⟩
  replace HO288 := Aside0.mk (Kd.R_mono (Kd.R_keep (IsS188.apart (show IsS188 w0 _ g s0_0 t284 t285 from y0_4) (rI HO288.out) (by decide)) hk (fun _ h => h.2)) (fun _ h => h.1))
  replace HK := kt HK hk; replace HB := Aside0.mk (hb); replace HI0 := Aside0.mk (hi)
  (try clear hb)
  (try clear hb2)
  (try clear hk)
  (try clear hi)
  refine hK.out _ _ trivial (fun hHeld => ?_)
  clear hK K
  refine nA (some 25) ?_
  refine pA 6 (some 26) (bz 12 1023) HT_ ?_
  refine pA 10 (some 30) (bz 12 2047) HT_ ?_
  refine pA 11 (some 4) (bz 12 4095) HT_ ?_
  refine done_ (done_of HT_.out (by kernel_rfl)) ?_
  try go_wp2
  go_ret
  exact ⟨y0_11, y0_4, y0_5, hI HK.out⟩
 rw [if_neg c10] at H
 have c10b0 : (t283 == 1) = false := beq_eq_false_iff_ne.mpr c10; have c10b1 : (t283 != 1) = true := bne_iff_ne.mpr c10
 simp only [Option.some.injEq, Prod.mk.injEq] at H
 obtain ⟨rfl, rfl, rfl⟩ := H
 go_enter Tryz.func192, Tryz.ntmps192
 go_wp2_with (first | ((with_reducible refine gate_callee (f := 150) rfl ?_); refine gB (some 10) Tryz.func150 #[.pointer (some ⟨g, 0, none⟩), .int .i64 (wrap64 ((a1.size : Int) + 1))] ?_; (with_reducible refine (spec_l1Below.calls g s0_0 s0_1 s0_2 (wrap64 ((a1.size : Int) + 1)) t280 t281 t282 w0 _ ?side1 ?side2 A3.out).mono ?_); (case side1 => repeat (first | (with_reducible first | exact HI0.out | apply IsS188.alloc | apply IsS188.drewN | apply IsS188.drew | apply IsS188.set_1 | apply IsS188.set_2) | exact HI0.out)); (case side2 => repeat (first | (with_reducible first | exact HB.out | apply below_alloc | apply pw_below_drewN | apply below_drew1 | refine below_set ?_ (IsS188.ge HI0.out)) | exact HB.out)); rintro e w25 ⟨rfl, hi, hb, hk⟩; refine ⟨_, rfl, ?_⟩; replace HK := kt HK hk; replace HB := Aside0.mk (hb); replace HI0 := Aside0.mk (hi); (try clear hb); (try clear hb2); (try clear hk); (try clear hi)) | ((with_reducible refine gate_callee (f := 150) rfl ?_); refine gB (some 12) Tryz.func150 #[.pointer (some ⟨g, 0, none⟩), .int .i64 5] ?_; (with_reducible refine (spec_l1Below.calls g s0_0 t281 t282 5 t283 t284 t285 w0 _ ?side1 ?side2 A4.out).mono ?_); (case side1 => repeat (first | (with_reducible first | exact HI0.out | apply IsS188.alloc | apply IsS188.drewN | apply IsS188.drew | apply IsS188.set_1 | apply IsS188.set_2) | exact HI0.out)); (case side2 => repeat (first | (with_reducible first | exact HB.out | apply below_alloc | apply pw_below_drewN | apply below_drew1 | refine below_set ?_ (IsS188.ge HI0.out)) | exact HB.out)); rintro e w26 ⟨rfl, hi, hb, hk⟩; refine ⟨_, rfl, ?_⟩; replace HK := kt HK hk; replace HB := Aside0.mk (hb); replace HI0 := Aside0.mk (hi); (try clear hb); (try clear hb2); (try clear hk); (try clear hi)))
 go_ret
 exact ⟨y0_11, y0_4, y0_5, hI HK.out⟩

/-! ### spec_l5Draw: function 129 -/
def spec_l5Draw.l0 : Nat → ByteArray → Int → List Int → Int → Int → Option (ByteArray × Int × Int)
 | 0, _, _, _, _, _ => none
 | k + 1, x3, x4, x1000, x1001, x1002 => (spec_l1Below.f x1000 x1001 x1002 2).bind fun bt295 => (if x4 ≤ (wrap64 (30 + bt295.1)) then (if x3.size + 1 ≤ 9223372036854775807 then ((spec_Digits.f k x4).bind fun t298 => (if (x3 ++ (⟨#[47]⟩ : ByteArray)).size + t298.size ≤ 9223372036854775807 then (if ((x3 ++ (⟨#[47]⟩ : ByteArray)) ++ t298).size + 1 ≤ 9223372036854775807 then (spec_l5Draw.l0 k (((x3 ++ (⟨#[47]⟩ : ByteArray)) ++ t298) ++ (⟨#[124]⟩ : ByteArray)) (wrap64 (x4 + 1)) x1000 bt295.2.1 bt295.2.2) else (none)) else (none))) else (none)) else (some (x3, bt295.2.1, bt295.2.2)))
def spec_l5Draw.f (k : Nat) (s0_0 : List Int) (s0_1 : Int) (s0_2 : Int) : Option (ByteArray × Int × Int) := (spec_l1Once.f s0_0 s0_1 s0_2 20).bind fun bt292 => (if bt292.1 = true then (spec_l5Draw.l0 k (⟨#[]⟩ : ByteArray) 1 s0_0 bt292.2.1 bt292.2.2) else ((spec_l5DrawRight.f k s0_0 bt292.2.1 bt292.2.2).bind fun bt299 => ((spec_l2Dent.f s0_0 bt299.2.1 bt299.2.2 bt299.1).bind fun bt302 => (some (bt302.1, bt302.2.1, bt302.2.2)))))
theorem spec_l5Draw.mono_l : ∀ k, (∀ y0 y1 y2 y3 y4, LeO (spec_l5Draw.l0 k y0 y1 y2 y3 y4) (spec_l5Draw.l0 (k + 1) y0 y1 y2 y3 y4))
 | 0 => fun _ _ _ _ _ r h => by simp [spec_l5Draw.l0] at h
 | k + 1 => by
  have ih0 := spec_l5Draw.mono_l k
  intro y0 y1 y2 y3 y4
  unfold spec_l5Draw.l0
  repeat' first | (with_reducible exact ih0 _ _ _ _ _) | (with_reducible exact spec_Digits.mono _ _) | (with_reducible exact spec_l5DrawRight.mono _ _ _ _) | (with_reducible exact LeO.refl _) | (with_reducible exact LeO.none _) | (with_reducible refine LeO.ite ?_ ?_) | (with_reducible refine LeO.bind ?_ (fun _ => ?_))
theorem spec_l5Draw.mono : ∀ a0 a1 a2 k, LeO (spec_l5Draw.f k a0 a1 a2) (spec_l5Draw.f (k + 1) a0 a1 a2) := by
 intro a0 a1 a2 k
 have ih0 := spec_l5Draw.mono_l k
 unfold spec_l5Draw.f
 repeat' first | (with_reducible exact ih0 _ _ _ _ _) | (with_reducible exact spec_Digits.mono _ _) | (with_reducible exact spec_l5DrawRight.mono _ _ _ _) | (with_reducible exact LeO.refl _) | (with_reducible exact LeO.none _) | (with_reducible refine LeO.ite ?_ ?_) | (with_reducible refine LeO.bind ?_ (fun _ => ?_))
set_option maxHeartbeats 8000000 in
set_option maxRecDepth 100000 in
theorem spec_l5Draw.calls (k : Nat) (g : Nat) (s0_0 : List Int) (s0_1 : Int) (s0_2 : Int) (r1 : ByteArray) (r2 : Int) (r3 : Int) (w0 w : World) (hI : IsS188 w0 w g s0_0 s0_1 s0_2) (hB : Below w0.heap.size w0 w) (h : spec_l5Draw.f k s0_0 s0_1 s0_2 = some (r1, r2, r3)) :
  Calls Tryz.prog 129 #[.pointer (some ⟨g, 0, none⟩)] w fun e w' => e = .returned (.string r1) ∧ IsS188 w0 w' g s0_0 r2 r3 ∧ Below w0.heap.size w0 w' ∧ KeepBut w w' g none := by
 have HI0 := Aside0.mk hI; have HK := Aside0.mk (KeepBut.refl w g none); have HL := Aside0.mk hB.size; clear hI; have HW0 := Aside0.mk hB.size; have HB := Aside0.mk hB; clear hB
 have H := h; unfold spec_l5Draw.f at H
 clear h; obtain ⟨⟨t292, t293, t294⟩, A2, H⟩ := oB H; (try dsimp only at H); have i0_ := iB188 HI0; have i1_ : LB w0 w := ⟨HB.out⟩
 go_enter Tryz.func129, Tryz.ntmps129
 have H' := Aside0.mk H; clear H
 go_upto_if 6 with (first | ((with_reducible refine gate_callee (f := 128) rfl ?_); refine gK (some 6) Tryz.func128 (spec_l1Once.calls (hI := iS188 HI0) (hB := UpW.out) (w := _) (h := A2.out)) ?_; intro w3 _ _ _ HI4))
 have H := H'.out; clear H'
 by_cases c5 : t292 = true
 ·
  subst c5
  rw [if_pos rfl] at H
  have H' := Aside0.mk H; clear H
  go_wp2
  refine wC ?_; intro w6 _
  go_loopg [3, 4] k (fun kq v3 v4 w' => ∃ (x3_1 : ByteArray) (x4_1 : Int) (x1001_1 : Int) (x1002_1 : Int), v3 = .string x3_1 ∧ v4 = .int .i64 x4_1 ∧ Aside0 (spec_l5Draw.l0 kq x3_1 x4_1 s0_0 x1001_1 x1002_1 = some (r1, r2, r3)) ∧ Aside0 (kq ≤ k) ∧ StB g w' 188 ∧ Aside0 (IsS188 w0 w' g s0_0 x1001_1 x1002_1) ∧ KL w6 [g] w' ∧ LB w0 w' ∧ KS w g w')
  case atStart => exact ⟨((⟨#[]⟩ : ByteArray)), (1), (t293), (t294), y0_16, y0_16, H', ⟨Nat.le_refl _⟩, iB188 ⟨iS188 HI4⟩, ⟨iS188 HI4⟩, ⟨UpL.out⟩, ⟨UpW.out⟩, ⟨UpB.out⟩⟩
  case round =>
   clear H'; obtain ⟨x3_1, x4_1, x1001_1, x1002_1, rfl, rfl, HA, HK1, _, HI7, _, _, _⟩ := hrel; cases gk with
   | zero => exact absurd HA.out (by simp [spec_l5Draw.l0])
   | succ k1 =>
    have H := HA.out; clear HA
    simp only [spec_l5Draw.l0] at H
    obtain ⟨⟨t295, t296, t297⟩, A8, H⟩ := oB H; (try dsimp only at H); have H' := Aside0.mk H; clear H
    go_upto_if 11 with (first | ((with_reducible refine gate_callee (f := 150) rfl ?_); refine gK (some 9) Tryz.func150 (spec_l1Below.calls (hI := iS188 HI7) (hB := UpW.out) (w := _) (h := A8.out)) ?_; intro w9 _ _ _ HI10))
    have H := H'.out; clear H'
    by_cases c11 : x4_1 ≤ (wrap64 (30 + t295))
    ·
     rw [if_pos c11] at H
     have c11b0 : decide (x4_1 ≤ (wrap64 (30 + t295))) = true := decide_eq_true c11; clear c11
     (first | rw [c11b0] | (simp only [i64_w, i32_w]; rw [c11b0]) | skip)
     by_cases c12 : x3_1.size + 1 ≤ 9223372036854775807
     rotate_left
     ·
      rw [if_neg c12] at H
      exact absurd H (by simp)
     rw [if_pos c12] at H
     have c12b0 := eq_true c12; have c12b1 : decide (x3_1.size + 1 ≤ 9223372036854775807) = true := decide_eq_true c12
     try have c12b2 : (9223372036854775807 < x3_1.size + 1) = False := eq_false (Nat.not_lt.2 c12)
     obtain ⟨t298, A13, H⟩ := oB H; (try dsimp only at H)
     by_cases c14 : (x3_1 ++ (⟨#[47]⟩ : ByteArray)).size + t298.size ≤ 9223372036854775807
     rotate_left
     ·
      rw [if_neg c14] at H
      exact absurd H (by simp)
     rw [if_pos c14] at H
     have c14b0 := eq_true c14; have c14b1 : decide ((x3_1 ++ (⟨#[47]⟩ : ByteArray)).size + t298.size ≤ 9223372036854775807) = true := decide_eq_true c14
     try have c14b2 : (9223372036854775807 < (x3_1 ++ (⟨#[47]⟩ : ByteArray)).size + t298.size) = False := eq_false (Nat.not_lt.2 c14)
     (try have c14b3 : (9223372036854775807 < x3_1.size + 1 + t298.size) = False := eq_false (by have h_ := c14; simp only [ByteArray.size_append, ByteArray.size_extract, show (⟨#[47]⟩ : ByteArray).size = 1 from rfl] at h_; omega))
     by_cases c15 : ((x3_1 ++ (⟨#[47]⟩ : ByteArray)) ++ t298).size + 1 ≤ 9223372036854775807
     rotate_left
     ·
      rw [if_neg c15] at H
      exact absurd H (by simp)
     rw [if_pos c15] at H
     have c15b0 := eq_true c15; have c15b1 : decide (((x3_1 ++ (⟨#[47]⟩ : ByteArray)) ++ t298).size + 1 ≤ 9223372036854775807) = true := decide_eq_true c15
     try have c15b2 : (9223372036854775807 < ((x3_1 ++ (⟨#[47]⟩ : ByteArray)) ++ t298).size + 1) = False := eq_false (Nat.not_lt.2 c15)
     (try have c15b3 : (9223372036854775807 < x3_1.size + 1 + t298.size + 1) = False := eq_false (by have h_ := c15; simp only [ByteArray.size_append, ByteArray.size_extract, show (⟨#[47]⟩ : ByteArray).size = 1 from rfl] at h_; omega))
     have H' := Aside0.mk H; clear H
     go_wp2_with (first | ((with_reducible refine gate_callee (f := 191) rfl ?_); refine gC (some 17) Tryz.func191 (spec_Digits.calls (w := _) (h := A13.out)) ?_; intro w16 _))
     go_roundg k1
     case measure => have := HK1.out; omega
     case rel => exact ⟨(((x3_1 ++ (⟨#[47]⟩ : ByteArray)) ++ t298) ++ (⟨#[124]⟩ : ByteArray)), (wrap64 (x4_1 + 1)), (t296), (t297), y0_16, y0_16, H', ⟨y0_18⟩, iB188 ⟨iS188 HI10⟩, ⟨iS188 HI10⟩, ⟨UpL.out⟩, ⟨UpW.out⟩, ⟨UpB.out⟩⟩
    rw [if_neg c11] at H
    have c11b0 : decide (x4_1 ≤ (wrap64 (30 + t295))) = false := decide_eq_false c11; clear c11
    (first | rw [c11b0] | (simp only [i64_w, i32_w]; rw [c11b0]) | skip)
    simp only [Option.some.injEq, Prod.mk.injEq] at H
    obtain ⟨rfl, rfl, rfl⟩ := H
    go_wp2
    go_ret
    exact ⟨y0_16, iS188 HI10, UpW.out, UpB.out⟩
 replace c5 := Bool.eq_false_iff.mpr c5; subst c5
 rw [if_neg (show ¬ (false = true) by decide)] at H
 obtain ⟨⟨t299, t300, t301⟩, A17, H⟩ := oB H; (try dsimp only at H); obtain ⟨⟨t302, t303, t304⟩, A18, H⟩ := oB H; (try dsimp only at H)
 simp only [Option.some.injEq, Prod.mk.injEq] at H
 obtain ⟨rfl, rfl, rfl⟩ := H
 go_wp2_with (first | ((with_reducible refine gate_callee (f := 152) rfl ?_); refine gK (some 23) Tryz.func152 (spec_l5DrawRight.calls (hI := iS188 HI4) (hB := UpW.out) (w := _) (h := A17.out)) ?_; intro w19 _ _ _ HI20) | ((with_reducible refine gate_callee (f := 192) rfl ?_); refine gK (some 24) Tryz.func192 (spec_l2Dent.calls (hI := iS188 HI20) (hB := UpW.out) (w := _) (h := A18.out)) ?_; intro w21 _ _ _ HI22))
 go_ret
 exact ⟨y0_16, iS188 HI22, UpW.out, UpB.out⟩

/-! ### spec_ViewOf: function 127 -/
def spec_ViewOf.f (k : Nat) (a0 : ByteArray) : Option (Int) := (spec_Steps.f k a0).bind fun bt305 => (if bt305.2 = true then (if (bt305.1.length : Int) = 0 then (some 0) else (if 0 ≤ (wrap64 ((bt305.1.length : Int) - 1)) then (if (wrap64 ((bt305.1.length : Int) - 1)) < (bt305.1.length : Int) then (some ((rd_T150 bt305.1 (wrap64 ((bt305.1.length : Int) - 1))).f0)) else (none)) else (none))) else (some 0))
theorem spec_ViewOf.mono : ∀ a0 k, LeO (spec_ViewOf.f k a0) (spec_ViewOf.f (k + 1) a0) := by
 intro a0 k
 unfold spec_ViewOf.f
 repeat' first | (with_reducible exact spec_Steps.mono _ _) | (with_reducible exact LeO.refl _) | (with_reducible exact LeO.none _) | (with_reducible refine LeO.ite ?_ ?_) | (with_reducible refine LeO.bind ?_ (fun _ => ?_))
set_option maxHeartbeats 8000000 in
set_option maxRecDepth 100000 in
theorem spec_ViewOf.calls (k : Nat) (a0 : ByteArray) (r : Int) (w : World) (h : spec_ViewOf.f k a0 = some r) :
  Calls Tryz.prog 127 #[.string a0] w fun e w' => e = .returned (.int .i64 r) ∧ Below w.heap.size w w' := by
 have HB := Aside0.mk (Below.refl w.heap.size w)
 have H := h; unfold spec_ViewOf.f at H
 clear h; obtain ⟨⟨t305, t306⟩, A2, H⟩ := oB H; (try dsimp only at H)
 by_cases c3 : t306 = true
 ·
  subst c3
  rw [if_pos rfl] at H
  by_cases c4 : (t305.length : Int) = 0
  ·
   rw [if_pos c4] at H
   have c4b0 : ((t305.length : Int) == 0) = true := beq_iff_eq.mpr c4; have c4b1 : ((t305.length : Int) != 0) = false := bne_eq_false_iff_eq.mpr c4; clear c4; obtain rfl := Option.some.inj H
   go_enter Tryz.func127, Tryz.ntmps127
   go_wp2_with (first | ((with_reducible refine gate_callee (f := 131) rfl ?_); refine gB (some 7) Tryz.func131 #[.string a0] ?_; (with_reducible refine (spec_Steps.calls k a0 t305 true _ A2.out).mono ?_); rintro e w5 ⟨v307, rfl, ho0, hb⟩; refine ⟨_, rfl, ?_⟩; have HO308 := Aside0.mk (Kd.S_lower ho0 (below_size (bI HB.out))); replace HB := bs HB hb; (try clear hb); (try clear ho0); obtain ⟨Ao6, co6, eo6⟩ := Kd.S_slice HO308.out; subst eo6))
   go_ret
   exact ⟨y0_11, bI HB.out⟩
  rw [if_neg c4] at H
  have c4b0 : ((t305.length : Int) == 0) = false := beq_eq_false_iff_ne.mpr c4; have c4b1 : ((t305.length : Int) != 0) = true := bne_iff_ne.mpr c4
  have c4b2 : ¬ (t305 = []) := fun h_ => c4 (by rw [h_]; rfl)
  obtain ⟨ji7, hji7⟩ : ∃ j_ : Int, (wrap64 ((t305.length : Int) - 1)) = j_ := ⟨_, rfl⟩
  replace H : (if 0 ≤ (ji7) then (if (ji7) < (t305.length : Int) then (some ((rd_T150 t305 (ji7)).f0)) else (none)) else (none)) = some r := by first | (rw [hji7] at H; exact H) | (simp only [hji7] at H ⊢; exact H)
  (try rw [hji7] at A2)
  have hji7w : (IntKind.i64.wrap ((t305.length : Int) - 1)) = ji7 := (i64_w _).trans hji7
  by_cases c8 : 0 ≤ (ji7)
  rotate_left
  ·
   rw [if_neg c8] at H
   exact absurd H (by simp)
  rw [if_pos c8] at H
  have c8b0 : decide (0 ≤ (ji7)) = true := decide_eq_true c8; clear c8
  by_cases c9 : (ji7) < (t305.length : Int)
  rotate_left
  ·
   rw [if_neg c9] at H
   exact absurd H (by simp)
  rw [if_pos c9] at H
  have c9b0 : decide ((ji7) < (t305.length : Int)) = true := decide_eq_true c9; clear c9; obtain rfl := Option.some.inj H
  go_enter Tryz.func127, Tryz.ntmps127
  go_wp2_with (first | ((with_reducible refine gate_callee (f := 131) rfl ?_); refine gB (some 7) Tryz.func131 #[.string a0] ?_; (with_reducible refine (spec_Steps.calls k a0 t305 true _ A2.out).mono ?_); rintro e w10 ⟨v307, rfl, ho0, hb⟩; refine ⟨_, rfl, ?_⟩; have HO308 := Aside0.mk (Kd.S_lower ho0 (below_size (bI HB.out))); replace HB := bs HB hb; (try clear hb); (try clear ho0); obtain ⟨Ao11, co11, eo11⟩ := Kd.S_slice HO308.out; subst eo11; have p309 : 0 ≤ ((ji7) : Int) := of_decide_eq_true y0_15; have q309 : (ji7) < (t305.length : Int) := of_decide_eq_true y0_15; obtain ⟨ad309, A309_1, c309_1, e309, hx309_0, hx309_1, hl309_1, hi309_1⟩ := at_T150 (Kd.S_reads' HO308.out).2.2 (ji7) p309 q309; cases e309; obtain ⟨ce309, hce309, hMe309, hcc309⟩ := Kd.S_get HO308.out z150 (ji7) p309 (by first | exact q309 | exact of_decide_eq_true y0_15 | (have e_ := (Kd.S_reads' HO308.out).1; omega)); obtain ⟨ve309_1, rfl, ge309_1⟩ := k150_openM hMe309; have hv309_1 := hcc309 1 _ rfl; rw [add_field _ _ 1 (by omega)] at hv309_1; replace hv309_1 := Option.some.inj (hv309_1.symm.trans hx309_1); rw [hv309_1] at ge309_1; have HL309_1 := Aside0.mk (show Kd.R k204 204 _ _ _ _ ((rd_T150 t305 (ji7)).f1) from ge309_1); clear hv309_1 ge309_1; clear hcc309 hce309; have HR309_1 := Aside0.mk hi309_1; have HC309_1 := Aside0.mk hl309_1; clear hi309_1 hl309_1; replace p309 := eq_true p309; replace q309 := eq_true q309))
  go_ret
  exact ⟨by first | rfl | (simp [errW_none, errW_some] <;> rfl) | (simp only [← hji7]; first | rfl | (simp [errW_none, errW_some] <;> rfl)) | (simp [*, errW_none, errW_some] <;> rfl), bI HB.out⟩
 replace c3 := Bool.eq_false_iff.mpr c3; subst c3
 rw [if_neg (show ¬ (false = true) by decide)] at H
 obtain rfl := Option.some.inj H
 go_enter Tryz.func127, Tryz.ntmps127
 go_wp2_with (first | ((with_reducible refine gate_callee (f := 131) rfl ?_); refine gB (some 7) Tryz.func131 #[.string a0] ?_; (with_reducible refine (spec_Steps.calls k a0 t305 false _ A2.out).mono ?_); rintro e w12 ⟨v307, rfl, ho0, hb⟩; refine ⟨_, rfl, ?_⟩; have HO308 := Aside0.mk (Kd.S_lower ho0 (below_size (bI HB.out))); replace HB := bs HB hb; (try clear hb); (try clear ho0)))
 go_ret
 exact ⟨y0_11, bI HB.out⟩

end Go.Proofs.YtnpbopadajbopaaGreatDoor.PFnSafe
