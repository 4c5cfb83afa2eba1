-- By a program of this session, out of the translation (the print of the kit, with turns of its own). Lean checks it.
import Derived.Test.YtemjmefacifdeaaGreatDoorPFnEitherOrderx0
import Derived.Test.YtemjmefacifdeaaGreatDoorPFnEitherOrderx3
import Derived.Test.YtemjmefacifdeaaGreatDoorPFnEitherOrderx4
import Derived.Test.YtemjmefacifdeaaGreatDoorPFnEitherOrderx9
import Derived.Test.YtemjmefacifdeaaGreatDoorPFnEitherOrderx10
import Derived.Test.YtemjmefacifdeaaGreatDoorPFnEitherOrderx11
import Derived.Test.YtemjmefacifdeaaGreatDoorPFnEitherOrderx12
import Derived.Test.YtemjmefacifdeaaGreatDoorPFnEitherOrderx13
import Derived.Test.YtemjmefacifdeaaGreatDoorPFnEitherOrderx14
namespace Go.Proofs.YtemjmefacifdeaaGreatDoor.PFnEitherOrder
open Go.RowKit Go.Proofs.YtemjmefacifdeaaGreatDoorW.PrintWords Go.Proofs.YtemjmefacifdeaaGreatDoorW.PrintLast Go.Proofs.YtemjmefacifdeaaGreatDoorW.PrintMore
attribute [local go_sem] max2_int min2_int max_two min_two max_three min_three max_four min_four   -- for this text's walks alone
attribute [local go_sem] cell_in frozen_in
set_option synthInstance.maxSize 1000000
set_option synthInstance.maxHeartbeats 2000000
set_option linter.unusedVariables false
set_option linter.unusedSimpArgs false

/-! ### spec_SafeNew: function 138 -/
def spec_SafeNew.f  : Option (Int × Int × Int × ByteArray × List Int × ByteArray) := some (0, 0, 0, (⟨#[]⟩ : ByteArray), ([] : List Int), (⟨#[]⟩ : ByteArray))
set_option maxHeartbeats 8000000 in
set_option maxRecDepth 100000 in
theorem spec_SafeNew.calls  (r1 : Int) (r2 : Int) (r3 : Int) (r4 : ByteArray) (r5 : List Int) (r6 : ByteArray) (w : World) (h : spec_SafeNew.f  = some (r1, r2, r3, r4, r5, r6)) :
  Calls Tryz.prog 138 #[] w fun e w' => ∃ v4_ : Value, e = .returned (.agg #[.int .i64 r1, .int .i64 r2, .int .i64 r3, .string r4, v4_, .string r6]) ∧ Kd.R (Kd.int .i64) 3 w' w.heap.size (fun _ => True) v4_ r5 ∧ Below w.heap.size w w' := by
 have hu35 := Tryz.underlying35; have HB := Aside0.mk (Below.refl w.heap.size w); have H : (some (0, 0, 0, (⟨#[]⟩ : ByteArray), ([] : List Int), (⟨#[]⟩ : ByteArray))) = some (r1, r2, r3, r4, r5, r6) := h; clear h
 simp only [Option.some.injEq, Prod.mk.injEq] at H
 obtain ⟨rfl, rfl, rfl, rfl, rfl, rfl⟩ := H
 go_enter Tryz.func138, Tryz.ntmps138
 go_wp2_with (first | ((with_reducible refine gd 0 ?_); refine bL 0 #[.int .i64 0, .int .i64 0, .int .i64 0, .string (⟨#[]⟩ : ByteArray), .slice none 0 0, .string (⟨#[]⟩ : ByteArray)] 35 ?_; intro gb764 w1 _ _ _))
 refine bodyPost_ret (results_cell_row rfl _ _ gb764 35 #[.int .i64 0, .int .i64 0, .int .i64 0, .string (⟨#[]⟩ : ByteArray), .slice none 0 0, .string (⟨#[]⟩ : ByteArray)] (0, 0) _ rfl xB Tryz.underlying35 rfl (by kernel_rfl)) rfl ?_
 exact ⟨_, y0_19, Kd.R_nil _ _ _ _ _, UpW.out⟩

/-! ### spec_l11DrawRight: function 115 -/
def spec_l11DrawRight.l0 : Nat → Int → List Int → Int → Int → Int → Int → Int → Int → Int → ByteArray → List Int → ByteArray → Option (Int × Int × Int × ByteArray × List Int × ByteArray × Int × Int)
 | 0, _, _, _, _, _, _, _, _, _, _, _, _ => none
 | k + 1, x6, x1000, x1001, x1002, x766000, x766001, x776000, x776001, x776002, x776003, x776004, x776005 => (spec_l1Below.f x1000 x1001 x1002 5).bind fun bt776 => (if x6 < bt776.1 then ((spec_l8DrawRight.f k x1000 bt776.2.1 bt776.2.2 x766000 x766001).bind fun bt779 => ((spec_See.f k x766000 x766001 x776000 x776001 x776002 x776003 x776004 x776005 bt779.2.1 bt779.2.2.1 bt779.2.2.2.1).bind fun bt788 => ((spec_l1Once.f x1000 bt779.2.2.2.2.1 bt779.2.2.2.2.2 3).bind fun bt796 => (if bt796.1 = true then (spec_l11DrawRight.l0 k (wrap64 (x6 + 1)) x1000 bt796.2.1 bt796.2.2 x766000 x766001 bt788.1 bt788.2.1 bt788.2.2.1 bt788.2.2.2.1 bt788.2.2.2.2.1 bt788.2.2.2.2.2) else ((spec_Vote.f k x766000 x766001 bt788.1 bt788.2.1 bt788.2.2.1 bt788.2.2.2.1 bt788.2.2.2.2.1 bt788.2.2.2.2.2 bt779.1 bt779.2.1 bt779.2.2.1 bt779.2.2.2.1).bind fun bt799 => (spec_l11DrawRight.l0 k (wrap64 (x6 + 1)) x1000 bt796.2.1 bt796.2.2 x766000 x766001 bt799.1 bt799.2.1 bt799.2.2.1 bt799.2.2.2.1 bt799.2.2.2.2.1 bt799.2.2.2.2.2.1)))))) else (some (x776000, x776001, x776002, x776003, x776004, x776005, bt776.2.1, bt776.2.2)))
def spec_l11DrawRight.f (k : Nat) (s0_0 : List Int) (s0_1 : Int) (s0_2 : Int) (a1_0 : Int) (a1_1 : Int) : Option (Int × Int × Int × ByteArray × List Int × ByteArray × Int × Int) := (spec_SafeNew.f).bind fun bt767 => (spec_l11DrawRight.l0 k 0 s0_0 s0_1 s0_2 a1_0 a1_1 bt767.1 bt767.2.1 bt767.2.2.1 bt767.2.2.2.1 bt767.2.2.2.2.1 bt767.2.2.2.2.2)
theorem spec_l11DrawRight.mono_l : ∀ k, (∀ y0 y1 y2 y3 y4 y5 y6 y7 y8 y9 y10 y11, LeO (spec_l11DrawRight.l0 k y0 y1 y2 y3 y4 y5 y6 y7 y8 y9 y10 y11) (spec_l11DrawRight.l0 (k + 1) y0 y1 y2 y3 y4 y5 y6 y7 y8 y9 y10 y11))
 | 0 => fun _ _ _ _ _ _ _ _ _ _ _ _ r h => by simp [spec_l11DrawRight.l0] at h
 | k + 1 => by
  have ih0 := spec_l11DrawRight.mono_l k
  intro y0 y1 y2 y3 y4 y5 y6 y7 y8 y9 y10 y11
  unfold spec_l11DrawRight.l0
  repeat' first | (with_reducible exact ih0 _ _ _ _ _ _ _ _ _ _ _ _) | (with_reducible exact spec_See.mono _ _ _ _ _ _ _ _ _ _ _ _) | (with_reducible exact spec_Vote.mono _ _ _ _ _ _ _ _ _ _ _ _ _) | (with_reducible exact spec_l8DrawRight.mono _ _ _ _ _ _) | (with_reducible exact LeO.refl _) | (with_reducible exact LeO.none _) | (with_reducible refine LeO.ite ?_ ?_) | (with_reducible refine LeO.bind ?_ (fun _ => ?_))
theorem spec_l11DrawRight.mono : ∀ a0 a1 a2 a3 a4 k, LeO (spec_l11DrawRight.f k a0 a1 a2 a3 a4) (spec_l11DrawRight.f (k + 1) a0 a1 a2 a3 a4) := by
 intro a0 a1 a2 a3 a4 k
 have ih0 := spec_l11DrawRight.mono_l k
 unfold spec_l11DrawRight.f
 repeat' first | (with_reducible exact ih0 _ _ _ _ _ _ _ _ _ _ _ _) | (with_reducible exact spec_See.mono _ _ _ _ _ _ _ _ _ _ _ _) | (with_reducible exact spec_Vote.mono _ _ _ _ _ _ _ _ _ _ _ _ _) | (with_reducible exact spec_l8DrawRight.mono _ _ _ _ _ _) | (with_reducible exact LeO.refl _) | (with_reducible exact LeO.none _) | (with_reducible refine LeO.ite ?_ ?_) | (with_reducible refine LeO.bind ?_ (fun _ => ?_))
set_option maxHeartbeats 8000000 in
set_option maxRecDepth 100000 in
theorem spec_l11DrawRight.calls (k : Nat) (g : Nat) (s0_0 : List Int) (s0_1 : Int) (s0_2 : Int) (a1_0 : Int) (a1_1 : Int) (r1 : Int) (r2 : Int) (r3 : Int) (r4 : ByteArray) (r5 : List Int) (r6 : ByteArray) (r7 : Int) (r8 : Int) (w0 w : World) (hI : IsS124 w0 w g s0_0 s0_1 s0_2) (hB : Below w0.heap.size w0 w) (h : spec_l11DrawRight.f k s0_0 s0_1 s0_2 a1_0 a1_1 = some (r1, r2, r3, r4, r5, r6, r7, r8)) :
  Calls Tryz.prog 115 #[.pointer (some ⟨g, 0, none⟩), .agg #[.int .i64 a1_0, .int .i64 a1_1]] w fun e w' => ∃ v4_ : Value, e = .returned (.agg #[.int .i64 r1, .int .i64 r2, .int .i64 r3, .string r4, v4_, .string r6]) ∧ Kd.R (Kd.int .i64) 3 w' w.heap.size (fun _ => True) v4_ r5 ∧ IsS124 w0 w' g s0_0 r7 r8 ∧ Below w0.heap.size w0 w' ∧ KeepBut w w' g none := by
 have hu38 := Tryz.underlying38; have hu35 := Tryz.underlying35; have hu42 := Tryz.underlying42; have hu33 := Tryz.underlying33; have HI0 := Aside0.mk hI; have HK := Aside0.mk (KeepBut.refl w g none); have HL := Aside0.mk hB.size; clear hI; have HW0 := Aside0.mk hB.size; have HB := Aside0.mk hB; clear hB
 have H : ((spec_SafeNew.f).bind fun bt767 => (spec_l11DrawRight.l0 k 0 s0_0 s0_1 s0_2 a1_0 a1_1 bt767.1 bt767.2.1 bt767.2.2.1 bt767.2.2.2.1 bt767.2.2.2.2.1 bt767.2.2.2.2.2)) = some (r1, r2, r3, r4, r5, r6, r7, r8) := h
 clear h; obtain ⟨⟨t767, t768, t769, t770, t771, t774⟩, A30, H⟩ := Option.bind_eq_some_iff.mp H
 try dsimp only at H
 have A3 := Aside0.mk A30; clear A30; have H' := Aside0.mk H; clear H
 go_enter Tryz.func115, Tryz.ntmps115
 go_wp2_with (first | ((with_reducible refine gd 3 ?_); refine bA 3 #[.int .i64 a1_0, .int .i64 a1_1] 38 ?_; intro gb765 hg w4 hbox hb; replace HB : Aside0 (Below w0.heap.size w0 _) := Aside0.mk (below_step y0_7 hb); have BK765 := Aside0.mk (hbox); have GW765 := bh hg HK; have GJ765 := gi GW765; have GE765 := Aside0.mk ((Nat.le_trans HW0.out (y0_16 : w.heap.size ≤ gb765) : w0.heap.size ≤ gb765)); have GI765 := gi GE765; replace HK := kb HK hb; have NB0_765 := Aside0.mk ((y0_2 : g ≠ gb765)); have NI0_765 := ni NB0_765; have NB765_0 := Aside0.mk ((y0_3 : gb765 ≠ g)); have NI765_0 := ni NB765_0; replace HI0 := Aside0.mk (IsS124.below y0_6 hb); clear hb hbox hg) | ((with_reducible refine gd 4 ?_); refine bA 4 #[.int .i64 0, .int .i64 0, .int .i64 0, .string (⟨#[]⟩ : ByteArray), .slice none 0 0, .string (⟨#[]⟩ : ByteArray)] 35 ?_; intro gb766 hg w5 hbox hb; replace HB : Aside0 (Below w0.heap.size w0 _) := Aside0.mk (below_step y0_5 hb); have BK766 := Aside0.mk (hbox); have GW766 := bh hg HK; have GJ766 := gi GW766; have GE766 := Aside0.mk ((Nat.le_trans HW0.out (y0_16 : w.heap.size ≤ gb766) : w0.heap.size ≤ gb766)); have GI766 := gi GE766; replace HK := kb HK hb; have NB765_766 := b1 BK765 hg; have NI765_766 := ni NB765_766; have NB766_765 := b2 BK765 hg; have NI766_765 := ni NB766_765; replace BK765 := bk BK765 hb; have NB0_766 := Aside0.mk ((y0_0 : g ≠ gb766)); have NI0_766 := ni NB0_766; have NB766_0 := Aside0.mk ((y0_1 : gb766 ≠ g)); have NI766_0 := ni NB766_0; replace HI0 := Aside0.mk (IsS124.below y0_4 hb); clear hb hbox hg) | ((with_reducible refine gate_callee (f := 138) rfl ?_); refine gB (some 8) Tryz.func138 #[] ?_; (with_reducible refine (spec_SafeNew.calls  t767 t768 t769 t770 t771 t774 _ A3.out).mono ?_); rintro e w6 ⟨v772, rfl, ho0, hb⟩; refine ⟨_, rfl, ?_⟩; have HO773 := Aside0.mk (Kd.R_lower ho0 (keep_size (w := w) (g := g) (row := none) (hI HK.out))); replace BK765 := bk BK765 hb; replace BK766 := bk BK766 hb; replace HK := kb HK hb; replace HB : Aside0 (Below w0.heap.size w0 _) := Aside0.mk (below_step y0_5 hb); replace HI0 := Aside0.mk (IsS124.below y0_4 hb); (try clear hb); (try clear ho0)) | ((with_reducible refine gd 5 ?_); refine bA 5 #[.int .i64 0, .int .i64 0, .int .i64 0, .string (⟨#[]⟩ : ByteArray), .slice none 0 0, .string (⟨#[]⟩ : ByteArray)] 35 ?_; intro gb775 hg w7 hbox hb; replace HO773 := rb HO773 hb; replace HB : Aside0 (Below w0.heap.size w0 _) := Aside0.mk (below_step y0_5 hb); have BK775 := Aside0.mk (hbox); have GW775 := bh hg HK; have GJ775 := gi GW775; have GE775 := Aside0.mk ((Nat.le_trans HW0.out (y0_16 : w.heap.size ≤ gb775) : w0.heap.size ≤ gb775)); have GI775 := gi GE775; replace HK := kb HK hb; have NB765_775 := b1 BK765 hg; have NI765_775 := ni NB765_775; have NB775_765 := b2 BK765 hg; have NI775_765 := ni NB775_765; replace BK765 := bk BK765 hb; have NB766_775 := b1 BK766 hg; have NI766_775 := ni NB766_775; have NB775_766 := b2 BK766 hg; have NI775_766 := ni NB775_766; replace BK766 := bk BK766 hb; have NB0_775 := Aside0.mk ((y0_0 : g ≠ gb775)); have NI0_775 := ni NB0_775; have NB775_0 := Aside0.mk ((y0_1 : gb775 ≠ g)); have NI775_0 := ni NB775_0; replace HI0 := Aside0.mk (IsS124.below y0_4 hb); clear hb hbox hg; have hnb8 := NB775_765.out; have hnc8 := NB765_775.out; have hnb9 := NB775_766.out; have hnc9 := NB766_775.out; have hnb10 := NB775_0.out; have hnc10 := NB0_775.out; have hcz11_0 := bc0 BK775.out; have hcz11_1 := bc1 BK775.out; have hcz11_2 := bc2 BK775.out; have hcz11_3 := bc3 BK775.out; have hcz11_4 := bc4 BK775.out; have hcz11_5 := bc5 BK775.out; have hfz11_0 := blk_frozen BK775.out 0; have hfz11_1 := blk_frozen BK775.out 1; have hfz11_2 := blk_frozen BK775.out 2; have hfz11_3 := blk_frozen BK775.out 3; have hfz11_4 := blk_frozen BK775.out 4; have hfz11_5 := blk_frozen BK775.out 5; obtain ⟨Ao12, co12, eo12⟩ := Kd.R_slice HO773.out; subst eo12))
 go_loopg [6] k (fun kq v6 w' => ∃ (x6_1 : Int) (x1001_1 : Int) (x1002_1 : Int) (x776000_1 : Int) (x776001_1 : Int) (x776002_1 : Int) (x776003_1 : ByteArray) (x776004_1 : List Int) (x776005_1 : ByteArray) (u776004 : Value), v6 = .int .i64 x6_1 ∧ Aside0 (spec_l11DrawRight.l0 kq x6_1 s0_0 x1001_1 x1002_1 a1_0 a1_1 x776000_1 x776001_1 x776002_1 x776003_1 x776004_1 x776005_1 = some (r1, r2, r3, r4, r5, r6, r7, r8)) ∧ Aside0 (kq ≤ k) ∧ Aside0 (Kd.R (Kd.int .i64) 3 w' w.heap.size (fun _ => True) u776004 x776004_1) ∧ Aside0 (w'.heap[gb765]? = some (.cells #[.int .i64 a1_0, .int .i64 a1_1] 38 (0, 0))) ∧ Aside0 (w'.heap[gb766]? = some (.cells #[.int .i64 0, .int .i64 0, .int .i64 0, .string (⟨#[]⟩ : ByteArray), (.slice none 0 0), .string (⟨#[]⟩ : ByteArray)] 35 (0, 0))) ∧ Aside0 (w'.heap[gb775]? = some (.cells #[.int .i64 x776000_1, .int .i64 x776001_1, .int .i64 x776002_1, .string x776003_1, u776004, .string x776005_1] 35 (0, 0))) ∧ Aside0 (IsS124 w0 w' g s0_0 x1001_1 x1002_1) ∧ Aside0 (KeepBut w w' g none) ∧ Aside0 (Below w0.heap.size w0 w'))
 case atStart => exact ⟨(0), (s0_1), (s0_2), (t767), (t768), (t769), (t770), (t771), (t774), (.slice Ao12 t771.length co12), y0_19, H', ⟨Nat.le_refl _⟩, ⟨by (with_reducible repeat (first | apply Kd.R_alloc | apply Kd.R_drewN | apply Kd.R_drew)); exact Kd.R_mono (Kd.R_far (p := ⟨gb775, 5, none⟩) (Kd.R_far (p := ⟨gb775, 4, none⟩) (Kd.R_far (p := ⟨gb775, 3, none⟩) (Kd.R_far (p := ⟨gb775, 2, none⟩) (Kd.R_far (p := ⟨gb775, 1, none⟩) (Kd.R_far (p := ⟨gb775, 0, none⟩) (Kd.R_types HO773.out BK775.out (by decide)) (fun _ hk => hk.2) (.int .i64 t767)) (fun _ hk => hk.2) (.int .i64 t768)) (fun _ hk => hk.2) (.int .i64 t769)) (fun _ hk => hk.2) (.string t770)) (fun _ hk => hk.2) (.slice Ao12 t771.length co12)) (fun _ hk => hk.2) (.string t774)) (fun _ hk => trivial)⟩, ⟨gI BK765.out⟩, ⟨gI BK766.out⟩, ⟨pI BK775⟩, ⟨y0_4⟩, ⟨hI HK.out⟩, ⟨y0_5⟩⟩
 case round =>
  clear H'
  try clear c1
  try clear p2
  try clear c8
  try clear c9
  try clear c10
  try clear c11
  try clear hcz11_0
  try clear hcz11_1
  try clear hcz11_2
  try clear hcz11_3
  try clear hcz11_4
  try clear hcz11_5
  try clear hfz11_0
  try clear hfz11_1
  try clear hfz11_2
  try clear hfz11_3
  try clear hfz11_4
  try clear hfz11_5
  obtain ⟨x6_1, x1001_1, x1002_1, x776000_1, x776001_1, x776002_1, x776003_1, x776004_1, x776005_1, u776004, rfl, HA, HK1, HO_776004, BK765, BK766, BK775, HI0, HK, HB⟩ := hrel; cases gk with
  | zero => exact absurd HA.out (by simp [spec_l11DrawRight.l0])
  | succ k1 =>
   have H := HA.out; clear HA
   simp only [spec_l11DrawRight.l0] at H
   obtain ⟨⟨t776, t777, t778⟩, A130, H⟩ := Option.bind_eq_some_iff.mp H
   try dsimp only at H
   have A13 := Aside0.mk A130; clear A130
   by_cases c14 : x6_1 < t776
   ·
    rw [if_pos c14] at H
    have c14b0 : decide (x6_1 < t776) = true := decide_eq_true c14; clear c14; obtain ⟨⟨t779, t780, t781, t782, t785, t786⟩, A150, H⟩ := Option.bind_eq_some_iff.mp H
    try dsimp only at H
    have A15 := Aside0.mk A150; clear A150; obtain ⟨⟨t788, t789, t790, t791, t792, t795⟩, A160, H⟩ := Option.bind_eq_some_iff.mp H
    try dsimp only at H
    have A16 := Aside0.mk A160; clear A160; obtain ⟨⟨t796, t797, t798⟩, A170, H⟩ := Option.bind_eq_some_iff.mp H
    try dsimp only at H
    have A17 := Aside0.mk A170; clear A170
    by_cases c18 : t796 = true
    ·
     subst c18
     rw [if_pos rfl] at H
     have H' := Aside0.mk H; clear H
     go_wp2_with (first | ((with_reducible refine gate_callee (f := 114) rfl ?_); refine gB (some 11) Tryz.func114 #[.pointer (some ⟨g, 0, none⟩), .int .i64 5] ?_; (with_reducible refine (spec_l1Below.calls g s0_0 x1001_1 x1002_1 5 t776 t777 t778 w0 _ ?side1 ?side2 A13.out).mono ?_); (case side1 => repeat (first | (with_reducible first | exact HI0.out | apply IsS124.alloc | apply IsS124.drewN | apply IsS124.drew | apply IsS124.set_1 | apply IsS124.set_2 | refine IsS124.far ?_ NeI.out _) | exact HI0.out)); (case side2 => repeat (first | (with_reducible first | exact HB.out | apply below_alloc | apply pw_below_drewN | apply below_drew1 | refine below_set ?_ (IsS124.ge HI0.out) | refine below_set ?_ GeI.out) | exact HB.out)); rintro e w19 ⟨rfl, hi, hb, hk⟩; refine ⟨_, rfl, ?_⟩; replace HO_776004 := Aside0.mk (Kd.R_mono (Kd.R_keep (IsS124.apart (show IsS124 w0 _ g s0_0 x1001_1 x1002_1 from y0_4) (rI HO_776004.out) (by decide)) hk (fun _ h => h.2)) (fun _ h => h.1)); replace BK765 := bq BK765 hk NB765_0; replace BK766 := bq BK766 hk NB766_0; replace BK775 := bq BK775 hk NB775_0; replace HK := kt HK hk; replace HB := Aside0.mk (hb); replace HI0 := Aside0.mk (hi); (try clear hb); (try clear hb2); (try clear hk); (try clear hi); have hnb20 := NB765_766.out; have hnc20 := NB766_765.out; have hnb21 := NB765_775.out; have hnc21 := NB775_765.out; have hnb22 := NB765_0.out; have hnc22 := NB0_765.out; obtain ⟨hcz23_0, hcz23_1, hfz23_0, hfz23_1⟩ := cs2 BK765) | ((with_reducible refine gate_callee (f := 118) rfl ?_); refine gB (some 17) Tryz.func118 #[.pointer (some ⟨g, 0, none⟩), .agg #[.int .i64 a1_0, .int .i64 a1_1]] ?_; (with_reducible refine (spec_l8DrawRight.calls k1 g s0_0 t777 t778 a1_0 a1_1 t779 t780 t781 t782 t785 t786 w0 _ ?side1 ?side2 A15.out).mono ?_); (case side1 => repeat (first | (with_reducible first | exact HI0.out | apply IsS124.alloc | apply IsS124.drewN | apply IsS124.drew | apply IsS124.set_1 | apply IsS124.set_2 | refine IsS124.far ?_ NeI.out _) | exact HI0.out)); (case side2 => repeat (first | (with_reducible first | exact HB.out | apply below_alloc | apply pw_below_drewN | apply below_drew1 | refine below_set ?_ (IsS124.ge HI0.out) | refine below_set ?_ GeI.out) | exact HB.out)); rintro e w24 ⟨v783, rfl, ho0, hi, hb, hk⟩; refine ⟨_, rfl, ?_⟩; replace BK765 := bq BK765 hk NB765_0; replace BK766 := bq BK766 hk NB766_0; replace BK775 := bq BK775 hk NB775_0; have HO784 := Aside0.mk (Kd.R_lower (Kd.R_new' ho0 (Kd.R_lt (rI HO_776004.out))) (keep_size (w := w) (g := g) (row := none) (hI HK.out))); replace HO_776004 := Aside0.mk (Kd.R_mono (Kd.R_told (Kd.R_oldK (IsS124.apart (show IsS124 w0 _ g s0_0 t777 t778 from y0_4) (rI HO_776004.out) (by decide)) hk) (Kd.R_base ho0)) (fun _ h_ => h_.1)); replace HK := kt HK hk; replace HB := Aside0.mk (hb); replace HI0 := Aside0.mk (hi); (try clear hb); (try clear hk); (try clear hi)) | ((with_reducible refine gd 7 ?_); refine bA 7 #[.string (⟨#[]⟩ : ByteArray), .int .i64 0, .string (⟨#[]⟩ : ByteArray), .slice none 0 0] 42 ?_; intro gb787 hg w25 hbox hb; replace HO_776004 := rb HO_776004 hb; replace HO784 := rb HO784 hb; replace HB : Aside0 (Below w0.heap.size w0 _) := Aside0.mk (below_step y0_5 hb); have BK787 := Aside0.mk (hbox); have GW787 := bh hg HK; have GJ787 := gi GW787; have GE787 := Aside0.mk ((Nat.le_trans HW0.out (y0_16 : w.heap.size ≤ gb787) : w0.heap.size ≤ gb787)); have GI787 := gi GE787; replace HK := kb HK hb; have NB765_787 := b1 BK765 hg; have NI765_787 := ni NB765_787; have NB787_765 := b2 BK765 hg; have NI787_765 := ni NB787_765; replace BK765 := bk BK765 hb; have NB766_787 := b1 BK766 hg; have NI766_787 := ni NB766_787; have NB787_766 := b2 BK766 hg; have NI787_766 := ni NB787_766; replace BK766 := bk BK766 hb; have NB775_787 := b1 BK775 hg; have NI775_787 := ni NB775_787; have NB787_775 := b2 BK775 hg; have NI787_775 := ni NB787_775; replace BK775 := bk BK775 hb; have NB0_787 := Aside0.mk ((by rw [hg]; exact Nat.ne_of_lt (IsS124.lt (show IsS124 w0 _ g s0_0 t785 t786 from y0_4)) : g ≠ gb787)); have NI0_787 := ni NB0_787; have NB787_0 := Aside0.mk ((by rw [hg]; exact Nat.ne_of_gt (IsS124.lt (show IsS124 w0 _ g s0_0 t785 t786 from y0_4)) : gb787 ≠ g)); have NI787_0 := ni NB787_0; replace HI0 := Aside0.mk (IsS124.below y0_4 hb); clear hb hbox hg; have hnb26 := NB787_765.out; have hnc26 := NB765_787.out; have hnb27 := NB787_766.out; have hnc27 := NB766_787.out; have hnb28 := NB787_775.out; have hnc28 := NB775_787.out; have hnb29 := NB787_0.out; have hnc29 := NB0_787.out; obtain ⟨hcz30_0, hcz30_1, hcz30_2, hcz30_3, hfz30_0, hfz30_1, hfz30_2, hfz30_3⟩ := cs4 BK787; obtain ⟨Ao31, co31, eo31⟩ := Kd.R_slice HO784.out; subst eo31; obtain ⟨hcz32_0, hcz32_1, hfz32_0, hfz32_1⟩ := cs2 BK765; have hnb33 := NB775_766.out; have hnc33 := NB766_775.out; have hnb34 := NB775_0.out; have hnc34 := NB0_775.out; have hcz35_0 := bc0 BK775.out; have hcz35_1 := bc1 BK775.out; have hcz35_2 := bc2 BK775.out; have hcz35_3 := bc3 BK775.out; have hcz35_4 := bc4 BK775.out; have hcz35_5 := bc5 BK775.out; have hfz35_0 := blk_frozen BK775.out 0; have hfz35_1 := blk_frozen BK775.out 1; have hfz35_2 := blk_frozen BK775.out 2; have hfz35_3 := blk_frozen BK775.out 3; have hfz35_4 := blk_frozen BK775.out 4; have hfz35_5 := blk_frozen BK775.out 5; obtain ⟨Ao36, co36, eo36⟩ := Kd.R_slice HO_776004.out; subst eo36) | ((with_reducible refine gate_callee (f := 24) rfl ?_); refine gB (some 22) Tryz.func24 #[.agg #[.int .i64 a1_0, .int .i64 a1_1], .agg #[.int .i64 x776000_1, .int .i64 x776001_1, .int .i64 x776002_1, .string x776003_1, .slice Ao36 x776004_1.length co36, .string x776005_1], .agg #[.int .i64 t780, .string t781, .slice Ao31 t782.length co31]] ?_; (with_reducible refine (spec_See.calls k1 a1_0 a1_1 x776000_1 x776001_1 x776002_1 x776003_1 _ _ x776004_1 x776005_1 t780 t781 _ _ t782 t788 t789 t790 t791 t792 t795 _ ?side1 ?side2 ?side3 ?side4 A16.out).mono ?_); (case side1 => refine (Kd.R_reads' (e := 3) (base := w.heap.size) (ok := fun k_ => (True ∧ some k_ ≠ (.slice Ao31 t782.length co31 : Value).ownBlock)) (n := x776004_1.length) (c := co36) ?_).2.2; exact (rI (Kd.R_mono (Kd.R_far (p := ⟨gb787, 3, none⟩) (Kd.R_far (p := ⟨gb787, 2, none⟩) (Kd.R_far (p := ⟨gb787, 1, none⟩) (Kd.R_far (p := ⟨gb787, 0, none⟩) (Kd.R_types HO_776004.out BK787.out (by decide)) (fun _ hk => hk.2) (.string t779)) (fun _ hk => hk.2) (.int .i64 t780)) (fun _ hk => hk.2) (.string t781)) (fun _ hk => hk.2) (.slice Ao31 t782.length co31)) (fun _ h_ => h_.1)))); (case side2 => exact (Kd.R_reads' HO_776004.out).2.1); (case side3 => refine (Kd.R_reads' (e := 3) (base := w.heap.size) (ok := fun k_ => (True ∧ some k_ ≠ (.slice Ao36 x776004_1.length co36 : Value).ownBlock)) (n := t782.length) (c := co31) ?_).2.2; exact (rI (Kd.R_mono (Kd.R_far (p := ⟨gb787, 3, none⟩) (Kd.R_far (p := ⟨gb787, 2, none⟩) (Kd.R_far (p := ⟨gb787, 1, none⟩) (Kd.R_far (p := ⟨gb787, 0, none⟩) (Kd.R_types HO784.out BK787.out (by decide)) (fun _ hk => hk.2) (.string t779)) (fun _ hk => hk.2) (.int .i64 t780)) (fun _ hk => hk.2) (.string t781)) (fun _ hk => hk.2) (.slice Ao31 t782.length co31)) (fun _ h_ => h_.1)))); (case side4 => exact (Kd.R_reads' HO784.out).2.1); rintro e w37 ⟨v793, rfl, ho0, hb⟩; refine ⟨_, rfl, ?_⟩; have HO794 := Aside0.mk (Kd.R_lower (Kd.R_new' (Kd.R_new' ho0 (Kd.R_lt (rI (Kd.R_mono (Kd.R_far (p := ⟨gb787, 3, none⟩) (Kd.R_far (p := ⟨gb787, 2, none⟩) (Kd.R_far (p := ⟨gb787, 1, none⟩) (Kd.R_far (p := ⟨gb787, 0, none⟩) (Kd.R_types HO_776004.out BK787.out (by decide)) (fun _ hk => hk.2) (.string t779)) (fun _ hk => hk.2) (.int .i64 t780)) (fun _ hk => hk.2) (.string t781)) (fun _ hk => hk.2) (.slice Ao31 t782.length co31)) (fun _ h_ => h_.1))))) (Kd.R_lt (rI (Kd.R_mono (Kd.R_far (p := ⟨gb787, 3, none⟩) (Kd.R_far (p := ⟨gb787, 2, none⟩) (Kd.R_far (p := ⟨gb787, 1, none⟩) (Kd.R_far (p := ⟨gb787, 0, none⟩) (Kd.R_types HO784.out BK787.out (by decide)) (fun _ hk => hk.2) (.string t779)) (fun _ hk => hk.2) (.int .i64 t780)) (fun _ hk => hk.2) (.string t781)) (fun _ hk => hk.2) (.slice Ao31 t782.length co31)) (fun _ h_ => h_.1))))) (keep_size (w := w) (g := g) (row := none) (hI HK.out))); replace HO_776004 := Aside0.mk (Kd.R_elder' (rI (Kd.R_mono (Kd.R_far (p := ⟨gb787, 3, none⟩) (Kd.R_far (p := ⟨gb787, 2, none⟩) (Kd.R_far (p := ⟨gb787, 1, none⟩) (Kd.R_far (p := ⟨gb787, 0, none⟩) (Kd.R_types HO_776004.out BK787.out (by decide)) (fun _ hk => hk.2) (.string t779)) (fun _ hk => hk.2) (.int .i64 t780)) (fun _ hk => hk.2) (.string t781)) (fun _ hk => hk.2) (.slice Ao31 t782.length co31)) (fun _ h_ => h_.1))) (Kd.R_base ho0) hb); replace HO784 := Aside0.mk (Kd.R_elder' (rI (Kd.R_mono (Kd.R_far (p := ⟨gb787, 3, none⟩) (Kd.R_far (p := ⟨gb787, 2, none⟩) (Kd.R_far (p := ⟨gb787, 1, none⟩) (Kd.R_far (p := ⟨gb787, 0, none⟩) (Kd.R_types HO784.out BK787.out (by decide)) (fun _ hk => hk.2) (.string t779)) (fun _ hk => hk.2) (.int .i64 t780)) (fun _ hk => hk.2) (.string t781)) (fun _ hk => hk.2) (.slice Ao31 t782.length co31)) (fun _ h_ => h_.1))) (Kd.R_base ho0) hb); replace BK765 := Aside0.mk (blk_below (g := gb765) (o := .cells #[.int .i64 a1_0, .int .i64 a1_1] 38 (0, 0)) (gI BK765.out) hb); replace BK766 := Aside0.mk (blk_below (g := gb766) (o := .cells #[.int .i64 0, .int .i64 0, .int .i64 0, .string (⟨#[]⟩ : ByteArray), .slice none 0 0, .string (⟨#[]⟩ : ByteArray)] 35 (0, 0)) (gI BK766.out) hb); replace BK775 := Aside0.mk (blk_below (g := gb775) (o := .cells #[.int .i64 x776000_1, .int .i64 x776001_1, .int .i64 x776002_1, .string x776003_1, .slice Ao36 x776004_1.length co36, .string x776005_1] 35 (0, 0)) (gI BK775.out) hb); replace BK787 := bp BK787 hb #[.string t779, .int .i64 t780, .string t781, .slice Ao31 t782.length co31]; replace HK := kb HK hb; replace HB : Aside0 (Below w0.heap.size w0 _) := Aside0.mk (below_step y0_5 hb); replace HI0 := Aside0.mk (IsS124.below (show IsS124 w0 ((((w25.setCell ⟨gb787, 0, none⟩ (.string t779)).setCell ⟨gb787, 1, none⟩ (.int .i64 t780)).setCell ⟨gb787, 2, none⟩ (.string t781)).setCell ⟨gb787, 3, none⟩ (.slice Ao31 t782.length co31)) g s0_0 t785 t786 from y0_4) hb); (try clear hb); (try clear ho0); have hcz38_0 := bc0 BK775.out; have hcz38_1 := bc1 BK775.out; have hcz38_2 := bc2 BK775.out; have hcz38_3 := bc3 BK775.out; have hcz38_4 := bc4 BK775.out; have hcz38_5 := bc5 BK775.out; have hfz38_0 := blk_frozen BK775.out 0; have hfz38_1 := blk_frozen BK775.out 1; have hfz38_2 := blk_frozen BK775.out 2; have hfz38_3 := blk_frozen BK775.out 3; have hfz38_4 := blk_frozen BK775.out 4; have hfz38_5 := blk_frozen BK775.out 5; obtain ⟨Ao39, co39, eo39⟩ := Kd.R_slice HO794.out; subst eo39) | ((with_reducible refine gate_callee (f := 93) rfl ?_); refine gB (some 24) Tryz.func93 #[.pointer (some ⟨g, 0, none⟩), .int .i64 3] ?_; (with_reducible refine (spec_l1Once.calls g s0_0 t785 t786 3 true t797 t798 w0 _ ?side1 ?side2 A17.out).mono ?_); (case side1 => repeat (first | (with_reducible first | exact HI0.out | apply IsS124.alloc | apply IsS124.drewN | apply IsS124.drew | apply IsS124.set_1 | apply IsS124.set_2 | refine IsS124.far ?_ NeI.out _) | exact HI0.out)); (case side2 => repeat (first | (with_reducible first | exact HB.out | apply below_alloc | apply pw_below_drewN | apply below_drew1 | refine below_set ?_ (IsS124.ge HI0.out) | refine below_set ?_ GeI.out) | exact HB.out)); rintro e w40 ⟨rfl, hi, hb, hk⟩; refine ⟨_, rfl, ?_⟩; replace HO_776004 := Aside0.mk (Kd.R_mono (Kd.R_keep (IsS124.apart (show IsS124 w0 _ g s0_0 t785 t786 from y0_4) (rI (Kd.R_mono (Kd.R_far (p := ⟨gb775, 5, none⟩) (Kd.R_far (p := ⟨gb775, 4, none⟩) (Kd.R_far (p := ⟨gb775, 3, none⟩) (Kd.R_far (p := ⟨gb775, 2, none⟩) (Kd.R_far (p := ⟨gb775, 1, none⟩) (Kd.R_far (p := ⟨gb775, 0, none⟩) (Kd.R_types HO_776004.out BK775.out (by decide)) (fun _ hk => hk.2) (.int .i64 t788)) (fun _ hk => hk.2) (.int .i64 t789)) (fun _ hk => hk.2) (.int .i64 t790)) (fun _ hk => hk.2) (.string t791)) (fun _ hk => hk.2) (.slice Ao39 t792.length co39)) (fun _ hk => hk.2) (.string t795)) (fun _ h_ => h_.1))) (by decide)) hk (fun _ h => h.2)) (fun _ h => h.1)); replace BK765 := Aside0.mk (KeepBut.blk hk (g' := gb765) (o := .cells #[.int .i64 a1_0, .int .i64 a1_1] 38 (0, 0)) (gI BK765.out) NB765_0.out (by simp)); replace BK766 := Aside0.mk (KeepBut.blk hk (g' := gb766) (o := .cells #[.int .i64 0, .int .i64 0, .int .i64 0, .string (⟨#[]⟩ : ByteArray), .slice none 0 0, .string (⟨#[]⟩ : ByteArray)] 35 (0, 0)) (gI BK766.out) NB766_0.out (by simp)); replace HO784 := Aside0.mk (Kd.R_mono (Kd.R_keep (IsS124.apart (show IsS124 w0 _ g s0_0 t785 t786 from y0_4) (rI (Kd.R_mono (Kd.R_far (p := ⟨gb775, 5, none⟩) (Kd.R_far (p := ⟨gb775, 4, none⟩) (Kd.R_far (p := ⟨gb775, 3, none⟩) (Kd.R_far (p := ⟨gb775, 2, none⟩) (Kd.R_far (p := ⟨gb775, 1, none⟩) (Kd.R_far (p := ⟨gb775, 0, none⟩) (Kd.R_types HO784.out BK775.out (by decide)) (fun _ hk => hk.2) (.int .i64 t788)) (fun _ hk => hk.2) (.int .i64 t789)) (fun _ hk => hk.2) (.int .i64 t790)) (fun _ hk => hk.2) (.string t791)) (fun _ hk => hk.2) (.slice Ao39 t792.length co39)) (fun _ hk => hk.2) (.string t795)) (fun _ h_ => h_.1))) (by decide)) hk (fun _ h => h.2)) (fun _ h => h.1)); replace BK787 := Aside0.mk (KeepBut.blk hk (g' := gb787) (o := .cells #[.string t779, .int .i64 t780, .string t781, .slice Ao31 t782.length co31] 42 (0, 0)) (gI BK787.out) NB787_0.out (by simp)); replace HO794 := Aside0.mk (Kd.R_mono (Kd.R_keep (IsS124.apart (show IsS124 w0 _ g s0_0 t785 t786 from y0_4) (rI (Kd.R_mono (Kd.R_far (p := ⟨gb775, 5, none⟩) (Kd.R_far (p := ⟨gb775, 4, none⟩) (Kd.R_far (p := ⟨gb775, 3, none⟩) (Kd.R_far (p := ⟨gb775, 2, none⟩) (Kd.R_far (p := ⟨gb775, 1, none⟩) (Kd.R_far (p := ⟨gb775, 0, none⟩) (Kd.R_types HO794.out BK775.out (by decide)) (fun _ hk => hk.2) (.int .i64 t788)) (fun _ hk => hk.2) (.int .i64 t789)) (fun _ hk => hk.2) (.int .i64 t790)) (fun _ hk => hk.2) (.string t791)) (fun _ hk => hk.2) (.slice Ao39 t792.length co39)) (fun _ hk => hk.2) (.string t795)) (fun _ h_ => h_.1))) (by decide)) hk (fun _ h => h.2)) (fun _ h => h.1)); replace BK775 := Aside0.mk (KeepBut.blk hk (g' := gb775) (o := .cells #[.int .i64 t788, .int .i64 t789, .int .i64 t790, .string t791, .slice Ao39 t792.length co39, .string t795] 35 (0, 0)) (pI BK775) NB775_0.out (by simp)); replace HK := kt HK hk; replace HB := Aside0.mk (hb); replace HI0 := Aside0.mk (hi); (try clear hb); (try clear hb2); (try clear hk); (try clear hi)))
     go_roundg k1
     case measure => have := HK1.out; omega
     case rel => exact ⟨(wrap64 (x6_1 + 1)), (t797), (t798), (t788), (t789), (t790), (t791), (t792), (t795), (.slice Ao39 t792.length co39), y0_19, H', ⟨y0_21⟩, ⟨by (with_reducible repeat (first | apply Kd.R_alloc | apply Kd.R_drewN | apply Kd.R_drew)); exact Kd.R_mono HO794.out (fun _ hk => trivial)⟩, ⟨gI BK765.out⟩, ⟨gI BK766.out⟩, ⟨gI BK775.out⟩, ⟨y0_4⟩, ⟨hI HK.out⟩, ⟨y0_5⟩⟩
    replace c18 := Bool.eq_false_iff.mpr c18; subst c18
    rw [if_neg (show ¬ (false = true) by decide)] at H
    obtain ⟨⟨t799, t800, t801, t802, t803, t806, t807⟩, A410, H⟩ := Option.bind_eq_some_iff.mp H
    try dsimp only at H
    have A41 := Aside0.mk A410; clear A410; have H' := Aside0.mk H; clear H
    go_wp2_with (first | ((with_reducible refine gate_callee (f := 114) rfl ?_); refine gB (some 11) Tryz.func114 #[.pointer (some ⟨g, 0, none⟩), .int .i64 5] ?_; (with_reducible refine (spec_l1Below.calls g s0_0 x1001_1 x1002_1 5 t776 t777 t778 w0 _ ?side1 ?side2 A13.out).mono ?_); (case side1 => repeat (first | (with_reducible first | exact HI0.out | apply IsS124.alloc | apply IsS124.drewN | apply IsS124.drew | apply IsS124.set_1 | apply IsS124.set_2 | refine IsS124.far ?_ NeI.out _) | exact HI0.out)); (case side2 => repeat (first | (with_reducible first | exact HB.out | apply below_alloc | apply pw_below_drewN | apply below_drew1 | refine below_set ?_ (IsS124.ge HI0.out) | refine below_set ?_ GeI.out) | exact HB.out)); rintro e w42 ⟨rfl, hi, hb, hk⟩; refine ⟨_, rfl, ?_⟩; replace HO_776004 := Aside0.mk (Kd.R_mono (Kd.R_keep (IsS124.apart (show IsS124 w0 _ g s0_0 x1001_1 x1002_1 from y0_4) (rI HO_776004.out) (by decide)) hk (fun _ h => h.2)) (fun _ h => h.1)); replace BK765 := bq BK765 hk NB765_0; replace BK766 := bq BK766 hk NB766_0; replace BK775 := bq BK775 hk NB775_0; replace HK := kt HK hk; replace HB := Aside0.mk (hb); replace HI0 := Aside0.mk (hi); (try clear hb); (try clear hb2); (try clear hk); (try clear hi); have hnb43 := NB765_766.out; have hnc43 := NB766_765.out; have hnb44 := NB765_775.out; have hnc44 := NB775_765.out; have hnb45 := NB765_0.out; have hnc45 := NB0_765.out; obtain ⟨hcz46_0, hcz46_1, hfz46_0, hfz46_1⟩ := cs2 BK765) | ((with_reducible refine gate_callee (f := 118) rfl ?_); refine gB (some 17) Tryz.func118 #[.pointer (some ⟨g, 0, none⟩), .agg #[.int .i64 a1_0, .int .i64 a1_1]] ?_; (with_reducible refine (spec_l8DrawRight.calls k1 g s0_0 t777 t778 a1_0 a1_1 t779 t780 t781 t782 t785 t786 w0 _ ?side1 ?side2 A15.out).mono ?_); (case side1 => repeat (first | (with_reducible first | exact HI0.out | apply IsS124.alloc | apply IsS124.drewN | apply IsS124.drew | apply IsS124.set_1 | apply IsS124.set_2 | refine IsS124.far ?_ NeI.out _) | exact HI0.out)); (case side2 => repeat (first | (with_reducible first | exact HB.out | apply below_alloc | apply pw_below_drewN | apply below_drew1 | refine below_set ?_ (IsS124.ge HI0.out) | refine below_set ?_ GeI.out) | exact HB.out)); rintro e w47 ⟨v783, rfl, ho0, hi, hb, hk⟩; refine ⟨_, rfl, ?_⟩; replace BK765 := bq BK765 hk NB765_0; replace BK766 := bq BK766 hk NB766_0; replace BK775 := bq BK775 hk NB775_0; have HO784 := Aside0.mk (Kd.R_lower (Kd.R_new' ho0 (Kd.R_lt (rI HO_776004.out))) (keep_size (w := w) (g := g) (row := none) (hI HK.out))); replace HO_776004 := Aside0.mk (Kd.R_mono (Kd.R_told (Kd.R_oldK (IsS124.apart (show IsS124 w0 _ g s0_0 t777 t778 from y0_4) (rI HO_776004.out) (by decide)) hk) (Kd.R_base ho0)) (fun _ h_ => h_.1)); replace HK := kt HK hk; replace HB := Aside0.mk (hb); replace HI0 := Aside0.mk (hi); (try clear hb); (try clear hk); (try clear hi)) | ((with_reducible refine gd 7 ?_); refine bA 7 #[.string (⟨#[]⟩ : ByteArray), .int .i64 0, .string (⟨#[]⟩ : ByteArray), .slice none 0 0] 42 ?_; intro gb787 hg w48 hbox hb; replace HO_776004 := rb HO_776004 hb; replace HO784 := rb HO784 hb; replace HB : Aside0 (Below w0.heap.size w0 _) := Aside0.mk (below_step y0_5 hb); have BK787 := Aside0.mk (hbox); have GW787 := bh hg HK; have GJ787 := gi GW787; have GE787 := Aside0.mk ((Nat.le_trans HW0.out (y0_16 : w.heap.size ≤ gb787) : w0.heap.size ≤ gb787)); have GI787 := gi GE787; replace HK := kb HK hb; have NB765_787 := b1 BK765 hg; have NI765_787 := ni NB765_787; have NB787_765 := b2 BK765 hg; have NI787_765 := ni NB787_765; replace BK765 := bk BK765 hb; have NB766_787 := b1 BK766 hg; have NI766_787 := ni NB766_787; have NB787_766 := b2 BK766 hg; have NI787_766 := ni NB787_766; replace BK766 := bk BK766 hb; have NB775_787 := b1 BK775 hg; have NI775_787 := ni NB775_787; have NB787_775 := b2 BK775 hg; have NI787_775 := ni NB787_775; replace BK775 := bk BK775 hb; have NB0_787 := Aside0.mk ((by rw [hg]; exact Nat.ne_of_lt (IsS124.lt (show IsS124 w0 _ g s0_0 t785 t786 from y0_4)) : g ≠ gb787)); have NI0_787 := ni NB0_787; have NB787_0 := Aside0.mk ((by rw [hg]; exact Nat.ne_of_gt (IsS124.lt (show IsS124 w0 _ g s0_0 t785 t786 from y0_4)) : gb787 ≠ g)); have NI787_0 := ni NB787_0; replace HI0 := Aside0.mk (IsS124.below y0_4 hb); clear hb hbox hg; have hnb49 := NB787_765.out; have hnc49 := NB765_787.out; have hnb50 := NB787_766.out; have hnc50 := NB766_787.out; have hnb51 := NB787_775.out; have hnc51 := NB775_787.out; have hnb52 := NB787_0.out; have hnc52 := NB0_787.out; obtain ⟨hcz53_0, hcz53_1, hcz53_2, hcz53_3, hfz53_0, hfz53_1, hfz53_2, hfz53_3⟩ := cs4 BK787; obtain ⟨Ao54, co54, eo54⟩ := Kd.R_slice HO784.out; subst eo54; obtain ⟨hcz55_0, hcz55_1, hfz55_0, hfz55_1⟩ := cs2 BK765; have hnb56 := NB775_766.out; have hnc56 := NB766_775.out; have hnb57 := NB775_0.out; have hnc57 := NB0_775.out; have hcz58_0 := bc0 BK775.out; have hcz58_1 := bc1 BK775.out; have hcz58_2 := bc2 BK775.out; have hcz58_3 := bc3 BK775.out; have hcz58_4 := bc4 BK775.out; have hcz58_5 := bc5 BK775.out; have hfz58_0 := blk_frozen BK775.out 0; have hfz58_1 := blk_frozen BK775.out 1; have hfz58_2 := blk_frozen BK775.out 2; have hfz58_3 := blk_frozen BK775.out 3; have hfz58_4 := blk_frozen BK775.out 4; have hfz58_5 := blk_frozen BK775.out 5; obtain ⟨Ao59, co59, eo59⟩ := Kd.R_slice HO_776004.out; subst eo59) | ((with_reducible refine gate_callee (f := 24) rfl ?_); refine gB (some 22) Tryz.func24 #[.agg #[.int .i64 a1_0, .int .i64 a1_1], .agg #[.int .i64 x776000_1, .int .i64 x776001_1, .int .i64 x776002_1, .string x776003_1, .slice Ao59 x776004_1.length co59, .string x776005_1], .agg #[.int .i64 t780, .string t781, .slice Ao54 t782.length co54]] ?_; (with_reducible refine (spec_See.calls k1 a1_0 a1_1 x776000_1 x776001_1 x776002_1 x776003_1 _ _ x776004_1 x776005_1 t780 t781 _ _ t782 t788 t789 t790 t791 t792 t795 _ ?side1 ?side2 ?side3 ?side4 A16.out).mono ?_); (case side1 => refine (Kd.R_reads' (e := 3) (base := w.heap.size) (ok := fun k_ => (True ∧ some k_ ≠ (.slice Ao54 t782.length co54 : Value).ownBlock)) (n := x776004_1.length) (c := co59) ?_).2.2; exact (rI (Kd.R_mono (Kd.R_far (p := ⟨gb787, 3, none⟩) (Kd.R_far (p := ⟨gb787, 2, none⟩) (Kd.R_far (p := ⟨gb787, 1, none⟩) (Kd.R_far (p := ⟨gb787, 0, none⟩) (Kd.R_types HO_776004.out BK787.out (by decide)) (fun _ hk => hk.2) (.string t779)) (fun _ hk => hk.2) (.int .i64 t780)) (fun _ hk => hk.2) (.string t781)) (fun _ hk => hk.2) (.slice Ao54 t782.length co54)) (fun _ h_ => h_.1)))); (case side2 => exact (Kd.R_reads' HO_776004.out).2.1); (case side3 => refine (Kd.R_reads' (e := 3) (base := w.heap.size) (ok := fun k_ => (True ∧ some k_ ≠ (.slice Ao59 x776004_1.length co59 : Value).ownBlock)) (n := t782.length) (c := co54) ?_).2.2; exact (rI (Kd.R_mono (Kd.R_far (p := ⟨gb787, 3, none⟩) (Kd.R_far (p := ⟨gb787, 2, none⟩) (Kd.R_far (p := ⟨gb787, 1, none⟩) (Kd.R_far (p := ⟨gb787, 0, none⟩) (Kd.R_types HO784.out BK787.out (by decide)) (fun _ hk => hk.2) (.string t779)) (fun _ hk => hk.2) (.int .i64 t780)) (fun _ hk => hk.2) (.string t781)) (fun _ hk => hk.2) (.slice Ao54 t782.length co54)) (fun _ h_ => h_.1)))); (case side4 => exact (Kd.R_reads' HO784.out).2.1); rintro e w60 ⟨v793, rfl, ho0, hb⟩; refine ⟨_, rfl, ?_⟩; have HO794 := Aside0.mk (Kd.R_lower (Kd.R_new' (Kd.R_new' ho0 (Kd.R_lt (rI (Kd.R_mono (Kd.R_far (p := ⟨gb787, 3, none⟩) (Kd.R_far (p := ⟨gb787, 2, none⟩) (Kd.R_far (p := ⟨gb787, 1, none⟩) (Kd.R_far (p := ⟨gb787, 0, none⟩) (Kd.R_types HO_776004.out BK787.out (by decide)) (fun _ hk => hk.2) (.string t779)) (fun _ hk => hk.2) (.int .i64 t780)) (fun _ hk => hk.2) (.string t781)) (fun _ hk => hk.2) (.slice Ao54 t782.length co54)) (fun _ h_ => h_.1))))) (Kd.R_lt (rI (Kd.R_mono (Kd.R_far (p := ⟨gb787, 3, none⟩) (Kd.R_far (p := ⟨gb787, 2, none⟩) (Kd.R_far (p := ⟨gb787, 1, none⟩) (Kd.R_far (p := ⟨gb787, 0, none⟩) (Kd.R_types HO784.out BK787.out (by decide)) (fun _ hk => hk.2) (.string t779)) (fun _ hk => hk.2) (.int .i64 t780)) (fun _ hk => hk.2) (.string t781)) (fun _ hk => hk.2) (.slice Ao54 t782.length co54)) (fun _ h_ => h_.1))))) (keep_size (w := w) (g := g) (row := none) (hI HK.out))); replace HO_776004 := Aside0.mk (Kd.R_elder' (rI (Kd.R_mono (Kd.R_far (p := ⟨gb787, 3, none⟩) (Kd.R_far (p := ⟨gb787, 2, none⟩) (Kd.R_far (p := ⟨gb787, 1, none⟩) (Kd.R_far (p := ⟨gb787, 0, none⟩) (Kd.R_types HO_776004.out BK787.out (by decide)) (fun _ hk => hk.2) (.string t779)) (fun _ hk => hk.2) (.int .i64 t780)) (fun _ hk => hk.2) (.string t781)) (fun _ hk => hk.2) (.slice Ao54 t782.length co54)) (fun _ h_ => h_.1))) (Kd.R_base ho0) hb); replace HO784 := Aside0.mk (Kd.R_elder' (rI (Kd.R_mono (Kd.R_far (p := ⟨gb787, 3, none⟩) (Kd.R_far (p := ⟨gb787, 2, none⟩) (Kd.R_far (p := ⟨gb787, 1, none⟩) (Kd.R_far (p := ⟨gb787, 0, none⟩) (Kd.R_types HO784.out BK787.out (by decide)) (fun _ hk => hk.2) (.string t779)) (fun _ hk => hk.2) (.int .i64 t780)) (fun _ hk => hk.2) (.string t781)) (fun _ hk => hk.2) (.slice Ao54 t782.length co54)) (fun _ h_ => h_.1))) (Kd.R_base ho0) hb); replace BK765 := Aside0.mk (blk_below (g := gb765) (o := .cells #[.int .i64 a1_0, .int .i64 a1_1] 38 (0, 0)) (gI BK765.out) hb); replace BK766 := Aside0.mk (blk_below (g := gb766) (o := .cells #[.int .i64 0, .int .i64 0, .int .i64 0, .string (⟨#[]⟩ : ByteArray), .slice none 0 0, .string (⟨#[]⟩ : ByteArray)] 35 (0, 0)) (gI BK766.out) hb); replace BK775 := Aside0.mk (blk_below (g := gb775) (o := .cells #[.int .i64 x776000_1, .int .i64 x776001_1, .int .i64 x776002_1, .string x776003_1, .slice Ao59 x776004_1.length co59, .string x776005_1] 35 (0, 0)) (gI BK775.out) hb); replace BK787 := bp BK787 hb #[.string t779, .int .i64 t780, .string t781, .slice Ao54 t782.length co54]; replace HK := kb HK hb; replace HB : Aside0 (Below w0.heap.size w0 _) := Aside0.mk (below_step y0_5 hb); replace HI0 := Aside0.mk (IsS124.below (show IsS124 w0 ((((w48.setCell ⟨gb787, 0, none⟩ (.string t779)).setCell ⟨gb787, 1, none⟩ (.int .i64 t780)).setCell ⟨gb787, 2, none⟩ (.string t781)).setCell ⟨gb787, 3, none⟩ (.slice Ao54 t782.length co54)) g s0_0 t785 t786 from y0_4) hb); (try clear hb); (try clear ho0); have hcz61_0 := bc0 BK775.out; have hcz61_1 := bc1 BK775.out; have hcz61_2 := bc2 BK775.out; have hcz61_3 := bc3 BK775.out; have hcz61_4 := bc4 BK775.out; have hcz61_5 := bc5 BK775.out; have hfz61_0 := blk_frozen BK775.out 0; have hfz61_1 := blk_frozen BK775.out 1; have hfz61_2 := blk_frozen BK775.out 2; have hfz61_3 := blk_frozen BK775.out 3; have hfz61_4 := blk_frozen BK775.out 4; have hfz61_5 := blk_frozen BK775.out 5; obtain ⟨Ao62, co62, eo62⟩ := Kd.R_slice HO794.out; subst eo62) | ((with_reducible refine gate_callee (f := 93) rfl ?_); refine gB (some 24) Tryz.func93 #[.pointer (some ⟨g, 0, none⟩), .int .i64 3] ?_; (with_reducible refine (spec_l1Once.calls g s0_0 t785 t786 3 false t797 t798 w0 _ ?side1 ?side2 A17.out).mono ?_); (case side1 => repeat (first | (with_reducible first | exact HI0.out | apply IsS124.alloc | apply IsS124.drewN | apply IsS124.drew | apply IsS124.set_1 | apply IsS124.set_2 | refine IsS124.far ?_ NeI.out _) | exact HI0.out)); (case side2 => repeat (first | (with_reducible first | exact HB.out | apply below_alloc | apply pw_below_drewN | apply below_drew1 | refine below_set ?_ (IsS124.ge HI0.out) | refine below_set ?_ GeI.out) | exact HB.out)); rintro e w63 ⟨rfl, hi, hb, hk⟩; refine ⟨_, rfl, ?_⟩; replace HO_776004 := Aside0.mk (Kd.R_mono (Kd.R_keep (IsS124.apart (show IsS124 w0 _ g s0_0 t785 t786 from y0_4) (rI (Kd.R_mono (Kd.R_far (p := ⟨gb775, 5, none⟩) (Kd.R_far (p := ⟨gb775, 4, none⟩) (Kd.R_far (p := ⟨gb775, 3, none⟩) (Kd.R_far (p := ⟨gb775, 2, none⟩) (Kd.R_far (p := ⟨gb775, 1, none⟩) (Kd.R_far (p := ⟨gb775, 0, none⟩) (Kd.R_types HO_776004.out BK775.out (by decide)) (fun _ hk => hk.2) (.int .i64 t788)) (fun _ hk => hk.2) (.int .i64 t789)) (fun _ hk => hk.2) (.int .i64 t790)) (fun _ hk => hk.2) (.string t791)) (fun _ hk => hk.2) (.slice Ao62 t792.length co62)) (fun _ hk => hk.2) (.string t795)) (fun _ h_ => h_.1))) (by decide)) hk (fun _ h => h.2)) (fun _ h => h.1)); replace BK765 := Aside0.mk (KeepBut.blk hk (g' := gb765) (o := .cells #[.int .i64 a1_0, .int .i64 a1_1] 38 (0, 0)) (gI BK765.out) NB765_0.out (by simp)); replace BK766 := Aside0.mk (KeepBut.blk hk (g' := gb766) (o := .cells #[.int .i64 0, .int .i64 0, .int .i64 0, .string (⟨#[]⟩ : ByteArray), .slice none 0 0, .string (⟨#[]⟩ : ByteArray)] 35 (0, 0)) (gI BK766.out) NB766_0.out (by simp)); replace HO784 := Aside0.mk (Kd.R_mono (Kd.R_keep (IsS124.apart (show IsS124 w0 _ g s0_0 t785 t786 from y0_4) (rI (Kd.R_mono (Kd.R_far (p := ⟨gb775, 5, none⟩) (Kd.R_far (p := ⟨gb775, 4, none⟩) (Kd.R_far (p := ⟨gb775, 3, none⟩) (Kd.R_far (p := ⟨gb775, 2, none⟩) (Kd.R_far (p := ⟨gb775, 1, none⟩) (Kd.R_far (p := ⟨gb775, 0, none⟩) (Kd.R_types HO784.out BK775.out (by decide)) (fun _ hk => hk.2) (.int .i64 t788)) (fun _ hk => hk.2) (.int .i64 t789)) (fun _ hk => hk.2) (.int .i64 t790)) (fun _ hk => hk.2) (.string t791)) (fun _ hk => hk.2) (.slice Ao62 t792.length co62)) (fun _ hk => hk.2) (.string t795)) (fun _ h_ => h_.1))) (by decide)) hk (fun _ h => h.2)) (fun _ h => h.1)); replace BK787 := Aside0.mk (KeepBut.blk hk (g' := gb787) (o := .cells #[.string t779, .int .i64 t780, .string t781, .slice Ao54 t782.length co54] 42 (0, 0)) (gI BK787.out) NB787_0.out (by simp)); replace HO794 := Aside0.mk (Kd.R_mono (Kd.R_keep (IsS124.apart (show IsS124 w0 _ g s0_0 t785 t786 from y0_4) (rI (Kd.R_mono (Kd.R_far (p := ⟨gb775, 5, none⟩) (Kd.R_far (p := ⟨gb775, 4, none⟩) (Kd.R_far (p := ⟨gb775, 3, none⟩) (Kd.R_far (p := ⟨gb775, 2, none⟩) (Kd.R_far (p := ⟨gb775, 1, none⟩) (Kd.R_far (p := ⟨gb775, 0, none⟩) (Kd.R_types HO794.out BK775.out (by decide)) (fun _ hk => hk.2) (.int .i64 t788)) (fun _ hk => hk.2) (.int .i64 t789)) (fun _ hk => hk.2) (.int .i64 t790)) (fun _ hk => hk.2) (.string t791)) (fun _ hk => hk.2) (.slice Ao62 t792.length co62)) (fun _ hk => hk.2) (.string t795)) (fun _ h_ => h_.1))) (by decide)) hk (fun _ h => h.2)) (fun _ h => h.1)); replace BK775 := Aside0.mk (KeepBut.blk hk (g' := gb775) (o := .cells #[.int .i64 t788, .int .i64 t789, .int .i64 t790, .string t791, .slice Ao62 t792.length co62, .string t795] 35 (0, 0)) (pI BK775) NB775_0.out (by simp)); replace HK := kt HK hk; replace HB := Aside0.mk (hb); replace HI0 := Aside0.mk (hi); (try clear hb); (try clear hb2); (try clear hk); (try clear hi); obtain ⟨hcz64_0, hcz64_1, hfz64_0, hfz64_1⟩ := cs2 BK765; have hcz65_0 := bc0 BK775.out; have hcz65_1 := bc1 BK775.out; have hcz65_2 := bc2 BK775.out; have hcz65_3 := bc3 BK775.out; have hcz65_4 := bc4 BK775.out; have hcz65_5 := bc5 BK775.out; have hfz65_0 := blk_frozen BK775.out 0; have hfz65_1 := blk_frozen BK775.out 1; have hfz65_2 := blk_frozen BK775.out 2; have hfz65_3 := blk_frozen BK775.out 3; have hfz65_4 := blk_frozen BK775.out 4; have hfz65_5 := blk_frozen BK775.out 5; obtain ⟨hcz66_0, hcz66_1, hcz66_2, hcz66_3, hfz66_0, hfz66_1, hfz66_2, hfz66_3⟩ := cs4 BK787) | ((with_reducible refine gate_callee (f := 13) rfl ?_); refine gB (some 30) Tryz.func13 #[.agg #[.int .i64 a1_0, .int .i64 a1_1], .agg #[.int .i64 t788, .int .i64 t789, .int .i64 t790, .string t791, .slice Ao62 t792.length co62, .string t795], .agg #[.string t779, .int .i64 t780, .string t781, .slice Ao54 t782.length co54]] ?_; (with_reducible refine (spec_Vote.calls k1 a1_0 a1_1 t788 t789 t790 t791 _ _ t792 t795 t779 t780 t781 _ _ t782 t799 t800 t801 t802 t803 t806 t807 _ ?side1 ?side2 ?side3 ?side4 A41.out).mono ?_); (case side1 => repeat (first | exact (Kd.R_reads' HO794.out).2.2 | (with_reducible refine Kd.C_alloc ?_ _) | (with_reducible refine Kd.C_drewN ?_ _) | (with_reducible refine Kd.C_drew ?_))); (case side2 => exact (Kd.R_reads' HO794.out).2.1); (case side3 => repeat (first | exact (Kd.R_reads' HO784.out).2.2 | (with_reducible refine Kd.C_alloc ?_ _) | (with_reducible refine Kd.C_drewN ?_ _) | (with_reducible refine Kd.C_drew ?_))); (case side4 => exact (Kd.R_reads' HO784.out).2.1); rintro e w67 ⟨v804, rfl, ho0, hb⟩; refine ⟨_, rfl, ?_⟩; have HO805 := Aside0.mk (Kd.R_lower (Kd.R_new' (Kd.R_new' (Kd.R_new' ho0 (Kd.R_lt (rI HO_776004.out))) (Kd.R_lt (rI HO784.out))) (Kd.R_lt (rI HO794.out))) (keep_size (w := w) (g := g) (row := none) (hI HK.out))); replace HO_776004 := Aside0.mk (Kd.R_elder' (rI HO_776004.out) (Kd.R_base ho0) hb); replace HO784 := Aside0.mk (Kd.R_elder' (rI HO784.out) (Kd.R_base ho0) hb); replace HO794 := Aside0.mk (Kd.R_elder' (rI HO794.out) (Kd.R_base ho0) hb); replace BK765 := bk BK765 hb; replace BK766 := bk BK766 hb; replace BK775 := bk BK775 hb; replace BK787 := bk BK787 hb; replace HK := kb HK hb; replace HB : Aside0 (Below w0.heap.size w0 _) := Aside0.mk (below_step y0_5 hb); replace HI0 := Aside0.mk (IsS124.below y0_4 hb); (try clear hb); (try clear hk); (try clear hi); have hcz68_0 := bc0 BK775.out; have hcz68_1 := bc1 BK775.out; have hcz68_2 := bc2 BK775.out; have hcz68_3 := bc3 BK775.out; have hcz68_4 := bc4 BK775.out; have hcz68_5 := bc5 BK775.out; have hfz68_0 := blk_frozen BK775.out 0; have hfz68_1 := blk_frozen BK775.out 1; have hfz68_2 := blk_frozen BK775.out 2; have hfz68_3 := blk_frozen BK775.out 3; have hfz68_4 := blk_frozen BK775.out 4; have hfz68_5 := blk_frozen BK775.out 5; obtain ⟨Ao69, co69, eo69⟩ := Kd.R_slice HO805.out; subst eo69))
    go_roundg k1
    case measure => have := HK1.out; omega
    case rel => exact ⟨(wrap64 (x6_1 + 1)), (t797), (t798), (t799), (t800), (t801), (t802), (t803), (t806), (.slice Ao69 t803.length co69), y0_19, H', ⟨y0_21⟩, ⟨by (with_reducible repeat (first | apply Kd.R_alloc | apply Kd.R_drewN | apply Kd.R_drew)); exact Kd.R_mono (Kd.R_far (p := ⟨gb775, 5, none⟩) (Kd.R_far (p := ⟨gb775, 4, none⟩) (Kd.R_far (p := ⟨gb775, 3, none⟩) (Kd.R_far (p := ⟨gb775, 2, none⟩) (Kd.R_far (p := ⟨gb775, 1, none⟩) (Kd.R_far (p := ⟨gb775, 0, none⟩) (Kd.R_types HO805.out BK775.out (by decide)) (fun _ hk => hk.2) (.int .i64 t799)) (fun _ hk => hk.2) (.int .i64 t800)) (fun _ hk => hk.2) (.int .i64 t801)) (fun _ hk => hk.2) (.string t802)) (fun _ hk => hk.2) (.slice Ao69 t803.length co69)) (fun _ hk => hk.2) (.string t806)) (fun _ hk => trivial)⟩, ⟨gI BK765.out⟩, ⟨gI BK766.out⟩, ⟨pI BK775⟩, ⟨y0_4⟩, ⟨hI HK.out⟩, ⟨y0_5⟩⟩
   rw [if_neg c14] at H
   have c14b0 : decide (x6_1 < t776) = false := decide_eq_false c14; clear c14
   simp only [Option.some.injEq, Prod.mk.injEq] at H
   obtain ⟨rfl, rfl, rfl, rfl, rfl, rfl, rfl, rfl⟩ := H
   go_wp2_with (first | ((with_reducible refine gate_callee (f := 114) rfl ?_); refine gB (some 11) Tryz.func114 #[.pointer (some ⟨g, 0, none⟩), .int .i64 5] ?_; (with_reducible refine (spec_l1Below.calls g s0_0 x1001_1 x1002_1 5 t776 t777 t778 w0 _ ?side1 ?side2 A13.out).mono ?_); (case side1 => repeat (first | (with_reducible first | exact HI0.out | apply IsS124.alloc | apply IsS124.drewN | apply IsS124.drew | apply IsS124.set_1 | apply IsS124.set_2 | refine IsS124.far ?_ NeI.out _) | exact HI0.out)); (case side2 => repeat (first | (with_reducible first | exact HB.out | apply below_alloc | apply pw_below_drewN | apply below_drew1 | refine below_set ?_ (IsS124.ge HI0.out) | refine below_set ?_ GeI.out) | exact HB.out)); rintro e w70 ⟨rfl, hi, hb, hk⟩; refine ⟨_, rfl, ?_⟩; replace HO_776004 := Aside0.mk (Kd.R_mono (Kd.R_keep (IsS124.apart (show IsS124 w0 _ g s0_0 x1001_1 x1002_1 from y0_4) (rI HO_776004.out) (by decide)) hk (fun _ h => h.2)) (fun _ h => h.1)); replace BK765 := bq BK765 hk NB765_0; replace BK766 := bq BK766 hk NB766_0; replace BK775 := bq BK775 hk NB775_0; replace HK := kt HK hk; replace HB := Aside0.mk (hb); replace HI0 := Aside0.mk (hi); (try clear hb); (try clear hb2); (try clear hk); (try clear hi); have hnb71 := NB775_765.out; have hnc71 := NB765_775.out; have hnb72 := NB775_766.out; have hnc72 := NB766_775.out; have hnb73 := NB775_0.out; have hnc73 := NB0_775.out; have hcz74_0 := bc0 BK775.out; have hcz74_1 := bc1 BK775.out; have hcz74_2 := bc2 BK775.out; have hcz74_3 := bc3 BK775.out; have hcz74_4 := bc4 BK775.out; have hcz74_5 := bc5 BK775.out; have hfz74_0 := blk_frozen BK775.out 0; have hfz74_1 := blk_frozen BK775.out 1; have hfz74_2 := blk_frozen BK775.out 2; have hfz74_3 := blk_frozen BK775.out 3; have hfz74_4 := blk_frozen BK775.out 4; have hfz74_5 := blk_frozen BK775.out 5; have hnb75 := NB766_765.out; have hnc75 := NB765_766.out; have hnb76 := NB766_0.out; have hnc76 := NB0_766.out; have hcz77_0 := bc0 BK766.out; have hcz77_1 := bc1 BK766.out; have hcz77_2 := bc2 BK766.out; have hcz77_3 := bc3 BK766.out; have hcz77_4 := bc4 BK766.out; have hcz77_5 := bc5 BK766.out; have hfz77_0 := blk_frozen BK766.out 0; have hfz77_1 := blk_frozen BK766.out 1; have hfz77_2 := blk_frozen BK766.out 2; have hfz77_3 := blk_frozen BK766.out 3; have hfz77_4 := blk_frozen BK766.out 4; have hfz77_5 := blk_frozen BK766.out 5; obtain ⟨Ao78, co78, eo78⟩ := Kd.R_slice HO_776004.out; subst eo78))
   refine bodyPost_ret (results_cell_row rfl _ _ gb766 35 #[.int .i64 x776000_1, .int .i64 x776001_1, .int .i64 x776002_1, .string x776003_1, .slice Ao78 x776004_1.length co78, .string x776005_1] (0, 0) _ rfl (pI BK766) Tryz.underlying35 rfl (by kernel_rfl)) rfl ?_
   exact ⟨_, y0_14, by (with_reducible repeat (first | apply Kd.R_alloc | apply Kd.R_drewN | apply Kd.R_drew)); exact Kd.R_mono (Kd.R_far (p := ⟨gb766, 5, none⟩) (Kd.R_far (p := ⟨gb766, 4, none⟩) (Kd.R_far (p := ⟨gb766, 3, none⟩) (Kd.R_far (p := ⟨gb766, 2, none⟩) (Kd.R_far (p := ⟨gb766, 1, none⟩) (Kd.R_far (p := ⟨gb766, 0, none⟩) (Kd.R_types HO_776004.out BK766.out (by decide)) (fun _ hk => hk.2) (.int .i64 x776000_1)) (fun _ hk => hk.2) (.int .i64 x776001_1)) (fun _ hk => hk.2) (.int .i64 x776002_1)) (fun _ hk => hk.2) (.string x776003_1)) (fun _ hk => hk.2) (.slice Ao78 x776004_1.length co78)) (fun _ hk => hk.2) (.string x776005_1)) (fun _ hk => trivial), y0_4, y0_5, hI HK.out⟩

/-! ### spec_l11Draw: function 88 -/
def spec_l11Draw.f (k : Nat) (s0_0 : List Int) (s0_1 : Int) (s0_2 : Int) (a1_0 : Int) (a1_1 : Int) : Option (Int × Int × Int × ByteArray × List Int × ByteArray × Int × Int) := (spec_l11DrawRight.f k s0_0 s0_1 s0_2 a1_0 a1_1).bind fun bt810 => ((spec_l1Below.f s0_0 bt810.2.2.2.2.2.2.1 bt810.2.2.2.2.2.2.2 10).bind fun bt821 => (if bt821.1 = 0 then ((spec_l1PickInt.f s0_0 bt821.2.1 bt821.2.2 (([(-1), 60, 61] : List Int))).bind fun bt827 => (some (bt827.1, bt810.2.1, bt810.2.2.1, bt810.2.2.2.1, bt810.2.2.2.2.1, bt810.2.2.2.2.2.1, bt827.2.1, bt827.2.2))) else (if bt821.1 = 1 then ((spec_l1PickInt.f s0_0 bt821.2.1 bt821.2.2 (([(-1), 0, 60, 61] : List Int))).bind fun bt833 => (some (bt810.1, bt833.1, bt810.2.2.1, bt810.2.2.2.1, bt810.2.2.2.2.1, bt810.2.2.2.2.2.1, bt833.2.1, bt833.2.2))) else (if bt821.1 = 2 then ((spec_l5Draw.f k s0_0 bt821.2.1 bt821.2.2).bind fun bt836 => (some (bt810.1, bt810.2.1, bt810.2.2.1, bt810.2.2.2.1, bt810.2.2.2.2.1, bt836.1, bt836.2.1, bt836.2.2))) else (if bt821.1 = 3 then ((spec_l7Draw.f k s0_0 bt821.2.1 bt821.2.2 a1_0 a1_1).bind fun bt839 => (some (bt810.1, bt810.2.1, bt839.1, bt839.2.1, bt839.2.2.1, bt810.2.2.2.2.2.1, bt839.2.2.2.1, bt839.2.2.2.2))) else (some (bt810.1, bt810.2.1, bt810.2.2.1, bt810.2.2.2.1, bt810.2.2.2.2.1, bt810.2.2.2.2.2.1, bt821.2.1, bt821.2.2)))))))
theorem spec_l11Draw.mono : ∀ a0 a1 a2 a3 a4 k, LeO (spec_l11Draw.f k a0 a1 a2 a3 a4) (spec_l11Draw.f (k + 1) a0 a1 a2 a3 a4) := by
 intro a0 a1 a2 a3 a4 k
 unfold spec_l11Draw.f
 repeat' first | (with_reducible exact spec_l11DrawRight.mono _ _ _ _ _ _) | (with_reducible exact spec_l5Draw.mono _ _ _ _) | (with_reducible exact spec_l7Draw.mono _ _ _ _ _ _) | (with_reducible exact LeO.refl _) | (with_reducible exact LeO.none _) | (with_reducible refine LeO.ite ?_ ?_) | (with_reducible refine LeO.bind ?_ (fun _ => ?_))
set_option maxHeartbeats 8000000 in
set_option maxRecDepth 100000 in
theorem spec_l11Draw.calls (k : Nat) (g : Nat) (s0_0 : List Int) (s0_1 : Int) (s0_2 : Int) (a1_0 : Int) (a1_1 : Int) (r1 : Int) (r2 : Int) (r3 : Int) (r4 : ByteArray) (r5 : List Int) (r6 : ByteArray) (r7 : Int) (r8 : Int) (w0 w : World) (hI : IsS124 w0 w g s0_0 s0_1 s0_2) (hB : Below w0.heap.size w0 w) (h : spec_l11Draw.f k s0_0 s0_1 s0_2 a1_0 a1_1 = some (r1, r2, r3, r4, r5, r6, r7, r8)) :
  Calls Tryz.prog 88 #[.pointer (some ⟨g, 0, none⟩), .agg #[.int .i64 a1_0, .int .i64 a1_1]] w fun e w' => ∃ v4_ : Value, e = .returned (.agg #[.int .i64 r1, .int .i64 r2, .int .i64 r3, .string r4, v4_, .string r6]) ∧ Kd.R (Kd.int .i64) 3 w' w.heap.size (fun _ => True) v4_ r5 ∧ IsS124 w0 w' g s0_0 r7 r8 ∧ Below w0.heap.size w0 w' ∧ KeepBut w w' g none := by
 have hu38 := Tryz.underlying38; have hu35 := Tryz.underlying35; have hu33 := Tryz.underlying33; have HI0 := Aside0.mk hI; have HK := Aside0.mk (KeepBut.refl w g none); have HL := Aside0.mk hB.size; clear hI; have HW0 := Aside0.mk hB.size; have HB := Aside0.mk hB; clear hB
 have H : ((spec_l11DrawRight.f k s0_0 s0_1 s0_2 a1_0 a1_1).bind fun bt810 => ((spec_l1Below.f s0_0 bt810.2.2.2.2.2.2.1 bt810.2.2.2.2.2.2.2 10).bind fun bt821 => (if bt821.1 = 0 then ((spec_l1PickInt.f s0_0 bt821.2.1 bt821.2.2 (([(-1), 60, 61] : List Int))).bind fun bt827 => (some (bt827.1, bt810.2.1, bt810.2.2.1, bt810.2.2.2.1, bt810.2.2.2.2.1, bt810.2.2.2.2.2.1, bt827.2.1, bt827.2.2))) else (if bt821.1 = 1 then ((spec_l1PickInt.f s0_0 bt821.2.1 bt821.2.2 (([(-1), 0, 60, 61] : List Int))).bind fun bt833 => (some (bt810.1, bt833.1, bt810.2.2.1, bt810.2.2.2.1, bt810.2.2.2.2.1, bt810.2.2.2.2.2.1, bt833.2.1, bt833.2.2))) else (if bt821.1 = 2 then ((spec_l5Draw.f k s0_0 bt821.2.1 bt821.2.2).bind fun bt836 => (some (bt810.1, bt810.2.1, bt810.2.2.1, bt810.2.2.2.1, bt810.2.2.2.2.1, bt836.1, bt836.2.1, bt836.2.2))) else (if bt821.1 = 3 then ((spec_l7Draw.f k s0_0 bt821.2.1 bt821.2.2 a1_0 a1_1).bind fun bt839 => (some (bt810.1, bt810.2.1, bt839.1, bt839.2.1, bt839.2.2.1, bt810.2.2.2.2.2.1, bt839.2.2.2.1, bt839.2.2.2.2))) else (some (bt810.1, bt810.2.1, bt810.2.2.1, bt810.2.2.2.1, bt810.2.2.2.2.1, bt810.2.2.2.2.2.1, bt821.2.1, bt821.2.2)))))))) = some (r1, r2, r3, r4, r5, r6, r7, r8) := h
 clear h; obtain ⟨⟨t810, t811, t812, t813, t814, t817, t818, t819⟩, A30, H⟩ := Option.bind_eq_some_iff.mp H
 try dsimp only at H
 have A3 := Aside0.mk A30; clear A30; obtain ⟨⟨t821, t822, t823⟩, A40, H⟩ := Option.bind_eq_some_iff.mp H
 try dsimp only at H
 have A4 := Aside0.mk A40; clear A40
 by_cases c5 : t821 = 0
 ·
  rw [if_pos c5] at H
  have c5b0 : (t821 == 0) = true := beq_iff_eq.mpr c5; have c5b1 : (t821 != 0) = false := bne_eq_false_iff_eq.mpr c5; clear c5; obtain ⟨y824, hy824⟩ : ∃ y_ : List Int, y_ = (([(-1), 60, 61] : List Int)) := ⟨_, rfl⟩
  replace H : ((spec_l1PickInt.f s0_0 t822 t823 y824).bind fun bt827 => (some (bt827.1, t811, t812, t813, t814, t817, bt827.2.1, bt827.2.2))) = some (r1, r2, r3, r4, r5, r6, r7, r8) := by first | (rw [hy824]; with_reducible exact H) | (have H2_ := (Option.bind_some _ _).symm.trans H; rw [hy824]; with_reducible exact H2_) | (have H2_ := (Option.bind_some _ _).symm.trans H; with_reducible exact H2_) | with_reducible exact H | (rw [hy824]; exact H) | exact H
  have Ny824 := Aside0.mk hy824; clear hy824; obtain ⟨⟨t827, t828, t829⟩, A60, H⟩ := Option.bind_eq_some_iff.mp H
  try dsimp only at H
  have A6 := Aside0.mk A60; clear A60
  simp only [Option.some.injEq, Prod.mk.injEq] at H
  obtain ⟨rfl, rfl, rfl, rfl, rfl, rfl, rfl, rfl⟩ := H; have i0_ := iB124 HI0; have i1_ : LB w0 w := ⟨HB.out⟩
  go_enter Tryz.func88, Tryz.ntmps88
  go_wp2_with (first | ((with_reducible refine gd 3 ?_); refine bL 3 #[.int .i64 a1_0, .int .i64 a1_1] 38 ?_; intro gb808 w7 _ _ _) | ((with_reducible refine gd 4 ?_); refine bL 4 #[.int .i64 0, .int .i64 0, .int .i64 0, .string (⟨#[]⟩ : ByteArray), .slice none 0 0, .string (⟨#[]⟩ : ByteArray)] 35 ?_; intro gb809 w8 _ _ _) | ((with_reducible refine gate_callee (f := 115) rfl ?_); refine gK1 (some 8) Tryz.func115 (spec_l11DrawRight.calls (hI := iS124 HI0) (hB := UpW.out) (w := _) (h := A3.out)) ?_; intro Ao815 co815 w9 _ _ _ HI10 HO816) | ((with_reducible refine gd 5 ?_); refine bL 5 #[.int .i64 0, .int .i64 0, .int .i64 0, .string (⟨#[]⟩ : ByteArray), .slice none 0 0, .string (⟨#[]⟩ : ByteArray)] 35 ?_; intro gb820 w11 _ _ _) | ((with_reducible refine gate_callee (f := 114) rfl ?_); refine gK (some 10) Tryz.func114 (spec_l1Below.calls (hI := iS124 HI10) (hB := UpW.out) (w := _) (h := A4.out)) ?_; intro w12 _ _ _ HI13) | ((with_reducible refine gate_dst (N := 14) rfl ?_); refine lL 14 3 (Kd.int .i64) rfl Ny824 ?_; intro Ao825 co825 w14 _ HO826) | ((with_reducible refine gate_callee (f := 116) rfl ?_); refine gK (some 15) Tryz.func116 (spec_l1PickInt.calls (hI := iS124 HI13) (hB := UpW.out) (hr1 := rC HO826) (hc1 := rL HO826) (hf1 := fS HO826) (w := _) (h := A6.out)) ?_; intro w15 _ _ _ HI16))
  refine bodyPost_ret (results_cell_row rfl _ _ gb809 35 #[.int .i64 t827, .int .i64 t811, .int .i64 t812, .string t813, .slice Ao815 t814.length co815, .string t817] (0, 0) _ rfl xB Tryz.underlying35 rfl (by kernel_rfl)) rfl ?_
  exact ⟨_, y0_19, rR HO816, iS124 HI16, UpW.out, UpB.out⟩
 rw [if_neg c5] at H
 have c5b0 : (t821 == 0) = false := beq_eq_false_iff_ne.mpr c5; have c5b1 : (t821 != 0) = true := bne_iff_ne.mpr c5
 by_cases c17 : t821 = 1
 ·
  rw [if_pos c17] at H
  have c17b0 : (t821 == 1) = true := beq_iff_eq.mpr c17; have c17b1 : (t821 != 1) = false := bne_eq_false_iff_eq.mpr c17; clear c17; obtain ⟨y830, hy830⟩ : ∃ y_ : List Int, y_ = (([(-1), 0, 60, 61] : List Int)) := ⟨_, rfl⟩
  replace H : ((spec_l1PickInt.f s0_0 t822 t823 y830).bind fun bt833 => (some (t810, bt833.1, t812, t813, t814, t817, bt833.2.1, bt833.2.2))) = some (r1, r2, r3, r4, r5, r6, r7, r8) := by first | (rw [hy830]; with_reducible exact H) | (have H2_ := (Option.bind_some _ _).symm.trans H; rw [hy830]; with_reducible exact H2_) | (have H2_ := (Option.bind_some _ _).symm.trans H; with_reducible exact H2_) | with_reducible exact H | (rw [hy830]; exact H) | exact H
  have Ny830 := Aside0.mk hy830; clear hy830; obtain ⟨⟨t833, t834, t835⟩, A180, H⟩ := Option.bind_eq_some_iff.mp H
  try dsimp only at H
  have A18 := Aside0.mk A180; clear A180
  simp only [Option.some.injEq, Prod.mk.injEq] at H
  obtain ⟨rfl, rfl, rfl, rfl, rfl, rfl, rfl, rfl⟩ := H; have i0_ := iB124 HI0; have i1_ : LB w0 w := ⟨HB.out⟩
  go_enter Tryz.func88, Tryz.ntmps88
  go_wp2_with (first | ((with_reducible refine gd 3 ?_); refine bL 3 #[.int .i64 a1_0, .int .i64 a1_1] 38 ?_; intro gb808 w19 _ _ _) | ((with_reducible refine gd 4 ?_); refine bL 4 #[.int .i64 0, .int .i64 0, .int .i64 0, .string (⟨#[]⟩ : ByteArray), .slice none 0 0, .string (⟨#[]⟩ : ByteArray)] 35 ?_; intro gb809 w20 _ _ _) | ((with_reducible refine gate_callee (f := 115) rfl ?_); refine gK1 (some 8) Tryz.func115 (spec_l11DrawRight.calls (hI := iS124 HI0) (hB := UpW.out) (w := _) (h := A3.out)) ?_; intro Ao815 co815 w21 _ _ _ HI22 HO816) | ((with_reducible refine gd 5 ?_); refine bL 5 #[.int .i64 0, .int .i64 0, .int .i64 0, .string (⟨#[]⟩ : ByteArray), .slice none 0 0, .string (⟨#[]⟩ : ByteArray)] 35 ?_; intro gb820 w23 _ _ _) | ((with_reducible refine gate_callee (f := 114) rfl ?_); refine gK (some 10) Tryz.func114 (spec_l1Below.calls (hI := iS124 HI22) (hB := UpW.out) (w := _) (h := A4.out)) ?_; intro w24 _ _ _ HI25) | ((with_reducible refine gate_dst (N := 20) rfl ?_); refine lL 20 3 (Kd.int .i64) rfl Ny830 ?_; intro Ao831 co831 w26 _ HO832) | ((with_reducible refine gate_callee (f := 116) rfl ?_); refine gK (some 21) Tryz.func116 (spec_l1PickInt.calls (hI := iS124 HI25) (hB := UpW.out) (hr1 := rC HO832) (hc1 := rL HO832) (hf1 := fS HO832) (w := _) (h := A18.out)) ?_; intro w27 _ _ _ HI28))
  refine bodyPost_ret (results_cell_row rfl _ _ gb809 35 #[.int .i64 t810, .int .i64 t833, .int .i64 t812, .string t813, .slice Ao815 t814.length co815, .string t817] (0, 0) _ rfl xB Tryz.underlying35 rfl (by kernel_rfl)) rfl ?_
  exact ⟨_, y0_19, rR HO816, iS124 HI28, UpW.out, UpB.out⟩
 rw [if_neg c17] at H
 have c17b0 : (t821 == 1) = false := beq_eq_false_iff_ne.mpr c17; have c17b1 : (t821 != 1) = true := bne_iff_ne.mpr c17
 by_cases c29 : t821 = 2
 ·
  rw [if_pos c29] at H
  have c29b0 : (t821 == 2) = true := beq_iff_eq.mpr c29; have c29b1 : (t821 != 2) = false := bne_eq_false_iff_eq.mpr c29; clear c29; obtain ⟨⟨t836, t837, t838⟩, A300, H⟩ := Option.bind_eq_some_iff.mp H
  try dsimp only at H
  have A30 := Aside0.mk A300; clear A300
  simp only [Option.some.injEq, Prod.mk.injEq] at H
  obtain ⟨rfl, rfl, rfl, rfl, rfl, rfl, rfl, rfl⟩ := H; have i0_ := iB124 HI0; have i1_ : LB w0 w := ⟨HB.out⟩
  go_enter Tryz.func88, Tryz.ntmps88
  go_wp2_with (first | ((with_reducible refine gd 3 ?_); refine bL 3 #[.int .i64 a1_0, .int .i64 a1_1] 38 ?_; intro gb808 w31 _ _ _) | ((with_reducible refine gd 4 ?_); refine bL 4 #[.int .i64 0, .int .i64 0, .int .i64 0, .string (⟨#[]⟩ : ByteArray), .slice none 0 0, .string (⟨#[]⟩ : ByteArray)] 35 ?_; intro gb809 w32 _ _ _) | ((with_reducible refine gate_callee (f := 115) rfl ?_); refine gK1 (some 8) Tryz.func115 (spec_l11DrawRight.calls (hI := iS124 HI0) (hB := UpW.out) (w := _) (h := A3.out)) ?_; intro Ao815 co815 w33 _ _ _ HI34 HO816) | ((with_reducible refine gd 5 ?_); refine bL 5 #[.int .i64 0, .int .i64 0, .int .i64 0, .string (⟨#[]⟩ : ByteArray), .slice none 0 0, .string (⟨#[]⟩ : ByteArray)] 35 ?_; intro gb820 w35 _ _ _) | ((with_reducible refine gate_callee (f := 114) rfl ?_); refine gK (some 10) Tryz.func114 (spec_l1Below.calls (hI := iS124 HI34) (hB := UpW.out) (w := _) (h := A4.out)) ?_; intro w36 _ _ _ HI37) | ((with_reducible refine gate_callee (f := 117) rfl ?_); refine gK (some 26) Tryz.func117 (spec_l5Draw.calls (hI := iS124 HI37) (hB := UpW.out) (w := _) (h := A30.out)) ?_; intro w38 _ _ _ HI39))
  refine bodyPost_ret (results_cell_row rfl _ _ gb809 35 #[.int .i64 t810, .int .i64 t811, .int .i64 t812, .string t813, .slice Ao815 t814.length co815, .string t836] (0, 0) _ rfl xB Tryz.underlying35 rfl (by kernel_rfl)) rfl ?_
  exact ⟨_, y0_19, rR HO816, iS124 HI39, UpW.out, UpB.out⟩
 rw [if_neg c29] at H
 have c29b0 : (t821 == 2) = false := beq_eq_false_iff_ne.mpr c29; have c29b1 : (t821 != 2) = true := bne_iff_ne.mpr c29
 by_cases c40 : t821 = 3
 ·
  rw [if_pos c40] at H
  have c40b0 : (t821 == 3) = true := beq_iff_eq.mpr c40; have c40b1 : (t821 != 3) = false := bne_eq_false_iff_eq.mpr c40; clear c40; obtain ⟨⟨t839, t840, t841, t844, t845⟩, A410, H⟩ := Option.bind_eq_some_iff.mp H
  try dsimp only at H
  have A41 := Aside0.mk A410; clear A410
  simp only [Option.some.injEq, Prod.mk.injEq] at H
  obtain ⟨rfl, rfl, rfl, rfl, rfl, rfl, rfl, rfl⟩ := H; have i0_ := iB124 HI0; have i1_ : LB w0 w := ⟨HB.out⟩
  go_enter Tryz.func88, Tryz.ntmps88
  go_wp2_with (first | ((with_reducible refine gd 3 ?_); refine bL 3 #[.int .i64 a1_0, .int .i64 a1_1] 38 ?_; intro gb808 w42 _ _ _) | ((with_reducible refine gd 4 ?_); refine bL 4 #[.int .i64 0, .int .i64 0, .int .i64 0, .string (⟨#[]⟩ : ByteArray), .slice none 0 0, .string (⟨#[]⟩ : ByteArray)] 35 ?_; intro gb809 w43 _ _ _) | ((with_reducible refine gate_callee (f := 115) rfl ?_); refine gK1 (some 8) Tryz.func115 (spec_l11DrawRight.calls (hI := iS124 HI0) (hB := UpW.out) (w := _) (h := A3.out)) ?_; intro Ao815 co815 w44 _ _ _ HI45 HO816) | ((with_reducible refine gd 5 ?_); refine bL 5 #[.int .i64 0, .int .i64 0, .int .i64 0, .string (⟨#[]⟩ : ByteArray), .slice none 0 0, .string (⟨#[]⟩ : ByteArray)] 35 ?_; intro gb820 w46 _ _ _) | ((with_reducible refine gate_callee (f := 114) rfl ?_); refine gK (some 10) Tryz.func114 (spec_l1Below.calls (hI := iS124 HI45) (hB := UpW.out) (w := _) (h := A4.out)) ?_; intro w47 _ _ _ HI48) | ((with_reducible refine gate_callee (f := 91) rfl ?_); refine gK1 (some 32) Tryz.func91 (spec_l7Draw.calls (hI := iS124 HI48) (hB := UpW.out) (w := _) (h := A41.out)) ?_; intro Ao842 co842 w49 _ _ _ HI50 HO843))
  refine bodyPost_ret (results_cell_row rfl _ _ gb809 35 #[.int .i64 t810, .int .i64 t811, .int .i64 t839, .string t840, .slice Ao842 t841.length co842, .string t817] (0, 0) _ rfl xB Tryz.underlying35 rfl (by kernel_rfl)) rfl ?_
  exact ⟨_, y0_19, rR HO843, iS124 HI50, UpW.out, UpB.out⟩
 rw [if_neg c40] at H
 have c40b0 : (t821 == 3) = false := beq_eq_false_iff_ne.mpr c40; have c40b1 : (t821 != 3) = true := bne_iff_ne.mpr c40
 simp only [Option.some.injEq, Prod.mk.injEq] at H
 obtain ⟨rfl, rfl, rfl, rfl, rfl, rfl, rfl, rfl⟩ := H; have i0_ := iB124 HI0; have i1_ : LB w0 w := ⟨HB.out⟩
 go_enter Tryz.func88, Tryz.ntmps88
 go_wp2_with (first | ((with_reducible refine gd 3 ?_); refine bL 3 #[.int .i64 a1_0, .int .i64 a1_1] 38 ?_; intro gb808 w51 _ _ _) | ((with_reducible refine gd 4 ?_); refine bL 4 #[.int .i64 0, .int .i64 0, .int .i64 0, .string (⟨#[]⟩ : ByteArray), .slice none 0 0, .string (⟨#[]⟩ : ByteArray)] 35 ?_; intro gb809 w52 _ _ _) | ((with_reducible refine gate_callee (f := 115) rfl ?_); refine gK1 (some 8) Tryz.func115 (spec_l11DrawRight.calls (hI := iS124 HI0) (hB := UpW.out) (w := _) (h := A3.out)) ?_; intro Ao815 co815 w53 _ _ _ HI54 HO816) | ((with_reducible refine gd 5 ?_); refine bL 5 #[.int .i64 0, .int .i64 0, .int .i64 0, .string (⟨#[]⟩ : ByteArray), .slice none 0 0, .string (⟨#[]⟩ : ByteArray)] 35 ?_; intro gb820 w55 _ _ _) | ((with_reducible refine gate_callee (f := 114) rfl ?_); refine gK (some 10) Tryz.func114 (spec_l1Below.calls (hI := iS124 HI54) (hB := UpW.out) (w := _) (h := A4.out)) ?_; intro w56 _ _ _ HI57))
 refine bodyPost_ret (results_cell_row rfl _ _ gb809 35 #[.int .i64 t810, .int .i64 t811, .int .i64 t812, .string t813, .slice Ao815 t814.length co815, .string t817] (0, 0) _ rfl xB Tryz.underlying35 rfl (by kernel_rfl)) rfl ?_
 exact ⟨_, y0_19, rR HO816, iS124 HI57, UpW.out, UpB.out⟩

/-! ### spec_DrawSee: function 45 -/
def spec_DrawSee.f (k : Nat) (l0 : List Int) : Option (Int × Int × Int × Int × Int × ByteArray × List Int × ByteArray × Int × ByteArray × List Int) := (spec_l1New.f k l0).bind fun bt849 => ((spec_l7DrawConf.f bt849.1 bt849.2.1 bt849.2.2).bind fun bt853 => ((spec_l11Draw.f k bt849.1 bt853.2.2.1 bt853.2.2.2 bt853.1 bt853.2.1).bind fun bt858 => ((spec_l7Draw.f k bt849.1 bt858.2.2.2.2.2.2.1 bt858.2.2.2.2.2.2.2 bt853.1 bt853.2.1).bind fun bt869 => (some (bt853.1, bt853.2.1, bt858.1, bt858.2.1, bt858.2.2.1, bt858.2.2.2.1, bt858.2.2.2.2.1, bt858.2.2.2.2.2.1, bt869.1, bt869.2.1, bt869.2.2.1)))))
theorem spec_DrawSee.mono : ∀ a0 k, LeO (spec_DrawSee.f k a0) (spec_DrawSee.f (k + 1) a0) := by
 intro a0 k
 unfold spec_DrawSee.f
 repeat' first | (with_reducible exact spec_l11Draw.mono _ _ _ _ _ _) | (with_reducible exact spec_l1New.mono _ _) | (with_reducible exact spec_l7Draw.mono _ _ _ _ _ _) | (with_reducible exact LeO.refl _) | (with_reducible exact LeO.none _) | (with_reducible refine LeO.ite ?_ ?_) | (with_reducible refine LeO.bind ?_ (fun _ => ?_))
def spec_DrawSee.T4 : Bool × List (List Nat × List Nat) := (true, [([], []), ([], []), ([], []), ([], []), ([2, 3], [2, 3]), ([0, 4, 0], [0]), ([1, 5, 0, 1, 5], [1]), ([4, 6, 0, 1, 2, 3, 4, 5, 6], [4])])
def spec_DrawSee.B4 : List Nat := [0, 0, 0, 0, 12, 29, 63, 127]
theorem spec_DrawSee.tab4 : rtab .any (opsOf Tryz.f45 4) = spec_DrawSee.T4 := by kernel_rfl
theorem spec_DrawSee.bits4 : waitsOk spec_DrawSee.T4.2 spec_DrawSee.B4 = true := by kernel_rfl
set_option maxHeartbeats 8000000 in
set_option maxRecDepth 100000 in
theorem spec_DrawSee.calls (k : Nat) (A0 : Option Addr) (c0 : Nat) (l0 : List Int) (r1 : Int) (r2 : Int) (r3 : Int) (r4 : Int) (r5 : Int) (r6 : ByteArray) (r7 : List Int) (r8 : ByteArray) (r9 : Int) (r10 : ByteArray) (r11 : List Int) (w : World) (hr0 : Kd.C (Kd.int .u8) w A0 l0.length l0) (hc0 : l0.length ≤ c0) (h : spec_DrawSee.f k l0 = some (r1, r2, r3, r4, r5, r6, r7, r8, r9, r10, r11)) :
  Calls Tryz.prog 45 #[.slice A0 l0.length c0] w fun e w' => ∃ v6_ v10_ : Value, e = .returned (.tuple #[.agg #[.int .i64 r1, .int .i64 r2], .agg #[.int .i64 r3, .int .i64 r4, .int .i64 r5, .string r6, v6_, .string r8], .agg #[.int .i64 r9, .string r10, v10_]]) ∧ Kd.R (Kd.int .i64) 3 w' w.heap.size (fun k_ => some k_ ≠ (v10_ : Value).ownBlock) v6_ r7 ∧ Kd.R (Kd.int .i64) 3 w' w.heap.size (fun k_ => some k_ ≠ (v6_ : Value).ownBlock) v10_ r11 ∧ Below w.heap.size w w' := by
 have hu38 := Tryz.underlying38; have hu35 := Tryz.underlying35; have hu33 := Tryz.underlying33; have HR0 := Aside0.mk hr0; have HC0 := Aside0.mk hc0; clear hr0 hc0; have HB := Aside0.mk (Below.refl w.heap.size w)
 have H : ((spec_l1New.f k l0).bind fun bt849 => ((spec_l7DrawConf.f bt849.1 bt849.2.1 bt849.2.2).bind fun bt853 => ((spec_l11Draw.f k bt849.1 bt853.2.2.1 bt853.2.2.2 bt853.1 bt853.2.1).bind fun bt858 => ((spec_l7Draw.f k bt849.1 bt858.2.2.2.2.2.2.1 bt858.2.2.2.2.2.2.2 bt853.1 bt853.2.1).bind fun bt869 => (some (bt853.1, bt853.2.1, bt858.1, bt858.2.1, bt858.2.2.1, bt858.2.2.2.1, bt858.2.2.2.2.1, bt858.2.2.2.2.2.1, bt869.1, bt869.2.1, bt869.2.2.1)))))) = some (r1, r2, r3, r4, r5, r6, r7, r8, r9, r10, r11) := h
 clear h; obtain ⟨⟨t849, t850, t851⟩, A20, H⟩ := Option.bind_eq_some_iff.mp H
 try dsimp only at H
 have A2 := Aside0.mk A20; clear A20; obtain ⟨⟨t853, t854, t855, t856⟩, A30, H⟩ := Option.bind_eq_some_iff.mp H
 try dsimp only at H
 have A3 := Aside0.mk A30; clear A30; obtain ⟨⟨t858, t859, t860, t861, t862, t865, t866, t867⟩, A40, H⟩ := Option.bind_eq_some_iff.mp H
 try dsimp only at H
 have A4 := Aside0.mk A40; clear A40; obtain ⟨⟨t869, t870, t871, t874, t875⟩, A50, H⟩ := Option.bind_eq_some_iff.mp H
 try dsimp only at H
 have A5 := Aside0.mk A50; clear A50
 simp only [Option.some.injEq, Prod.mk.injEq] at H
 obtain ⟨rfl, rfl, rfl, rfl, rfl, rfl, rfl, rfl, rfl, rfl, rfl⟩ := H
 go_enter Tryz.func45, Tryz.ntmps45
 try go_wp2_with (first | ((with_reducible refine gd 2 ?_); refine bL 2 #[.int .i64 0, .int .i64 0] 38 ?_; intro gb846 w6 _ _ _) | ((with_reducible refine gd 3 ?_); refine bL 3 #[.int .i64 0, .int .i64 0, .int .i64 0, .string (⟨#[]⟩ : ByteArray), .slice none 0 0, .string (⟨#[]⟩ : ByteArray)] 35 ?_; intro gb847 w7 _ _ _) | ((with_reducible refine gd 4 ?_); refine bL 4 #[.int .i64 0, .string (⟨#[]⟩ : ByteArray), .slice none 0 0] 33 ?_; intro gb848 w8 _ _ _) | ((with_reducible refine gate_callee (f := 86) rfl ?_); refine wL ?_; intro w9 _; refine gN (some 9) Tryz.func86 (spec_l1New.calls (hB := Below.refl _ _) (hr0 := pC HR0) (hc0 := HC0.out) (w := _) (h := A2.out)) ?_; intro g852 w10 _ _ _ HI11) | ((with_reducible refine gate_callee (f := 87) rfl ?_); refine gK (some 11) Tryz.func87 (spec_l7DrawConf.calls (hI := iS124 HI11) (hB := UpW.out) (w := _) (h := A3.out)) ?_; intro w12 _ _ _ HI13) | ((with_reducible refine gd 6 ?_); refine bL 6 #[.int .i64 0, .int .i64 0] 38 ?_; intro gb857 w14 _ _ _) | ((with_reducible refine gate_callee (f := 88) rfl ?_); refine gK1 (some 14) Tryz.func88 (spec_l11Draw.calls (hI := iS124 HI13) (hB := UpW.out) (w := _) (h := A4.out)) ?_; intro Ao863 co863 w15 _ _ _ HI16 HO864) | ((with_reducible refine gd 7 ?_); refine bL 7 #[.int .i64 0, .int .i64 0, .int .i64 0, .string (⟨#[]⟩ : ByteArray), .slice none 0 0, .string (⟨#[]⟩ : ByteArray)] 35 ?_; intro gb868 w17 _ _ _))
 refine sB [g852, gb846, gb847, gb848] spec_DrawSee.tab4 spec_DrawSee.bits4 ?_; intro w18 _ HT_ HW_
 refine tB 0 (some 15) (bz 8 1) HT_ HW_ ?_
 refine tB 1 (some 16) (bz 8 3) HT_ HW_ ?_
 refine pA 2 (some 17) (bz 8 7) HT_ ?_
 refine tB 3 (some 18) (bz 8 15) HT_ HW_ ?_
 refine o1 4 (some 19) (bz 8 31) HT_ rfl (kK1 Tryz.func91 (spec_l7Draw.calls (hI := iS124 HI16) (hB := UpW.out) (w := _) (h := A5.out)) ?_); intro Ao872 co872 w19 _ _ _ HI20 HO873
 refine nA (some 19) ?_
 refine o1 5 none (bz 8 63) HT_ rfl (kS ?_)
 refine o1 6 none (bz 8 127) HT_ rfl (kS ?_)
 refine o1 7 none (bz 8 255) HT_ rfl (kS ?_)
 refine done_ (done_of HT_.out (by kernel_rfl)) ?_
 try go_wp2
 refine bodyPost_ret (results_list (rs := [.cell 2 38, .cell 3 35, .cell 4 33]) rfl (by simp) (.cell gb846 38 #[.int .i64 t853, .int .i64 t854] (0, 0) _ rfl xB Tryz.underlying38 rfl (by kernel_rfl) (.cell gb847 35 #[.int .i64 t858, .int .i64 t859, .int .i64 t860, .string t861, .slice Ao863 t862.length co863, .string t865] (0, 0) _ rfl xB Tryz.underlying35 rfl (by kernel_rfl) (.cell gb848 33 #[.int .i64 t869, .string t870, .slice Ao872 t871.length co872] (0, 0) _ rfl xB Tryz.underlying33 rfl (by kernel_rfl) .nil)))) rfl ?_
 exact ⟨_, _, y0_19, rE HO864 HO873, rY HO873 HO864, UpW.out⟩

/-! ### spec_l7DrawTwo: function 92 -/
def spec_l7DrawTwo.f (k : Nat) (l0 : List Int) : Option (Int × ByteArray × List Int × Int × ByteArray × List Int) := (spec_l1New.f k l0).bind fun bt878 => ((spec_l7DrawConf.f bt878.1 bt878.2.1 bt878.2.2).bind fun bt882 => ((spec_l7Draw.f k bt878.1 bt882.2.2.1 bt882.2.2.2 bt882.1 bt882.2.1).bind fun bt887 => ((spec_l1Once.f bt878.1 bt887.2.2.2.1 bt887.2.2.2.2 3).bind fun bt895 => (if bt895.1 = true then ((spec_l7Copy.f bt887.1 bt887.2.1 bt887.2.2.1).bind fun bt898 => (some (bt887.1, bt887.2.1, bt887.2.2.1, bt898.1, bt898.2.1, bt898.2.2))) else ((spec_l7Draw.f k bt878.1 bt895.2.1 bt895.2.2 bt882.1 bt882.2.1).bind fun bt903 => (some (bt887.1, bt887.2.1, bt887.2.2.1, bt903.1, bt903.2.1, bt903.2.2.1)))))))
theorem spec_l7DrawTwo.mono : ∀ a0 k, LeO (spec_l7DrawTwo.f k a0) (spec_l7DrawTwo.f (k + 1) a0) := by
 intro a0 k
 unfold spec_l7DrawTwo.f
 repeat' first | (with_reducible exact spec_l1New.mono _ _) | (with_reducible exact spec_l7Draw.mono _ _ _ _ _ _) | (with_reducible exact LeO.refl _) | (with_reducible exact LeO.none _) | (with_reducible refine LeO.ite ?_ ?_) | (with_reducible refine LeO.bind ?_ (fun _ => ?_))
def spec_l7DrawTwo.T5 : Bool × List (List Nat × List Nat) := (true, [([], []), ([], []), ([1], [1]), ([0, 2, 0], [0]), ([2, 3, 0, 1, 2, 3], [2])])
def spec_l7DrawTwo.B5 : List Nat := [0, 0, 2, 7, 15]
theorem spec_l7DrawTwo.tab5 : rtab .any (opsOf Tryz.f92 5) = spec_l7DrawTwo.T5 := by kernel_rfl
theorem spec_l7DrawTwo.bits5 : waitsOk spec_l7DrawTwo.T5.2 spec_l7DrawTwo.B5 = true := by kernel_rfl
def spec_l7DrawTwo.T6 : Bool × List (List Nat × List Nat) := (true, [([], []), ([], []), ([], []), ([1, 2], [1, 2]), ([0, 3, 0], [0]), ([3, 4, 0, 1, 2, 3, 4], [3])])
def spec_l7DrawTwo.B6 : List Nat := [0, 0, 0, 6, 15, 31]
theorem spec_l7DrawTwo.tab6 : rtab .any (opsOf Tryz.f92 6) = spec_l7DrawTwo.T6 := by kernel_rfl
theorem spec_l7DrawTwo.bits6 : waitsOk spec_l7DrawTwo.T6.2 spec_l7DrawTwo.B6 = true := by kernel_rfl
set_option maxHeartbeats 8000000 in
set_option maxRecDepth 100000 in
theorem spec_l7DrawTwo.calls (k : Nat) (A0 : Option Addr) (c0 : Nat) (l0 : List Int) (r1 : Int) (r2 : ByteArray) (r3 : List Int) (r4 : Int) (r5 : ByteArray) (r6 : List Int) (w : World) (hr0 : Kd.C (Kd.int .u8) w A0 l0.length l0) (hc0 : l0.length ≤ c0) (h : spec_l7DrawTwo.f k l0 = some (r1, r2, r3, r4, r5, r6)) :
  Calls Tryz.prog 92 #[.slice A0 l0.length c0] w fun e w' => ∃ v2_ v5_ : Value, e = .returned (.tuple #[.agg #[.int .i64 r1, .string r2, v2_], .agg #[.int .i64 r4, .string r5, v5_]]) ∧ Kd.R (Kd.int .i64) 3 w' w.heap.size (fun k_ => some k_ ≠ (v5_ : Value).ownBlock) v2_ r3 ∧ Kd.R (Kd.int .i64) 3 w' w.heap.size (fun k_ => some k_ ≠ (v2_ : Value).ownBlock) v5_ r6 ∧ Below w.heap.size w w' := by
 have hu33 := Tryz.underlying33; have hu38 := Tryz.underlying38; have HR0 := Aside0.mk hr0; have HC0 := Aside0.mk hc0; clear hr0 hc0; have HB := Aside0.mk (Below.refl w.heap.size w)
 have H : ((spec_l1New.f k l0).bind fun bt878 => ((spec_l7DrawConf.f bt878.1 bt878.2.1 bt878.2.2).bind fun bt882 => ((spec_l7Draw.f k bt878.1 bt882.2.2.1 bt882.2.2.2 bt882.1 bt882.2.1).bind fun bt887 => ((spec_l1Once.f bt878.1 bt887.2.2.2.1 bt887.2.2.2.2 3).bind fun bt895 => (if bt895.1 = true then ((spec_l7Copy.f bt887.1 bt887.2.1 bt887.2.2.1).bind fun bt898 => (some (bt887.1, bt887.2.1, bt887.2.2.1, bt898.1, bt898.2.1, bt898.2.2))) else ((spec_l7Draw.f k bt878.1 bt895.2.1 bt895.2.2 bt882.1 bt882.2.1).bind fun bt903 => (some (bt887.1, bt887.2.1, bt887.2.2.1, bt903.1, bt903.2.1, bt903.2.2.1)))))))) = some (r1, r2, r3, r4, r5, r6) := h
 clear h; obtain ⟨⟨t878, t879, t880⟩, A20, H⟩ := Option.bind_eq_some_iff.mp H
 try dsimp only at H
 have A2 := Aside0.mk A20; clear A20; obtain ⟨⟨t882, t883, t884, t885⟩, A30, H⟩ := Option.bind_eq_some_iff.mp H
 try dsimp only at H
 have A3 := Aside0.mk A30; clear A30; obtain ⟨⟨t887, t888, t889, t892, t893⟩, A40, H⟩ := Option.bind_eq_some_iff.mp H
 try dsimp only at H
 have A4 := Aside0.mk A40; clear A40; obtain ⟨⟨t895, t896, t897⟩, A50, H⟩ := Option.bind_eq_some_iff.mp H
 try dsimp only at H
 have A5 := Aside0.mk A50; clear A50
 by_cases c6 : t895 = true
 ·
  subst c6
  rw [if_pos rfl] at H
  obtain ⟨⟨t898, t899, t900⟩, A70, H⟩ := Option.bind_eq_some_iff.mp H
  try dsimp only at H
  have A7 := Aside0.mk A70; clear A70
  simp only [Option.some.injEq, Prod.mk.injEq] at H
  obtain ⟨rfl, rfl, rfl, rfl, rfl, rfl⟩ := H
  go_enter Tryz.func92, Tryz.ntmps92
  try go_wp2_with (first | ((with_reducible refine gd 2 ?_); refine bL 2 #[.int .i64 0, .string (⟨#[]⟩ : ByteArray), .slice none 0 0] 33 ?_; intro gb876 w8 _ _ _) | ((with_reducible refine gd 3 ?_); refine bL 3 #[.int .i64 0, .string (⟨#[]⟩ : ByteArray), .slice none 0 0] 33 ?_; intro gb877 w9 _ _ _) | ((with_reducible refine gate_callee (f := 86) rfl ?_); refine wL ?_; intro w10 _; refine gN (some 8) Tryz.func86 (spec_l1New.calls (hB := Below.refl _ _) (hr0 := pC HR0) (hc0 := HC0.out) (w := _) (h := A2.out)) ?_; intro g881 w11 _ _ _ HI12) | ((with_reducible refine gate_callee (f := 87) rfl ?_); refine gK (some 10) Tryz.func87 (spec_l7DrawConf.calls (hI := iS124 HI12) (hB := UpW.out) (w := _) (h := A3.out)) ?_; intro w13 _ _ _ HI14) | ((with_reducible refine gd 5 ?_); refine bL 5 #[.int .i64 0, .int .i64 0] 38 ?_; intro gb886 w15 _ _ _) | ((with_reducible refine gate_callee (f := 91) rfl ?_); refine gK1 (some 13) Tryz.func91 (spec_l7Draw.calls (hI := iS124 HI14) (hB := UpW.out) (w := _) (h := A4.out)) ?_; intro Ao890 co890 w16 _ _ _ HI17 HO891) | ((with_reducible refine gd 6 ?_); refine bL 6 #[.int .i64 0, .string (⟨#[]⟩ : ByteArray), .slice none 0 0] 33 ?_; intro gb894 w18 _ _ _) | ((with_reducible refine gate_callee (f := 93) rfl ?_); refine gK (some 15) Tryz.func93 (spec_l1Once.calls (hI := iS124 HI17) (hB := UpW.out) (w := _) (h := A5.out)) ?_; intro w19 _ _ _ HI20))
  refine sB [gb876, gb877] spec_l7DrawTwo.tab5 spec_l7DrawTwo.bits5 ?_; intro w21 _ HT_ HW_
  refine tB 0 (some 16) (bz 5 1) HT_ HW_ ?_
  refine tB 1 (some 17) (bz 5 3) HT_ HW_ ?_
  refine o1 2 (some 18) (bz 5 7) HT_ rfl (kC1 Tryz.func79 (spec_l7Copy.calls (hr0_2 := rC HO891) (hc0_2 := rL HO891) (w := _) (h := A7.out)) ?_); intro Ao901 co901 w22 _ HO902
  refine nA (some 18) ?_
  refine o1 3 none (bz 5 15) HT_ rfl (kS ?_)
  refine o1 4 none (bz 5 31) HT_ rfl (kS ?_)
  refine done_ (done_of HT_.out (by kernel_rfl)) ?_
  try go_wp2
  refine bodyPost_ret (results_cc rfl _ _ gb876 gb877 33 33 #[.int .i64 t887, .string t888, .slice Ao890 t889.length co890] #[.int .i64 t898, .string t899, .slice Ao901 t900.length co901] (0, 0) (0, 0) _ _ rfl xB Tryz.underlying33 rfl (by kernel_rfl) rfl xB Tryz.underlying33 rfl (by kernel_rfl)) rfl ?_
  exact ⟨_, _, y0_19, rE HO891 HO902, rY HO902 HO891, UpW.out⟩
 replace c6 := Bool.eq_false_iff.mpr c6; subst c6
 rw [if_neg (show ¬ (false = true) by decide)] at H
 obtain ⟨⟨t903, t904, t905, t908, t909⟩, A230, H⟩ := Option.bind_eq_some_iff.mp H
 try dsimp only at H
 have A23 := Aside0.mk A230; clear A230
 simp only [Option.some.injEq, Prod.mk.injEq] at H
 obtain ⟨rfl, rfl, rfl, rfl, rfl, rfl⟩ := H
 go_enter Tryz.func92, Tryz.ntmps92
 try go_wp2_with (first | ((with_reducible refine gd 2 ?_); refine bL 2 #[.int .i64 0, .string (⟨#[]⟩ : ByteArray), .slice none 0 0] 33 ?_; intro gb876 w24 _ _ _) | ((with_reducible refine gd 3 ?_); refine bL 3 #[.int .i64 0, .string (⟨#[]⟩ : ByteArray), .slice none 0 0] 33 ?_; intro gb877 w25 _ _ _) | ((with_reducible refine gate_callee (f := 86) rfl ?_); refine wL ?_; intro w26 _; refine gN (some 8) Tryz.func86 (spec_l1New.calls (hB := Below.refl _ _) (hr0 := pC HR0) (hc0 := HC0.out) (w := _) (h := A2.out)) ?_; intro g881 w27 _ _ _ HI28) | ((with_reducible refine gate_callee (f := 87) rfl ?_); refine gK (some 10) Tryz.func87 (spec_l7DrawConf.calls (hI := iS124 HI28) (hB := UpW.out) (w := _) (h := A3.out)) ?_; intro w29 _ _ _ HI30) | ((with_reducible refine gd 5 ?_); refine bL 5 #[.int .i64 0, .int .i64 0] 38 ?_; intro gb886 w31 _ _ _) | ((with_reducible refine gate_callee (f := 91) rfl ?_); refine gK1 (some 13) Tryz.func91 (spec_l7Draw.calls (hI := iS124 HI30) (hB := UpW.out) (w := _) (h := A4.out)) ?_; intro Ao890 co890 w32 _ _ _ HI33 HO891) | ((with_reducible refine gd 6 ?_); refine bL 6 #[.int .i64 0, .string (⟨#[]⟩ : ByteArray), .slice none 0 0] 33 ?_; intro gb894 w34 _ _ _) | ((with_reducible refine gate_callee (f := 93) rfl ?_); refine gK (some 15) Tryz.func93 (spec_l1Once.calls (hI := iS124 HI33) (hB := UpW.out) (w := _) (h := A5.out)) ?_; intro w35 _ _ _ HI36))
 refine sB [g881, gb876, gb877] spec_l7DrawTwo.tab6 spec_l7DrawTwo.bits6 ?_; intro w37 _ HT_ HW_
 refine tB 0 (some 19) (bz 6 1) HT_ HW_ ?_
 refine pA 1 (some 20) (bz 6 3) HT_ ?_
 refine tB 2 (some 21) (bz 6 7) HT_ HW_ ?_
 refine o1 3 (some 22) (bz 6 15) HT_ rfl (kK1 Tryz.func91 (spec_l7Draw.calls (hI := iS124 HI36) (hB := UpW.out) (w := _) (h := A23.out)) ?_); intro Ao906 co906 w38 _ _ _ HI39 HO907
 refine nA (some 22) ?_
 refine o1 4 none (bz 6 31) HT_ rfl (kS ?_)
 refine o1 5 none (bz 6 63) HT_ rfl (kS ?_)
 refine done_ (done_of HT_.out (by kernel_rfl)) ?_
 try go_wp2
 refine bodyPost_ret (results_cc rfl _ _ gb876 gb877 33 33 #[.int .i64 t887, .string t888, .slice Ao890 t889.length co890] #[.int .i64 t903, .string t904, .slice Ao906 t905.length co906] (0, 0) (0, 0) _ _ rfl xB Tryz.underlying33 rfl (by kernel_rfl) rfl xB Tryz.underlying33 rfl (by kernel_rfl)) rfl ?_
 exact ⟨_, _, y0_19, rE HO891 HO907, rY HO907 HO891, UpW.out⟩

/-! ### spec_DrawQcLater: function 46 -/
def spec_DrawQcLater.f (k : Nat) (l0 : List Int) : Option (Int × ByteArray × List Int × Int × ByteArray × List Int) := (spec_l7DrawTwo.f k l0).bind fun bt912 => (some (bt912.1, bt912.2.1, bt912.2.2.1, bt912.2.2.2.1, bt912.2.2.2.2.1, bt912.2.2.2.2.2))
theorem spec_DrawQcLater.mono : ∀ a0 k, LeO (spec_DrawQcLater.f k a0) (spec_DrawQcLater.f (k + 1) a0) := by
 intro a0 k
 unfold spec_DrawQcLater.f
 repeat' first | (with_reducible exact spec_l7DrawTwo.mono _ _) | (with_reducible exact LeO.refl _) | (with_reducible exact LeO.none _) | (with_reducible refine LeO.ite ?_ ?_) | (with_reducible refine LeO.bind ?_ (fun _ => ?_))
def spec_DrawQcLater.T2 : Bool × List (List Nat × List Nat) := (true, [([], []), ([], []), ([0, 0], [0]), ([1, 2, 0, 1, 2], [1])])
def spec_DrawQcLater.B2 : List Nat := [0, 0, 1, 7]
theorem spec_DrawQcLater.tab2 : rtab .any (opsOf Tryz.f46 2) = spec_DrawQcLater.T2 := by kernel_rfl
theorem spec_DrawQcLater.bits2 : waitsOk spec_DrawQcLater.T2.2 spec_DrawQcLater.B2 = true := by kernel_rfl
set_option maxHeartbeats 8000000 in
set_option maxRecDepth 100000 in
theorem spec_DrawQcLater.calls (k : Nat) (A0 : Option Addr) (c0 : Nat) (l0 : List Int) (r1 : Int) (r2 : ByteArray) (r3 : List Int) (r4 : Int) (r5 : ByteArray) (r6 : List Int) (w : World) (hr0 : Kd.C (Kd.int .u8) w A0 l0.length l0) (hc0 : l0.length ≤ c0) (h : spec_DrawQcLater.f k l0 = some (r1, r2, r3, r4, r5, r6)) :
  Calls Tryz.prog 46 #[.slice A0 l0.length c0] w fun e w' => ∃ v2_ v5_ : Value, e = .returned (.tuple #[.agg #[.int .i64 r1, .string r2, v2_], .agg #[.int .i64 r4, .string r5, v5_]]) ∧ Kd.R (Kd.int .i64) 3 w' w.heap.size (fun k_ => some k_ ≠ (v5_ : Value).ownBlock) v2_ r3 ∧ Kd.R (Kd.int .i64) 3 w' w.heap.size (fun k_ => some k_ ≠ (v2_ : Value).ownBlock) v5_ r6 ∧ Below w.heap.size w w' := by
 have hu33 := Tryz.underlying33; have HR0 := Aside0.mk hr0; have HC0 := Aside0.mk hc0; clear hr0 hc0; have HB := Aside0.mk (Below.refl w.heap.size w)
 have H : ((spec_l7DrawTwo.f k l0).bind fun bt912 => (some (bt912.1, bt912.2.1, bt912.2.2.1, bt912.2.2.2.1, bt912.2.2.2.2.1, bt912.2.2.2.2.2))) = some (r1, r2, r3, r4, r5, r6) := h
 clear h; obtain ⟨⟨t912, t913, t914, t917, t918, t919⟩, A20, H⟩ := Option.bind_eq_some_iff.mp H
 try dsimp only at H
 have A2 := Aside0.mk A20; clear A20
 simp only [Option.some.injEq, Prod.mk.injEq] at H
 obtain ⟨rfl, rfl, rfl, rfl, rfl, rfl⟩ := H
 go_enter Tryz.func46, Tryz.ntmps46
 try go_wp2_with (first | ((with_reducible refine gd 2 ?_); refine bL 2 #[.int .i64 0, .string (⟨#[]⟩ : ByteArray), .slice none 0 0] 33 ?_; intro gb910 w3 _ _ _) | ((with_reducible refine gd 3 ?_); refine bL 3 #[.int .i64 0, .string (⟨#[]⟩ : ByteArray), .slice none 0 0] 33 ?_; intro gb911 w4 _ _ _) | ((with_reducible refine gate_callee (f := 92) rfl ?_); refine gC2 (some 8) Tryz.func92 (spec_l7DrawTwo.calls (hr0 := pC HR0) (hc0 := HC0.out) (w := _) (h := A2.out)) ?_; intro Ao915 co915 Ao920 co920 w5 _ HO916 HO921) | ((with_reducible refine gd 4 ?_); refine bL 4 #[.int .i64 0, .string (⟨#[]⟩ : ByteArray), .slice none 0 0] 33 ?_; intro gb922 w6 _ _ _) | ((with_reducible refine gd 5 ?_); refine bL 5 #[.int .i64 0, .string (⟨#[]⟩ : ByteArray), .slice none 0 0] 33 ?_; intro gb923 w7 _ _ _))
 refine sB [gb910, gb911] spec_DrawQcLater.tab2 spec_DrawQcLater.bits2 ?_; intro w8 _ HT_ HW_
 refine tB 0 (some 11) (bz 4 1) HT_ HW_ ?_
 refine tB 1 (some 12) (bz 4 3) HT_ HW_ ?_
 refine o1 2 none (bz 4 7) HT_ rfl (kS ?_)
 refine o1 3 none (bz 4 15) HT_ rfl (kS ?_)
 refine done_ (done_of HT_.out (by kernel_rfl)) ?_
 try go_wp2
 refine bodyPost_ret (results_cc rfl _ _ gb910 gb911 33 33 #[.int .i64 t912, .string t913, .slice Ao915 t914.length co915] #[.int .i64 t917, .string t918, .slice Ao920 t919.length co920] (0, 0) (0, 0) _ _ rfl xB Tryz.underlying33 rfl (by kernel_rfl) rfl xB Tryz.underlying33 rfl (by kernel_rfl)) rfl ?_
 exact ⟨_, _, y0_19, rK HO916, rK HO921, UpW.out⟩

/-! ### laws_FnEitherOrder: function 9 -/
def laws_FnEitherOrder.f (k : Nat) (l0 : List Int) : Option (Bool) := (laws_big.f l0).bind fun t924 => (if t924 = true then (some true) else ((spec_DrawSee.f k l0).bind fun bt925 => ((spec_DrawQcLater.f k l0).bind fun bt943 => ((impl_See.f k bt925.1 bt925.2.1 bt925.2.2.1 bt925.2.2.2.1 bt925.2.2.2.2.1 bt925.2.2.2.2.2.1 bt925.2.2.2.2.2.2.1 bt925.2.2.2.2.2.2.2.1 bt925.2.2.2.2.2.2.2.2.1 bt925.2.2.2.2.2.2.2.2.2.1 bt925.2.2.2.2.2.2.2.2.2.2).bind fun bt955 => ((impl_See.f k bt925.1 bt925.2.1 bt955.1 bt955.2.1 bt955.2.2.1 bt955.2.2.2.1 bt955.2.2.2.2.1 bt955.2.2.2.2.2 bt943.1 bt943.2.1 bt943.2.2.1).bind fun bt963 => ((impl_See.f k bt925.1 bt925.2.1 bt925.2.2.1 bt925.2.2.2.1 bt925.2.2.2.2.1 bt925.2.2.2.2.2.1 bt925.2.2.2.2.2.2.1 bt925.2.2.2.2.2.2.2.1 bt943.1 bt943.2.1 bt943.2.2.1).bind fun bt972 => ((impl_See.f k bt925.1 bt925.2.1 bt972.1 bt972.2.1 bt972.2.2.1 bt972.2.2.2.1 bt972.2.2.2.2.1 bt972.2.2.2.2.2 bt925.2.2.2.2.2.2.2.2.1 bt925.2.2.2.2.2.2.2.2.2.1 bt925.2.2.2.2.2.2.2.2.2.2).bind fun bt980 => ((spec_See.f k bt925.1 bt925.2.1 bt925.2.2.1 bt925.2.2.2.1 bt925.2.2.2.2.1 bt925.2.2.2.2.2.1 bt925.2.2.2.2.2.2.1 bt925.2.2.2.2.2.2.2.1 bt943.1 bt943.2.1 bt943.2.2.1).bind fun bt989 => ((spec_See.f k bt925.1 bt925.2.1 bt989.1 bt989.2.1 bt989.2.2.1 bt989.2.2.2.1 bt989.2.2.2.2.1 bt989.2.2.2.2.2 bt925.2.2.2.2.2.2.2.2.1 bt925.2.2.2.2.2.2.2.2.2.1 bt925.2.2.2.2.2.2.2.2.2.2).bind fun bt997 => ((impl_SafeSame.f k bt980.1 bt980.2.1 bt980.2.2.1 bt980.2.2.2.1 bt980.2.2.2.2.1 bt980.2.2.2.2.2 bt997.1 bt997.2.1 bt997.2.2.1 bt997.2.2.2.1 bt997.2.2.2.2.1 bt997.2.2.2.2.2).bind fun t1006 => (if t1006 = true then (if bt963.2.1 = bt980.2.1 then (if bt963.2.2.1 = bt980.2.2.1 then (some (bt963.1 == bt980.1)) else (some false)) else (some false)) else (some false))))))))))))
theorem laws_FnEitherOrder.mono : ∀ a0 k, LeO (laws_FnEitherOrder.f k a0) (laws_FnEitherOrder.f (k + 1) a0) := by
 intro a0 k
 unfold laws_FnEitherOrder.f
 repeat' first | (with_reducible exact impl_SafeSame.mono _ _ _ _ _ _ _ _ _ _ _ _ _) | (with_reducible exact impl_See.mono _ _ _ _ _ _ _ _ _ _ _ _) | (with_reducible exact spec_DrawQcLater.mono _ _) | (with_reducible exact spec_DrawSee.mono _ _) | (with_reducible exact spec_See.mono _ _ _ _ _ _ _ _ _ _ _ _) | (with_reducible exact LeO.refl _) | (with_reducible exact LeO.none _) | (with_reducible refine LeO.ite ?_ ?_) | (with_reducible refine LeO.bind ?_ (fun _ => ?_))
def laws_FnEitherOrder.T5 : Bool × List (List Nat × List Nat) := (true, [([], []), ([], []), ([], []), ([], []), ([1, 2, 3], [1, 2, 3]), ([], []), ([0, 4, 5, 4], [0, 4, 5]), ([], []), ([7, 6, 6, 0, 1, 2, 3, 4, 5, 6, 7], [6, 7])])
def laws_FnEitherOrder.B5 : List Nat := [0, 0, 0, 0, 14, 0, 63, 0, 255]
theorem laws_FnEitherOrder.tab5 : rtab .any (opsOf Tryz.f9 5) = laws_FnEitherOrder.T5 := by kernel_rfl
theorem laws_FnEitherOrder.bits5 : waitsOk laws_FnEitherOrder.T5.2 laws_FnEitherOrder.B5 = true := by kernel_rfl
def laws_FnEitherOrder.T6 : Bool × List (List Nat × List Nat) := (true, [([], []), ([], []), ([], []), ([], []), ([1, 2, 3], [1, 2, 3]), ([], []), ([0, 4, 5, 4], [0, 4, 5]), ([], []), ([7, 6, 6, 0, 1, 2, 3, 4, 5, 6, 7], [6, 7])])
def laws_FnEitherOrder.B6 : List Nat := [0, 0, 0, 0, 14, 0, 63, 0, 255]
theorem laws_FnEitherOrder.tab6 : rtab .any (opsOf Tryz.f9 6) = laws_FnEitherOrder.T6 := by kernel_rfl
theorem laws_FnEitherOrder.bits6 : waitsOk laws_FnEitherOrder.T6.2 laws_FnEitherOrder.B6 = true := by kernel_rfl
def laws_FnEitherOrder.T7 : Bool × List (List Nat × List Nat) := (true, [([], []), ([], []), ([], []), ([], []), ([1, 2, 3], [1, 2, 3]), ([], []), ([0, 4, 5, 4], [0, 4, 5]), ([], []), ([7, 6, 6, 0, 1, 2, 3, 4, 5, 6, 7], [6, 7])])
def laws_FnEitherOrder.B7 : List Nat := [0, 0, 0, 0, 14, 0, 63, 0, 255]
theorem laws_FnEitherOrder.tab7 : rtab .any (opsOf Tryz.f9 7) = laws_FnEitherOrder.T7 := by kernel_rfl
theorem laws_FnEitherOrder.bits7 : waitsOk laws_FnEitherOrder.T7.2 laws_FnEitherOrder.B7 = true := by kernel_rfl
set_option maxHeartbeats 8000000 in
set_option maxRecDepth 100000 in
theorem laws_FnEitherOrder.calls (k : Nat) (A0 : Option Addr) (c0 : Nat) (l0 : List Int) (r : Bool) (hrt : Aside0 (r = true)) (w : World) (hr0 : Kd.C (Kd.int .u8) w A0 l0.length l0) (hc0 : l0.length ≤ c0) (h : laws_FnEitherOrder.f k l0 = some r) (hG : Glob w := by exact gG HG HB) :
  Calls Tryz.prog 9 #[.slice A0 l0.length c0] w fun e w' => e = .returned (.bool r) ∧ Below w.heap.size w w' := by
 have HG := Aside0.mk hG; clear hG; have hu38 := Tryz.underlying38; have hu35 := Tryz.underlying35; have hu33 := Tryz.underlying33; have HR0 := Aside0.mk hr0; have HC0 := Aside0.mk hc0; clear hr0 hc0; have HB := Aside0.mk (Below.refl w.heap.size w)
 have H : ((laws_big.f l0).bind fun t924 => (if t924 = true then (some true) else ((spec_DrawSee.f k l0).bind fun bt925 => ((spec_DrawQcLater.f k l0).bind fun bt943 => ((impl_See.f k bt925.1 bt925.2.1 bt925.2.2.1 bt925.2.2.2.1 bt925.2.2.2.2.1 bt925.2.2.2.2.2.1 bt925.2.2.2.2.2.2.1 bt925.2.2.2.2.2.2.2.1 bt925.2.2.2.2.2.2.2.2.1 bt925.2.2.2.2.2.2.2.2.2.1 bt925.2.2.2.2.2.2.2.2.2.2).bind fun bt955 => ((impl_See.f k bt925.1 bt925.2.1 bt955.1 bt955.2.1 bt955.2.2.1 bt955.2.2.2.1 bt955.2.2.2.2.1 bt955.2.2.2.2.2 bt943.1 bt943.2.1 bt943.2.2.1).bind fun bt963 => ((impl_See.f k bt925.1 bt925.2.1 bt925.2.2.1 bt925.2.2.2.1 bt925.2.2.2.2.1 bt925.2.2.2.2.2.1 bt925.2.2.2.2.2.2.1 bt925.2.2.2.2.2.2.2.1 bt943.1 bt943.2.1 bt943.2.2.1).bind fun bt972 => ((impl_See.f k bt925.1 bt925.2.1 bt972.1 bt972.2.1 bt972.2.2.1 bt972.2.2.2.1 bt972.2.2.2.2.1 bt972.2.2.2.2.2 bt925.2.2.2.2.2.2.2.2.1 bt925.2.2.2.2.2.2.2.2.2.1 bt925.2.2.2.2.2.2.2.2.2.2).bind fun bt980 => ((spec_See.f k bt925.1 bt925.2.1 bt925.2.2.1 bt925.2.2.2.1 bt925.2.2.2.2.1 bt925.2.2.2.2.2.1 bt925.2.2.2.2.2.2.1 bt925.2.2.2.2.2.2.2.1 bt943.1 bt943.2.1 bt943.2.2.1).bind fun bt989 => ((spec_See.f k bt925.1 bt925.2.1 bt989.1 bt989.2.1 bt989.2.2.1 bt989.2.2.2.1 bt989.2.2.2.2.1 bt989.2.2.2.2.2 bt925.2.2.2.2.2.2.2.2.1 bt925.2.2.2.2.2.2.2.2.2.1 bt925.2.2.2.2.2.2.2.2.2.2).bind fun bt997 => ((impl_SafeSame.f k bt980.1 bt980.2.1 bt980.2.2.1 bt980.2.2.2.1 bt980.2.2.2.2.1 bt980.2.2.2.2.2 bt997.1 bt997.2.1 bt997.2.2.1 bt997.2.2.2.1 bt997.2.2.2.2.1 bt997.2.2.2.2.2).bind fun t1006 => (if t1006 = true then (if bt963.2.1 = bt980.2.1 then (if bt963.2.2.1 = bt980.2.2.1 then (some (bt963.1 == bt980.1)) else (some false)) else (some false)) else (some false))))))))))))) = some r := h
 clear h; obtain ⟨t924, A20, H⟩ := Option.bind_eq_some_iff.mp H
 try dsimp only at H
 have A2 := Aside0.mk A20; clear A20
 by_cases c3 : t924 = true
 ·
  subst c3
  rw [if_pos rfl] at H
  obtain rfl := Option.some.inj H
  go_enter Tryz.func9, Tryz.ntmps9
  go_wp2_with (first | ((with_reducible refine gate_callee (f := 36) rfl ?_); refine gD (some 12) Tryz.func36 (laws_big.calls (hr0 := pC HR0) (hc0 := HC0.out) (w := _) (h := A2.out)) ?_; intro w4 _))
  go_ret
  exact ⟨y0_19, UpW.out⟩
 replace c3 := Bool.eq_false_iff.mpr c3; subst c3
 rw [if_neg (show ¬ (false = true) by decide)] at H
 obtain ⟨⟨t925, t926, t927, t928, t929, t930, t931, t934, t935, t936, t937⟩, A50, H⟩ := Option.bind_eq_some_iff.mp H
 try dsimp only at H
 have A5 := Aside0.mk A50; clear A50; obtain ⟨⟨t943, t944, t945, t948, t949, t950⟩, A60, H⟩ := Option.bind_eq_some_iff.mp H
 try dsimp only at H
 have A6 := Aside0.mk A60; clear A60; obtain ⟨⟨t955, t956, t957, t958, t959, t962⟩, A70, H⟩ := Option.bind_eq_some_iff.mp H
 try dsimp only at H
 have A7 := Aside0.mk A70; clear A70; obtain ⟨⟨t963, t964, t965, t966, t967, t970⟩, A80, H⟩ := Option.bind_eq_some_iff.mp H
 try dsimp only at H
 have A8 := Aside0.mk A80; clear A80; obtain ⟨⟨t972, t973, t974, t975, t976, t979⟩, A90, H⟩ := Option.bind_eq_some_iff.mp H
 try dsimp only at H
 have A9 := Aside0.mk A90; clear A90; obtain ⟨⟨t980, t981, t982, t983, t984, t987⟩, A100, H⟩ := Option.bind_eq_some_iff.mp H
 try dsimp only at H
 have A10 := Aside0.mk A100; clear A100; obtain ⟨⟨t989, t990, t991, t992, t993, t996⟩, A110, H⟩ := Option.bind_eq_some_iff.mp H
 try dsimp only at H
 have A11 := Aside0.mk A110; clear A110; obtain ⟨⟨t997, t998, t999, t1000, t1001, t1004⟩, A120, H⟩ := Option.bind_eq_some_iff.mp H
 try dsimp only at H
 have A12 := Aside0.mk A120; clear A120; obtain ⟨t1006, A130, H⟩ := Option.bind_eq_some_iff.mp H
 try dsimp only at H
 have A13 := Aside0.mk A130; clear A130
 by_cases c14 : t1006 = true
 ·
  subst c14
  rw [if_pos rfl] at H
  by_cases c15 : t964 = t981
  rotate_left
  ·
   rw [if_neg c15] at H
   have c15b0 : (t964 == t981) = false := beq_eq_false_iff_ne.mpr c15; have c15b1 : (t964 != t981) = true := bne_iff_ne.mpr c15
   exact absurd (hrt.out.symm.trans (Option.some.inj H).symm) (by decide)
  rw [if_pos c15] at H
  have c15b0 : (t964 == t981) = true := beq_iff_eq.mpr c15; have c15b1 : (t964 != t981) = false := bne_eq_false_iff_eq.mpr c15; clear c15
  by_cases c16 : t965 = t982
  rotate_left
  ·
   rw [if_neg c16] at H
   have c16b0 : (t965 == t982) = false := beq_eq_false_iff_ne.mpr c16; have c16b1 : (t965 != t982) = true := bne_iff_ne.mpr c16
   exact absurd (hrt.out.symm.trans (Option.some.inj H).symm) (by decide)
  rw [if_pos c16] at H
  have c16b0 : (t965 == t982) = true := beq_iff_eq.mpr c16; have c16b1 : (t965 != t982) = false := bne_eq_false_iff_eq.mpr c16; clear c16; obtain rfl := Option.some.inj H
  go_enter Tryz.func9, Tryz.ntmps9
  try go_wp2_with (first | ((with_reducible refine gate_callee (f := 36) rfl ?_); refine gD (some 12) Tryz.func36 (laws_big.calls (hr0 := pC HR0) (hc0 := HC0.out) (w := _) (h := A2.out)) ?_; intro w17 _) | ((with_reducible refine gate_callee (f := 45) rfl ?_); refine gC2 (some 15) Tryz.func45 (spec_DrawSee.calls (hr0 := pC HR0) (hc0 := HC0.out) (w := _) (h := A5.out)) ?_; intro Ao932 co932 Ao938 co938 w18 _ HO933 HO939) | ((with_reducible refine gd 3 ?_); refine bL 3 #[.int .i64 0, .int .i64 0] 38 ?_; intro gb940 w19 _ _ _) | ((with_reducible refine gd 4 ?_); refine bL 4 #[.int .i64 0, .int .i64 0, .int .i64 0, .string (⟨#[]⟩ : ByteArray), .slice none 0 0, .string (⟨#[]⟩ : ByteArray)] 35 ?_; intro gb941 w20 _ _ _) | ((with_reducible refine gd 5 ?_); refine bL 5 #[.int .i64 0, .string (⟨#[]⟩ : ByteArray), .slice none 0 0] 33 ?_; intro gb942 w21 _ _ _) | ((with_reducible refine gate_callee (f := 46) rfl ?_); refine gC2 (some 21) Tryz.func46 (spec_DrawQcLater.calls (hr0 := pC HR0) (hc0 := HC0.out) (w := _) (h := A6.out)) ?_; intro Ao946 co946 Ao951 co951 w22 _ HO947 HO952) | ((with_reducible refine gd 6 ?_); refine bL 6 #[.int .i64 0, .string (⟨#[]⟩ : ByteArray), .slice none 0 0] 33 ?_; intro gb953 w23 _ _ _) | ((with_reducible refine gd 7 ?_); refine bL 7 #[.int .i64 0, .string (⟨#[]⟩ : ByteArray), .slice none 0 0] 33 ?_; intro gb954 w24 _ _ _))
  refine sB [] laws_FnEitherOrder.tab5 laws_FnEitherOrder.bits5 ?_; intro w25 _ HT_ HW_
  refine tB 0 (some 24) (bz 9 1) HT_ HW_ ?_
  refine tB 1 (some 25) (bz 9 3) HT_ HW_ ?_
  refine tB 2 (some 26) (bz 9 7) HT_ HW_ ?_
  refine tB 3 (some 27) (bz 9 15) HT_ HW_ ?_
  refine tB 5 (some 29) (bz 9 47) HT_ HW_ ?_
  refine join_ (σ := Option Addr × Nat × Option Addr × Nat × Nat) 1 (bz 9 255) (fun s_ => [(28, .agg #[.int .i64 t955, .int .i64 t956, .int .i64 t957, .string t958, .slice s_.1 t959.length s_.2.1, .string t962]), (30, .agg #[.int .i64 t963, .int .i64 t964, .int .i64 t965, .string t966, .slice s_.2.2.1 t967.length s_.2.2.2.1, .string t970]), (8, .pointer (some ⟨s_.2.2.2.2, 0, none⟩))]) (fun s_ w' => Aside0 (Kd.R (Kd.int .i64) 3 w' w25.heap.size (iv w25 w') (.slice s_.1 t959.length s_.2.1) t959) ∧ Aside0 (Kd.R (Kd.int .i64) 3 w' w25.heap.size (iv w25 w') (.slice s_.2.2.1 t967.length s_.2.2.2.1) t967) ∧ BkI (s_.2.2.2.2) w' #[.int .i64 0, .int .i64 0, .int .i64 0, .string (⟨#[]⟩ : ByteArray), .slice none 0 0, .string (⟨#[]⟩ : ByteArray)] 35 ∧ BornI (s_.2.2.2.2) w25 ∧ UB w25 w') ?_ ?_
  rotate_left
  ·
   intro hCont
   refine o2 4 7 (some 28) (some 8) (bz 9 63) (bz 9 175) HT_ rfl rfl (kC1 Tryz.func26 (impl_See.calls (hr1_4 := rC HO933) (hc1_4 := rL HO933) (hr2_2 := rC HO939) (hc2_2 := rL HO939) (w := _) (h := A7.out)) ?_) (kB #[.int .i64 0, .int .i64 0, .int .i64 0, .string (⟨#[]⟩ : ByteArray), .slice none 0 0, .string (⟨#[]⟩ : ByteArray)] 35 ?_)
   ·
    intro Ao960 co960 w26 _ HO961
    refine nA (some 28) ?_
    refine o2 6 7 (some 30) (some 8) (bz 9 127) (bz 9 191) HT_ rfl rfl (kC1 Tryz.func26 (impl_See.calls (hr1_4 := rC HO961) (hc1_4 := rL HO961) (hr2_2 := rC HO947) (hc2_2 := rL HO947) (w := _) (h := A8.out)) ?_) (kB #[.int .i64 0, .int .i64 0, .int .i64 0, .string (⟨#[]⟩ : ByteArray), .slice none 0 0, .string (⟨#[]⟩ : ByteArray)] 35 ?_)
    ·
     intro Ao968 co968 w28 _ HO969
     refine nA (some 30) ?_
     refine o1 7 (some 8) (bz 9 255) HT_ rfl (kB #[.int .i64 0, .int .i64 0, .int .i64 0, .string (⟨#[]⟩ : ByteArray), .slice none 0 0, .string (⟨#[]⟩ : ByteArray)] 35 ?_); intro gb971 w30 _ _ _
     refine nA (some 8) ?_
     exact hJ (hCont (Ao960, co960, Ao968, co968, gb971) _ ⟨⟨rJ HO961⟩, ⟨rJ HO969⟩, ⟨xB⟩, ⟨GeI.out⟩, ⟨UpW.out⟩⟩)
    intro gb971 w29 _ _ _
    refine nA (some 8) ?_
    refine o1 6 (some 30) (bz 9 255) HT_ rfl (kC1 Tryz.func26 (impl_See.calls (hr1_4 := rC HO961) (hc1_4 := rL HO961) (hr2_2 := rC HO947) (hc2_2 := rL HO947) (w := _) (h := A8.out)) ?_); intro Ao968 co968 w31 _ HO969
    refine nA (some 30) ?_
    exact hJ (hCont (Ao960, co960, Ao968, co968, gb971) _ ⟨⟨rJ HO961⟩, ⟨rJ HO969⟩, ⟨xB⟩, ⟨GeI.out⟩, ⟨UpW.out⟩⟩)
   intro gb971 w27 _ _ _
   refine nA (some 8) ?_
   refine o1 4 (some 28) (bz 9 191) HT_ rfl (kC1 Tryz.func26 (impl_See.calls (hr1_4 := rC HO933) (hc1_4 := rL HO933) (hr2_2 := rC HO939) (hc2_2 := rL HO939) (w := _) (h := A7.out)) ?_); intro Ao960 co960 w32 _ HO961
   refine nA (some 28) ?_
   refine o1 6 (some 30) (bz 9 255) HT_ rfl (kC1 Tryz.func26 (impl_See.calls (hr1_4 := rC HO961) (hc1_4 := rL HO961) (hr2_2 := rC HO947) (hc2_2 := rL HO947) (w := _) (h := A8.out)) ?_); intro Ao968 co968 w33 _ HO969
   refine nA (some 30) ?_
   exact hJ (hCont (Ao960, co960, Ao968, co968, gb971) _ ⟨⟨rJ HO961⟩, ⟨rJ HO969⟩, ⟨xB⟩, ⟨GeI.out⟩, ⟨UpW.out⟩⟩)
  rintro ⟨Ao960, co960, Ao968, co968, gb971⟩ w34 ⟨HO961, HO969, _, _, _⟩
  refine nP ?_
  refine o1 8 none (bz 9 511) HT_ rfl (kS ?_)
  refine done_ (done_of HT_.out (by kernel_rfl)) ?_
  try go_wp2
  refine sB [] laws_FnEitherOrder.tab6 laws_FnEitherOrder.bits6 ?_; intro w35 _ HT_ HW_
  refine tB 0 (some 31) (bz 9 1) HT_ HW_ ?_
  refine tB 1 (some 32) (bz 9 3) HT_ HW_ ?_
  refine tB 2 (some 33) (bz 9 7) HT_ HW_ ?_
  refine tB 3 (some 34) (bz 9 15) HT_ HW_ ?_
  refine tB 5 (some 36) (bz 9 47) HT_ HW_ ?_
  refine join_ (σ := Option Addr × Nat × Option Addr × Nat × Nat) 1 (bz 9 255) (fun s_ => [(35, .agg #[.int .i64 t972, .int .i64 t973, .int .i64 t974, .string t975, .slice s_.1 t976.length s_.2.1, .string t979]), (37, .agg #[.int .i64 t980, .int .i64 t981, .int .i64 t982, .string t983, .slice s_.2.2.1 t984.length s_.2.2.2.1, .string t987]), (9, .pointer (some ⟨s_.2.2.2.2, 0, none⟩))]) (fun s_ w' => Aside0 (Kd.R (Kd.int .i64) 3 w' w35.heap.size (iv w35 w') (.slice s_.1 t976.length s_.2.1) t976) ∧ Aside0 (Kd.R (Kd.int .i64) 3 w' w35.heap.size (iv w35 w') (.slice s_.2.2.1 t984.length s_.2.2.2.1) t984) ∧ BkI (s_.2.2.2.2) w' #[.int .i64 0, .int .i64 0, .int .i64 0, .string (⟨#[]⟩ : ByteArray), .slice none 0 0, .string (⟨#[]⟩ : ByteArray)] 35 ∧ BornI (s_.2.2.2.2) w35 ∧ UB w35 w') ?_ ?_
  rotate_left
  ·
   intro hCont
   refine o2 4 7 (some 35) (some 9) (bz 9 63) (bz 9 175) HT_ rfl rfl (kC1 Tryz.func26 (impl_See.calls (hr1_4 := rC HO933) (hc1_4 := rL HO933) (hr2_2 := rC HO947) (hc2_2 := rL HO947) (w := _) (h := A9.out)) ?_) (kB #[.int .i64 0, .int .i64 0, .int .i64 0, .string (⟨#[]⟩ : ByteArray), .slice none 0 0, .string (⟨#[]⟩ : ByteArray)] 35 ?_)
   ·
    intro Ao977 co977 w36 _ HO978
    refine nA (some 35) ?_
    refine o2 6 7 (some 37) (some 9) (bz 9 127) (bz 9 191) HT_ rfl rfl (kC1 Tryz.func26 (impl_See.calls (hr1_4 := rC HO978) (hc1_4 := rL HO978) (hr2_2 := rC HO939) (hc2_2 := rL HO939) (w := _) (h := A10.out)) ?_) (kB #[.int .i64 0, .int .i64 0, .int .i64 0, .string (⟨#[]⟩ : ByteArray), .slice none 0 0, .string (⟨#[]⟩ : ByteArray)] 35 ?_)
    ·
     intro Ao985 co985 w38 _ HO986
     refine nA (some 37) ?_
     refine o1 7 (some 9) (bz 9 255) HT_ rfl (kB #[.int .i64 0, .int .i64 0, .int .i64 0, .string (⟨#[]⟩ : ByteArray), .slice none 0 0, .string (⟨#[]⟩ : ByteArray)] 35 ?_); intro gb988 w40 _ _ _
     refine nA (some 9) ?_
     exact hJ (hCont (Ao977, co977, Ao985, co985, gb988) _ ⟨⟨rJ HO978⟩, ⟨rJ HO986⟩, ⟨xB⟩, ⟨GeI.out⟩, ⟨UpW.out⟩⟩)
    intro gb988 w39 _ _ _
    refine nA (some 9) ?_
    refine o1 6 (some 37) (bz 9 255) HT_ rfl (kC1 Tryz.func26 (impl_See.calls (hr1_4 := rC HO978) (hc1_4 := rL HO978) (hr2_2 := rC HO939) (hc2_2 := rL HO939) (w := _) (h := A10.out)) ?_); intro Ao985 co985 w41 _ HO986
    refine nA (some 37) ?_
    exact hJ (hCont (Ao977, co977, Ao985, co985, gb988) _ ⟨⟨rJ HO978⟩, ⟨rJ HO986⟩, ⟨xB⟩, ⟨GeI.out⟩, ⟨UpW.out⟩⟩)
   intro gb988 w37 _ _ _
   refine nA (some 9) ?_
   refine o1 4 (some 35) (bz 9 191) HT_ rfl (kC1 Tryz.func26 (impl_See.calls (hr1_4 := rC HO933) (hc1_4 := rL HO933) (hr2_2 := rC HO947) (hc2_2 := rL HO947) (w := _) (h := A9.out)) ?_); intro Ao977 co977 w42 _ HO978
   refine nA (some 35) ?_
   refine o1 6 (some 37) (bz 9 255) HT_ rfl (kC1 Tryz.func26 (impl_See.calls (hr1_4 := rC HO978) (hc1_4 := rL HO978) (hr2_2 := rC HO939) (hc2_2 := rL HO939) (w := _) (h := A10.out)) ?_); intro Ao985 co985 w43 _ HO986
   refine nA (some 37) ?_
   exact hJ (hCont (Ao977, co977, Ao985, co985, gb988) _ ⟨⟨rJ HO978⟩, ⟨rJ HO986⟩, ⟨xB⟩, ⟨GeI.out⟩, ⟨UpW.out⟩⟩)
  rintro ⟨Ao977, co977, Ao985, co985, gb988⟩ w44 ⟨HO978, HO986, _, _, _⟩
  refine nP ?_
  refine o1 8 none (bz 9 511) HT_ rfl (kS ?_)
  refine done_ (done_of HT_.out (by kernel_rfl)) ?_
  try go_wp2
  refine sB [] laws_FnEitherOrder.tab7 laws_FnEitherOrder.bits7 ?_; intro w45 _ HT_ HW_
  refine tB 0 (some 38) (bz 9 1) HT_ HW_ ?_
  refine tB 1 (some 39) (bz 9 3) HT_ HW_ ?_
  refine tB 2 (some 40) (bz 9 7) HT_ HW_ ?_
  refine tB 3 (some 41) (bz 9 15) HT_ HW_ ?_
  refine tB 5 (some 43) (bz 9 47) HT_ HW_ ?_
  refine join_ (σ := Option Addr × Nat × Option Addr × Nat × Nat) 1 (bz 9 255) (fun s_ => [(42, .agg #[.int .i64 t989, .int .i64 t990, .int .i64 t991, .string t992, .slice s_.1 t993.length s_.2.1, .string t996]), (44, .agg #[.int .i64 t997, .int .i64 t998, .int .i64 t999, .string t1000, .slice s_.2.2.1 t1001.length s_.2.2.2.1, .string t1004]), (10, .pointer (some ⟨s_.2.2.2.2, 0, none⟩))]) (fun s_ w' => Aside0 (Kd.R (Kd.int .i64) 3 w' w45.heap.size (iv w45 w') (.slice s_.1 t993.length s_.2.1) t993) ∧ Aside0 (Kd.R (Kd.int .i64) 3 w' w45.heap.size (iv w45 w') (.slice s_.2.2.1 t1001.length s_.2.2.2.1) t1001) ∧ BkI (s_.2.2.2.2) w' #[.int .i64 0, .int .i64 0, .int .i64 0, .string (⟨#[]⟩ : ByteArray), .slice none 0 0, .string (⟨#[]⟩ : ByteArray)] 35 ∧ BornI (s_.2.2.2.2) w45 ∧ UB w45 w') ?_ ?_
  rotate_left
  ·
   intro hCont
   refine o2 4 7 (some 42) (some 10) (bz 9 63) (bz 9 175) HT_ rfl rfl (kC1 Tryz.func24 (spec_See.calls (hr1_4 := rC HO933) (hc1_4 := rL HO933) (hr2_2 := rC HO947) (hc2_2 := rL HO947) (w := _) (h := A11.out)) ?_) (kB #[.int .i64 0, .int .i64 0, .int .i64 0, .string (⟨#[]⟩ : ByteArray), .slice none 0 0, .string (⟨#[]⟩ : ByteArray)] 35 ?_)
   ·
    intro Ao994 co994 w46 _ HO995
    refine nA (some 42) ?_
    refine o2 6 7 (some 44) (some 10) (bz 9 127) (bz 9 191) HT_ rfl rfl (kC1 Tryz.func24 (spec_See.calls (hr1_4 := rC HO995) (hc1_4 := rL HO995) (hr2_2 := rC HO939) (hc2_2 := rL HO939) (w := _) (h := A12.out)) ?_) (kB #[.int .i64 0, .int .i64 0, .int .i64 0, .string (⟨#[]⟩ : ByteArray), .slice none 0 0, .string (⟨#[]⟩ : ByteArray)] 35 ?_)
    ·
     intro Ao1002 co1002 w48 _ HO1003
     refine nA (some 44) ?_
     refine o1 7 (some 10) (bz 9 255) HT_ rfl (kB #[.int .i64 0, .int .i64 0, .int .i64 0, .string (⟨#[]⟩ : ByteArray), .slice none 0 0, .string (⟨#[]⟩ : ByteArray)] 35 ?_); intro gb1005 w50 _ _ _
     refine nA (some 10) ?_
     exact hJ (hCont (Ao994, co994, Ao1002, co1002, gb1005) _ ⟨⟨rJ HO995⟩, ⟨rJ HO1003⟩, ⟨xB⟩, ⟨GeI.out⟩, ⟨UpW.out⟩⟩)
    intro gb1005 w49 _ _ _
    refine nA (some 10) ?_
    refine o1 6 (some 44) (bz 9 255) HT_ rfl (kC1 Tryz.func24 (spec_See.calls (hr1_4 := rC HO995) (hc1_4 := rL HO995) (hr2_2 := rC HO939) (hc2_2 := rL HO939) (w := _) (h := A12.out)) ?_); intro Ao1002 co1002 w51 _ HO1003
    refine nA (some 44) ?_
    exact hJ (hCont (Ao994, co994, Ao1002, co1002, gb1005) _ ⟨⟨rJ HO995⟩, ⟨rJ HO1003⟩, ⟨xB⟩, ⟨GeI.out⟩, ⟨UpW.out⟩⟩)
   intro gb1005 w47 _ _ _
   refine nA (some 10) ?_
   refine o1 4 (some 42) (bz 9 191) HT_ rfl (kC1 Tryz.func24 (spec_See.calls (hr1_4 := rC HO933) (hc1_4 := rL HO933) (hr2_2 := rC HO947) (hc2_2 := rL HO947) (w := _) (h := A11.out)) ?_); intro Ao994 co994 w52 _ HO995
   refine nA (some 42) ?_
   refine o1 6 (some 44) (bz 9 255) HT_ rfl (kC1 Tryz.func24 (spec_See.calls (hr1_4 := rC HO995) (hc1_4 := rL HO995) (hr2_2 := rC HO939) (hc2_2 := rL HO939) (w := _) (h := A12.out)) ?_); intro Ao1002 co1002 w53 _ HO1003
   refine nA (some 44) ?_
   exact hJ (hCont (Ao994, co994, Ao1002, co1002, gb1005) _ ⟨⟨rJ HO995⟩, ⟨rJ HO1003⟩, ⟨xB⟩, ⟨GeI.out⟩, ⟨UpW.out⟩⟩)
  rintro ⟨Ao994, co994, Ao1002, co1002, gb1005⟩ w54 ⟨HO995, HO1003, _, _, _⟩
  refine nP ?_
  refine o1 8 none (bz 9 511) HT_ rfl (kS ?_)
  refine done_ (done_of HT_.out (by kernel_rfl)) ?_
  try go_wp2_with (first | ((with_reducible refine gate_callee (f := 40) rfl ?_); refine gC (some 47) Tryz.func40 (impl_SafeSame.calls (hr0_4 := rC HO986) (hc0_4 := rL HO986) (hr1_4 := rC HO1003) (hc1_4 := rL HO1003) (w := _) (h := A13.out)) ?_; intro w55 _))
  go_ret
  exact ⟨y0_19, UpW.out⟩
 replace c14 := Bool.eq_false_iff.mpr c14; subst c14
 rw [if_neg (show ¬ (false = true) by decide)] at H
 exact absurd (hrt.out.symm.trans (Option.some.inj H).symm) (by decide)


end Go.Proofs.YtemjmefacifdeaaGreatDoor.PFnEitherOrder
