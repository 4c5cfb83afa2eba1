-- By a program of this session, out of the translation (the print of the kit, with turns of its own). Lean checks it.
import Derived.Test.YtemjmefacifdeaaGreatDoorPFnLockHoldsx0
import Derived.Test.YtemjmefacifdeaaGreatDoorPFnLockHoldsx1
import Derived.Test.YtemjmefacifdeaaGreatDoorPFnLockHoldsx4
import Derived.Test.YtemjmefacifdeaaGreatDoorPFnLockHoldsx6
import Derived.Test.YtemjmefacifdeaaGreatDoorPFnLockHoldsx8
import Derived.Test.YtemjmefacifdeaaGreatDoorPFnLockHoldsx9
import Derived.Test.YtemjmefacifdeaaGreatDoorPFnLockHoldsx11
namespace Go.Proofs.YtemjmefacifdeaaGreatDoor.PFnLockHolds
open Go.RowKit Go.Proofs.YtemjmefacifdeaaGreatDoorW.PrintWords Go.Proofs.YtemjmefacifdeaaGreatDoorW.PrintLast Go.Proofs.YtemjmefacifdeaaGreatDoorW.PrintMore
attribute [local go_sem] max2_int min2_int max_two min_two max_three min_three max_four min_four   -- for this text's walks alone
attribute [local go_sem] cell_in frozen_in
set_option synthInstance.maxSize 1000000
set_option synthInstance.maxHeartbeats 2000000
set_option linter.unusedVariables false
set_option linter.unusedSimpArgs false

/-! ### spec_SafeNew: function 138 -/
def spec_SafeNew.f  : Option (Int × Int × Int × ByteArray × List Int × ByteArray) := some (0, 0, 0, (⟨#[]⟩ : ByteArray), ([] : List Int), (⟨#[]⟩ : ByteArray))
set_option maxHeartbeats 8000000 in
set_option maxRecDepth 100000 in
theorem spec_SafeNew.calls  (r1 : Int) (r2 : Int) (r3 : Int) (r4 : ByteArray) (r5 : List Int) (r6 : ByteArray) (w : World) (h : spec_SafeNew.f  = some (r1, r2, r3, r4, r5, r6)) :
  Calls Tryz.prog 138 #[] w fun e w' => ∃ v4_ : Value, e = .returned (.agg #[.int .i64 r1, .int .i64 r2, .int .i64 r3, .string r4, v4_, .string r6]) ∧ Kd.R (Kd.int .i64) 3 w' w.heap.size (fun _ => True) v4_ r5 ∧ Below w.heap.size w w' := by
 have hu35 := Tryz.underlying35; have HB := Aside0.mk (Below.refl w.heap.size w); have H : (some (0, 0, 0, (⟨#[]⟩ : ByteArray), ([] : List Int), (⟨#[]⟩ : ByteArray))) = some (r1, r2, r3, r4, r5, r6) := h; clear h
 simp only [Option.some.injEq, Prod.mk.injEq] at H
 obtain ⟨rfl, rfl, rfl, rfl, rfl, rfl⟩ := H
 go_enter Tryz.func138, Tryz.ntmps138
 go_wp2_with (first | ((with_reducible refine gd 0 ?_); refine bL 0 #[.int .i64 0, .int .i64 0, .int .i64 0, .string (⟨#[]⟩ : ByteArray), .slice none 0 0, .string (⟨#[]⟩ : ByteArray)] 35 ?_; intro gb593 w1 _ _ _))
 refine bodyPost_ret (results_cell_row rfl _ _ gb593 35 #[.int .i64 0, .int .i64 0, .int .i64 0, .string (⟨#[]⟩ : ByteArray), .slice none 0 0, .string (⟨#[]⟩ : ByteArray)] (0, 0) _ rfl xB Tryz.underlying35 rfl (by kernel_rfl)) rfl ?_
 exact ⟨_, y0_18, Kd.R_nil _ _ _ _ _, UpW.out⟩

/-! ### spec_l11DrawRight: function 115 -/
def spec_l11DrawRight.l0 : Nat → Int → List Int → Int → Int → Int → Int → Int → Int → Int → ByteArray → List Int → ByteArray → Option (Int × Int × Int × ByteArray × List Int × ByteArray × Int × Int)
 | 0, _, _, _, _, _, _, _, _, _, _, _, _ => none
 | k + 1, x6, x1000, x1001, x1002, x595000, x595001, x605000, x605001, x605002, x605003, x605004, x605005 => (spec_l1Below.f x1000 x1001 x1002 5).bind fun bt605 => (if x6 < bt605.1 then ((spec_l8DrawRight.f k x1000 bt605.2.1 bt605.2.2 x595000 x595001).bind fun bt608 => ((spec_See.f k x595000 x595001 x605000 x605001 x605002 x605003 x605004 x605005 bt608.2.1 bt608.2.2.1 bt608.2.2.2.1).bind fun bt617 => ((spec_l1Once.f x1000 bt608.2.2.2.2.1 bt608.2.2.2.2.2 3).bind fun bt625 => (if bt625.1 = true then (spec_l11DrawRight.l0 k (wrap64 (x6 + 1)) x1000 bt625.2.1 bt625.2.2 x595000 x595001 bt617.1 bt617.2.1 bt617.2.2.1 bt617.2.2.2.1 bt617.2.2.2.2.1 bt617.2.2.2.2.2) else ((spec_Vote.f k x595000 x595001 bt617.1 bt617.2.1 bt617.2.2.1 bt617.2.2.2.1 bt617.2.2.2.2.1 bt617.2.2.2.2.2 bt608.1 bt608.2.1 bt608.2.2.1 bt608.2.2.2.1).bind fun bt628 => (spec_l11DrawRight.l0 k (wrap64 (x6 + 1)) x1000 bt625.2.1 bt625.2.2 x595000 x595001 bt628.1 bt628.2.1 bt628.2.2.1 bt628.2.2.2.1 bt628.2.2.2.2.1 bt628.2.2.2.2.2.1)))))) else (some (x605000, x605001, x605002, x605003, x605004, x605005, bt605.2.1, bt605.2.2)))
def spec_l11DrawRight.f (k : Nat) (s0_0 : List Int) (s0_1 : Int) (s0_2 : Int) (a1_0 : Int) (a1_1 : Int) : Option (Int × Int × Int × ByteArray × List Int × ByteArray × Int × Int) := (spec_SafeNew.f).bind fun bt596 => (spec_l11DrawRight.l0 k 0 s0_0 s0_1 s0_2 a1_0 a1_1 bt596.1 bt596.2.1 bt596.2.2.1 bt596.2.2.2.1 bt596.2.2.2.2.1 bt596.2.2.2.2.2)
theorem spec_l11DrawRight.mono_l : ∀ k, (∀ y0 y1 y2 y3 y4 y5 y6 y7 y8 y9 y10 y11, LeO (spec_l11DrawRight.l0 k y0 y1 y2 y3 y4 y5 y6 y7 y8 y9 y10 y11) (spec_l11DrawRight.l0 (k + 1) y0 y1 y2 y3 y4 y5 y6 y7 y8 y9 y10 y11))
 | 0 => fun _ _ _ _ _ _ _ _ _ _ _ _ r h => by simp [spec_l11DrawRight.l0] at h
 | k + 1 => by
  have ih0 := spec_l11DrawRight.mono_l k
  intro y0 y1 y2 y3 y4 y5 y6 y7 y8 y9 y10 y11
  unfold spec_l11DrawRight.l0
  repeat' first | (with_reducible exact ih0 _ _ _ _ _ _ _ _ _ _ _ _) | (with_reducible exact spec_See.mono _ _ _ _ _ _ _ _ _ _ _ _) | (with_reducible exact spec_Vote.mono _ _ _ _ _ _ _ _ _ _ _ _ _) | (with_reducible exact spec_l8DrawRight.mono _ _ _ _ _ _) | (with_reducible exact LeO.refl _) | (with_reducible exact LeO.none _) | (with_reducible refine LeO.ite ?_ ?_) | (with_reducible refine LeO.bind ?_ (fun _ => ?_))
theorem spec_l11DrawRight.mono : ∀ a0 a1 a2 a3 a4 k, LeO (spec_l11DrawRight.f k a0 a1 a2 a3 a4) (spec_l11DrawRight.f (k + 1) a0 a1 a2 a3 a4) := by
 intro a0 a1 a2 a3 a4 k
 have ih0 := spec_l11DrawRight.mono_l k
 unfold spec_l11DrawRight.f
 repeat' first | (with_reducible exact ih0 _ _ _ _ _ _ _ _ _ _ _ _) | (with_reducible exact spec_See.mono _ _ _ _ _ _ _ _ _ _ _ _) | (with_reducible exact spec_Vote.mono _ _ _ _ _ _ _ _ _ _ _ _ _) | (with_reducible exact spec_l8DrawRight.mono _ _ _ _ _ _) | (with_reducible exact LeO.refl _) | (with_reducible exact LeO.none _) | (with_reducible refine LeO.ite ?_ ?_) | (with_reducible refine LeO.bind ?_ (fun _ => ?_))
set_option maxHeartbeats 8000000 in
set_option maxRecDepth 100000 in
theorem spec_l11DrawRight.calls (k : Nat) (g : Nat) (s0_0 : List Int) (s0_1 : Int) (s0_2 : Int) (a1_0 : Int) (a1_1 : Int) (r1 : Int) (r2 : Int) (r3 : Int) (r4 : ByteArray) (r5 : List Int) (r6 : ByteArray) (r7 : Int) (r8 : Int) (w0 w : World) (hI : IsS124 w0 w g s0_0 s0_1 s0_2) (hB : Below w0.heap.size w0 w) (h : spec_l11DrawRight.f k s0_0 s0_1 s0_2 a1_0 a1_1 = some (r1, r2, r3, r4, r5, r6, r7, r8)) :
  Calls Tryz.prog 115 #[.pointer (some ⟨g, 0, none⟩), .agg #[.int .i64 a1_0, .int .i64 a1_1]] w fun e w' => ∃ v4_ : Value, e = .returned (.agg #[.int .i64 r1, .int .i64 r2, .int .i64 r3, .string r4, v4_, .string r6]) ∧ Kd.R (Kd.int .i64) 3 w' w.heap.size (fun _ => True) v4_ r5 ∧ IsS124 w0 w' g s0_0 r7 r8 ∧ Below w0.heap.size w0 w' ∧ KeepBut w w' g none := by
 have hu38 := Tryz.underlying38; have hu35 := Tryz.underlying35; have hu42 := Tryz.underlying42; have hu33 := Tryz.underlying33; have HI0 := Aside0.mk hI; have HK := Aside0.mk (KeepBut.refl w g none); have HL := Aside0.mk hB.size; clear hI; have HW0 := Aside0.mk hB.size; have HB := Aside0.mk hB; clear hB
 have H : ((spec_SafeNew.f).bind fun bt596 => (spec_l11DrawRight.l0 k 0 s0_0 s0_1 s0_2 a1_0 a1_1 bt596.1 bt596.2.1 bt596.2.2.1 bt596.2.2.2.1 bt596.2.2.2.2.1 bt596.2.2.2.2.2)) = some (r1, r2, r3, r4, r5, r6, r7, r8) := h
 clear h; obtain ⟨⟨t596, t597, t598, t599, t600, t603⟩, A30, H⟩ := Option.bind_eq_some_iff.mp H
 try dsimp only at H
 have A3 := Aside0.mk A30; clear A30; have H' := Aside0.mk H; clear H
 go_enter Tryz.func115, Tryz.ntmps115
 go_wp2_with (first | ((with_reducible refine gd 3 ?_); refine bA 3 #[.int .i64 a1_0, .int .i64 a1_1] 38 ?_; intro gb594 hg w4 hbox hb; replace HB : Aside0 (Below w0.heap.size w0 _) := Aside0.mk (below_step y0_7 hb); have BK594 := Aside0.mk (hbox); have GW594 := bh hg HK; have GJ594 := gi GW594; have GE594 := Aside0.mk ((Nat.le_trans HW0.out (y0_15 : w.heap.size ≤ gb594) : w0.heap.size ≤ gb594)); have GI594 := gi GE594; replace HK := kb HK hb; have NB0_594 := Aside0.mk ((y0_2 : g ≠ gb594)); have NI0_594 := ni NB0_594; have NB594_0 := Aside0.mk ((y0_3 : gb594 ≠ g)); have NI594_0 := ni NB594_0; replace HI0 := Aside0.mk (IsS124.below y0_6 hb); clear hb hbox hg) | ((with_reducible refine gd 4 ?_); refine bA 4 #[.int .i64 0, .int .i64 0, .int .i64 0, .string (⟨#[]⟩ : ByteArray), .slice none 0 0, .string (⟨#[]⟩ : ByteArray)] 35 ?_; intro gb595 hg w5 hbox hb; replace HB : Aside0 (Below w0.heap.size w0 _) := Aside0.mk (below_step y0_5 hb); have BK595 := Aside0.mk (hbox); have GW595 := bh hg HK; have GJ595 := gi GW595; have GE595 := Aside0.mk ((Nat.le_trans HW0.out (y0_15 : w.heap.size ≤ gb595) : w0.heap.size ≤ gb595)); have GI595 := gi GE595; replace HK := kb HK hb; have NB594_595 := b1 BK594 hg; have NI594_595 := ni NB594_595; have NB595_594 := b2 BK594 hg; have NI595_594 := ni NB595_594; replace BK594 := bk BK594 hb; have NB0_595 := Aside0.mk ((y0_0 : g ≠ gb595)); have NI0_595 := ni NB0_595; have NB595_0 := Aside0.mk ((y0_1 : gb595 ≠ g)); have NI595_0 := ni NB595_0; replace HI0 := Aside0.mk (IsS124.below y0_4 hb); clear hb hbox hg) | ((with_reducible refine gate_callee (f := 138) rfl ?_); refine gB (some 8) Tryz.func138 #[] ?_; (with_reducible refine (spec_SafeNew.calls  t596 t597 t598 t599 t600 t603 _ A3.out).mono ?_); rintro e w6 ⟨v601, rfl, ho0, hb⟩; refine ⟨_, rfl, ?_⟩; have HO602 := Aside0.mk (Kd.R_lower ho0 (keep_size (w := w) (g := g) (row := none) (hI HK.out))); replace BK594 := bk BK594 hb; replace BK595 := bk BK595 hb; replace HK := kb HK hb; replace HB : Aside0 (Below w0.heap.size w0 _) := Aside0.mk (below_step y0_5 hb); replace HI0 := Aside0.mk (IsS124.below y0_4 hb); (try clear hb); (try clear ho0)) | ((with_reducible refine gd 5 ?_); refine bA 5 #[.int .i64 0, .int .i64 0, .int .i64 0, .string (⟨#[]⟩ : ByteArray), .slice none 0 0, .string (⟨#[]⟩ : ByteArray)] 35 ?_; intro gb604 hg w7 hbox hb; replace HO602 := rb HO602 hb; replace HB : Aside0 (Below w0.heap.size w0 _) := Aside0.mk (below_step y0_5 hb); have BK604 := Aside0.mk (hbox); have GW604 := bh hg HK; have GJ604 := gi GW604; have GE604 := Aside0.mk ((Nat.le_trans HW0.out (y0_15 : w.heap.size ≤ gb604) : w0.heap.size ≤ gb604)); have GI604 := gi GE604; replace HK := kb HK hb; have NB594_604 := b1 BK594 hg; have NI594_604 := ni NB594_604; have NB604_594 := b2 BK594 hg; have NI604_594 := ni NB604_594; replace BK594 := bk BK594 hb; have NB595_604 := b1 BK595 hg; have NI595_604 := ni NB595_604; have NB604_595 := b2 BK595 hg; have NI604_595 := ni NB604_595; replace BK595 := bk BK595 hb; have NB0_604 := Aside0.mk ((y0_0 : g ≠ gb604)); have NI0_604 := ni NB0_604; have NB604_0 := Aside0.mk ((y0_1 : gb604 ≠ g)); have NI604_0 := ni NB604_0; replace HI0 := Aside0.mk (IsS124.below y0_4 hb); clear hb hbox hg; have hnb8 := NB604_594.out; have hnc8 := NB594_604.out; have hnb9 := NB604_595.out; have hnc9 := NB595_604.out; have hnb10 := NB604_0.out; have hnc10 := NB0_604.out; have hcz11_0 := bc0 BK604.out; have hcz11_1 := bc1 BK604.out; have hcz11_2 := bc2 BK604.out; have hcz11_3 := bc3 BK604.out; have hcz11_4 := bc4 BK604.out; have hcz11_5 := bc5 BK604.out; have hfz11_0 := blk_frozen BK604.out 0; have hfz11_1 := blk_frozen BK604.out 1; have hfz11_2 := blk_frozen BK604.out 2; have hfz11_3 := blk_frozen BK604.out 3; have hfz11_4 := blk_frozen BK604.out 4; have hfz11_5 := blk_frozen BK604.out 5; obtain ⟨Ao12, co12, eo12⟩ := Kd.R_slice HO602.out; subst eo12))
 go_loopg [6] k (fun kq v6 w' => ∃ (x6_1 : Int) (x1001_1 : Int) (x1002_1 : Int) (x605000_1 : Int) (x605001_1 : Int) (x605002_1 : Int) (x605003_1 : ByteArray) (x605004_1 : List Int) (x605005_1 : ByteArray) (u605004 : Value), v6 = .int .i64 x6_1 ∧ Aside0 (spec_l11DrawRight.l0 kq x6_1 s0_0 x1001_1 x1002_1 a1_0 a1_1 x605000_1 x605001_1 x605002_1 x605003_1 x605004_1 x605005_1 = some (r1, r2, r3, r4, r5, r6, r7, r8)) ∧ Aside0 (kq ≤ k) ∧ Aside0 (Kd.R (Kd.int .i64) 3 w' w.heap.size (fun _ => True) u605004 x605004_1) ∧ Aside0 (w'.heap[gb594]? = some (.cells #[.int .i64 a1_0, .int .i64 a1_1] 38 (0, 0))) ∧ Aside0 (w'.heap[gb595]? = some (.cells #[.int .i64 0, .int .i64 0, .int .i64 0, .string (⟨#[]⟩ : ByteArray), (.slice none 0 0), .string (⟨#[]⟩ : ByteArray)] 35 (0, 0))) ∧ Aside0 (w'.heap[gb604]? = some (.cells #[.int .i64 x605000_1, .int .i64 x605001_1, .int .i64 x605002_1, .string x605003_1, u605004, .string x605005_1] 35 (0, 0))) ∧ Aside0 (IsS124 w0 w' g s0_0 x1001_1 x1002_1) ∧ Aside0 (KeepBut w w' g none) ∧ Aside0 (Below w0.heap.size w0 w'))
 case atStart => exact ⟨(0), (s0_1), (s0_2), (t596), (t597), (t598), (t599), (t600), (t603), (.slice Ao12 t600.length co12), y0_18, H', ⟨Nat.le_refl _⟩, ⟨by (with_reducible repeat (first | apply Kd.R_alloc | apply Kd.R_drewN | apply Kd.R_drew)); exact Kd.R_mono (Kd.R_far (p := ⟨gb604, 5, none⟩) (Kd.R_far (p := ⟨gb604, 4, none⟩) (Kd.R_far (p := ⟨gb604, 3, none⟩) (Kd.R_far (p := ⟨gb604, 2, none⟩) (Kd.R_far (p := ⟨gb604, 1, none⟩) (Kd.R_far (p := ⟨gb604, 0, none⟩) (Kd.R_types HO602.out BK604.out (by decide)) (fun _ hk => hk.2) (.int .i64 t596)) (fun _ hk => hk.2) (.int .i64 t597)) (fun _ hk => hk.2) (.int .i64 t598)) (fun _ hk => hk.2) (.string t599)) (fun _ hk => hk.2) (.slice Ao12 t600.length co12)) (fun _ hk => hk.2) (.string t603)) (fun _ hk => trivial)⟩, ⟨gI BK594.out⟩, ⟨gI BK595.out⟩, ⟨pI BK604⟩, ⟨y0_4⟩, ⟨hI HK.out⟩, ⟨y0_5⟩⟩
 case round =>
  clear H'
  try clear c1
  try clear p2
  try clear c8
  try clear c9
  try clear c10
  try clear c11
  try clear hcz11_0
  try clear hcz11_1
  try clear hcz11_2
  try clear hcz11_3
  try clear hcz11_4
  try clear hcz11_5
  try clear hfz11_0
  try clear hfz11_1
  try clear hfz11_2
  try clear hfz11_3
  try clear hfz11_4
  try clear hfz11_5
  obtain ⟨x6_1, x1001_1, x1002_1, x605000_1, x605001_1, x605002_1, x605003_1, x605004_1, x605005_1, u605004, rfl, HA, HK1, HO_605004, BK594, BK595, BK604, HI0, HK, HB⟩ := hrel; cases gk with
  | zero => exact absurd HA.out (by simp [spec_l11DrawRight.l0])
  | succ k1 =>
   have H := HA.out; clear HA
   simp only [spec_l11DrawRight.l0] at H
   obtain ⟨⟨t605, t606, t607⟩, A130, H⟩ := Option.bind_eq_some_iff.mp H
   try dsimp only at H
   have A13 := Aside0.mk A130; clear A130
   by_cases c14 : x6_1 < t605
   ·
    rw [if_pos c14] at H
    have c14b0 : decide (x6_1 < t605) = true := decide_eq_true c14; clear c14; obtain ⟨⟨t608, t609, t610, t611, t614, t615⟩, A150, H⟩ := Option.bind_eq_some_iff.mp H
    try dsimp only at H
    have A15 := Aside0.mk A150; clear A150; obtain ⟨⟨t617, t618, t619, t620, t621, t624⟩, A160, H⟩ := Option.bind_eq_some_iff.mp H
    try dsimp only at H
    have A16 := Aside0.mk A160; clear A160; obtain ⟨⟨t625, t626, t627⟩, A170, H⟩ := Option.bind_eq_some_iff.mp H
    try dsimp only at H
    have A17 := Aside0.mk A170; clear A170
    by_cases c18 : t625 = true
    ·
     subst c18
     rw [if_pos rfl] at H
     have H' := Aside0.mk H; clear H
     go_wp2_with (first | ((with_reducible refine gate_callee (f := 114) rfl ?_); refine gB (some 11) Tryz.func114 #[.pointer (some ⟨g, 0, none⟩), .int .i64 5] ?_; (with_reducible refine (spec_l1Below.calls g s0_0 x1001_1 x1002_1 5 t605 t606 t607 w0 _ ?side1 ?side2 A13.out).mono ?_); (case side1 => repeat (first | (with_reducible first | exact HI0.out | apply IsS124.alloc | apply IsS124.drewN | apply IsS124.drew | apply IsS124.set_1 | apply IsS124.set_2 | refine IsS124.far ?_ NeI.out _) | exact HI0.out)); (case side2 => repeat (first | (with_reducible first | exact HB.out | apply below_alloc | apply pw_below_drewN | apply below_drew1 | refine below_set ?_ (IsS124.ge HI0.out) | refine below_set ?_ GeI.out) | exact HB.out)); rintro e w19 ⟨rfl, hi, hb, hk⟩; refine ⟨_, rfl, ?_⟩; replace HO_605004 := Aside0.mk (Kd.R_mono (Kd.R_keep (IsS124.apart (show IsS124 w0 _ g s0_0 x1001_1 x1002_1 from y0_4) (rI HO_605004.out) (by decide)) hk (fun _ h => h.2)) (fun _ h => h.1)); replace BK594 := bq BK594 hk NB594_0; replace BK595 := bq BK595 hk NB595_0; replace BK604 := bq BK604 hk NB604_0; replace HK := kt HK hk; replace HB := Aside0.mk (hb); replace HI0 := Aside0.mk (hi); (try clear hb); (try clear hb2); (try clear hk); (try clear hi); have hnb20 := NB594_595.out; have hnc20 := NB595_594.out; have hnb21 := NB594_604.out; have hnc21 := NB604_594.out; have hnb22 := NB594_0.out; have hnc22 := NB0_594.out; obtain ⟨hcz23_0, hcz23_1, hfz23_0, hfz23_1⟩ := cs2 BK594) | ((with_reducible refine gate_callee (f := 118) rfl ?_); refine gB (some 17) Tryz.func118 #[.pointer (some ⟨g, 0, none⟩), .agg #[.int .i64 a1_0, .int .i64 a1_1]] ?_; (with_reducible refine (spec_l8DrawRight.calls k1 g s0_0 t606 t607 a1_0 a1_1 t608 t609 t610 t611 t614 t615 w0 _ ?side1 ?side2 A15.out).mono ?_); (case side1 => repeat (first | (with_reducible first | exact HI0.out | apply IsS124.alloc | apply IsS124.drewN | apply IsS124.drew | apply IsS124.set_1 | apply IsS124.set_2 | refine IsS124.far ?_ NeI.out _) | exact HI0.out)); (case side2 => repeat (first | (with_reducible first | exact HB.out | apply below_alloc | apply pw_below_drewN | apply below_drew1 | refine below_set ?_ (IsS124.ge HI0.out) | refine below_set ?_ GeI.out) | exact HB.out)); rintro e w24 ⟨v612, rfl, ho0, hi, hb, hk⟩; refine ⟨_, rfl, ?_⟩; replace BK594 := bq BK594 hk NB594_0; replace BK595 := bq BK595 hk NB595_0; replace BK604 := bq BK604 hk NB604_0; have HO613 := Aside0.mk (Kd.R_lower (Kd.R_new' ho0 (Kd.R_lt (rI HO_605004.out))) (keep_size (w := w) (g := g) (row := none) (hI HK.out))); replace HO_605004 := Aside0.mk (Kd.R_mono (Kd.R_told (Kd.R_oldK (IsS124.apart (show IsS124 w0 _ g s0_0 t606 t607 from y0_4) (rI HO_605004.out) (by decide)) hk) (Kd.R_base ho0)) (fun _ h_ => h_.1)); replace HK := kt HK hk; replace HB := Aside0.mk (hb); replace HI0 := Aside0.mk (hi); (try clear hb); (try clear hk); (try clear hi)) | ((with_reducible refine gd 7 ?_); refine bA 7 #[.string (⟨#[]⟩ : ByteArray), .int .i64 0, .string (⟨#[]⟩ : ByteArray), .slice none 0 0] 42 ?_; intro gb616 hg w25 hbox hb; replace HO_605004 := rb HO_605004 hb; replace HO613 := rb HO613 hb; replace HB : Aside0 (Below w0.heap.size w0 _) := Aside0.mk (below_step y0_5 hb); have BK616 := Aside0.mk (hbox); have GW616 := bh hg HK; have GJ616 := gi GW616; have GE616 := Aside0.mk ((Nat.le_trans HW0.out (y0_15 : w.heap.size ≤ gb616) : w0.heap.size ≤ gb616)); have GI616 := gi GE616; replace HK := kb HK hb; have NB594_616 := b1 BK594 hg; have NI594_616 := ni NB594_616; have NB616_594 := b2 BK594 hg; have NI616_594 := ni NB616_594; replace BK594 := bk BK594 hb; have NB595_616 := b1 BK595 hg; have NI595_616 := ni NB595_616; have NB616_595 := b2 BK595 hg; have NI616_595 := ni NB616_595; replace BK595 := bk BK595 hb; have NB604_616 := b1 BK604 hg; have NI604_616 := ni NB604_616; have NB616_604 := b2 BK604 hg; have NI616_604 := ni NB616_604; replace BK604 := bk BK604 hb; have NB0_616 := Aside0.mk ((by rw [hg]; exact Nat.ne_of_lt (IsS124.lt (show IsS124 w0 _ g s0_0 t614 t615 from y0_4)) : g ≠ gb616)); have NI0_616 := ni NB0_616; have NB616_0 := Aside0.mk ((by rw [hg]; exact Nat.ne_of_gt (IsS124.lt (show IsS124 w0 _ g s0_0 t614 t615 from y0_4)) : gb616 ≠ g)); have NI616_0 := ni NB616_0; replace HI0 := Aside0.mk (IsS124.below y0_4 hb); clear hb hbox hg; have hnb26 := NB616_594.out; have hnc26 := NB594_616.out; have hnb27 := NB616_595.out; have hnc27 := NB595_616.out; have hnb28 := NB616_604.out; have hnc28 := NB604_616.out; have hnb29 := NB616_0.out; have hnc29 := NB0_616.out; obtain ⟨hcz30_0, hcz30_1, hcz30_2, hcz30_3, hfz30_0, hfz30_1, hfz30_2, hfz30_3⟩ := cs4 BK616; obtain ⟨Ao31, co31, eo31⟩ := Kd.R_slice HO613.out; subst eo31; obtain ⟨hcz32_0, hcz32_1, hfz32_0, hfz32_1⟩ := cs2 BK594; have hnb33 := NB604_595.out; have hnc33 := NB595_604.out; have hnb34 := NB604_0.out; have hnc34 := NB0_604.out; have hcz35_0 := bc0 BK604.out; have hcz35_1 := bc1 BK604.out; have hcz35_2 := bc2 BK604.out; have hcz35_3 := bc3 BK604.out; have hcz35_4 := bc4 BK604.out; have hcz35_5 := bc5 BK604.out; have hfz35_0 := blk_frozen BK604.out 0; have hfz35_1 := blk_frozen BK604.out 1; have hfz35_2 := blk_frozen BK604.out 2; have hfz35_3 := blk_frozen BK604.out 3; have hfz35_4 := blk_frozen BK604.out 4; have hfz35_5 := blk_frozen BK604.out 5; obtain ⟨Ao36, co36, eo36⟩ := Kd.R_slice HO_605004.out; subst eo36) | ((with_reducible refine gate_callee (f := 24) rfl ?_); refine gB (some 22) Tryz.func24 #[.agg #[.int .i64 a1_0, .int .i64 a1_1], .agg #[.int .i64 x605000_1, .int .i64 x605001_1, .int .i64 x605002_1, .string x605003_1, .slice Ao36 x605004_1.length co36, .string x605005_1], .agg #[.int .i64 t609, .string t610, .slice Ao31 t611.length co31]] ?_; (with_reducible refine (spec_See.calls k1 a1_0 a1_1 x605000_1 x605001_1 x605002_1 x605003_1 _ _ x605004_1 x605005_1 t609 t610 _ _ t611 t617 t618 t619 t620 t621 t624 _ ?side1 ?side2 ?side3 ?side4 A16.out).mono ?_); (case side1 => refine (Kd.R_reads' (e := 3) (base := w.heap.size) (ok := fun k_ => (True ∧ some k_ ≠ (.slice Ao31 t611.length co31 : Value).ownBlock)) (n := x605004_1.length) (c := co36) ?_).2.2; exact (rI (Kd.R_mono (Kd.R_far (p := ⟨gb616, 3, none⟩) (Kd.R_far (p := ⟨gb616, 2, none⟩) (Kd.R_far (p := ⟨gb616, 1, none⟩) (Kd.R_far (p := ⟨gb616, 0, none⟩) (Kd.R_types HO_605004.out BK616.out (by decide)) (fun _ hk => hk.2) (.string t608)) (fun _ hk => hk.2) (.int .i64 t609)) (fun _ hk => hk.2) (.string t610)) (fun _ hk => hk.2) (.slice Ao31 t611.length co31)) (fun _ h_ => h_.1)))); (case side2 => exact (Kd.R_reads' HO_605004.out).2.1); (case side3 => refine (Kd.R_reads' (e := 3) (base := w.heap.size) (ok := fun k_ => (True ∧ some k_ ≠ (.slice Ao36 x605004_1.length co36 : Value).ownBlock)) (n := t611.length) (c := co31) ?_).2.2; exact (rI (Kd.R_mono (Kd.R_far (p := ⟨gb616, 3, none⟩) (Kd.R_far (p := ⟨gb616, 2, none⟩) (Kd.R_far (p := ⟨gb616, 1, none⟩) (Kd.R_far (p := ⟨gb616, 0, none⟩) (Kd.R_types HO613.out BK616.out (by decide)) (fun _ hk => hk.2) (.string t608)) (fun _ hk => hk.2) (.int .i64 t609)) (fun _ hk => hk.2) (.string t610)) (fun _ hk => hk.2) (.slice Ao31 t611.length co31)) (fun _ h_ => h_.1)))); (case side4 => exact (Kd.R_reads' HO613.out).2.1); rintro e w37 ⟨v622, rfl, ho0, hb⟩; refine ⟨_, rfl, ?_⟩; have HO623 := Aside0.mk (Kd.R_lower (Kd.R_new' (Kd.R_new' ho0 (Kd.R_lt (rI (Kd.R_mono (Kd.R_far (p := ⟨gb616, 3, none⟩) (Kd.R_far (p := ⟨gb616, 2, none⟩) (Kd.R_far (p := ⟨gb616, 1, none⟩) (Kd.R_far (p := ⟨gb616, 0, none⟩) (Kd.R_types HO_605004.out BK616.out (by decide)) (fun _ hk => hk.2) (.string t608)) (fun _ hk => hk.2) (.int .i64 t609)) (fun _ hk => hk.2) (.string t610)) (fun _ hk => hk.2) (.slice Ao31 t611.length co31)) (fun _ h_ => h_.1))))) (Kd.R_lt (rI (Kd.R_mono (Kd.R_far (p := ⟨gb616, 3, none⟩) (Kd.R_far (p := ⟨gb616, 2, none⟩) (Kd.R_far (p := ⟨gb616, 1, none⟩) (Kd.R_far (p := ⟨gb616, 0, none⟩) (Kd.R_types HO613.out BK616.out (by decide)) (fun _ hk => hk.2) (.string t608)) (fun _ hk => hk.2) (.int .i64 t609)) (fun _ hk => hk.2) (.string t610)) (fun _ hk => hk.2) (.slice Ao31 t611.length co31)) (fun _ h_ => h_.1))))) (keep_size (w := w) (g := g) (row := none) (hI HK.out))); replace HO_605004 := Aside0.mk (Kd.R_elder' (rI (Kd.R_mono (Kd.R_far (p := ⟨gb616, 3, none⟩) (Kd.R_far (p := ⟨gb616, 2, none⟩) (Kd.R_far (p := ⟨gb616, 1, none⟩) (Kd.R_far (p := ⟨gb616, 0, none⟩) (Kd.R_types HO_605004.out BK616.out (by decide)) (fun _ hk => hk.2) (.string t608)) (fun _ hk => hk.2) (.int .i64 t609)) (fun _ hk => hk.2) (.string t610)) (fun _ hk => hk.2) (.slice Ao31 t611.length co31)) (fun _ h_ => h_.1))) (Kd.R_base ho0) hb); replace HO613 := Aside0.mk (Kd.R_elder' (rI (Kd.R_mono (Kd.R_far (p := ⟨gb616, 3, none⟩) (Kd.R_far (p := ⟨gb616, 2, none⟩) (Kd.R_far (p := ⟨gb616, 1, none⟩) (Kd.R_far (p := ⟨gb616, 0, none⟩) (Kd.R_types HO613.out BK616.out (by decide)) (fun _ hk => hk.2) (.string t608)) (fun _ hk => hk.2) (.int .i64 t609)) (fun _ hk => hk.2) (.string t610)) (fun _ hk => hk.2) (.slice Ao31 t611.length co31)) (fun _ h_ => h_.1))) (Kd.R_base ho0) hb); replace BK594 := Aside0.mk (blk_below (g := gb594) (o := .cells #[.int .i64 a1_0, .int .i64 a1_1] 38 (0, 0)) (gI BK594.out) hb); replace BK595 := Aside0.mk (blk_below (g := gb595) (o := .cells #[.int .i64 0, .int .i64 0, .int .i64 0, .string (⟨#[]⟩ : ByteArray), .slice none 0 0, .string (⟨#[]⟩ : ByteArray)] 35 (0, 0)) (gI BK595.out) hb); replace BK604 := Aside0.mk (blk_below (g := gb604) (o := .cells #[.int .i64 x605000_1, .int .i64 x605001_1, .int .i64 x605002_1, .string x605003_1, .slice Ao36 x605004_1.length co36, .string x605005_1] 35 (0, 0)) (gI BK604.out) hb); replace BK616 := bp BK616 hb #[.string t608, .int .i64 t609, .string t610, .slice Ao31 t611.length co31]; replace HK := kb HK hb; replace HB : Aside0 (Below w0.heap.size w0 _) := Aside0.mk (below_step y0_5 hb); replace HI0 := Aside0.mk (IsS124.below (show IsS124 w0 ((((w25.setCell ⟨gb616, 0, none⟩ (.string t608)).setCell ⟨gb616, 1, none⟩ (.int .i64 t609)).setCell ⟨gb616, 2, none⟩ (.string t610)).setCell ⟨gb616, 3, none⟩ (.slice Ao31 t611.length co31)) g s0_0 t614 t615 from y0_4) hb); (try clear hb); (try clear ho0); have hcz38_0 := bc0 BK604.out; have hcz38_1 := bc1 BK604.out; have hcz38_2 := bc2 BK604.out; have hcz38_3 := bc3 BK604.out; have hcz38_4 := bc4 BK604.out; have hcz38_5 := bc5 BK604.out; have hfz38_0 := blk_frozen BK604.out 0; have hfz38_1 := blk_frozen BK604.out 1; have hfz38_2 := blk_frozen BK604.out 2; have hfz38_3 := blk_frozen BK604.out 3; have hfz38_4 := blk_frozen BK604.out 4; have hfz38_5 := blk_frozen BK604.out 5; obtain ⟨Ao39, co39, eo39⟩ := Kd.R_slice HO623.out; subst eo39) | ((with_reducible refine gate_callee (f := 93) rfl ?_); refine gB (some 24) Tryz.func93 #[.pointer (some ⟨g, 0, none⟩), .int .i64 3] ?_; (with_reducible refine (spec_l1Once.calls g s0_0 t614 t615 3 true t626 t627 w0 _ ?side1 ?side2 A17.out).mono ?_); (case side1 => repeat (first | (with_reducible first | exact HI0.out | apply IsS124.alloc | apply IsS124.drewN | apply IsS124.drew | apply IsS124.set_1 | apply IsS124.set_2 | refine IsS124.far ?_ NeI.out _) | exact HI0.out)); (case side2 => repeat (first | (with_reducible first | exact HB.out | apply below_alloc | apply pw_below_drewN | apply below_drew1 | refine below_set ?_ (IsS124.ge HI0.out) | refine below_set ?_ GeI.out) | exact HB.out)); rintro e w40 ⟨rfl, hi, hb, hk⟩; refine ⟨_, rfl, ?_⟩; replace HO_605004 := Aside0.mk (Kd.R_mono (Kd.R_keep (IsS124.apart (show IsS124 w0 _ g s0_0 t614 t615 from y0_4) (rI (Kd.R_mono (Kd.R_far (p := ⟨gb604, 5, none⟩) (Kd.R_far (p := ⟨gb604, 4, none⟩) (Kd.R_far (p := ⟨gb604, 3, none⟩) (Kd.R_far (p := ⟨gb604, 2, none⟩) (Kd.R_far (p := ⟨gb604, 1, none⟩) (Kd.R_far (p := ⟨gb604, 0, none⟩) (Kd.R_types HO_605004.out BK604.out (by decide)) (fun _ hk => hk.2) (.int .i64 t617)) (fun _ hk => hk.2) (.int .i64 t618)) (fun _ hk => hk.2) (.int .i64 t619)) (fun _ hk => hk.2) (.string t620)) (fun _ hk => hk.2) (.slice Ao39 t621.length co39)) (fun _ hk => hk.2) (.string t624)) (fun _ h_ => h_.1))) (by decide)) hk (fun _ h => h.2)) (fun _ h => h.1)); replace BK594 := Aside0.mk (KeepBut.blk hk (g' := gb594) (o := .cells #[.int .i64 a1_0, .int .i64 a1_1] 38 (0, 0)) (gI BK594.out) NB594_0.out (by simp)); replace BK595 := Aside0.mk (KeepBut.blk hk (g' := gb595) (o := .cells #[.int .i64 0, .int .i64 0, .int .i64 0, .string (⟨#[]⟩ : ByteArray), .slice none 0 0, .string (⟨#[]⟩ : ByteArray)] 35 (0, 0)) (gI BK595.out) NB595_0.out (by simp)); replace HO613 := Aside0.mk (Kd.R_mono (Kd.R_keep (IsS124.apart (show IsS124 w0 _ g s0_0 t614 t615 from y0_4) (rI (Kd.R_mono (Kd.R_far (p := ⟨gb604, 5, none⟩) (Kd.R_far (p := ⟨gb604, 4, none⟩) (Kd.R_far (p := ⟨gb604, 3, none⟩) (Kd.R_far (p := ⟨gb604, 2, none⟩) (Kd.R_far (p := ⟨gb604, 1, none⟩) (Kd.R_far (p := ⟨gb604, 0, none⟩) (Kd.R_types HO613.out BK604.out (by decide)) (fun _ hk => hk.2) (.int .i64 t617)) (fun _ hk => hk.2) (.int .i64 t618)) (fun _ hk => hk.2) (.int .i64 t619)) (fun _ hk => hk.2) (.string t620)) (fun _ hk => hk.2) (.slice Ao39 t621.length co39)) (fun _ hk => hk.2) (.string t624)) (fun _ h_ => h_.1))) (by decide)) hk (fun _ h => h.2)) (fun _ h => h.1)); replace BK616 := Aside0.mk (KeepBut.blk hk (g' := gb616) (o := .cells #[.string t608, .int .i64 t609, .string t610, .slice Ao31 t611.length co31] 42 (0, 0)) (gI BK616.out) NB616_0.out (by simp)); replace HO623 := Aside0.mk (Kd.R_mono (Kd.R_keep (IsS124.apart (show IsS124 w0 _ g s0_0 t614 t615 from y0_4) (rI (Kd.R_mono (Kd.R_far (p := ⟨gb604, 5, none⟩) (Kd.R_far (p := ⟨gb604, 4, none⟩) (Kd.R_far (p := ⟨gb604, 3, none⟩) (Kd.R_far (p := ⟨gb604, 2, none⟩) (Kd.R_far (p := ⟨gb604, 1, none⟩) (Kd.R_far (p := ⟨gb604, 0, none⟩) (Kd.R_types HO623.out BK604.out (by decide)) (fun _ hk => hk.2) (.int .i64 t617)) (fun _ hk => hk.2) (.int .i64 t618)) (fun _ hk => hk.2) (.int .i64 t619)) (fun _ hk => hk.2) (.string t620)) (fun _ hk => hk.2) (.slice Ao39 t621.length co39)) (fun _ hk => hk.2) (.string t624)) (fun _ h_ => h_.1))) (by decide)) hk (fun _ h => h.2)) (fun _ h => h.1)); replace BK604 := Aside0.mk (KeepBut.blk hk (g' := gb604) (o := .cells #[.int .i64 t617, .int .i64 t618, .int .i64 t619, .string t620, .slice Ao39 t621.length co39, .string t624] 35 (0, 0)) (pI BK604) NB604_0.out (by simp)); replace HK := kt HK hk; replace HB := Aside0.mk (hb); replace HI0 := Aside0.mk (hi); (try clear hb); (try clear hb2); (try clear hk); (try clear hi)))
     go_roundg k1
     case measure => have := HK1.out; omega
     case rel => exact ⟨(wrap64 (x6_1 + 1)), (t626), (t627), (t617), (t618), (t619), (t620), (t621), (t624), (.slice Ao39 t621.length co39), y0_18, H', ⟨y0_20⟩, ⟨by (with_reducible repeat (first | apply Kd.R_alloc | apply Kd.R_drewN | apply Kd.R_drew)); exact Kd.R_mono HO623.out (fun _ hk => trivial)⟩, ⟨gI BK594.out⟩, ⟨gI BK595.out⟩, ⟨gI BK604.out⟩, ⟨y0_4⟩, ⟨hI HK.out⟩, ⟨y0_5⟩⟩
    replace c18 := Bool.eq_false_iff.mpr c18; subst c18
    rw [if_neg (show ¬ (false = true) by decide)] at H
    obtain ⟨⟨t628, t629, t630, t631, t632, t635, t636⟩, A410, H⟩ := Option.bind_eq_some_iff.mp H
    try dsimp only at H
    have A41 := Aside0.mk A410; clear A410; have H' := Aside0.mk H; clear H
    go_wp2_with (first | ((with_reducible refine gate_callee (f := 114) rfl ?_); refine gB (some 11) Tryz.func114 #[.pointer (some ⟨g, 0, none⟩), .int .i64 5] ?_; (with_reducible refine (spec_l1Below.calls g s0_0 x1001_1 x1002_1 5 t605 t606 t607 w0 _ ?side1 ?side2 A13.out).mono ?_); (case side1 => repeat (first | (with_reducible first | exact HI0.out | apply IsS124.alloc | apply IsS124.drewN | apply IsS124.drew | apply IsS124.set_1 | apply IsS124.set_2 | refine IsS124.far ?_ NeI.out _) | exact HI0.out)); (case side2 => repeat (first | (with_reducible first | exact HB.out | apply below_alloc | apply pw_below_drewN | apply below_drew1 | refine below_set ?_ (IsS124.ge HI0.out) | refine below_set ?_ GeI.out) | exact HB.out)); rintro e w42 ⟨rfl, hi, hb, hk⟩; refine ⟨_, rfl, ?_⟩; replace HO_605004 := Aside0.mk (Kd.R_mono (Kd.R_keep (IsS124.apart (show IsS124 w0 _ g s0_0 x1001_1 x1002_1 from y0_4) (rI HO_605004.out) (by decide)) hk (fun _ h => h.2)) (fun _ h => h.1)); replace BK594 := bq BK594 hk NB594_0; replace BK595 := bq BK595 hk NB595_0; replace BK604 := bq BK604 hk NB604_0; replace HK := kt HK hk; replace HB := Aside0.mk (hb); replace HI0 := Aside0.mk (hi); (try clear hb); (try clear hb2); (try clear hk); (try clear hi); have hnb43 := NB594_595.out; have hnc43 := NB595_594.out; have hnb44 := NB594_604.out; have hnc44 := NB604_594.out; have hnb45 := NB594_0.out; have hnc45 := NB0_594.out; obtain ⟨hcz46_0, hcz46_1, hfz46_0, hfz46_1⟩ := cs2 BK594) | ((with_reducible refine gate_callee (f := 118) rfl ?_); refine gB (some 17) Tryz.func118 #[.pointer (some ⟨g, 0, none⟩), .agg #[.int .i64 a1_0, .int .i64 a1_1]] ?_; (with_reducible refine (spec_l8DrawRight.calls k1 g s0_0 t606 t607 a1_0 a1_1 t608 t609 t610 t611 t614 t615 w0 _ ?side1 ?side2 A15.out).mono ?_); (case side1 => repeat (first | (with_reducible first | exact HI0.out | apply IsS124.alloc | apply IsS124.drewN | apply IsS124.drew | apply IsS124.set_1 | apply IsS124.set_2 | refine IsS124.far ?_ NeI.out _) | exact HI0.out)); (case side2 => repeat (first | (with_reducible first | exact HB.out | apply below_alloc | apply pw_below_drewN | apply below_drew1 | refine below_set ?_ (IsS124.ge HI0.out) | refine below_set ?_ GeI.out) | exact HB.out)); rintro e w47 ⟨v612, rfl, ho0, hi, hb, hk⟩; refine ⟨_, rfl, ?_⟩; replace BK594 := bq BK594 hk NB594_0; replace BK595 := bq BK595 hk NB595_0; replace BK604 := bq BK604 hk NB604_0; have HO613 := Aside0.mk (Kd.R_lower (Kd.R_new' ho0 (Kd.R_lt (rI HO_605004.out))) (keep_size (w := w) (g := g) (row := none) (hI HK.out))); replace HO_605004 := Aside0.mk (Kd.R_mono (Kd.R_told (Kd.R_oldK (IsS124.apart (show IsS124 w0 _ g s0_0 t606 t607 from y0_4) (rI HO_605004.out) (by decide)) hk) (Kd.R_base ho0)) (fun _ h_ => h_.1)); replace HK := kt HK hk; replace HB := Aside0.mk (hb); replace HI0 := Aside0.mk (hi); (try clear hb); (try clear hk); (try clear hi)) | ((with_reducible refine gd 7 ?_); refine bA 7 #[.string (⟨#[]⟩ : ByteArray), .int .i64 0, .string (⟨#[]⟩ : ByteArray), .slice none 0 0] 42 ?_; intro gb616 hg w48 hbox hb; replace HO_605004 := rb HO_605004 hb; replace HO613 := rb HO613 hb; replace HB : Aside0 (Below w0.heap.size w0 _) := Aside0.mk (below_step y0_5 hb); have BK616 := Aside0.mk (hbox); have GW616 := bh hg HK; have GJ616 := gi GW616; have GE616 := Aside0.mk ((Nat.le_trans HW0.out (y0_15 : w.heap.size ≤ gb616) : w0.heap.size ≤ gb616)); have GI616 := gi GE616; replace HK := kb HK hb; have NB594_616 := b1 BK594 hg; have NI594_616 := ni NB594_616; have NB616_594 := b2 BK594 hg; have NI616_594 := ni NB616_594; replace BK594 := bk BK594 hb; have NB595_616 := b1 BK595 hg; have NI595_616 := ni NB595_616; have NB616_595 := b2 BK595 hg; have NI616_595 := ni NB616_595; replace BK595 := bk BK595 hb; have NB604_616 := b1 BK604 hg; have NI604_616 := ni NB604_616; have NB616_604 := b2 BK604 hg; have NI616_604 := ni NB616_604; replace BK604 := bk BK604 hb; have NB0_616 := Aside0.mk ((by rw [hg]; exact Nat.ne_of_lt (IsS124.lt (show IsS124 w0 _ g s0_0 t614 t615 from y0_4)) : g ≠ gb616)); have NI0_616 := ni NB0_616; have NB616_0 := Aside0.mk ((by rw [hg]; exact Nat.ne_of_gt (IsS124.lt (show IsS124 w0 _ g s0_0 t614 t615 from y0_4)) : gb616 ≠ g)); have NI616_0 := ni NB616_0; replace HI0 := Aside0.mk (IsS124.below y0_4 hb); clear hb hbox hg; have hnb49 := NB616_594.out; have hnc49 := NB594_616.out; have hnb50 := NB616_595.out; have hnc50 := NB595_616.out; have hnb51 := NB616_604.out; have hnc51 := NB604_616.out; have hnb52 := NB616_0.out; have hnc52 := NB0_616.out; obtain ⟨hcz53_0, hcz53_1, hcz53_2, hcz53_3, hfz53_0, hfz53_1, hfz53_2, hfz53_3⟩ := cs4 BK616; obtain ⟨Ao54, co54, eo54⟩ := Kd.R_slice HO613.out; subst eo54; obtain ⟨hcz55_0, hcz55_1, hfz55_0, hfz55_1⟩ := cs2 BK594; have hnb56 := NB604_595.out; have hnc56 := NB595_604.out; have hnb57 := NB604_0.out; have hnc57 := NB0_604.out; have hcz58_0 := bc0 BK604.out; have hcz58_1 := bc1 BK604.out; have hcz58_2 := bc2 BK604.out; have hcz58_3 := bc3 BK604.out; have hcz58_4 := bc4 BK604.out; have hcz58_5 := bc5 BK604.out; have hfz58_0 := blk_frozen BK604.out 0; have hfz58_1 := blk_frozen BK604.out 1; have hfz58_2 := blk_frozen BK604.out 2; have hfz58_3 := blk_frozen BK604.out 3; have hfz58_4 := blk_frozen BK604.out 4; have hfz58_5 := blk_frozen BK604.out 5; obtain ⟨Ao59, co59, eo59⟩ := Kd.R_slice HO_605004.out; subst eo59) | ((with_reducible refine gate_callee (f := 24) rfl ?_); refine gB (some 22) Tryz.func24 #[.agg #[.int .i64 a1_0, .int .i64 a1_1], .agg #[.int .i64 x605000_1, .int .i64 x605001_1, .int .i64 x605002_1, .string x605003_1, .slice Ao59 x605004_1.length co59, .string x605005_1], .agg #[.int .i64 t609, .string t610, .slice Ao54 t611.length co54]] ?_; (with_reducible refine (spec_See.calls k1 a1_0 a1_1 x605000_1 x605001_1 x605002_1 x605003_1 _ _ x605004_1 x605005_1 t609 t610 _ _ t611 t617 t618 t619 t620 t621 t624 _ ?side1 ?side2 ?side3 ?side4 A16.out).mono ?_); (case side1 => refine (Kd.R_reads' (e := 3) (base := w.heap.size) (ok := fun k_ => (True ∧ some k_ ≠ (.slice Ao54 t611.length co54 : Value).ownBlock)) (n := x605004_1.length) (c := co59) ?_).2.2; exact (rI (Kd.R_mono (Kd.R_far (p := ⟨gb616, 3, none⟩) (Kd.R_far (p := ⟨gb616, 2, none⟩) (Kd.R_far (p := ⟨gb616, 1, none⟩) (Kd.R_far (p := ⟨gb616, 0, none⟩) (Kd.R_types HO_605004.out BK616.out (by decide)) (fun _ hk => hk.2) (.string t608)) (fun _ hk => hk.2) (.int .i64 t609)) (fun _ hk => hk.2) (.string t610)) (fun _ hk => hk.2) (.slice Ao54 t611.length co54)) (fun _ h_ => h_.1)))); (case side2 => exact (Kd.R_reads' HO_605004.out).2.1); (case side3 => refine (Kd.R_reads' (e := 3) (base := w.heap.size) (ok := fun k_ => (True ∧ some k_ ≠ (.slice Ao59 x605004_1.length co59 : Value).ownBlock)) (n := t611.length) (c := co54) ?_).2.2; exact (rI (Kd.R_mono (Kd.R_far (p := ⟨gb616, 3, none⟩) (Kd.R_far (p := ⟨gb616, 2, none⟩) (Kd.R_far (p := ⟨gb616, 1, none⟩) (Kd.R_far (p := ⟨gb616, 0, none⟩) (Kd.R_types HO613.out BK616.out (by decide)) (fun _ hk => hk.2) (.string t608)) (fun _ hk => hk.2) (.int .i64 t609)) (fun _ hk => hk.2) (.string t610)) (fun _ hk => hk.2) (.slice Ao54 t611.length co54)) (fun _ h_ => h_.1)))); (case side4 => exact (Kd.R_reads' HO613.out).2.1); rintro e w60 ⟨v622, rfl, ho0, hb⟩; refine ⟨_, rfl, ?_⟩; have HO623 := Aside0.mk (Kd.R_lower (Kd.R_new' (Kd.R_new' ho0 (Kd.R_lt (rI (Kd.R_mono (Kd.R_far (p := ⟨gb616, 3, none⟩) (Kd.R_far (p := ⟨gb616, 2, none⟩) (Kd.R_far (p := ⟨gb616, 1, none⟩) (Kd.R_far (p := ⟨gb616, 0, none⟩) (Kd.R_types HO_605004.out BK616.out (by decide)) (fun _ hk => hk.2) (.string t608)) (fun _ hk => hk.2) (.int .i64 t609)) (fun _ hk => hk.2) (.string t610)) (fun _ hk => hk.2) (.slice Ao54 t611.length co54)) (fun _ h_ => h_.1))))) (Kd.R_lt (rI (Kd.R_mono (Kd.R_far (p := ⟨gb616, 3, none⟩) (Kd.R_far (p := ⟨gb616, 2, none⟩) (Kd.R_far (p := ⟨gb616, 1, none⟩) (Kd.R_far (p := ⟨gb616, 0, none⟩) (Kd.R_types HO613.out BK616.out (by decide)) (fun _ hk => hk.2) (.string t608)) (fun _ hk => hk.2) (.int .i64 t609)) (fun _ hk => hk.2) (.string t610)) (fun _ hk => hk.2) (.slice Ao54 t611.length co54)) (fun _ h_ => h_.1))))) (keep_size (w := w) (g := g) (row := none) (hI HK.out))); replace HO_605004 := Aside0.mk (Kd.R_elder' (rI (Kd.R_mono (Kd.R_far (p := ⟨gb616, 3, none⟩) (Kd.R_far (p := ⟨gb616, 2, none⟩) (Kd.R_far (p := ⟨gb616, 1, none⟩) (Kd.R_far (p := ⟨gb616, 0, none⟩) (Kd.R_types HO_605004.out BK616.out (by decide)) (fun _ hk => hk.2) (.string t608)) (fun _ hk => hk.2) (.int .i64 t609)) (fun _ hk => hk.2) (.string t610)) (fun _ hk => hk.2) (.slice Ao54 t611.length co54)) (fun _ h_ => h_.1))) (Kd.R_base ho0) hb); replace HO613 := Aside0.mk (Kd.R_elder' (rI (Kd.R_mono (Kd.R_far (p := ⟨gb616, 3, none⟩) (Kd.R_far (p := ⟨gb616, 2, none⟩) (Kd.R_far (p := ⟨gb616, 1, none⟩) (Kd.R_far (p := ⟨gb616, 0, none⟩) (Kd.R_types HO613.out BK616.out (by decide)) (fun _ hk => hk.2) (.string t608)) (fun _ hk => hk.2) (.int .i64 t609)) (fun _ hk => hk.2) (.string t610)) (fun _ hk => hk.2) (.slice Ao54 t611.length co54)) (fun _ h_ => h_.1))) (Kd.R_base ho0) hb); replace BK594 := Aside0.mk (blk_below (g := gb594) (o := .cells #[.int .i64 a1_0, .int .i64 a1_1] 38 (0, 0)) (gI BK594.out) hb); replace BK595 := Aside0.mk (blk_below (g := gb595) (o := .cells #[.int .i64 0, .int .i64 0, .int .i64 0, .string (⟨#[]⟩ : ByteArray), .slice none 0 0, .string (⟨#[]⟩ : ByteArray)] 35 (0, 0)) (gI BK595.out) hb); replace BK604 := Aside0.mk (blk_below (g := gb604) (o := .cells #[.int .i64 x605000_1, .int .i64 x605001_1, .int .i64 x605002_1, .string x605003_1, .slice Ao59 x605004_1.length co59, .string x605005_1] 35 (0, 0)) (gI BK604.out) hb); replace BK616 := bp BK616 hb #[.string t608, .int .i64 t609, .string t610, .slice Ao54 t611.length co54]; replace HK := kb HK hb; replace HB : Aside0 (Below w0.heap.size w0 _) := Aside0.mk (below_step y0_5 hb); replace HI0 := Aside0.mk (IsS124.below (show IsS124 w0 ((((w48.setCell ⟨gb616, 0, none⟩ (.string t608)).setCell ⟨gb616, 1, none⟩ (.int .i64 t609)).setCell ⟨gb616, 2, none⟩ (.string t610)).setCell ⟨gb616, 3, none⟩ (.slice Ao54 t611.length co54)) g s0_0 t614 t615 from y0_4) hb); (try clear hb); (try clear ho0); have hcz61_0 := bc0 BK604.out; have hcz61_1 := bc1 BK604.out; have hcz61_2 := bc2 BK604.out; have hcz61_3 := bc3 BK604.out; have hcz61_4 := bc4 BK604.out; have hcz61_5 := bc5 BK604.out; have hfz61_0 := blk_frozen BK604.out 0; have hfz61_1 := blk_frozen BK604.out 1; have hfz61_2 := blk_frozen BK604.out 2; have hfz61_3 := blk_frozen BK604.out 3; have hfz61_4 := blk_frozen BK604.out 4; have hfz61_5 := blk_frozen BK604.out 5; obtain ⟨Ao62, co62, eo62⟩ := Kd.R_slice HO623.out; subst eo62) | ((with_reducible refine gate_callee (f := 93) rfl ?_); refine gB (some 24) Tryz.func93 #[.pointer (some ⟨g, 0, none⟩), .int .i64 3] ?_; (with_reducible refine (spec_l1Once.calls g s0_0 t614 t615 3 false t626 t627 w0 _ ?side1 ?side2 A17.out).mono ?_); (case side1 => repeat (first | (with_reducible first | exact HI0.out | apply IsS124.alloc | apply IsS124.drewN | apply IsS124.drew | apply IsS124.set_1 | apply IsS124.set_2 | refine IsS124.far ?_ NeI.out _) | exact HI0.out)); (case side2 => repeat (first | (with_reducible first | exact HB.out | apply below_alloc | apply pw_below_drewN | apply below_drew1 | refine below_set ?_ (IsS124.ge HI0.out) | refine below_set ?_ GeI.out) | exact HB.out)); rintro e w63 ⟨rfl, hi, hb, hk⟩; refine ⟨_, rfl, ?_⟩; replace HO_605004 := Aside0.mk (Kd.R_mono (Kd.R_keep (IsS124.apart (show IsS124 w0 _ g s0_0 t614 t615 from y0_4) (rI (Kd.R_mono (Kd.R_far (p := ⟨gb604, 5, none⟩) (Kd.R_far (p := ⟨gb604, 4, none⟩) (Kd.R_far (p := ⟨gb604, 3, none⟩) (Kd.R_far (p := ⟨gb604, 2, none⟩) (Kd.R_far (p := ⟨gb604, 1, none⟩) (Kd.R_far (p := ⟨gb604, 0, none⟩) (Kd.R_types HO_605004.out BK604.out (by decide)) (fun _ hk => hk.2) (.int .i64 t617)) (fun _ hk => hk.2) (.int .i64 t618)) (fun _ hk => hk.2) (.int .i64 t619)) (fun _ hk => hk.2) (.string t620)) (fun _ hk => hk.2) (.slice Ao62 t621.length co62)) (fun _ hk => hk.2) (.string t624)) (fun _ h_ => h_.1))) (by decide)) hk (fun _ h => h.2)) (fun _ h => h.1)); replace BK594 := Aside0.mk (KeepBut.blk hk (g' := gb594) (o := .cells #[.int .i64 a1_0, .int .i64 a1_1] 38 (0, 0)) (gI BK594.out) NB594_0.out (by simp)); replace BK595 := Aside0.mk (KeepBut.blk hk (g' := gb595) (o := .cells #[.int .i64 0, .int .i64 0, .int .i64 0, .string (⟨#[]⟩ : ByteArray), .slice none 0 0, .string (⟨#[]⟩ : ByteArray)] 35 (0, 0)) (gI BK595.out) NB595_0.out (by simp)); replace HO613 := Aside0.mk (Kd.R_mono (Kd.R_keep (IsS124.apart (show IsS124 w0 _ g s0_0 t614 t615 from y0_4) (rI (Kd.R_mono (Kd.R_far (p := ⟨gb604, 5, none⟩) (Kd.R_far (p := ⟨gb604, 4, none⟩) (Kd.R_far (p := ⟨gb604, 3, none⟩) (Kd.R_far (p := ⟨gb604, 2, none⟩) (Kd.R_far (p := ⟨gb604, 1, none⟩) (Kd.R_far (p := ⟨gb604, 0, none⟩) (Kd.R_types HO613.out BK604.out (by decide)) (fun _ hk => hk.2) (.int .i64 t617)) (fun _ hk => hk.2) (.int .i64 t618)) (fun _ hk => hk.2) (.int .i64 t619)) (fun _ hk => hk.2) (.string t620)) (fun _ hk => hk.2) (.slice Ao62 t621.length co62)) (fun _ hk => hk.2) (.string t624)) (fun _ h_ => h_.1))) (by decide)) hk (fun _ h => h.2)) (fun _ h => h.1)); replace BK616 := Aside0.mk (KeepBut.blk hk (g' := gb616) (o := .cells #[.string t608, .int .i64 t609, .string t610, .slice Ao54 t611.length co54] 42 (0, 0)) (gI BK616.out) NB616_0.out (by simp)); replace HO623 := Aside0.mk (Kd.R_mono (Kd.R_keep (IsS124.apart (show IsS124 w0 _ g s0_0 t614 t615 from y0_4) (rI (Kd.R_mono (Kd.R_far (p := ⟨gb604, 5, none⟩) (Kd.R_far (p := ⟨gb604, 4, none⟩) (Kd.R_far (p := ⟨gb604, 3, none⟩) (Kd.R_far (p := ⟨gb604, 2, none⟩) (Kd.R_far (p := ⟨gb604, 1, none⟩) (Kd.R_far (p := ⟨gb604, 0, none⟩) (Kd.R_types HO623.out BK604.out (by decide)) (fun _ hk => hk.2) (.int .i64 t617)) (fun _ hk => hk.2) (.int .i64 t618)) (fun _ hk => hk.2) (.int .i64 t619)) (fun _ hk => hk.2) (.string t620)) (fun _ hk => hk.2) (.slice Ao62 t621.length co62)) (fun _ hk => hk.2) (.string t624)) (fun _ h_ => h_.1))) (by decide)) hk (fun _ h => h.2)) (fun _ h => h.1)); replace BK604 := Aside0.mk (KeepBut.blk hk (g' := gb604) (o := .cells #[.int .i64 t617, .int .i64 t618, .int .i64 t619, .string t620, .slice Ao62 t621.length co62, .string t624] 35 (0, 0)) (pI BK604) NB604_0.out (by simp)); replace HK := kt HK hk; replace HB := Aside0.mk (hb); replace HI0 := Aside0.mk (hi); (try clear hb); (try clear hb2); (try clear hk); (try clear hi); obtain ⟨hcz64_0, hcz64_1, hfz64_0, hfz64_1⟩ := cs2 BK594; have hcz65_0 := bc0 BK604.out; have hcz65_1 := bc1 BK604.out; have hcz65_2 := bc2 BK604.out; have hcz65_3 := bc3 BK604.out; have hcz65_4 := bc4 BK604.out; have hcz65_5 := bc5 BK604.out; have hfz65_0 := blk_frozen BK604.out 0; have hfz65_1 := blk_frozen BK604.out 1; have hfz65_2 := blk_frozen BK604.out 2; have hfz65_3 := blk_frozen BK604.out 3; have hfz65_4 := blk_frozen BK604.out 4; have hfz65_5 := blk_frozen BK604.out 5; obtain ⟨hcz66_0, hcz66_1, hcz66_2, hcz66_3, hfz66_0, hfz66_1, hfz66_2, hfz66_3⟩ := cs4 BK616) | ((with_reducible refine gate_callee (f := 13) rfl ?_); refine gB (some 30) Tryz.func13 #[.agg #[.int .i64 a1_0, .int .i64 a1_1], .agg #[.int .i64 t617, .int .i64 t618, .int .i64 t619, .string t620, .slice Ao62 t621.length co62, .string t624], .agg #[.string t608, .int .i64 t609, .string t610, .slice Ao54 t611.length co54]] ?_; (with_reducible refine (spec_Vote.calls k1 a1_0 a1_1 t617 t618 t619 t620 _ _ t621 t624 t608 t609 t610 _ _ t611 t628 t629 t630 t631 t632 t635 t636 _ ?side1 ?side2 ?side3 ?side4 A41.out).mono ?_); (case side1 => repeat (first | exact (Kd.R_reads' HO623.out).2.2 | (with_reducible refine Kd.C_alloc ?_ _) | (with_reducible refine Kd.C_drewN ?_ _) | (with_reducible refine Kd.C_drew ?_))); (case side2 => exact (Kd.R_reads' HO623.out).2.1); (case side3 => repeat (first | exact (Kd.R_reads' HO613.out).2.2 | (with_reducible refine Kd.C_alloc ?_ _) | (with_reducible refine Kd.C_drewN ?_ _) | (with_reducible refine Kd.C_drew ?_))); (case side4 => exact (Kd.R_reads' HO613.out).2.1); rintro e w67 ⟨v633, rfl, ho0, hb⟩; refine ⟨_, rfl, ?_⟩; have HO634 := Aside0.mk (Kd.R_lower (Kd.R_new' (Kd.R_new' (Kd.R_new' ho0 (Kd.R_lt (rI HO_605004.out))) (Kd.R_lt (rI HO613.out))) (Kd.R_lt (rI HO623.out))) (keep_size (w := w) (g := g) (row := none) (hI HK.out))); replace HO_605004 := Aside0.mk (Kd.R_elder' (rI HO_605004.out) (Kd.R_base ho0) hb); replace HO613 := Aside0.mk (Kd.R_elder' (rI HO613.out) (Kd.R_base ho0) hb); replace HO623 := Aside0.mk (Kd.R_elder' (rI HO623.out) (Kd.R_base ho0) hb); replace BK594 := bk BK594 hb; replace BK595 := bk BK595 hb; replace BK604 := bk BK604 hb; replace BK616 := bk BK616 hb; replace HK := kb HK hb; replace HB : Aside0 (Below w0.heap.size w0 _) := Aside0.mk (below_step y0_5 hb); replace HI0 := Aside0.mk (IsS124.below y0_4 hb); (try clear hb); (try clear hk); (try clear hi); have hcz68_0 := bc0 BK604.out; have hcz68_1 := bc1 BK604.out; have hcz68_2 := bc2 BK604.out; have hcz68_3 := bc3 BK604.out; have hcz68_4 := bc4 BK604.out; have hcz68_5 := bc5 BK604.out; have hfz68_0 := blk_frozen BK604.out 0; have hfz68_1 := blk_frozen BK604.out 1; have hfz68_2 := blk_frozen BK604.out 2; have hfz68_3 := blk_frozen BK604.out 3; have hfz68_4 := blk_frozen BK604.out 4; have hfz68_5 := blk_frozen BK604.out 5; obtain ⟨Ao69, co69, eo69⟩ := Kd.R_slice HO634.out; subst eo69))
    go_roundg k1
    case measure => have := HK1.out; omega
    case rel => exact ⟨(wrap64 (x6_1 + 1)), (t626), (t627), (t628), (t629), (t630), (t631), (t632), (t635), (.slice Ao69 t632.length co69), y0_18, H', ⟨y0_20⟩, ⟨by (with_reducible repeat (first | apply Kd.R_alloc | apply Kd.R_drewN | apply Kd.R_drew)); exact Kd.R_mono (Kd.R_far (p := ⟨gb604, 5, none⟩) (Kd.R_far (p := ⟨gb604, 4, none⟩) (Kd.R_far (p := ⟨gb604, 3, none⟩) (Kd.R_far (p := ⟨gb604, 2, none⟩) (Kd.R_far (p := ⟨gb604, 1, none⟩) (Kd.R_far (p := ⟨gb604, 0, none⟩) (Kd.R_types HO634.out BK604.out (by decide)) (fun _ hk => hk.2) (.int .i64 t628)) (fun _ hk => hk.2) (.int .i64 t629)) (fun _ hk => hk.2) (.int .i64 t630)) (fun _ hk => hk.2) (.string t631)) (fun _ hk => hk.2) (.slice Ao69 t632.length co69)) (fun _ hk => hk.2) (.string t635)) (fun _ hk => trivial)⟩, ⟨gI BK594.out⟩, ⟨gI BK595.out⟩, ⟨pI BK604⟩, ⟨y0_4⟩, ⟨hI HK.out⟩, ⟨y0_5⟩⟩
   rw [if_neg c14] at H
   have c14b0 : decide (x6_1 < t605) = false := decide_eq_false c14; clear c14
   simp only [Option.some.injEq, Prod.mk.injEq] at H
   obtain ⟨rfl, rfl, rfl, rfl, rfl, rfl, rfl, rfl⟩ := H
   go_wp2_with (first | ((with_reducible refine gate_callee (f := 114) rfl ?_); refine gB (some 11) Tryz.func114 #[.pointer (some ⟨g, 0, none⟩), .int .i64 5] ?_; (with_reducible refine (spec_l1Below.calls g s0_0 x1001_1 x1002_1 5 t605 t606 t607 w0 _ ?side1 ?side2 A13.out).mono ?_); (case side1 => repeat (first | (with_reducible first | exact HI0.out | apply IsS124.alloc | apply IsS124.drewN | apply IsS124.drew | apply IsS124.set_1 | apply IsS124.set_2 | refine IsS124.far ?_ NeI.out _) | exact HI0.out)); (case side2 => repeat (first | (with_reducible first | exact HB.out | apply below_alloc | apply pw_below_drewN | apply below_drew1 | refine below_set ?_ (IsS124.ge HI0.out) | refine below_set ?_ GeI.out) | exact HB.out)); rintro e w70 ⟨rfl, hi, hb, hk⟩; refine ⟨_, rfl, ?_⟩; replace HO_605004 := Aside0.mk (Kd.R_mono (Kd.R_keep (IsS124.apart (show IsS124 w0 _ g s0_0 x1001_1 x1002_1 from y0_4) (rI HO_605004.out) (by decide)) hk (fun _ h => h.2)) (fun _ h => h.1)); replace BK594 := bq BK594 hk NB594_0; replace BK595 := bq BK595 hk NB595_0; replace BK604 := bq BK604 hk NB604_0; replace HK := kt HK hk; replace HB := Aside0.mk (hb); replace HI0 := Aside0.mk (hi); (try clear hb); (try clear hb2); (try clear hk); (try clear hi); have hnb71 := NB604_594.out; have hnc71 := NB594_604.out; have hnb72 := NB604_595.out; have hnc72 := NB595_604.out; have hnb73 := NB604_0.out; have hnc73 := NB0_604.out; have hcz74_0 := bc0 BK604.out; have hcz74_1 := bc1 BK604.out; have hcz74_2 := bc2 BK604.out; have hcz74_3 := bc3 BK604.out; have hcz74_4 := bc4 BK604.out; have hcz74_5 := bc5 BK604.out; have hfz74_0 := blk_frozen BK604.out 0; have hfz74_1 := blk_frozen BK604.out 1; have hfz74_2 := blk_frozen BK604.out 2; have hfz74_3 := blk_frozen BK604.out 3; have hfz74_4 := blk_frozen BK604.out 4; have hfz74_5 := blk_frozen BK604.out 5; have hnb75 := NB595_594.out; have hnc75 := NB594_595.out; have hnb76 := NB595_0.out; have hnc76 := NB0_595.out; have hcz77_0 := bc0 BK595.out; have hcz77_1 := bc1 BK595.out; have hcz77_2 := bc2 BK595.out; have hcz77_3 := bc3 BK595.out; have hcz77_4 := bc4 BK595.out; have hcz77_5 := bc5 BK595.out; have hfz77_0 := blk_frozen BK595.out 0; have hfz77_1 := blk_frozen BK595.out 1; have hfz77_2 := blk_frozen BK595.out 2; have hfz77_3 := blk_frozen BK595.out 3; have hfz77_4 := blk_frozen BK595.out 4; have hfz77_5 := blk_frozen BK595.out 5; obtain ⟨Ao78, co78, eo78⟩ := Kd.R_slice HO_605004.out; subst eo78))
   refine bodyPost_ret (results_cell_row rfl _ _ gb595 35 #[.int .i64 x605000_1, .int .i64 x605001_1, .int .i64 x605002_1, .string x605003_1, .slice Ao78 x605004_1.length co78, .string x605005_1] (0, 0) _ rfl (pI BK595) Tryz.underlying35 rfl (by kernel_rfl)) rfl ?_
   exact ⟨_, y0_14, by (with_reducible repeat (first | apply Kd.R_alloc | apply Kd.R_drewN | apply Kd.R_drew)); exact Kd.R_mono (Kd.R_far (p := ⟨gb595, 5, none⟩) (Kd.R_far (p := ⟨gb595, 4, none⟩) (Kd.R_far (p := ⟨gb595, 3, none⟩) (Kd.R_far (p := ⟨gb595, 2, none⟩) (Kd.R_far (p := ⟨gb595, 1, none⟩) (Kd.R_far (p := ⟨gb595, 0, none⟩) (Kd.R_types HO_605004.out BK595.out (by decide)) (fun _ hk => hk.2) (.int .i64 x605000_1)) (fun _ hk => hk.2) (.int .i64 x605001_1)) (fun _ hk => hk.2) (.int .i64 x605002_1)) (fun _ hk => hk.2) (.string x605003_1)) (fun _ hk => hk.2) (.slice Ao78 x605004_1.length co78)) (fun _ hk => hk.2) (.string x605005_1)) (fun _ hk => trivial), y0_4, y0_5, hI HK.out⟩

/-! ### spec_l11Draw: function 88 -/
def spec_l11Draw.f (k : Nat) (s0_0 : List Int) (s0_1 : Int) (s0_2 : Int) (a1_0 : Int) (a1_1 : Int) : Option (Int × Int × Int × ByteArray × List Int × ByteArray × Int × Int) := (spec_l11DrawRight.f k s0_0 s0_1 s0_2 a1_0 a1_1).bind fun bt639 => ((spec_l1Below.f s0_0 bt639.2.2.2.2.2.2.1 bt639.2.2.2.2.2.2.2 10).bind fun bt650 => (if bt650.1 = 0 then ((spec_l1PickInt.f s0_0 bt650.2.1 bt650.2.2 (([(-1), 60, 61] : List Int))).bind fun bt656 => (some (bt656.1, bt639.2.1, bt639.2.2.1, bt639.2.2.2.1, bt639.2.2.2.2.1, bt639.2.2.2.2.2.1, bt656.2.1, bt656.2.2))) else (if bt650.1 = 1 then ((spec_l1PickInt.f s0_0 bt650.2.1 bt650.2.2 (([(-1), 0, 60, 61] : List Int))).bind fun bt662 => (some (bt639.1, bt662.1, bt639.2.2.1, bt639.2.2.2.1, bt639.2.2.2.2.1, bt639.2.2.2.2.2.1, bt662.2.1, bt662.2.2))) else (if bt650.1 = 2 then ((spec_l5Draw.f k s0_0 bt650.2.1 bt650.2.2).bind fun bt665 => (some (bt639.1, bt639.2.1, bt639.2.2.1, bt639.2.2.2.1, bt639.2.2.2.2.1, bt665.1, bt665.2.1, bt665.2.2))) else (if bt650.1 = 3 then ((spec_l7Draw.f k s0_0 bt650.2.1 bt650.2.2 a1_0 a1_1).bind fun bt668 => (some (bt639.1, bt639.2.1, bt668.1, bt668.2.1, bt668.2.2.1, bt639.2.2.2.2.2.1, bt668.2.2.2.1, bt668.2.2.2.2))) else (some (bt639.1, bt639.2.1, bt639.2.2.1, bt639.2.2.2.1, bt639.2.2.2.2.1, bt639.2.2.2.2.2.1, bt650.2.1, bt650.2.2)))))))
theorem spec_l11Draw.mono : ∀ a0 a1 a2 a3 a4 k, LeO (spec_l11Draw.f k a0 a1 a2 a3 a4) (spec_l11Draw.f (k + 1) a0 a1 a2 a3 a4) := by
 intro a0 a1 a2 a3 a4 k
 unfold spec_l11Draw.f
 repeat' first | (with_reducible exact spec_l11DrawRight.mono _ _ _ _ _ _) | (with_reducible exact spec_l5Draw.mono _ _ _ _) | (with_reducible exact spec_l7Draw.mono _ _ _ _ _ _) | (with_reducible exact LeO.refl _) | (with_reducible exact LeO.none _) | (with_reducible refine LeO.ite ?_ ?_) | (with_reducible refine LeO.bind ?_ (fun _ => ?_))
set_option maxHeartbeats 8000000 in
set_option maxRecDepth 100000 in
theorem spec_l11Draw.calls (k : Nat) (g : Nat) (s0_0 : List Int) (s0_1 : Int) (s0_2 : Int) (a1_0 : Int) (a1_1 : Int) (r1 : Int) (r2 : Int) (r3 : Int) (r4 : ByteArray) (r5 : List Int) (r6 : ByteArray) (r7 : Int) (r8 : Int) (w0 w : World) (hI : IsS124 w0 w g s0_0 s0_1 s0_2) (hB : Below w0.heap.size w0 w) (h : spec_l11Draw.f k s0_0 s0_1 s0_2 a1_0 a1_1 = some (r1, r2, r3, r4, r5, r6, r7, r8)) :
  Calls Tryz.prog 88 #[.pointer (some ⟨g, 0, none⟩), .agg #[.int .i64 a1_0, .int .i64 a1_1]] w fun e w' => ∃ v4_ : Value, e = .returned (.agg #[.int .i64 r1, .int .i64 r2, .int .i64 r3, .string r4, v4_, .string r6]) ∧ Kd.R (Kd.int .i64) 3 w' w.heap.size (fun _ => True) v4_ r5 ∧ IsS124 w0 w' g s0_0 r7 r8 ∧ Below w0.heap.size w0 w' ∧ KeepBut w w' g none := by
 have hu38 := Tryz.underlying38; have hu35 := Tryz.underlying35; have hu33 := Tryz.underlying33; have HI0 := Aside0.mk hI; have HK := Aside0.mk (KeepBut.refl w g none); have HL := Aside0.mk hB.size; clear hI; have HW0 := Aside0.mk hB.size; have HB := Aside0.mk hB; clear hB
 have H : ((spec_l11DrawRight.f k s0_0 s0_1 s0_2 a1_0 a1_1).bind fun bt639 => ((spec_l1Below.f s0_0 bt639.2.2.2.2.2.2.1 bt639.2.2.2.2.2.2.2 10).bind fun bt650 => (if bt650.1 = 0 then ((spec_l1PickInt.f s0_0 bt650.2.1 bt650.2.2 (([(-1), 60, 61] : List Int))).bind fun bt656 => (some (bt656.1, bt639.2.1, bt639.2.2.1, bt639.2.2.2.1, bt639.2.2.2.2.1, bt639.2.2.2.2.2.1, bt656.2.1, bt656.2.2))) else (if bt650.1 = 1 then ((spec_l1PickInt.f s0_0 bt650.2.1 bt650.2.2 (([(-1), 0, 60, 61] : List Int))).bind fun bt662 => (some (bt639.1, bt662.1, bt639.2.2.1, bt639.2.2.2.1, bt639.2.2.2.2.1, bt639.2.2.2.2.2.1, bt662.2.1, bt662.2.2))) else (if bt650.1 = 2 then ((spec_l5Draw.f k s0_0 bt650.2.1 bt650.2.2).bind fun bt665 => (some (bt639.1, bt639.2.1, bt639.2.2.1, bt639.2.2.2.1, bt639.2.2.2.2.1, bt665.1, bt665.2.1, bt665.2.2))) else (if bt650.1 = 3 then ((spec_l7Draw.f k s0_0 bt650.2.1 bt650.2.2 a1_0 a1_1).bind fun bt668 => (some (bt639.1, bt639.2.1, bt668.1, bt668.2.1, bt668.2.2.1, bt639.2.2.2.2.2.1, bt668.2.2.2.1, bt668.2.2.2.2))) else (some (bt639.1, bt639.2.1, bt639.2.2.1, bt639.2.2.2.1, bt639.2.2.2.2.1, bt639.2.2.2.2.2.1, bt650.2.1, bt650.2.2)))))))) = some (r1, r2, r3, r4, r5, r6, r7, r8) := h
 clear h; obtain ⟨⟨t639, t640, t641, t642, t643, t646, t647, t648⟩, A30, H⟩ := Option.bind_eq_some_iff.mp H
 try dsimp only at H
 have A3 := Aside0.mk A30; clear A30; obtain ⟨⟨t650, t651, t652⟩, A40, H⟩ := Option.bind_eq_some_iff.mp H
 try dsimp only at H
 have A4 := Aside0.mk A40; clear A40
 by_cases c5 : t650 = 0
 ·
  rw [if_pos c5] at H
  have c5b0 : (t650 == 0) = true := beq_iff_eq.mpr c5; have c5b1 : (t650 != 0) = false := bne_eq_false_iff_eq.mpr c5; clear c5; obtain ⟨y653, hy653⟩ : ∃ y_ : List Int, y_ = (([(-1), 60, 61] : List Int)) := ⟨_, rfl⟩
  replace H : ((spec_l1PickInt.f s0_0 t651 t652 y653).bind fun bt656 => (some (bt656.1, t640, t641, t642, t643, t646, bt656.2.1, bt656.2.2))) = some (r1, r2, r3, r4, r5, r6, r7, r8) := by first | (rw [hy653]; with_reducible exact H) | (have H2_ := (Option.bind_some _ _).symm.trans H; rw [hy653]; with_reducible exact H2_) | (have H2_ := (Option.bind_some _ _).symm.trans H; with_reducible exact H2_) | with_reducible exact H | (rw [hy653]; exact H) | exact H
  have Ny653 := Aside0.mk hy653; clear hy653; obtain ⟨⟨t656, t657, t658⟩, A60, H⟩ := Option.bind_eq_some_iff.mp H
  try dsimp only at H
  have A6 := Aside0.mk A60; clear A60
  simp only [Option.some.injEq, Prod.mk.injEq] at H
  obtain ⟨rfl, rfl, rfl, rfl, rfl, rfl, rfl, rfl⟩ := H; have i0_ := iB124 HI0; have i1_ : LB w0 w := ⟨HB.out⟩
  go_enter Tryz.func88, Tryz.ntmps88
  go_wp2_with (first | ((with_reducible refine gd 3 ?_); refine bL 3 #[.int .i64 a1_0, .int .i64 a1_1] 38 ?_; intro gb637 w7 _ _ _) | ((with_reducible refine gd 4 ?_); refine bL 4 #[.int .i64 0, .int .i64 0, .int .i64 0, .string (⟨#[]⟩ : ByteArray), .slice none 0 0, .string (⟨#[]⟩ : ByteArray)] 35 ?_; intro gb638 w8 _ _ _) | ((with_reducible refine gate_callee (f := 115) rfl ?_); refine gK1 (some 8) Tryz.func115 (spec_l11DrawRight.calls (hI := iS124 HI0) (hB := UpW.out) (w := _) (h := A3.out)) ?_; intro Ao644 co644 w9 _ _ _ HI10 HO645) | ((with_reducible refine gd 5 ?_); refine bL 5 #[.int .i64 0, .int .i64 0, .int .i64 0, .string (⟨#[]⟩ : ByteArray), .slice none 0 0, .string (⟨#[]⟩ : ByteArray)] 35 ?_; intro gb649 w11 _ _ _) | ((with_reducible refine gate_callee (f := 114) rfl ?_); refine gK (some 10) Tryz.func114 (spec_l1Below.calls (hI := iS124 HI10) (hB := UpW.out) (w := _) (h := A4.out)) ?_; intro w12 _ _ _ HI13) | ((with_reducible refine gate_dst (N := 14) rfl ?_); refine lL 14 3 (Kd.int .i64) rfl Ny653 ?_; intro Ao654 co654 w14 _ HO655) | ((with_reducible refine gate_callee (f := 116) rfl ?_); refine gK (some 15) Tryz.func116 (spec_l1PickInt.calls (hI := iS124 HI13) (hB := UpW.out) (hr1 := rC HO655) (hc1 := rL HO655) (hf1 := fS HO655) (w := _) (h := A6.out)) ?_; intro w15 _ _ _ HI16))
  refine bodyPost_ret (results_cell_row rfl _ _ gb638 35 #[.int .i64 t656, .int .i64 t640, .int .i64 t641, .string t642, .slice Ao644 t643.length co644, .string t646] (0, 0) _ rfl xB Tryz.underlying35 rfl (by kernel_rfl)) rfl ?_
  exact ⟨_, y0_18, rR HO645, iS124 HI16, UpW.out, UpB.out⟩
 rw [if_neg c5] at H
 have c5b0 : (t650 == 0) = false := beq_eq_false_iff_ne.mpr c5; have c5b1 : (t650 != 0) = true := bne_iff_ne.mpr c5
 by_cases c17 : t650 = 1
 ·
  rw [if_pos c17] at H
  have c17b0 : (t650 == 1) = true := beq_iff_eq.mpr c17; have c17b1 : (t650 != 1) = false := bne_eq_false_iff_eq.mpr c17; clear c17; obtain ⟨y659, hy659⟩ : ∃ y_ : List Int, y_ = (([(-1), 0, 60, 61] : List Int)) := ⟨_, rfl⟩
  replace H : ((spec_l1PickInt.f s0_0 t651 t652 y659).bind fun bt662 => (some (t639, bt662.1, t641, t642, t643, t646, bt662.2.1, bt662.2.2))) = some (r1, r2, r3, r4, r5, r6, r7, r8) := by first | (rw [hy659]; with_reducible exact H) | (have H2_ := (Option.bind_some _ _).symm.trans H; rw [hy659]; with_reducible exact H2_) | (have H2_ := (Option.bind_some _ _).symm.trans H; with_reducible exact H2_) | with_reducible exact H | (rw [hy659]; exact H) | exact H
  have Ny659 := Aside0.mk hy659; clear hy659; obtain ⟨⟨t662, t663, t664⟩, A180, H⟩ := Option.bind_eq_some_iff.mp H
  try dsimp only at H
  have A18 := Aside0.mk A180; clear A180
  simp only [Option.some.injEq, Prod.mk.injEq] at H
  obtain ⟨rfl, rfl, rfl, rfl, rfl, rfl, rfl, rfl⟩ := H; have i0_ := iB124 HI0; have i1_ : LB w0 w := ⟨HB.out⟩
  go_enter Tryz.func88, Tryz.ntmps88
  go_wp2_with (first | ((with_reducible refine gd 3 ?_); refine bL 3 #[.int .i64 a1_0, .int .i64 a1_1] 38 ?_; intro gb637 w19 _ _ _) | ((with_reducible refine gd 4 ?_); refine bL 4 #[.int .i64 0, .int .i64 0, .int .i64 0, .string (⟨#[]⟩ : ByteArray), .slice none 0 0, .string (⟨#[]⟩ : ByteArray)] 35 ?_; intro gb638 w20 _ _ _) | ((with_reducible refine gate_callee (f := 115) rfl ?_); refine gK1 (some 8) Tryz.func115 (spec_l11DrawRight.calls (hI := iS124 HI0) (hB := UpW.out) (w := _) (h := A3.out)) ?_; intro Ao644 co644 w21 _ _ _ HI22 HO645) | ((with_reducible refine gd 5 ?_); refine bL 5 #[.int .i64 0, .int .i64 0, .int .i64 0, .string (⟨#[]⟩ : ByteArray), .slice none 0 0, .string (⟨#[]⟩ : ByteArray)] 35 ?_; intro gb649 w23 _ _ _) | ((with_reducible refine gate_callee (f := 114) rfl ?_); refine gK (some 10) Tryz.func114 (spec_l1Below.calls (hI := iS124 HI22) (hB := UpW.out) (w := _) (h := A4.out)) ?_; intro w24 _ _ _ HI25) | ((with_reducible refine gate_dst (N := 20) rfl ?_); refine lL 20 3 (Kd.int .i64) rfl Ny659 ?_; intro Ao660 co660 w26 _ HO661) | ((with_reducible refine gate_callee (f := 116) rfl ?_); refine gK (some 21) Tryz.func116 (spec_l1PickInt.calls (hI := iS124 HI25) (hB := UpW.out) (hr1 := rC HO661) (hc1 := rL HO661) (hf1 := fS HO661) (w := _) (h := A18.out)) ?_; intro w27 _ _ _ HI28))
  refine bodyPost_ret (results_cell_row rfl _ _ gb638 35 #[.int .i64 t639, .int .i64 t662, .int .i64 t641, .string t642, .slice Ao644 t643.length co644, .string t646] (0, 0) _ rfl xB Tryz.underlying35 rfl (by kernel_rfl)) rfl ?_
  exact ⟨_, y0_18, rR HO645, iS124 HI28, UpW.out, UpB.out⟩
 rw [if_neg c17] at H
 have c17b0 : (t650 == 1) = false := beq_eq_false_iff_ne.mpr c17; have c17b1 : (t650 != 1) = true := bne_iff_ne.mpr c17
 by_cases c29 : t650 = 2
 ·
  rw [if_pos c29] at H
  have c29b0 : (t650 == 2) = true := beq_iff_eq.mpr c29; have c29b1 : (t650 != 2) = false := bne_eq_false_iff_eq.mpr c29; clear c29; obtain ⟨⟨t665, t666, t667⟩, A300, H⟩ := Option.bind_eq_some_iff.mp H
  try dsimp only at H
  have A30 := Aside0.mk A300; clear A300
  simp only [Option.some.injEq, Prod.mk.injEq] at H
  obtain ⟨rfl, rfl, rfl, rfl, rfl, rfl, rfl, rfl⟩ := H; have i0_ := iB124 HI0; have i1_ : LB w0 w := ⟨HB.out⟩
  go_enter Tryz.func88, Tryz.ntmps88
  go_wp2_with (first | ((with_reducible refine gd 3 ?_); refine bL 3 #[.int .i64 a1_0, .int .i64 a1_1] 38 ?_; intro gb637 w31 _ _ _) | ((with_reducible refine gd 4 ?_); refine bL 4 #[.int .i64 0, .int .i64 0, .int .i64 0, .string (⟨#[]⟩ : ByteArray), .slice none 0 0, .string (⟨#[]⟩ : ByteArray)] 35 ?_; intro gb638 w32 _ _ _) | ((with_reducible refine gate_callee (f := 115) rfl ?_); refine gK1 (some 8) Tryz.func115 (spec_l11DrawRight.calls (hI := iS124 HI0) (hB := UpW.out) (w := _) (h := A3.out)) ?_; intro Ao644 co644 w33 _ _ _ HI34 HO645) | ((with_reducible refine gd 5 ?_); refine bL 5 #[.int .i64 0, .int .i64 0, .int .i64 0, .string (⟨#[]⟩ : ByteArray), .slice none 0 0, .string (⟨#[]⟩ : ByteArray)] 35 ?_; intro gb649 w35 _ _ _) | ((with_reducible refine gate_callee (f := 114) rfl ?_); refine gK (some 10) Tryz.func114 (spec_l1Below.calls (hI := iS124 HI34) (hB := UpW.out) (w := _) (h := A4.out)) ?_; intro w36 _ _ _ HI37) | ((with_reducible refine gate_callee (f := 117) rfl ?_); refine gK (some 26) Tryz.func117 (spec_l5Draw.calls (hI := iS124 HI37) (hB := UpW.out) (w := _) (h := A30.out)) ?_; intro w38 _ _ _ HI39))
  refine bodyPost_ret (results_cell_row rfl _ _ gb638 35 #[.int .i64 t639, .int .i64 t640, .int .i64 t641, .string t642, .slice Ao644 t643.length co644, .string t665] (0, 0) _ rfl xB Tryz.underlying35 rfl (by kernel_rfl)) rfl ?_
  exact ⟨_, y0_18, rR HO645, iS124 HI39, UpW.out, UpB.out⟩
 rw [if_neg c29] at H
 have c29b0 : (t650 == 2) = false := beq_eq_false_iff_ne.mpr c29; have c29b1 : (t650 != 2) = true := bne_iff_ne.mpr c29
 by_cases c40 : t650 = 3
 ·
  rw [if_pos c40] at H
  have c40b0 : (t650 == 3) = true := beq_iff_eq.mpr c40; have c40b1 : (t650 != 3) = false := bne_eq_false_iff_eq.mpr c40; clear c40; obtain ⟨⟨t668, t669, t670, t673, t674⟩, A410, H⟩ := Option.bind_eq_some_iff.mp H
  try dsimp only at H
  have A41 := Aside0.mk A410; clear A410
  simp only [Option.some.injEq, Prod.mk.injEq] at H
  obtain ⟨rfl, rfl, rfl, rfl, rfl, rfl, rfl, rfl⟩ := H; have i0_ := iB124 HI0; have i1_ : LB w0 w := ⟨HB.out⟩
  go_enter Tryz.func88, Tryz.ntmps88
  go_wp2_with (first | ((with_reducible refine gd 3 ?_); refine bL 3 #[.int .i64 a1_0, .int .i64 a1_1] 38 ?_; intro gb637 w42 _ _ _) | ((with_reducible refine gd 4 ?_); refine bL 4 #[.int .i64 0, .int .i64 0, .int .i64 0, .string (⟨#[]⟩ : ByteArray), .slice none 0 0, .string (⟨#[]⟩ : ByteArray)] 35 ?_; intro gb638 w43 _ _ _) | ((with_reducible refine gate_callee (f := 115) rfl ?_); refine gK1 (some 8) Tryz.func115 (spec_l11DrawRight.calls (hI := iS124 HI0) (hB := UpW.out) (w := _) (h := A3.out)) ?_; intro Ao644 co644 w44 _ _ _ HI45 HO645) | ((with_reducible refine gd 5 ?_); refine bL 5 #[.int .i64 0, .int .i64 0, .int .i64 0, .string (⟨#[]⟩ : ByteArray), .slice none 0 0, .string (⟨#[]⟩ : ByteArray)] 35 ?_; intro gb649 w46 _ _ _) | ((with_reducible refine gate_callee (f := 114) rfl ?_); refine gK (some 10) Tryz.func114 (spec_l1Below.calls (hI := iS124 HI45) (hB := UpW.out) (w := _) (h := A4.out)) ?_; intro w47 _ _ _ HI48) | ((with_reducible refine gate_callee (f := 91) rfl ?_); refine gK1 (some 32) Tryz.func91 (spec_l7Draw.calls (hI := iS124 HI48) (hB := UpW.out) (w := _) (h := A41.out)) ?_; intro Ao671 co671 w49 _ _ _ HI50 HO672))
  refine bodyPost_ret (results_cell_row rfl _ _ gb638 35 #[.int .i64 t639, .int .i64 t640, .int .i64 t668, .string t669, .slice Ao671 t670.length co671, .string t646] (0, 0) _ rfl xB Tryz.underlying35 rfl (by kernel_rfl)) rfl ?_
  exact ⟨_, y0_18, rR HO672, iS124 HI50, UpW.out, UpB.out⟩
 rw [if_neg c40] at H
 have c40b0 : (t650 == 3) = false := beq_eq_false_iff_ne.mpr c40; have c40b1 : (t650 != 3) = true := bne_iff_ne.mpr c40
 simp only [Option.some.injEq, Prod.mk.injEq] at H
 obtain ⟨rfl, rfl, rfl, rfl, rfl, rfl, rfl, rfl⟩ := H; have i0_ := iB124 HI0; have i1_ : LB w0 w := ⟨HB.out⟩
 go_enter Tryz.func88, Tryz.ntmps88
 go_wp2_with (first | ((with_reducible refine gd 3 ?_); refine bL 3 #[.int .i64 a1_0, .int .i64 a1_1] 38 ?_; intro gb637 w51 _ _ _) | ((with_reducible refine gd 4 ?_); refine bL 4 #[.int .i64 0, .int .i64 0, .int .i64 0, .string (⟨#[]⟩ : ByteArray), .slice none 0 0, .string (⟨#[]⟩ : ByteArray)] 35 ?_; intro gb638 w52 _ _ _) | ((with_reducible refine gate_callee (f := 115) rfl ?_); refine gK1 (some 8) Tryz.func115 (spec_l11DrawRight.calls (hI := iS124 HI0) (hB := UpW.out) (w := _) (h := A3.out)) ?_; intro Ao644 co644 w53 _ _ _ HI54 HO645) | ((with_reducible refine gd 5 ?_); refine bL 5 #[.int .i64 0, .int .i64 0, .int .i64 0, .string (⟨#[]⟩ : ByteArray), .slice none 0 0, .string (⟨#[]⟩ : ByteArray)] 35 ?_; intro gb649 w55 _ _ _) | ((with_reducible refine gate_callee (f := 114) rfl ?_); refine gK (some 10) Tryz.func114 (spec_l1Below.calls (hI := iS124 HI54) (hB := UpW.out) (w := _) (h := A4.out)) ?_; intro w56 _ _ _ HI57))
 refine bodyPost_ret (results_cell_row rfl _ _ gb638 35 #[.int .i64 t639, .int .i64 t640, .int .i64 t641, .string t642, .slice Ao644 t643.length co644, .string t646] (0, 0) _ rfl xB Tryz.underlying35 rfl (by kernel_rfl)) rfl ?_
 exact ⟨_, y0_18, rR HO645, iS124 HI57, UpW.out, UpB.out⟩

/-! ### spec_l8Draw: function 89 -/
def spec_l8Draw.f (k : Nat) (s0_0 : List Int) (s0_1 : Int) (s0_2 : Int) (a1_0 : Int) (a1_1 : Int) : Option (ByteArray × Int × ByteArray × List Int × Int × Int) := (spec_l8DrawRight.f k s0_0 s0_1 s0_2 a1_0 a1_1).bind fun bt677 => ((spec_l1Below.f s0_0 bt677.2.2.2.2.1 bt677.2.2.2.2.2 10).bind fun bt686 => (if bt686.1 = 0 then ((spec_l5Draw.f k s0_0 bt686.2.1 bt686.2.2).bind fun bt689 => (some (bt689.1, bt677.2.1, bt677.2.2.1, bt677.2.2.2.1, bt689.2.1, bt689.2.2))) else (if bt686.1 = 1 then ((spec_l7Draw.f k s0_0 bt686.2.1 bt686.2.2 a1_0 a1_1).bind fun bt692 => (some (bt677.1, bt692.1, bt692.2.1, bt692.2.2.1, bt692.2.2.2.1, bt692.2.2.2.2))) else (some (bt677.1, bt677.2.1, bt677.2.2.1, bt677.2.2.2.1, bt686.2.1, bt686.2.2)))))
theorem spec_l8Draw.mono : ∀ a0 a1 a2 a3 a4 k, LeO (spec_l8Draw.f k a0 a1 a2 a3 a4) (spec_l8Draw.f (k + 1) a0 a1 a2 a3 a4) := by
 intro a0 a1 a2 a3 a4 k
 unfold spec_l8Draw.f
 repeat' first | (with_reducible exact spec_l5Draw.mono _ _ _ _) | (with_reducible exact spec_l7Draw.mono _ _ _ _ _ _) | (with_reducible exact spec_l8DrawRight.mono _ _ _ _ _ _) | (with_reducible exact LeO.refl _) | (with_reducible exact LeO.none _) | (with_reducible refine LeO.ite ?_ ?_) | (with_reducible refine LeO.bind ?_ (fun _ => ?_))
set_option maxHeartbeats 8000000 in
set_option maxRecDepth 100000 in
theorem spec_l8Draw.calls (k : Nat) (g : Nat) (s0_0 : List Int) (s0_1 : Int) (s0_2 : Int) (a1_0 : Int) (a1_1 : Int) (r1 : ByteArray) (r2 : Int) (r3 : ByteArray) (r4 : List Int) (r5 : Int) (r6 : Int) (w0 w : World) (hI : IsS124 w0 w g s0_0 s0_1 s0_2) (hB : Below w0.heap.size w0 w) (h : spec_l8Draw.f k s0_0 s0_1 s0_2 a1_0 a1_1 = some (r1, r2, r3, r4, r5, r6)) :
  Calls Tryz.prog 89 #[.pointer (some ⟨g, 0, none⟩), .agg #[.int .i64 a1_0, .int .i64 a1_1]] w fun e w' => ∃ v3_ : Value, e = .returned (.agg #[.string r1, .int .i64 r2, .string r3, v3_]) ∧ Kd.R (Kd.int .i64) 3 w' w.heap.size (fun _ => True) v3_ r4 ∧ IsS124 w0 w' g s0_0 r5 r6 ∧ Below w0.heap.size w0 w' ∧ KeepBut w w' g none := by
 have hu38 := Tryz.underlying38; have hu42 := Tryz.underlying42; have hu33 := Tryz.underlying33; have HI0 := Aside0.mk hI; have HK := Aside0.mk (KeepBut.refl w g none); have HL := Aside0.mk hB.size; clear hI; have HW0 := Aside0.mk hB.size; have HB := Aside0.mk hB; clear hB
 have H : ((spec_l8DrawRight.f k s0_0 s0_1 s0_2 a1_0 a1_1).bind fun bt677 => ((spec_l1Below.f s0_0 bt677.2.2.2.2.1 bt677.2.2.2.2.2 10).bind fun bt686 => (if bt686.1 = 0 then ((spec_l5Draw.f k s0_0 bt686.2.1 bt686.2.2).bind fun bt689 => (some (bt689.1, bt677.2.1, bt677.2.2.1, bt677.2.2.2.1, bt689.2.1, bt689.2.2))) else (if bt686.1 = 1 then ((spec_l7Draw.f k s0_0 bt686.2.1 bt686.2.2 a1_0 a1_1).bind fun bt692 => (some (bt677.1, bt692.1, bt692.2.1, bt692.2.2.1, bt692.2.2.2.1, bt692.2.2.2.2))) else (some (bt677.1, bt677.2.1, bt677.2.2.1, bt677.2.2.2.1, bt686.2.1, bt686.2.2)))))) = some (r1, r2, r3, r4, r5, r6) := h
 clear h; obtain ⟨⟨t677, t678, t679, t680, t683, t684⟩, A30, H⟩ := Option.bind_eq_some_iff.mp H
 try dsimp only at H
 have A3 := Aside0.mk A30; clear A30; obtain ⟨⟨t686, t687, t688⟩, A40, H⟩ := Option.bind_eq_some_iff.mp H
 try dsimp only at H
 have A4 := Aside0.mk A40; clear A40
 by_cases c5 : t686 = 0
 ·
  rw [if_pos c5] at H
  have c5b0 : (t686 == 0) = true := beq_iff_eq.mpr c5; have c5b1 : (t686 != 0) = false := bne_eq_false_iff_eq.mpr c5; clear c5; obtain ⟨⟨t689, t690, t691⟩, A60, H⟩ := Option.bind_eq_some_iff.mp H
  try dsimp only at H
  have A6 := Aside0.mk A60; clear A60
  simp only [Option.some.injEq, Prod.mk.injEq] at H
  obtain ⟨rfl, rfl, rfl, rfl, rfl, rfl⟩ := H; have i0_ := iB124 HI0; have i1_ : LB w0 w := ⟨HB.out⟩
  go_enter Tryz.func89, Tryz.ntmps89
  go_wp2_with (first | ((with_reducible refine gd 3 ?_); refine bL 3 #[.int .i64 a1_0, .int .i64 a1_1] 38 ?_; intro gb675 w7 _ _ _) | ((with_reducible refine gd 4 ?_); refine bL 4 #[.string (⟨#[]⟩ : ByteArray), .int .i64 0, .string (⟨#[]⟩ : ByteArray), .slice none 0 0] 42 ?_; intro gb676 w8 _ _ _) | ((with_reducible refine gate_callee (f := 118) rfl ?_); refine gK1 (some 8) Tryz.func118 (spec_l8DrawRight.calls (hI := iS124 HI0) (hB := UpW.out) (w := _) (h := A3.out)) ?_; intro Ao681 co681 w9 _ _ _ HI10 HO682) | ((with_reducible refine gd 5 ?_); refine bL 5 #[.string (⟨#[]⟩ : ByteArray), .int .i64 0, .string (⟨#[]⟩ : ByteArray), .slice none 0 0] 42 ?_; intro gb685 w11 _ _ _) | ((with_reducible refine gate_callee (f := 114) rfl ?_); refine gK (some 10) Tryz.func114 (spec_l1Below.calls (hI := iS124 HI10) (hB := UpW.out) (w := _) (h := A4.out)) ?_; intro w12 _ _ _ HI13) | ((with_reducible refine gate_callee (f := 117) rfl ?_); refine gK (some 14) Tryz.func117 (spec_l5Draw.calls (hI := iS124 HI13) (hB := UpW.out) (w := _) (h := A6.out)) ?_; intro w14 _ _ _ HI15))
  refine bodyPost_ret (results_cell_row rfl _ _ gb676 42 #[.string t689, .int .i64 t678, .string t679, .slice Ao681 t680.length co681] (0, 0) _ rfl xB Tryz.underlying42 rfl (by kernel_rfl)) rfl ?_
  exact ⟨_, y0_18, rR HO682, iS124 HI15, UpW.out, UpB.out⟩
 rw [if_neg c5] at H
 have c5b0 : (t686 == 0) = false := beq_eq_false_iff_ne.mpr c5; have c5b1 : (t686 != 0) = true := bne_iff_ne.mpr c5
 by_cases c16 : t686 = 1
 ·
  rw [if_pos c16] at H
  have c16b0 : (t686 == 1) = true := beq_iff_eq.mpr c16; have c16b1 : (t686 != 1) = false := bne_eq_false_iff_eq.mpr c16; clear c16; obtain ⟨⟨t692, t693, t694, t697, t698⟩, A170, H⟩ := Option.bind_eq_some_iff.mp H
  try dsimp only at H
  have A17 := Aside0.mk A170; clear A170
  simp only [Option.some.injEq, Prod.mk.injEq] at H
  obtain ⟨rfl, rfl, rfl, rfl, rfl, rfl⟩ := H; have i0_ := iB124 HI0; have i1_ : LB w0 w := ⟨HB.out⟩
  go_enter Tryz.func89, Tryz.ntmps89
  go_wp2_with (first | ((with_reducible refine gd 3 ?_); refine bL 3 #[.int .i64 a1_0, .int .i64 a1_1] 38 ?_; intro gb675 w18 _ _ _) | ((with_reducible refine gd 4 ?_); refine bL 4 #[.string (⟨#[]⟩ : ByteArray), .int .i64 0, .string (⟨#[]⟩ : ByteArray), .slice none 0 0] 42 ?_; intro gb676 w19 _ _ _) | ((with_reducible refine gate_callee (f := 118) rfl ?_); refine gK1 (some 8) Tryz.func118 (spec_l8DrawRight.calls (hI := iS124 HI0) (hB := UpW.out) (w := _) (h := A3.out)) ?_; intro Ao681 co681 w20 _ _ _ HI21 HO682) | ((with_reducible refine gd 5 ?_); refine bL 5 #[.string (⟨#[]⟩ : ByteArray), .int .i64 0, .string (⟨#[]⟩ : ByteArray), .slice none 0 0] 42 ?_; intro gb685 w22 _ _ _) | ((with_reducible refine gate_callee (f := 114) rfl ?_); refine gK (some 10) Tryz.func114 (spec_l1Below.calls (hI := iS124 HI21) (hB := UpW.out) (w := _) (h := A4.out)) ?_; intro w23 _ _ _ HI24) | ((with_reducible refine gate_callee (f := 91) rfl ?_); refine gK1 (some 20) Tryz.func91 (spec_l7Draw.calls (hI := iS124 HI24) (hB := UpW.out) (w := _) (h := A17.out)) ?_; intro Ao695 co695 w25 _ _ _ HI26 HO696))
  refine bodyPost_ret (results_cell_row rfl _ _ gb676 42 #[.string t677, .int .i64 t692, .string t693, .slice Ao695 t694.length co695] (0, 0) _ rfl xB Tryz.underlying42 rfl (by kernel_rfl)) rfl ?_
  exact ⟨_, y0_18, rR HO696, iS124 HI26, UpW.out, UpB.out⟩
 rw [if_neg c16] at H
 have c16b0 : (t686 == 1) = false := beq_eq_false_iff_ne.mpr c16; have c16b1 : (t686 != 1) = true := bne_iff_ne.mpr c16
 simp only [Option.some.injEq, Prod.mk.injEq] at H
 obtain ⟨rfl, rfl, rfl, rfl, rfl, rfl⟩ := H; have i0_ := iB124 HI0; have i1_ : LB w0 w := ⟨HB.out⟩
 go_enter Tryz.func89, Tryz.ntmps89
 go_wp2_with (first | ((with_reducible refine gd 3 ?_); refine bL 3 #[.int .i64 a1_0, .int .i64 a1_1] 38 ?_; intro gb675 w27 _ _ _) | ((with_reducible refine gd 4 ?_); refine bL 4 #[.string (⟨#[]⟩ : ByteArray), .int .i64 0, .string (⟨#[]⟩ : ByteArray), .slice none 0 0] 42 ?_; intro gb676 w28 _ _ _) | ((with_reducible refine gate_callee (f := 118) rfl ?_); refine gK1 (some 8) Tryz.func118 (spec_l8DrawRight.calls (hI := iS124 HI0) (hB := UpW.out) (w := _) (h := A3.out)) ?_; intro Ao681 co681 w29 _ _ _ HI30 HO682) | ((with_reducible refine gd 5 ?_); refine bL 5 #[.string (⟨#[]⟩ : ByteArray), .int .i64 0, .string (⟨#[]⟩ : ByteArray), .slice none 0 0] 42 ?_; intro gb685 w31 _ _ _) | ((with_reducible refine gate_callee (f := 114) rfl ?_); refine gK (some 10) Tryz.func114 (spec_l1Below.calls (hI := iS124 HI30) (hB := UpW.out) (w := _) (h := A4.out)) ?_; intro w32 _ _ _ HI33))
 refine bodyPost_ret (results_cell_row rfl _ _ gb676 42 #[.string t677, .int .i64 t678, .string t679, .slice Ao681 t680.length co681] (0, 0) _ rfl xB Tryz.underlying42 rfl (by kernel_rfl)) rfl ?_
 exact ⟨_, y0_18, rR HO682, iS124 HI33, UpW.out, UpB.out⟩

/-! ### spec_DrawMayVote: function 41 -/
def spec_DrawMayVote.f (k : Nat) (l0 : List Int) : Option (Int × Int × Int × Int × Int × ByteArray × List Int × ByteArray × ByteArray × Int × ByteArray × List Int) := (spec_l1New.f k l0).bind fun bt702 => ((spec_l7DrawConf.f bt702.1 bt702.2.1 bt702.2.2).bind fun bt706 => ((spec_l11Draw.f k bt702.1 bt706.2.2.1 bt706.2.2.2 bt706.1 bt706.2.1).bind fun bt711 => ((spec_l8Draw.f k bt702.1 bt711.2.2.2.2.2.2.1 bt711.2.2.2.2.2.2.2 bt706.1 bt706.2.1).bind fun bt722 => (some (bt706.1, bt706.2.1, bt711.1, bt711.2.1, bt711.2.2.1, bt711.2.2.2.1, bt711.2.2.2.2.1, bt711.2.2.2.2.2.1, bt722.1, bt722.2.1, bt722.2.2.1, bt722.2.2.2.1)))))
theorem spec_DrawMayVote.mono : ∀ a0 k, LeO (spec_DrawMayVote.f k a0) (spec_DrawMayVote.f (k + 1) a0) := by
 intro a0 k
 unfold spec_DrawMayVote.f
 repeat' first | (with_reducible exact spec_l11Draw.mono _ _ _ _ _ _) | (with_reducible exact spec_l1New.mono _ _) | (with_reducible exact spec_l8Draw.mono _ _ _ _ _ _) | (with_reducible exact LeO.refl _) | (with_reducible exact LeO.none _) | (with_reducible refine LeO.ite ?_ ?_) | (with_reducible refine LeO.bind ?_ (fun _ => ?_))
def spec_DrawMayVote.T4 : Bool × List (List Nat × List Nat) := (true, [([], []), ([], []), ([], []), ([], []), ([2, 3], [2, 3]), ([0, 4, 0], [0]), ([1, 5, 0, 1, 5], [1]), ([4, 6, 0, 1, 2, 3, 4, 5, 6], [4])])
def spec_DrawMayVote.B4 : List Nat := [0, 0, 0, 0, 12, 29, 63, 127]
theorem spec_DrawMayVote.tab4 : rtab .any (opsOf Tryz.f41 4) = spec_DrawMayVote.T4 := by kernel_rfl
theorem spec_DrawMayVote.bits4 : waitsOk spec_DrawMayVote.T4.2 spec_DrawMayVote.B4 = true := by kernel_rfl
set_option maxHeartbeats 8000000 in
set_option maxRecDepth 100000 in
theorem spec_DrawMayVote.calls (k : Nat) (A0 : Option Addr) (c0 : Nat) (l0 : List Int) (r1 : Int) (r2 : Int) (r3 : Int) (r4 : Int) (r5 : Int) (r6 : ByteArray) (r7 : List Int) (r8 : ByteArray) (r9 : ByteArray) (r10 : Int) (r11 : ByteArray) (r12 : List Int) (w : World) (hr0 : Kd.C (Kd.int .u8) w A0 l0.length l0) (hc0 : l0.length ≤ c0) (h : spec_DrawMayVote.f k l0 = some (r1, r2, r3, r4, r5, r6, r7, r8, r9, r10, r11, r12)) :
  Calls Tryz.prog 41 #[.slice A0 l0.length c0] w fun e w' => ∃ v6_ v11_ : Value, e = .returned (.tuple #[.agg #[.int .i64 r1, .int .i64 r2], .agg #[.int .i64 r3, .int .i64 r4, .int .i64 r5, .string r6, v6_, .string r8], .agg #[.string r9, .int .i64 r10, .string r11, v11_]]) ∧ Kd.R (Kd.int .i64) 3 w' w.heap.size (fun k_ => some k_ ≠ (v11_ : Value).ownBlock) v6_ r7 ∧ Kd.R (Kd.int .i64) 3 w' w.heap.size (fun k_ => some k_ ≠ (v6_ : Value).ownBlock) v11_ r12 ∧ Below w.heap.size w w' := by
 have hu38 := Tryz.underlying38; have hu35 := Tryz.underlying35; have hu42 := Tryz.underlying42; have HR0 := Aside0.mk hr0; have HC0 := Aside0.mk hc0; clear hr0 hc0; have HB := Aside0.mk (Below.refl w.heap.size w)
 have H : ((spec_l1New.f k l0).bind fun bt702 => ((spec_l7DrawConf.f bt702.1 bt702.2.1 bt702.2.2).bind fun bt706 => ((spec_l11Draw.f k bt702.1 bt706.2.2.1 bt706.2.2.2 bt706.1 bt706.2.1).bind fun bt711 => ((spec_l8Draw.f k bt702.1 bt711.2.2.2.2.2.2.1 bt711.2.2.2.2.2.2.2 bt706.1 bt706.2.1).bind fun bt722 => (some (bt706.1, bt706.2.1, bt711.1, bt711.2.1, bt711.2.2.1, bt711.2.2.2.1, bt711.2.2.2.2.1, bt711.2.2.2.2.2.1, bt722.1, bt722.2.1, bt722.2.2.1, bt722.2.2.2.1)))))) = some (r1, r2, r3, r4, r5, r6, r7, r8, r9, r10, r11, r12) := h
 clear h; obtain ⟨⟨t702, t703, t704⟩, A20, H⟩ := Option.bind_eq_some_iff.mp H
 try dsimp only at H
 have A2 := Aside0.mk A20; clear A20; obtain ⟨⟨t706, t707, t708, t709⟩, A30, H⟩ := Option.bind_eq_some_iff.mp H
 try dsimp only at H
 have A3 := Aside0.mk A30; clear A30; obtain ⟨⟨t711, t712, t713, t714, t715, t718, t719, t720⟩, A40, H⟩ := Option.bind_eq_some_iff.mp H
 try dsimp only at H
 have A4 := Aside0.mk A40; clear A40; obtain ⟨⟨t722, t723, t724, t725, t728, t729⟩, A50, H⟩ := Option.bind_eq_some_iff.mp H
 try dsimp only at H
 have A5 := Aside0.mk A50; clear A50
 simp only [Option.some.injEq, Prod.mk.injEq] at H
 obtain ⟨rfl, rfl, rfl, rfl, rfl, rfl, rfl, rfl, rfl, rfl, rfl, rfl⟩ := H
 go_enter Tryz.func41, Tryz.ntmps41
 try go_wp2_with (first | ((with_reducible refine gd 2 ?_); refine bL 2 #[.int .i64 0, .int .i64 0] 38 ?_; intro gb699 w6 _ _ _) | ((with_reducible refine gd 3 ?_); refine bL 3 #[.int .i64 0, .int .i64 0, .int .i64 0, .string (⟨#[]⟩ : ByteArray), .slice none 0 0, .string (⟨#[]⟩ : ByteArray)] 35 ?_; intro gb700 w7 _ _ _) | ((with_reducible refine gd 4 ?_); refine bL 4 #[.string (⟨#[]⟩ : ByteArray), .int .i64 0, .string (⟨#[]⟩ : ByteArray), .slice none 0 0] 42 ?_; intro gb701 w8 _ _ _) | ((with_reducible refine gate_callee (f := 86) rfl ?_); refine wL ?_; intro w9 _; refine gN (some 9) Tryz.func86 (spec_l1New.calls (hB := Below.refl _ _) (hr0 := pC HR0) (hc0 := HC0.out) (w := _) (h := A2.out)) ?_; intro g705 w10 _ _ _ HI11) | ((with_reducible refine gate_callee (f := 87) rfl ?_); refine gK (some 11) Tryz.func87 (spec_l7DrawConf.calls (hI := iS124 HI11) (hB := UpW.out) (w := _) (h := A3.out)) ?_; intro w12 _ _ _ HI13) | ((with_reducible refine gd 6 ?_); refine bL 6 #[.int .i64 0, .int .i64 0] 38 ?_; intro gb710 w14 _ _ _) | ((with_reducible refine gate_callee (f := 88) rfl ?_); refine gK1 (some 14) Tryz.func88 (spec_l11Draw.calls (hI := iS124 HI13) (hB := UpW.out) (w := _) (h := A4.out)) ?_; intro Ao716 co716 w15 _ _ _ HI16 HO717) | ((with_reducible refine gd 7 ?_); refine bL 7 #[.int .i64 0, .int .i64 0, .int .i64 0, .string (⟨#[]⟩ : ByteArray), .slice none 0 0, .string (⟨#[]⟩ : ByteArray)] 35 ?_; intro gb721 w17 _ _ _))
 refine sB [g705, gb699, gb700, gb701] spec_DrawMayVote.tab4 spec_DrawMayVote.bits4 ?_; intro w18 _ HT_ HW_
 refine tB 0 (some 15) (bz 8 1) HT_ HW_ ?_
 refine tB 1 (some 16) (bz 8 3) HT_ HW_ ?_
 refine pA 2 (some 17) (bz 8 7) HT_ ?_
 refine tB 3 (some 18) (bz 8 15) HT_ HW_ ?_
 refine o1 4 (some 19) (bz 8 31) HT_ rfl (kK1 Tryz.func89 (spec_l8Draw.calls (hI := iS124 HI16) (hB := UpW.out) (w := _) (h := A5.out)) ?_); intro Ao726 co726 w19 _ _ _ HI20 HO727
 refine nA (some 19) ?_
 refine o1 5 none (bz 8 63) HT_ rfl (kS ?_)
 refine o1 6 none (bz 8 127) HT_ rfl (kS ?_)
 refine o1 7 none (bz 8 255) HT_ rfl (kS ?_)
 refine done_ (done_of HT_.out (by kernel_rfl)) ?_
 try go_wp2
 refine bodyPost_ret (results_list (rs := [.cell 2 38, .cell 3 35, .cell 4 42]) rfl (by simp) (.cell gb699 38 #[.int .i64 t706, .int .i64 t707] (0, 0) _ rfl xB Tryz.underlying38 rfl (by kernel_rfl) (.cell gb700 35 #[.int .i64 t711, .int .i64 t712, .int .i64 t713, .string t714, .slice Ao716 t715.length co716, .string t718] (0, 0) _ rfl xB Tryz.underlying35 rfl (by kernel_rfl) (.cell gb701 42 #[.string t722, .int .i64 t723, .string t724, .slice Ao726 t725.length co726] (0, 0) _ rfl xB Tryz.underlying42 rfl (by kernel_rfl) .nil)))) rfl ?_
 exact ⟨_, _, y0_18, rE HO717 HO727, rY HO727 HO717, UpW.out⟩

/-! ### impl_within: function 99 -/
def impl_within.f (a0 : Int) (a1 : Int) (a2 : Int) : Option (Bool) := if a0 ≥ a1 then (some (decide (a0 ≤ a2))) else (some false)
set_option maxHeartbeats 8000000 in
set_option maxRecDepth 100000 in
theorem impl_within.calls (a0 : Int) (a1 : Int) (a2 : Int) (r : Bool) (w : World) (h : impl_within.f a0 a1 a2 = some r) :
  Calls Tryz.prog 99 #[.int .i64 a0, .int .i64 a1, .int .i64 a2] w fun e w' => e = .returned (.bool r) ∧ Drawn0 w w' := by
 have H : (if a0 ≥ a1 then (some (decide (a0 ≤ a2))) else (some false)) = some r := h; clear h
 by_cases c4 : a0 ≥ a1
 ·
  rw [if_pos c4] at H
  have c4b0 : decide (a1 ≤ a0) = true := decide_eq_true c4; clear c4; obtain rfl := Option.some.inj H
  go_enter Tryz.func99, Tryz.ntmps99
  go_wp2
  go_ret
  exact ⟨y0_18, y0_16⟩
 rw [if_neg c4] at H
 have c4b0 : decide (a1 ≤ a0) = false := decide_eq_false c4; clear c4; obtain rfl := Option.some.inj H
 go_enter Tryz.func99, Tryz.ntmps99
 go_wp2
 go_ret
 exact ⟨y0_18, y0_16⟩

/-! ### strings_Split: function 141 -/

/-! ### impl_Split: function 119 -/
def impl_Split.f (a0 : ByteArray) (a1 : Int) : Option (List ByteArray) := (strings_Split.f a0 (strOfNums (([a1] : List Int)))).bind fun t733 => (some t733)
set_option maxHeartbeats 8000000 in
set_option maxRecDepth 100000 in
theorem impl_Split.calls (a0 : ByteArray) (a1 : Int) (r : List ByteArray) (w : World) (h : impl_Split.f a0 a1 = some r) (hG : Glob w := by exact gG HG HB) :
  Calls Tryz.prog 119 #[.string a0, .int .u8 a1] w fun e w' => ∃ v0_ : Value, e = .returned (v0_) ∧ Kd.R Kd.string 9 w' w.heap.size (fun _ => True) v0_ r ∧ Below w.heap.size w w' := by
 have HG := Aside0.mk hG; clear hG; have HB := Aside0.mk (Below.refl w.heap.size w)
 have H : ((strings_Split.f a0 (strOfNums (([a1] : List Int)))).bind fun t733 => (some t733)) = some r := h
 clear h; obtain ⟨y730, hy730⟩ : ∃ y_ : List Int, y_ = (([a1] : List Int)) := ⟨_, rfl⟩
 replace H : ((strings_Split.f a0 (strOfNums y730)).bind fun t733 => (some t733)) = some r := by first | (rw [hy730]; with_reducible exact H) | (have H2_ := (Option.bind_some _ _).symm.trans H; rw [hy730]; with_reducible exact H2_) | (have H2_ := (Option.bind_some _ _).symm.trans H; with_reducible exact H2_) | with_reducible exact H | (rw [hy730]; exact H) | exact H
 have Ny730 := Aside0.mk hy730; clear hy730; obtain ⟨t733, A30, H⟩ := Option.bind_eq_some_iff.mp H
 try dsimp only at H
 have A3 := Aside0.mk A30; clear A30; obtain rfl := Option.some.inj H
 go_enter Tryz.func119, Tryz.ntmps119
 go_wp2_with (first | ((with_reducible refine gate_dst (N := 7) rfl ?_); refine Kd.R_lit (Kd.int .u8) _ 5 ?hg (N := 7) ?hd (xs := ([a1] : List Int)) (inner := [.int .u8 a1]) (ok := fun _ => True) (okp := fun _ => True) ?hr ?hp (fun _ hk => hk) trivial (Below.refl _ _) (Nat.le_refl _) (by simp) ?_; (case hd => rfl); (case hg => rfl); (case hr => first | (go_simp; done) | (go_simp; rfl)); (case hp => exact (Reps.one (show Kd.M (Kd.int .u8) _ _ _ a1 [.int .u8 a1] from rfl) (Reps.none _ _))); intro v731 w4 ho5 hb hg_ hnew_; clear hg_ hnew_; (first | rw [← Ny730.out] at ho5 | (simp only [Int.reduceToNat] at ho5; rw [← Ny730.out] at ho5)); have HO732 := Aside0.mk (Kd.R_lower ho5 (below_size (bI HB.out))); replace HB := bs HB hb; clear hb ho5; have hcv6 := own_string (P := Tryz.prog) Tryz.underlying64 Tryz.underlying5 Tryz.underlying9 (Kd.own_of_R HO732.out)) | ((with_reducible refine gate_callee (f := 141) rfl ?_); refine gB (some 9) Tryz.func141 #[.string a0, .string (strOfNums y730)] ?_; (with_reducible refine (strings_Split.calls a0 (strOfNums y730) t733 _ A3.out).mono ?_); rintro e w7 ⟨v734, rfl, ho0, hb⟩; refine ⟨_, rfl, ?_⟩; replace HO732 := rb HO732 hb; have HO735 := Aside0.mk (Kd.R_lower ho0 (below_size (bI HB.out))); replace HB := bs HB hb; (try clear hb); (try clear ho0)))
 go_ret
 exact ⟨_, y0_14, by (with_reducible repeat (first | apply Kd.R_alloc | apply Kd.R_drewN | apply Kd.R_drew)); exact HO735.out, bI HB.out⟩

/-! ### strings_Cut: function 120 -/

/-! ### strconv_Itoa_134: function 134 -/

/-! ### impl_Digits: function 111 -/
def impl_Digits.f (a0 : Int) : Option (ByteArray) := (strconv_Itoa_134.f a0).bind fun t736 => (some t736)
set_option maxHeartbeats 8000000 in
set_option maxRecDepth 100000 in
theorem impl_Digits.calls (a0 : Int) (r : ByteArray) (w : World) (h : impl_Digits.f a0 = some r) (hG : Glob w := by exact gG HG HB) :
  Calls Tryz.prog 111 #[.int .i64 a0] w fun e w' => e = .returned (.string r) ∧ Below w.heap.size w w' := by
 have HG := Aside0.mk hG; clear hG; have HB := Aside0.mk (Below.refl w.heap.size w)
 have H : ((strconv_Itoa_134.f a0).bind fun t736 => (some t736)) = some r := h
 clear h; obtain ⟨t736, A20, H⟩ := Option.bind_eq_some_iff.mp H
 try dsimp only at H
 have A2 := Aside0.mk A20; clear A20; obtain rfl := Option.some.inj H
 go_enter Tryz.func111, Tryz.ntmps111
 go_wp2_with (first | ((with_reducible refine gate_callee (f := 134) rfl ?_); refine gC (some 4) Tryz.func134 (strconv_Itoa_134.calls (w := _) (h := A2.out)) ?_; intro w3 _))
 go_ret
 exact ⟨y0_18, UpW.out⟩

/-! ### impl_Number: function 121 -/
mutual
def impl_Number.j0 : Nat → ByteArray → Bool → Option (Int × Bool)
 | 0, _, _ => none
 | k + 1, x0, x13 => if x13 = true then (some (0, false)) else (impl_Number.l0 k x0 0 0)
def impl_Number.l0 : Nat → ByteArray → Int → Int → Option (Int × Bool)
 | 0, _, _, _ => none
 | k + 1, x0, x4, x5 => if x5 < (x0.size : Int) then (if 0 ≤ x5 then (if (bt x0 x5) < 48 then (some (0, false)) else (if (bt x0 x5) > 57 then (some (0, false)) else (impl_Number.l0 k x0 (wrap64 ((wrap64 (10 * x4)) + (((bt x0 x5) - 48) % 256))) (wrap64 (x5 + 1))))) else (none)) else ((impl_Digits.f x4).bind fun t737 => (if t737.toList = x0.toList then (some (x4, true)) else (some (0, false))))
end
def impl_Number.f (k : Nat) (a0 : ByteArray) : Option (Int × Bool) := if (a0.size : Int) < 1 then (impl_Number.j0 k a0 true) else (impl_Number.j0 k a0 (decide ((a0.size : Int) > 6)))
theorem impl_Number.mono_l : ∀ k, (∀ y0 y1, LeO (impl_Number.j0 k y0 y1) (impl_Number.j0 (k + 1) y0 y1)) ∧ (∀ y0 y1 y2, LeO (impl_Number.l0 k y0 y1 y2) (impl_Number.l0 (k + 1) y0 y1 y2))
 | 0 => ⟨fun _ _ r h => by simp [impl_Number.j0] at h, fun _ _ _ r h => by simp [impl_Number.l0] at h⟩
 | k + 1 => by
  obtain ⟨ih0, ih1⟩ := impl_Number.mono_l k
  refine ⟨?_, ?_⟩
  ·
   intro y0 y1
   unfold impl_Number.j0
   repeat' first | (with_reducible exact ih0 _ _) | (with_reducible exact ih1 _ _ _) | (with_reducible exact LeO.refl _) | (with_reducible exact LeO.none _) | (with_reducible refine LeO.ite ?_ ?_) | (with_reducible refine LeO.bind ?_ (fun _ => ?_))
  intro y0 y1 y2
  unfold impl_Number.l0
  repeat' first | (with_reducible exact ih0 _ _) | (with_reducible exact ih1 _ _ _) | (with_reducible exact LeO.refl _) | (with_reducible exact LeO.none _) | (with_reducible refine LeO.ite ?_ ?_) | (with_reducible refine LeO.bind ?_ (fun _ => ?_))
theorem impl_Number.mono : ∀ a0 k, LeO (impl_Number.f k a0) (impl_Number.f (k + 1) a0) := by
 intro a0 k
 obtain ⟨ih0, ih1⟩ := impl_Number.mono_l k
 unfold impl_Number.f
 repeat' first | (with_reducible exact ih0 _ _) | (with_reducible exact ih1 _ _ _) | (with_reducible exact LeO.refl _) | (with_reducible exact LeO.none _) | (with_reducible refine LeO.ite ?_ ?_) | (with_reducible refine LeO.bind ?_ (fun _ => ?_))
set_option maxHeartbeats 8000000 in
set_option maxRecDepth 100000 in
theorem impl_Number.calls (k : Nat) (a0 : ByteArray) (r1 : Int) (r2 : Bool) (w : World) (h : impl_Number.f k a0 = some (r1, r2)) (hG : Glob w := by exact gG HG HB) :
  Calls Tryz.prog 121 #[.string a0] w fun e w' => e = .returned (.tuple #[.int .i64 r1, .bool r2]) ∧ Below w.heap.size w w' := by
 have HG := Aside0.mk hG; clear hG; have HB := Aside0.mk (Below.refl w.heap.size w); have H : (if (a0.size : Int) < 1 then (impl_Number.j0 k a0 true) else (impl_Number.j0 k a0 (decide ((a0.size : Int) > 6)))) = some (r1, r2) := h; clear h; have HC2 := Aside0.mk H; clear H
 go_enter Tryz.func121, Tryz.ntmps121
 go_upto_region 1 with (fail)
 go_cut [13] (fun v13 wc => ∃ (kq : Nat) (x13_1 : Bool), v13 = .bool x13_1 ∧ Aside0 (impl_Number.j0 kq a0 x13_1 = some (r1, r2)) ∧ Aside0 (kq ≤ k) ∧ Aside0 (Below w.heap.size w wc))
 case first =>
  have H := HC2.out; clear HC2
  by_cases c3 : (a0.size : Int) < 1
  ·
   rw [if_pos c3] at H
   have c3b0 : decide ((a0.size : Int) < 1) = true := decide_eq_true c3
   have c3b1 : decide (a0.size < 1) = true := decide_eq_true (by omega)
   clear c3
   (first | rw [c3b0] | (simp only [i64_w, i32_w]; rw [c3b0]) | skip)
   have H' := Aside0.mk H; clear H
   go_wp2
   go_meet
   case rel => exact ⟨_, (true), y0_18, H', ⟨y0_19⟩, ⟨bI HB.out⟩⟩
  rw [if_neg c3] at H
  have c3b0 : decide ((a0.size : Int) < 1) = false := decide_eq_false c3
  have c3b1 : decide (a0.size < 1) = false := decide_eq_false (by omega)
  clear c3
  (first | rw [c3b0] | (simp only [i64_w, i32_w]; rw [c3b0]) | skip)
  have H' := Aside0.mk H; clear H
  go_wp2
  go_meet
  case rel => exact ⟨_, (decide ((a0.size : Int) > 6)), y0_18, H', ⟨y0_19⟩, ⟨bI HB.out⟩⟩
 case rest =>
  clear HC2
  try clear c1
  try clear p2
  try clear c3
  try clear c3b0
  try clear c3b1
  obtain ⟨kq, x13_1, rfl, HA, HJ1, HB⟩ := hcut; cases kq with
  | zero => exact absurd HA.out (by simp [impl_Number.j0])
  | succ kj1 =>
   have H := HA.out; clear HA
   simp only [impl_Number.j0] at H
   by_cases c4 : x13_1 = true
   ·
    subst c4
    rw [if_pos rfl] at H
    simp only [Option.some.injEq, Prod.mk.injEq] at H
    obtain ⟨rfl, rfl⟩ := H
    go_wp2
    go_ret2
    exact ⟨y0_14, bI HB.out⟩
   replace c4 := Bool.eq_false_iff.mpr c4; subst c4
   rw [if_neg (show ¬ (false = true) by decide)] at H
   have H' := Aside0.mk H; clear H
   go_wp2
   go_loopg [4, 5] kj1 (fun kq v4 v5 w' => ∃ (x4_2 : Int) (x5_2 : Int), v4 = .int .i64 x4_2 ∧ v5 = .int .i64 x5_2 ∧ Aside0 (impl_Number.l0 kq a0 x4_2 x5_2 = some (r1, r2)) ∧ Aside0 (kq ≤ kj1) ∧ Aside0 (Below w.heap.size w w'))
   case atStart => exact ⟨(0), (0), y0_18, y0_18, H', ⟨Nat.le_refl _⟩, ⟨bI HB.out⟩⟩
   case round =>
    clear H'
    try clear c1
    try clear p2
    try clear c3
    try clear c3b0
    try clear c3b1
    try clear c4
    try clear p2
    obtain ⟨x4_2, x5_2, rfl, rfl, HA, HK2, HB⟩ := hrel; cases gk with
    | zero => exact absurd HA.out (by simp [impl_Number.l0])
    | succ k2 =>
     have H := HA.out; clear HA
     simp only [impl_Number.l0] at H
     by_cases c5 : x5_2 < (a0.size : Int)
     ·
      rw [if_pos c5] at H
      have c5b0 : decide (x5_2 < (a0.size : Int)) = true := decide_eq_true c5; clear c5
      by_cases c6 : 0 ≤ x5_2
      rotate_left
      ·
       rw [if_neg c6] at H
       exact absurd H (by simp)
      rw [if_pos c6] at H
      have c6b0 : decide (0 ≤ x5_2) = true := decide_eq_true c6; clear c6
      by_cases c8 : (bt a0 x5_2) < 48
      ·
       rw [if_pos c8] at H
       have c8b0 : decide ((bt a0 x5_2) < 48) = true := decide_eq_true c8; clear c8
       simp only [Option.some.injEq, Prod.mk.injEq] at H
       obtain ⟨rfl, rfl⟩ := H; have p7 : 0 ≤ (x5_2 : Int) := of_decide_eq_true y0_17; have q7 : x5_2 < (a0.size : Int) := of_decide_eq_true y0_17; have hx7 := bt_at a0 x5_2; replace p7 := eq_true p7; replace q7 := eq_true q7
       go_wp2
       go_ret2
       exact ⟨y0_14, bI HB.out⟩
      rw [if_neg c8] at H
      have c8b0 : decide ((bt a0 x5_2) < 48) = false := decide_eq_false c8; clear c8
      by_cases c10 : (bt a0 x5_2) > 57
      ·
       rw [if_pos c10] at H
       have c10b0 : decide (57 < (bt a0 x5_2)) = true := decide_eq_true c10; clear c10
       simp only [Option.some.injEq, Prod.mk.injEq] at H
       obtain ⟨rfl, rfl⟩ := H; have p7 : 0 ≤ (x5_2 : Int) := of_decide_eq_true y0_17; have q7 : x5_2 < (a0.size : Int) := of_decide_eq_true y0_17; have hx7 := bt_at a0 x5_2; replace p7 := eq_true p7; replace q7 := eq_true q7; have p9 : 0 ≤ (x5_2 : Int) := of_decide_eq_true y0_17; have q9 : x5_2 < (a0.size : Int) := of_decide_eq_true y0_17; have hx9 := bt_at a0 x5_2; replace p9 := eq_true p9; replace q9 := eq_true q9
       go_wp2
       go_ret2
       exact ⟨y0_14, bI HB.out⟩
      rw [if_neg c10] at H
      have c10b0 : decide (57 < (bt a0 x5_2)) = false := decide_eq_false c10; clear c10; have H' := Aside0.mk H; clear H; have p7 : 0 ≤ (x5_2 : Int) := of_decide_eq_true y0_17; have q7 : x5_2 < (a0.size : Int) := of_decide_eq_true y0_17; have hx7 := bt_at a0 x5_2; replace p7 := eq_true p7; replace q7 := eq_true q7; have p9 : 0 ≤ (x5_2 : Int) := of_decide_eq_true y0_17; have q9 : x5_2 < (a0.size : Int) := of_decide_eq_true y0_17; have hx9 := bt_at a0 x5_2; replace p9 := eq_true p9; replace q9 := eq_true q9; have p11 : 0 ≤ (x5_2 : Int) := of_decide_eq_true y0_17; have q11 : x5_2 < (a0.size : Int) := of_decide_eq_true y0_17; have hx11 := bt_at a0 x5_2; replace p11 := eq_true p11; replace q11 := eq_true q11
      go_wp2
      go_roundg k2
      case measure => have := HJ1.out; have := HK2.out; omega
      case rel => exact ⟨(wrap64 ((wrap64 (10 * x4_2)) + (((bt a0 x5_2) - 48) % 256))), (wrap64 (x5_2 + 1)), y0_18, y0_18, H', ⟨by have := HJ1.out; have := HK2.out; omega⟩, ⟨bI HB.out⟩⟩
     rw [if_neg c5] at H
     have c5b0 : decide (x5_2 < (a0.size : Int)) = false := decide_eq_false c5; clear c5; obtain ⟨t737, A120, H⟩ := Option.bind_eq_some_iff.mp H
     try dsimp only at H
     have A12 := Aside0.mk A120; clear A120
     by_cases c13 : t737.toList = a0.toList
     ·
      rw [if_pos c13] at H
      have c13b0 : (t737.toList == a0.toList) = true := beq_iff_eq.mpr c13; have c13b1 : (t737.toList != a0.toList) = false := bne_eq_false_iff_eq.mpr c13; clear c13
      simp only [Option.some.injEq, Prod.mk.injEq] at H
      obtain ⟨rfl, rfl⟩ := H
      go_wp2_with (first | ((with_reducible refine gate_callee (f := 111) rfl ?_); refine gB (some 39) Tryz.func111 #[.int .i64 x4_2] ?_; (with_reducible refine (impl_Digits.calls x4_2 t737 _ A12.out).mono ?_); rintro e w14 ⟨rfl, hb⟩; refine ⟨_, rfl, ?_⟩; replace HB := bs HB hb; (try clear hb); (try clear hb2); (try clear hk); (try clear hi)))
      go_ret2
      exact ⟨y0_14, bI HB.out⟩
     rw [if_neg c13] at H
     have c13b0 : (t737.toList == a0.toList) = false := beq_eq_false_iff_ne.mpr c13; have c13b1 : (t737.toList != a0.toList) = true := bne_iff_ne.mpr c13
     simp only [Option.some.injEq, Prod.mk.injEq] at H
     obtain ⟨rfl, rfl⟩ := H
     go_wp2_with (first | ((with_reducible refine gate_callee (f := 111) rfl ?_); refine gB (some 39) Tryz.func111 #[.int .i64 x4_2] ?_; (with_reducible refine (impl_Digits.calls x4_2 t737 _ A12.out).mono ?_); rintro e w15 ⟨rfl, hb⟩; refine ⟨_, rfl, ?_⟩; replace HB := bs HB hb; (try clear hb); (try clear hb2); (try clear hk); (try clear hi)))
     go_ret2
     exact ⟨y0_14, bI HB.out⟩

/-! ### impl_TxOk: function 110 -/
def impl_TxOk.f (a0_0 : Int) (a0_1 : Int) (a0_2 : Int) (a0_3 : Int) : Option (Bool) := (impl_within.f a0_0 0 3).bind fun t739 => (if t739 = true then ((impl_within.f a0_1 0 3).bind fun t740 => (if t740 = true then ((impl_within.f a0_2 0 1000).bind fun t741 => (if t741 = true then ((impl_within.f a0_3 0 99).bind fun t742 => (some t742)) else (some false))) else (some false))) else (some false))
set_option maxHeartbeats 8000000 in
set_option maxRecDepth 100000 in
theorem impl_TxOk.calls (a0_0 : Int) (a0_1 : Int) (a0_2 : Int) (a0_3 : Int) (r : Bool) (w : World) (h : impl_TxOk.f a0_0 a0_1 a0_2 a0_3 = some r) :
  Calls Tryz.prog 110 #[.agg #[.int .i64 a0_0, .int .i64 a0_1, .int .i64 a0_2, .int .i64 a0_3]] w fun e w' => e = .returned (.bool r) ∧ Below w.heap.size w w' := by
 have hu99 := Tryz.underlying99; have HB := Aside0.mk (Below.refl w.heap.size w)
 have H : ((impl_within.f a0_0 0 3).bind fun t739 => (if t739 = true then ((impl_within.f a0_1 0 3).bind fun t740 => (if t740 = true then ((impl_within.f a0_2 0 1000).bind fun t741 => (if t741 = true then ((impl_within.f a0_3 0 99).bind fun t742 => (some t742)) else (some false))) else (some false))) else (some false))) = some r := h
 clear h; obtain ⟨t739, A20, H⟩ := Option.bind_eq_some_iff.mp H
 try dsimp only at H
 have A2 := Aside0.mk A20; clear A20
 by_cases c3 : t739 = true
 ·
  subst c3
  rw [if_pos rfl] at H
  obtain ⟨t740, A40, H⟩ := Option.bind_eq_some_iff.mp H
  try dsimp only at H
  have A4 := Aside0.mk A40; clear A40
  by_cases c5 : t740 = true
  ·
   subst c5
   rw [if_pos rfl] at H
   obtain ⟨t741, A60, H⟩ := Option.bind_eq_some_iff.mp H
   try dsimp only at H
   have A6 := Aside0.mk A60; clear A60
   by_cases c7 : t741 = true
   ·
    subst c7
    rw [if_pos rfl] at H
    obtain ⟨t742, A80, H⟩ := Option.bind_eq_some_iff.mp H
    try dsimp only at H
    have A8 := Aside0.mk A80; clear A80; obtain rfl := Option.some.inj H
    go_enter Tryz.func110, Tryz.ntmps110
    go_wp2_with (first | ((with_reducible refine gd 1 ?_); refine bL 1 #[.int .i64 a0_0, .int .i64 a0_1, .int .i64 a0_2, .int .i64 a0_3] 99 ?_; intro gb738 w9 _ _ _) | ((with_reducible refine gate_callee (f := 99) rfl ?_); refine gD (some 5) Tryz.func99 (impl_within.calls (w := _) (h := A2.out)) ?_; intro w10 _) | (go_at_call 99; refine aD (impl_within.calls (w := _) (h := A4.out)) ?_; intro w11 _) | (go_at_call 99; refine aD (impl_within.calls (w := _) (h := A6.out)) ?_; intro w12 _) | (go_at_call 99; refine aD (impl_within.calls (w := _) (h := A8.out)) ?_; intro w13 _))
    go_ret
    exact ⟨y0_18, UpW.out⟩
   replace c7 := Bool.eq_false_iff.mpr c7; subst c7
   rw [if_neg (show ¬ (false = true) by decide)] at H
   obtain rfl := Option.some.inj H
   go_enter Tryz.func110, Tryz.ntmps110
   go_wp2_with (first | ((with_reducible refine gd 1 ?_); refine bL 1 #[.int .i64 a0_0, .int .i64 a0_1, .int .i64 a0_2, .int .i64 a0_3] 99 ?_; intro gb738 w14 _ _ _) | ((with_reducible refine gate_callee (f := 99) rfl ?_); refine gD (some 5) Tryz.func99 (impl_within.calls (w := _) (h := A2.out)) ?_; intro w15 _) | (go_at_call 99; refine aD (impl_within.calls (w := _) (h := A4.out)) ?_; intro w16 _) | (go_at_call 99; refine aD (impl_within.calls (w := _) (h := A6.out)) ?_; intro w17 _))
   go_ret
   exact ⟨y0_18, UpW.out⟩
  replace c5 := Bool.eq_false_iff.mpr c5; subst c5
  rw [if_neg (show ¬ (false = true) by decide)] at H
  obtain rfl := Option.some.inj H
  go_enter Tryz.func110, Tryz.ntmps110
  go_wp2_with (first | ((with_reducible refine gd 1 ?_); refine bL 1 #[.int .i64 a0_0, .int .i64 a0_1, .int .i64 a0_2, .int .i64 a0_3] 99 ?_; intro gb738 w18 _ _ _) | ((with_reducible refine gate_callee (f := 99) rfl ?_); refine gD (some 5) Tryz.func99 (impl_within.calls (w := _) (h := A2.out)) ?_; intro w19 _) | (go_at_call 99; refine aD (impl_within.calls (w := _) (h := A4.out)) ?_; intro w20 _))
  go_ret
  exact ⟨y0_18, UpW.out⟩
 replace c3 := Bool.eq_false_iff.mpr c3; subst c3
 rw [if_neg (show ¬ (false = true) by decide)] at H
 obtain rfl := Option.some.inj H
 go_enter Tryz.func110, Tryz.ntmps110
 go_wp2_with (first | ((with_reducible refine gd 1 ?_); refine bL 1 #[.int .i64 a0_0, .int .i64 a0_1, .int .i64 a0_2, .int .i64 a0_3] 99 ?_; intro gb738 w21 _ _ _) | ((with_reducible refine gate_callee (f := 99) rfl ?_); refine gD (some 5) Tryz.func99 (impl_within.calls (w := _) (h := A2.out)) ?_; intro w22 _))
 go_ret
 exact ⟨y0_18, UpW.out⟩

end Go.Proofs.YtemjmefacifdeaaGreatDoor.PFnLockHolds
