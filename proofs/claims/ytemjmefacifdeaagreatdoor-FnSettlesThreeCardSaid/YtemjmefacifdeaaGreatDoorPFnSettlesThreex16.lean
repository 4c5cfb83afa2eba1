-- By a program of this session, out of the translation (the print of the kit, with turns of its own). Lean checks it.
import Derived.Test.YtemjmefacifdeaaGreatDoorPFnSettlesThreex0
import Derived.Test.YtemjmefacifdeaaGreatDoorPFnSettlesThreex10
import Derived.Test.YtemjmefacifdeaaGreatDoorPFnSettlesThreex11
import Derived.Test.YtemjmefacifdeaaGreatDoorPFnSettlesThreex12
namespace Go.Proofs.YtemjmefacifdeaaGreatDoor.PFnSettlesThree
open Go.RowKit Go.Proofs.YtemjmefacifdeaaGreatDoorW.PrintWords Go.Proofs.YtemjmefacifdeaaGreatDoorW.PrintLast Go.Proofs.YtemjmefacifdeaaGreatDoorW.PrintMore
attribute [local go_sem] max2_int min2_int max_two min_two max_three min_three max_four min_four   -- for this text's walks alone
set_option linter.unusedVariables false
set_option linter.unusedSimpArgs false

/-! ### impl_BlockOk: function 84 -/
def impl_BlockOk.f (k : Nat) (a0_0 : Int) (a0_1 : Int) (a1_0 : ByteArray) (a1_1 : Int) (a1_2 : ByteArray) (l1_3 : List Int) : Option (Bool) := (impl_QcOk.f k a0_0 a0_1 a1_1 a1_2 l1_3).bind fun t474 => (if t474 = true then (if a1_0.toList = ([] : List UInt8) then (some false) else ((impl_NameOk.f k a1_0).bind fun t475 => (if t475 = true then ((impl_UpOf.f k a1_0).bind fun t476 => (some (t476.toList == a1_2.toList))) else (some false)))) else (some false))
theorem impl_BlockOk.mono : ∀ a0 a1 a2 a3 a4 a5 k, LeO (impl_BlockOk.f k a0 a1 a2 a3 a4 a5) (impl_BlockOk.f (k + 1) a0 a1 a2 a3 a4 a5) := by
 intro a0 a1 a2 a3 a4 a5 k
 unfold impl_BlockOk.f
 repeat' first | (with_reducible exact impl_NameOk.mono _ _) | (with_reducible exact impl_QcOk.mono _ _ _ _ _ _) | (with_reducible exact impl_UpOf.mono _ _) | (with_reducible exact LeO.refl _) | (with_reducible exact LeO.none _) | (with_reducible refine LeO.ite ?_ ?_) | (with_reducible refine LeO.bind ?_ (fun _ => ?_))
def impl_BlockOk.T1 : Bool × List (List Nat × List Nat) := (true, [([], []), ([], []), ([1], [1]), ([0, 2], [0, 2]), ([3, 3], [3]), ([4], [4]), ([5, 4], [4, 5]), ([6, 4], [4, 6]), ([4, 7], [4, 7]), ([8, 4], [8]), ([9], [9]), ([10, 9], [9, 10]), ([11, 9, 9], [9, 11]), ([9, 12], [9, 12]), ([13, 12], [13]), ([14], [14]), ([15, 14], [14, 15]), ([16, 14, 14], [14, 16]), ([14], [14]), ([18, 14], [14, 18]), ([19, 14], [14, 19]), ([17, 20, 14], [14, 17, 20]), ([14, 21], [14, 21]), ([22, 17, 0, 1, 2, 3, 4, 5, 6, 7, 8, 9, 10, 11, 12, 13, 14, 15, 16, 17, 18, 19, 20, 21, 22], [22])])
def impl_BlockOk.B1 : List Nat := [0, 0, 2, 7, 15, 31, 63, 127, 255, 511, 1023, 2047, 4095, 8191, 16383, 32767, 65535, 131071, 32767, 294911, 819199, 2097151, 4194303, 8388607]
theorem impl_BlockOk.tab1 : rtab .any (opsOf Tryz.f84 1) = impl_BlockOk.T1 := by kernel_rfl
theorem impl_BlockOk.bits1 : waitsOk impl_BlockOk.T1.2 impl_BlockOk.B1 = true := by kernel_rfl
set_option maxHeartbeats 8000000 in
set_option maxRecDepth 100000 in
theorem impl_BlockOk.calls (k : Nat) (a0_0 : Int) (a0_1 : Int) (a1_0 : ByteArray) (a1_1 : Int) (a1_2 : ByteArray) (A1_3 : Option Addr) (c1_3 : Nat) (l1_3 : List Int) (r : Bool) (w : World) (hr1_3 : Kd.C (Kd.int .i64) w A1_3 l1_3.length l1_3) (hc1_3 : l1_3.length ≤ c1_3) (h : impl_BlockOk.f k a0_0 a0_1 a1_0 a1_1 a1_2 l1_3 = some r) (hG : Glob w := by exact gG HG HB) :
  Calls Tryz.prog 84 #[.agg #[.int .i64 a0_0, .int .i64 a0_1], .agg #[.string a1_0, .int .i64 a1_1, .string a1_2, .slice A1_3 l1_3.length c1_3]] w fun e w' => e = .returned (.bool r) ∧ Below w.heap.size w w' := by
 have HG := Aside0.mk hG; clear hG; have hu38 := Tryz.underlying38; have hu42 := Tryz.underlying42; have hu33 := Tryz.underlying33; have HR1_3 := Aside0.mk hr1_3; have HC1_3 := Aside0.mk hc1_3; clear hr1_3 hc1_3; have HB := Aside0.mk (Below.refl w.heap.size w)
 have H : ((impl_QcOk.f k a0_0 a0_1 a1_1 a1_2 l1_3).bind fun t474 => (if t474 = true then (if a1_0.toList = ([] : List UInt8) then (some false) else ((impl_NameOk.f k a1_0).bind fun t475 => (if t475 = true then ((impl_UpOf.f k a1_0).bind fun t476 => (some (t476.toList == a1_2.toList))) else (some false)))) else (some false))) = some r := h
 clear h; obtain ⟨t474, A30, H⟩ := Option.bind_eq_some_iff.mp H
 try dsimp only at H
 have A3 := Aside0.mk A30; clear A30
 by_cases c4 : t474 = true
 ·
  subst c4
  rw [if_pos rfl] at H
  by_cases c5 : a1_0.toList = ([] : List UInt8)
  ·
   rw [if_pos c5] at H
   have c5b0 : (a1_0.toList == ([] : List UInt8)) = true := beq_iff_eq.mpr c5; have c5b1 : (a1_0.toList != ([] : List UInt8)) = false := bne_eq_false_iff_eq.mpr c5; clear c5; obtain rfl := Option.some.inj H
   go_enter Tryz.func84, Tryz.ntmps84
   try go_wp2_with (first | ((with_reducible refine gd 2 ?_); refine bA 2 #[.int .i64 a0_0, .int .i64 a0_1] 38 ?_; intro gb472 hg w6 hbox hb; have BK472 := Aside0.mk (hbox); have GW472 := bg hg HB; have GJ472 := gi GW472; have GE472 := GW472; replace HB := bs HB hb; clear hb hbox hg) | ((with_reducible refine gd 3 ?_); refine bA 3 #[.string a1_0, .int .i64 a1_1, .string a1_2, .slice A1_3 l1_3.length c1_3] 42 ?_; intro gb473 hg w7 hbox hb; have BK473 := Aside0.mk (hbox); have GW473 := bg hg HB; have GJ473 := gi GW473; have GE473 := GW473; replace HB := bs HB hb; have NB472_473 := b1 BK472 hg; have NI472_473 := ni NB472_473; have NB473_472 := b2 BK472 hg; have NI473_472 := ni NB473_472; replace BK472 := bk BK472 hb; clear hb hbox hg))
   replace BK472 := Aside0.mk (blk_drew BK472.out); replace BK473 := Aside0.mk (blk_drew BK473.out); replace HB := Aside0.mk (below_drew1 HB.out)
   refine start_ (n := 24) (S := fun w' => w'.cell? ⟨gb472, 0, none⟩ = some (.int .i64 a0_0) ∧ w'.cell? ⟨gb472, 1, none⟩ = some (.int .i64 a0_1) ∧ w'.cell? ⟨gb473, 0, none⟩ = some (.string a1_0) ∧ w'.cell? ⟨gb473, 1, none⟩ = some (.int .i64 a1_1) ∧ w'.cell? ⟨gb473, 2, none⟩ = some (.string a1_2) ∧ w'.cell? ⟨gb473, 3, none⟩ = some (.slice A1_3 l1_3.length c1_3)) (ds := []) #[false, false, false, false, false, false, false, false, false, false, false, false, false, false, false, false, false, false, false, false, false, false, false, false] (by kernel_rfl) rfl rfl ⟨bc0 BK472.out, bc1 BK472.out, bc0 BK473.out, bc1 BK473.out, bc2 BK473.out, bc3 BK473.out⟩ (fun hHeld => ?_); refine with_tabW impl_BlockOk.tab1 impl_BlockOk.bits1 (fun HT_ HW_ => ?_)
   generalize w7.drew = w8 at BK472 BK473 HB hHeld ⊢
   refine pA 1 (some 6) (bz 24 2) HT_ ?_
   refine tA 0 (some 5) (bz 24 3) HT_ HW_ hHeld ?_
   refine tA 2 (some 7) (bz 24 7) HT_ HW_ hHeld ?_
   refine oA 3 (some 8) (bz 24 15) HT_ (fun K hK => ?_)
   refine gA Tryz.func48 #[.agg #[.int .i64 a0_0, .int .i64 a0_1], .agg #[.int .i64 a1_1, .string a1_2, .slice A1_3 l1_3.length c1_3]] ?_
   with_reducible refine (impl_QcOk.calls k a0_0 a0_1 a1_1 a1_2 _ _ l1_3 true _ ?side1 ?side2 A3.out).mono ?_
   (case side1 => exact ch HR1_3 HB)
   (case side2 => exact HC1_3.out)
   rintro e w9 ⟨rfl, hb⟩
   refine ⟨_, rfl, ?_⟩
   replace BK472 := bk BK472 hb; replace BK473 := bk BK473 hb; replace HB := bs HB hb
   (try clear hb)
   (try clear hb2)
   (try clear hk)
   (try clear hi)
   refine hK.out _ _ ⟨bc0 BK472.out, bc1 BK472.out, bc0 BK473.out, bc1 BK473.out, bc2 BK473.out, bc3 BK473.out⟩ (fun hHeld => ?_)
   clear hK K
   refine nA (some 8) ?_
   refine pA 4 (some 9) (bz 24 31) HT_ ?_
   refine pA 5 (some 10) (bz 24 63) HT_ ?_
   refine tA 6 (some 11) (bz 24 127) HT_ HW_ hHeld ?_
   refine pA 7 (some 12) (bz 24 255) HT_ ?_
   refine pA 8 (some 13) (bz 24 511) HT_ ?_
   refine pA 9 (some 14) (bz 24 1023) HT_ ?_
   refine pU 10 (some 15) (bz 24 2047) HT_ ?_
   refine pU 11 (some 16) (bz 24 4095) HT_ ?_
   refine pU 12 (some 17) (bz 24 0x1fff) HT_ ?_
   refine pA 13 (some 18) (bz 24 0x3fff) HT_ ?_
   refine pA 14 (some 19) (bz 24 0x7fff) HT_ ?_
   refine pU 15 (some 20) (bz 24 0xffff) HT_ ?_
   refine pU 16 (some 21) (bz 24 0x1ffff) HT_ ?_
   refine pU 17 (some 22) (bz 24 0x3ffff) HT_ ?_
   refine pU 18 (some 23) (bz 24 0x7ffff) HT_ ?_
   refine pU 19 (some 24) (bz 24 0xfffff) HT_ ?_
   refine pU 20 (some 25) (bz 24 0x1fffff) HT_ ?_
   refine pU 21 (some 26) (bz 24 0x3fffff) HT_ ?_
   refine pA 22 (some 27) (bz 24 0x7fffff) HT_ ?_
   refine pA 23 (some 4) (bz 24 0xffffff) HT_ ?_
   refine done_ (done_of HT_.out (by kernel_rfl)) ?_
   try go_wp2
   go_ret
   exact ⟨y0_6, bI HB.out⟩
  rw [if_neg c5] at H
  have c5b0 : (a1_0.toList == ([] : List UInt8)) = false := beq_eq_false_iff_ne.mpr c5; have c5b1 : (a1_0.toList != ([] : List UInt8)) = true := bne_iff_ne.mpr c5; obtain ⟨t475, A100, H⟩ := Option.bind_eq_some_iff.mp H
  try dsimp only at H
  have A10 := Aside0.mk A100; clear A100
  by_cases c11 : t475 = true
  ·
   subst c11
   rw [if_pos rfl] at H
   obtain ⟨t476, A120, H⟩ := Option.bind_eq_some_iff.mp H
   try dsimp only at H
   have A12 := Aside0.mk A120; clear A120; obtain rfl := Option.some.inj H
   go_enter Tryz.func84, Tryz.ntmps84
   try go_wp2_with (first | ((with_reducible refine gd 2 ?_); refine bA 2 #[.int .i64 a0_0, .int .i64 a0_1] 38 ?_; intro gb472 hg w13 hbox hb; have BK472 := Aside0.mk (hbox); have GW472 := bg hg HB; have GJ472 := gi GW472; have GE472 := GW472; replace HB := bs HB hb; clear hb hbox hg) | ((with_reducible refine gd 3 ?_); refine bA 3 #[.string a1_0, .int .i64 a1_1, .string a1_2, .slice A1_3 l1_3.length c1_3] 42 ?_; intro gb473 hg w14 hbox hb; have BK473 := Aside0.mk (hbox); have GW473 := bg hg HB; have GJ473 := gi GW473; have GE473 := GW473; replace HB := bs HB hb; have NB472_473 := b1 BK472 hg; have NI472_473 := ni NB472_473; have NB473_472 := b2 BK472 hg; have NI473_472 := ni NB473_472; replace BK472 := bk BK472 hb; clear hb hbox hg))
   replace BK472 := Aside0.mk (blk_drew BK472.out); replace BK473 := Aside0.mk (blk_drew BK473.out); replace HB := Aside0.mk (below_drew1 HB.out)
   refine start_ (n := 24) (S := fun w' => w'.cell? ⟨gb472, 0, none⟩ = some (.int .i64 a0_0) ∧ w'.cell? ⟨gb472, 1, none⟩ = some (.int .i64 a0_1) ∧ w'.cell? ⟨gb473, 0, none⟩ = some (.string a1_0) ∧ w'.cell? ⟨gb473, 1, none⟩ = some (.int .i64 a1_1) ∧ w'.cell? ⟨gb473, 2, none⟩ = some (.string a1_2) ∧ w'.cell? ⟨gb473, 3, none⟩ = some (.slice A1_3 l1_3.length c1_3)) (ds := []) #[false, false, false, false, false, false, false, false, false, false, false, false, false, false, false, false, false, false, false, false, false, false, false, false] (by kernel_rfl) rfl rfl ⟨bc0 BK472.out, bc1 BK472.out, bc0 BK473.out, bc1 BK473.out, bc2 BK473.out, bc3 BK473.out⟩ (fun hHeld => ?_); refine with_tabW impl_BlockOk.tab1 impl_BlockOk.bits1 (fun HT_ HW_ => ?_)
   generalize w14.drew = w15 at BK472 BK473 HB hHeld ⊢
   refine pA 1 (some 6) (bz 24 2) HT_ ?_
   refine tA 0 (some 5) (bz 24 3) HT_ HW_ hHeld ?_
   refine tA 2 (some 7) (bz 24 7) HT_ HW_ hHeld ?_
   refine oA 3 (some 8) (bz 24 15) HT_ (fun K hK => ?_)
   refine gA Tryz.func48 #[.agg #[.int .i64 a0_0, .int .i64 a0_1], .agg #[.int .i64 a1_1, .string a1_2, .slice A1_3 l1_3.length c1_3]] ?_
   with_reducible refine (impl_QcOk.calls k a0_0 a0_1 a1_1 a1_2 _ _ l1_3 true _ ?side1 ?side2 A3.out).mono ?_
   (case side1 => exact ch HR1_3 HB)
   (case side2 => exact HC1_3.out)
   rintro e w16 ⟨rfl, hb⟩
   refine ⟨_, rfl, ?_⟩
   replace BK472 := bk BK472 hb; replace BK473 := bk BK473 hb; replace HB := bs HB hb
   (try clear hb)
   (try clear hb2)
   (try clear hk)
   (try clear hi)
   refine hK.out _ _ ⟨bc0 BK472.out, bc1 BK472.out, bc0 BK473.out, bc1 BK473.out, bc2 BK473.out, bc3 BK473.out⟩ (fun hHeld => ?_)
   clear hK K
   refine nA (some 8) ?_
   refine pA 4 (some 9) (bz 24 31) HT_ ?_
   refine pA 5 (some 10) (bz 24 63) HT_ ?_
   refine tA 6 (some 11) (bz 24 127) HT_ HW_ hHeld ?_
   refine pA 7 (some 12) (bz 24 255) HT_ ?_
   refine pA 8 (some 13) (bz 24 511) HT_ ?_
   refine pA 9 (some 14) (bz 24 1023) HT_ ?_
   refine pA 10 (some 15) (bz 24 2047) HT_ ?_
   refine tA 11 (some 16) (bz 24 4095) HT_ HW_ hHeld ?_
   refine oA 12 (some 17) (bz 24 0x1fff) HT_ (fun K hK => ?_)
   refine gA Tryz.func95 #[.string a1_0] ?_
   with_reducible refine (impl_NameOk.calls k a1_0 true _ A10.out).mono ?_
   rintro e w17 ⟨rfl, hb⟩
   refine ⟨_, rfl, ?_⟩
   replace BK472 := bk BK472 hb; replace BK473 := bk BK473 hb; replace HB := bs HB hb
   (try clear hb)
   (try clear hb2)
   (try clear hk)
   (try clear hi)
   refine hK.out _ _ ⟨bc0 BK472.out, bc1 BK472.out, bc0 BK473.out, bc1 BK473.out, bc2 BK473.out, bc3 BK473.out⟩ (fun hHeld => ?_)
   clear hK K
   refine nA (some 17) ?_
   refine pA 13 (some 18) (bz 24 0x3fff) HT_ ?_
   refine pA 14 (some 19) (bz 24 0x7fff) HT_ ?_
   refine pA 15 (some 20) (bz 24 0xffff) HT_ ?_
   refine pA 18 (some 23) (bz 24 0x4ffff) HT_ ?_
   refine pA 19 (some 24) (bz 24 0xcffff) HT_ ?_
   refine tA 16 (some 21) (bz 24 0xdffff) HT_ HW_ hHeld ?_
   refine tA 20 (some 25) (bz 24 0x1dffff) HT_ HW_ hHeld ?_
   refine oA 17 (some 22) (bz 24 0x1fffff) HT_ (fun K hK => ?_)
   refine gA Tryz.func73 #[.string a1_0] ?_
   with_reducible refine (impl_UpOf.calls k a1_0 t476 _ A12.out).mono ?_
   rintro e w18 ⟨rfl, hb⟩
   refine ⟨_, rfl, ?_⟩
   replace BK472 := bk BK472 hb; replace BK473 := bk BK473 hb; replace HB := bs HB hb
   (try clear hb)
   (try clear hb2)
   (try clear hk)
   (try clear hi)
   refine hK.out _ _ ⟨bc0 BK472.out, bc1 BK472.out, bc0 BK473.out, bc1 BK473.out, bc2 BK473.out, bc3 BK473.out⟩ (fun hHeld => ?_)
   clear hK K
   refine nA (some 22) ?_
   refine pA 21 (some 26) (bz 24 0x3fffff) HT_ ?_
   refine pA 22 (some 27) (bz 24 0x7fffff) HT_ ?_
   refine pA 23 (some 4) (bz 24 0xffffff) HT_ ?_
   refine done_ (done_of HT_.out (by kernel_rfl)) ?_
   try go_wp2
   go_ret
   exact ⟨y0_6, bI HB.out⟩
  replace c11 := Bool.eq_false_iff.mpr c11; subst c11
  rw [if_neg (show ¬ (false = true) by decide)] at H
  obtain rfl := Option.some.inj H
  go_enter Tryz.func84, Tryz.ntmps84
  try go_wp2_with (first | ((with_reducible refine gd 2 ?_); refine bA 2 #[.int .i64 a0_0, .int .i64 a0_1] 38 ?_; intro gb472 hg w19 hbox hb; have BK472 := Aside0.mk (hbox); have GW472 := bg hg HB; have GJ472 := gi GW472; have GE472 := GW472; replace HB := bs HB hb; clear hb hbox hg) | ((with_reducible refine gd 3 ?_); refine bA 3 #[.string a1_0, .int .i64 a1_1, .string a1_2, .slice A1_3 l1_3.length c1_3] 42 ?_; intro gb473 hg w20 hbox hb; have BK473 := Aside0.mk (hbox); have GW473 := bg hg HB; have GJ473 := gi GW473; have GE473 := GW473; replace HB := bs HB hb; have NB472_473 := b1 BK472 hg; have NI472_473 := ni NB472_473; have NB473_472 := b2 BK472 hg; have NI473_472 := ni NB473_472; replace BK472 := bk BK472 hb; clear hb hbox hg))
  replace BK472 := Aside0.mk (blk_drew BK472.out); replace BK473 := Aside0.mk (blk_drew BK473.out); replace HB := Aside0.mk (below_drew1 HB.out)
  refine start_ (n := 24) (S := fun w' => w'.cell? ⟨gb472, 0, none⟩ = some (.int .i64 a0_0) ∧ w'.cell? ⟨gb472, 1, none⟩ = some (.int .i64 a0_1) ∧ w'.cell? ⟨gb473, 0, none⟩ = some (.string a1_0) ∧ w'.cell? ⟨gb473, 1, none⟩ = some (.int .i64 a1_1) ∧ w'.cell? ⟨gb473, 2, none⟩ = some (.string a1_2) ∧ w'.cell? ⟨gb473, 3, none⟩ = some (.slice A1_3 l1_3.length c1_3)) (ds := []) #[false, false, false, false, false, false, false, false, false, false, false, false, false, false, false, false, false, false, false, false, false, false, false, false] (by kernel_rfl) rfl rfl ⟨bc0 BK472.out, bc1 BK472.out, bc0 BK473.out, bc1 BK473.out, bc2 BK473.out, bc3 BK473.out⟩ (fun hHeld => ?_); refine with_tabW impl_BlockOk.tab1 impl_BlockOk.bits1 (fun HT_ HW_ => ?_)
  generalize w20.drew = w21 at BK472 BK473 HB hHeld ⊢
  refine pA 1 (some 6) (bz 24 2) HT_ ?_
  refine tA 0 (some 5) (bz 24 3) HT_ HW_ hHeld ?_
  refine tA 2 (some 7) (bz 24 7) HT_ HW_ hHeld ?_
  refine oA 3 (some 8) (bz 24 15) HT_ (fun K hK => ?_)
  refine gA Tryz.func48 #[.agg #[.int .i64 a0_0, .int .i64 a0_1], .agg #[.int .i64 a1_1, .string a1_2, .slice A1_3 l1_3.length c1_3]] ?_
  with_reducible refine (impl_QcOk.calls k a0_0 a0_1 a1_1 a1_2 _ _ l1_3 true _ ?side1 ?side2 A3.out).mono ?_
  (case side1 => exact ch HR1_3 HB)
  (case side2 => exact HC1_3.out)
  rintro e w22 ⟨rfl, hb⟩
  refine ⟨_, rfl, ?_⟩
  replace BK472 := bk BK472 hb; replace BK473 := bk BK473 hb; replace HB := bs HB hb
  (try clear hb)
  (try clear hb2)
  (try clear hk)
  (try clear hi)
  refine hK.out _ _ ⟨bc0 BK472.out, bc1 BK472.out, bc0 BK473.out, bc1 BK473.out, bc2 BK473.out, bc3 BK473.out⟩ (fun hHeld => ?_)
  clear hK K
  refine nA (some 8) ?_
  refine pA 4 (some 9) (bz 24 31) HT_ ?_
  refine pA 5 (some 10) (bz 24 63) HT_ ?_
  refine tA 6 (some 11) (bz 24 127) HT_ HW_ hHeld ?_
  refine pA 7 (some 12) (bz 24 255) HT_ ?_
  refine pA 8 (some 13) (bz 24 511) HT_ ?_
  refine pA 9 (some 14) (bz 24 1023) HT_ ?_
  refine pA 10 (some 15) (bz 24 2047) HT_ ?_
  refine tA 11 (some 16) (bz 24 4095) HT_ HW_ hHeld ?_
  refine oA 12 (some 17) (bz 24 0x1fff) HT_ (fun K hK => ?_)
  refine gA Tryz.func95 #[.string a1_0] ?_
  with_reducible refine (impl_NameOk.calls k a1_0 false _ A10.out).mono ?_
  rintro e w23 ⟨rfl, hb⟩
  refine ⟨_, rfl, ?_⟩
  replace BK472 := bk BK472 hb; replace BK473 := bk BK473 hb; replace HB := bs HB hb
  (try clear hb)
  (try clear hb2)
  (try clear hk)
  (try clear hi)
  refine hK.out _ _ ⟨bc0 BK472.out, bc1 BK472.out, bc0 BK473.out, bc1 BK473.out, bc2 BK473.out, bc3 BK473.out⟩ (fun hHeld => ?_)
  clear hK K
  refine nA (some 17) ?_
  refine pA 13 (some 18) (bz 24 0x3fff) HT_ ?_
  refine pA 14 (some 19) (bz 24 0x7fff) HT_ ?_
  refine pU 15 (some 20) (bz 24 0xffff) HT_ ?_
  refine pU 16 (some 21) (bz 24 0x1ffff) HT_ ?_
  refine pU 17 (some 22) (bz 24 0x3ffff) HT_ ?_
  refine pU 18 (some 23) (bz 24 0x7ffff) HT_ ?_
  refine pU 19 (some 24) (bz 24 0xfffff) HT_ ?_
  refine pU 20 (some 25) (bz 24 0x1fffff) HT_ ?_
  refine pU 21 (some 26) (bz 24 0x3fffff) HT_ ?_
  refine pA 22 (some 27) (bz 24 0x7fffff) HT_ ?_
  refine pA 23 (some 4) (bz 24 0xffffff) HT_ ?_
  refine done_ (done_of HT_.out (by kernel_rfl)) ?_
  try go_wp2
  go_ret
  exact ⟨y0_6, bI HB.out⟩
 replace c4 := Bool.eq_false_iff.mpr c4; subst c4
 rw [if_neg (show ¬ (false = true) by decide)] at H
 obtain rfl := Option.some.inj H
 go_enter Tryz.func84, Tryz.ntmps84
 try go_wp2_with (first | ((with_reducible refine gd 2 ?_); refine bA 2 #[.int .i64 a0_0, .int .i64 a0_1] 38 ?_; intro gb472 hg w24 hbox hb; have BK472 := Aside0.mk (hbox); have GW472 := bg hg HB; have GJ472 := gi GW472; have GE472 := GW472; replace HB := bs HB hb; clear hb hbox hg) | ((with_reducible refine gd 3 ?_); refine bA 3 #[.string a1_0, .int .i64 a1_1, .string a1_2, .slice A1_3 l1_3.length c1_3] 42 ?_; intro gb473 hg w25 hbox hb; have BK473 := Aside0.mk (hbox); have GW473 := bg hg HB; have GJ473 := gi GW473; have GE473 := GW473; replace HB := bs HB hb; have NB472_473 := b1 BK472 hg; have NI472_473 := ni NB472_473; have NB473_472 := b2 BK472 hg; have NI473_472 := ni NB473_472; replace BK472 := bk BK472 hb; clear hb hbox hg))
 replace BK472 := Aside0.mk (blk_drew BK472.out); replace BK473 := Aside0.mk (blk_drew BK473.out); replace HB := Aside0.mk (below_drew1 HB.out)
 refine start_ (n := 24) (S := fun w' => w'.cell? ⟨gb472, 0, none⟩ = some (.int .i64 a0_0) ∧ w'.cell? ⟨gb472, 1, none⟩ = some (.int .i64 a0_1) ∧ w'.cell? ⟨gb473, 0, none⟩ = some (.string a1_0) ∧ w'.cell? ⟨gb473, 1, none⟩ = some (.int .i64 a1_1) ∧ w'.cell? ⟨gb473, 2, none⟩ = some (.string a1_2) ∧ w'.cell? ⟨gb473, 3, none⟩ = some (.slice A1_3 l1_3.length c1_3)) (ds := []) #[false, false, false, false, false, false, false, false, false, false, false, false, false, false, false, false, false, false, false, false, false, false, false, false] (by kernel_rfl) rfl rfl ⟨bc0 BK472.out, bc1 BK472.out, bc0 BK473.out, bc1 BK473.out, bc2 BK473.out, bc3 BK473.out⟩ (fun hHeld => ?_); refine with_tabW impl_BlockOk.tab1 impl_BlockOk.bits1 (fun HT_ HW_ => ?_)
 generalize w25.drew = w26 at BK472 BK473 HB hHeld ⊢
 refine pA 1 (some 6) (bz 24 2) HT_ ?_
 refine tA 0 (some 5) (bz 24 3) HT_ HW_ hHeld ?_
 refine tA 2 (some 7) (bz 24 7) HT_ HW_ hHeld ?_
 refine oA 3 (some 8) (bz 24 15) HT_ (fun K hK => ?_)
 refine gA Tryz.func48 #[.agg #[.int .i64 a0_0, .int .i64 a0_1], .agg #[.int .i64 a1_1, .string a1_2, .slice A1_3 l1_3.length c1_3]] ?_
 with_reducible refine (impl_QcOk.calls k a0_0 a0_1 a1_1 a1_2 _ _ l1_3 false _ ?side1 ?side2 A3.out).mono ?_
 (case side1 => exact ch HR1_3 HB)
 (case side2 => exact HC1_3.out)
 rintro e w27 ⟨rfl, hb⟩
 refine ⟨_, rfl, ?_⟩
 replace BK472 := bk BK472 hb; replace BK473 := bk BK473 hb; replace HB := bs HB hb
 (try clear hb)
 (try clear hb2)
 (try clear hk)
 (try clear hi)
 refine hK.out _ _ ⟨bc0 BK472.out, bc1 BK472.out, bc0 BK473.out, bc1 BK473.out, bc2 BK473.out, bc3 BK473.out⟩ (fun hHeld => ?_)
 clear hK K
 refine nA (some 8) ?_
 refine pA 4 (some 9) (bz 24 31) HT_ ?_
 refine pU 5 (some 10) (bz 24 63) HT_ ?_
 refine pU 6 (some 11) (bz 24 127) HT_ ?_
 refine pU 7 (some 12) (bz 24 255) HT_ ?_
 refine pA 8 (some 13) (bz 24 511) HT_ ?_
 refine pA 9 (some 14) (bz 24 1023) HT_ ?_
 refine pU 10 (some 15) (bz 24 2047) HT_ ?_
 refine pU 11 (some 16) (bz 24 4095) HT_ ?_
 refine pU 12 (some 17) (bz 24 0x1fff) HT_ ?_
 refine pA 13 (some 18) (bz 24 0x3fff) HT_ ?_
 refine pA 14 (some 19) (bz 24 0x7fff) HT_ ?_
 refine pU 15 (some 20) (bz 24 0xffff) HT_ ?_
 refine pU 16 (some 21) (bz 24 0x1ffff) HT_ ?_
 refine pU 17 (some 22) (bz 24 0x3ffff) HT_ ?_
 refine pU 18 (some 23) (bz 24 0x7ffff) HT_ ?_
 refine pU 19 (some 24) (bz 24 0xfffff) HT_ ?_
 refine pU 20 (some 25) (bz 24 0x1fffff) HT_ ?_
 refine pU 21 (some 26) (bz 24 0x3fffff) HT_ ?_
 refine pA 22 (some 27) (bz 24 0x7fffff) HT_ ?_
 refine pA 23 (some 4) (bz 24 0xffffff) HT_ ?_
 refine done_ (done_of HT_.out (by kernel_rfl)) ?_
 try go_wp2
 go_ret
 exact ⟨y0_6, bI HB.out⟩

end Go.Proofs.YtemjmefacifdeaaGreatDoor.PFnSettlesThree
