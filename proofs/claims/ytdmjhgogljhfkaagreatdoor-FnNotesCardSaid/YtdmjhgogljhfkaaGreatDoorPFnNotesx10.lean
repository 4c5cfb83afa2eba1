import Derived.Test.YtdmjhgogljhfkaaGreatDoorPFnNotesx0
import Derived.Test.YtdmjhgogljhfkaaGreatDoorPFnNotesx7
import Derived.Test.YtdmjhgogljhfkaaGreatDoorPFnNotesx1
import Derived.Test.YtdmjhgogljhfkaaGreatDoorPFnNotesx4
namespace Go.Proofs.YtdmjhgogljhfkaaGreatDoor.PFnNotes
open Go.RowKit Go.Proofs.YtdmjhgogljhfkaaGreatDoorW.PrintWords Go.Proofs.YtdmjhgogljhfkaaGreatDoorW.PrintLast Go.Proofs.YtdmjhgogljhfkaaGreatDoorW.PrintMore
attribute [local go_sem] max2_int min2_int max_two min_two max_three min_three max_four min_four
attribute [local go_sem] cell_in frozen_in cell_g cell_p cell_r cell_q
set_option synthInstance.maxSize 1000000
set_option synthInstance.maxHeartbeats 2000000
set_option linter.unusedVariables false
set_option linter.unusedSimpArgs false
set_option maxHeartbeats 8000000
set_option maxRecDepth 100000
def IsS134 (w0 W : World) (g : Nat) (f0 : List Int) (f1 : Int) (f2 : Bool) : Prop := ∃ A0 c0, W.heap[g]? = some (.cells #[.slice A0 f0.length c0, .int .i64 f1, .bool f2] 134 (0, 0)) ∧ w0.heap.size ≤ g ∧ Kd.C (Kd.int .u8) w0 A0 f0.length f0 ∧ f0.length ≤ c0
theorem IsS134.grown {w0 W : World} {g : Nat} {f0 : List Int} {f1 : Int} {f2 : Bool} {W1 : World} {row : Option Nat} (h : IsS134 w0 W g f0 f1 f2) (hw : W.grownBy W1 row) (hne : some g ≠ row) : IsS134 w0 W1 g f0 f1 f2 := by
 obtain ⟨A0, c0, hb, hg, hr0, hl0⟩ := h
 exact ⟨A0, c0, blk_grown hb hw hne, hg, hr0, hl0⟩
theorem IsS134.below {w0 W : World} {g : Nat} {f0 : List Int} {f1 : Int} {f2 : Bool} {W1 : World} (h : IsS134 w0 W g f0 f1 f2) (hw : Below W.heap.size W W1) : IsS134 w0 W1 g f0 f1 f2 := h.grown (grown_of_below hw none) (by simp)
theorem IsS134.alloc {w0 W : World} {g : Nat} {f0 : List Int} {f1 : Int} {f2 : Bool} (h : IsS134 w0 W g f0 f1 f2) (o : Obj) : IsS134 w0 (W.alloc o) g f0 f1 f2 := h.below (below_alloc (Below.refl _ _) o)
theorem IsS134.drewN {w0 W : World} {g : Nat} {f0 : List Int} {f1 : Int} {f2 : Bool} (h : IsS134 w0 W g f0 f1 f2) (m : Nat) : IsS134 w0 (W.drewN m) g f0 f1 f2 := h
theorem IsS134.drew {w0 W : World} {g : Nat} {f0 : List Int} {f1 : Int} {f2 : Bool} (h : IsS134 w0 W g f0 f1 f2) : IsS134 w0 W.drew g f0 f1 f2 := h
theorem IsS134.ge {w0 W : World} {g : Nat} {f0 : List Int} {f1 : Int} {f2 : Bool} (h : IsS134 w0 W g f0 f1 f2) : w0.heap.size ≤ g := by
 obtain ⟨A0, c0, hb, hg, hr0, hl0⟩ := h
 exact hg
theorem IsS134.set_1 {w0 W : World} {g : Nat} {f0 : List Int} {f1 : Int} {f2 : Bool} (h : IsS134 w0 W g f0 f1 f2) (x : Int) : IsS134 w0 (W.setCell ⟨g, 1, none⟩ (.int .i64 x)) g f0 x f2 := by
 obtain ⟨A0, c0, hb, hg, hr0, hl0⟩ := h
 exact ⟨A0, c0, by simpa using blk_set hb 1 (.int .i64 x), hg, hr0, hl0⟩
theorem IsS134.set_2 {w0 W : World} {g : Nat} {f0 : List Int} {f1 : Int} {f2 : Bool} (h : IsS134 w0 W g f0 f1 f2) (x : Bool) : IsS134 w0 (W.setCell ⟨g, 2, none⟩ (.bool x)) g f0 f1 x := by
 obtain ⟨A0, c0, hb, hg, hr0, hl0⟩ := h
 exact ⟨A0, c0, by simpa using blk_set hb 2 (.bool x), hg, hr0, hl0⟩
theorem iS134 {w0 w W : World} {g : Nat} {f0 : List Int} {f1 : Int} {f2 : Bool} (h : Aside0 (IsS134 w0 w g f0 f1 f2)) [u : UpG g w W] : IsS134 w0 W g f0 f1 f2 := by obtain ⟨_, _, hb, r⟩ := h.out; exact ⟨_, _, u.out _ _ hb, r⟩
theorem oS134 {w0 w : World} {g : Nat} {f0 : List Int} {f1 : Int} {f2 : Bool} (h : Aside0 (IsS134 w0 w g f0 f1 f2)) : ∃ (A0 : Option Addr) (c0 : Nat), BkI g w #[.slice A0 f0.length c0, .int .i64 f1, .bool f2] 134 ∧ GeI w0.heap.size g ∧ Aside0 (Kd.C (Kd.int .u8) w0 A0 f0.length f0) ∧ Aside0 (f0.length ≤ c0) := by obtain ⟨A0, c0, hb, hg, hr0, hl0⟩ := h.out; exact ⟨A0, c0, ⟨hb⟩, ⟨hg⟩, ⟨hr0⟩, ⟨hl0⟩⟩
theorem nS134 {w0 W : World} {g : Nat} {A0 : Option Addr} {c0 : Nat} {f0 : List Int} {f1 : Int} {f2 : Bool} (hb : W.heap[g]? = some (.cells #[.slice A0 f0.length c0, .int .i64 f1, .bool f2] 134 (0, 0))) (hr0 : Aside0 (Kd.C (Kd.int .u8) w0 A0 f0.length f0)) (hl0 : Aside0 (f0.length ≤ c0)) [hg : GeI w0.heap.size g] : IsS134 w0 W g f0 f1 f2 := ⟨A0, c0, hb, hg.out, hr0.out, hl0.out⟩
theorem iB134 {w0 w : World} {g : Nat} {f0 : List Int} {f1 : Int} {f2 : Bool} (h : Aside0 (IsS134 w0 w g f0 f1 f2)) : StB g w 134 := ⟨by obtain ⟨_, _, hb, r⟩ := h.out; exact ⟨_, hb⟩⟩
instance (w0 : World) (g : Nat) (f0 : List Int) (f1 : Int) (f2 : Bool) : StP (fun w => IsS134 w0 w g f0 f1 f2) g 134 := ⟨fun w h => (iB134 ⟨h⟩).out⟩
instance (w0 : World) (f0 : List Int) (f1 : Int) (f2 : Bool) : StN (fun g w => IsS134 w0 w g f0 f1 f2) w0 134 := ⟨fun g w h => (iB134 ⟨h⟩).out, fun g w h => IsS134.ge h⟩
def impl_reader_num.f (k : Nat) (s0_0 : List Int) (s0_1 : Int) (s0_2 : Bool) : Option (Int × Int × Bool) := (impl_GetNum.f k s0_0 s0_1).bind fun bt418 => (if s0_2 = true then (some (0, s0_1, true)) else (if bt418.2.2 = true then (some (bt418.1, bt418.2.1, s0_2)) else (some (0, s0_1, true))))
def impl_reader_num.T1 : Bool × List (List Nat × List Nat) := (true, [([], []), ([0], [0]), ([1], [1]), ([2], [2]), ([], []), ([4], [4]), ([5], [5]), ([6], [6]), ([3, 7], [3, 7]), ([8], [8]), ([9], [9]), ([9], [9]), ([9], [9]), ([10, 8, 0, 1, 2, 3, 4, 5, 6, 7, 8, 9, 10], [10]), ([11, 13, 0, 1, 2, 3, 4, 5, 6, 7, 8, 9, 10, 11, 13], [11]), ([12, 14, 0, 1, 2, 3, 4, 5, 6, 7, 8, 9, 10, 11, 12, 13, 14], [12])])
def impl_reader_num.B1 : List Nat := [0, 1, 3, 7, 0, 16, 48, 112, 255, 511, 1023, 1023, 1023, 2047, 12287, 32767]
theorem impl_reader_num.tab1 : rtab .any (opsOf Tryz.f123 1) = impl_reader_num.T1 := by kernel_rfl
theorem impl_reader_num.bits1 : waitsOk impl_reader_num.T1.2 impl_reader_num.B1 = true := by kernel_rfl
theorem impl_reader_num.calls (k : Nat) (g : Nat) (s0_0 : List Int) (s0_1 : Int) (s0_2 : Bool) (r1 : Int) (r2 : Int) (r3 : Bool) (w0 w : World) (hI : IsS134 w0 w g s0_0 s0_1 s0_2) (hB : Below w0.heap.size w0 w) (h : impl_reader_num.f k s0_0 s0_1 s0_2 = some (r1, r2, r3)) :
  Calls Tryz.prog 123 #[.pointer (some ⟨g, 0, none⟩)] w fun e w' => e = .returned (.int .i64 r1) ∧ IsS134 w0 w' g s0_0 r2 r3 ∧ Below w0.heap.size w0 w' ∧ KeepBut w w' g none := by
 have HI0 := Aside0.mk hI; have HK := Aside0.mk (KeepBut.refl w g none); have HL := Aside0.mk hB.size; clear hI; have HW0 := Aside0.mk hB.size; have HB := Aside0.mk hB; clear hB
 have H := h; unfold impl_reader_num.f at H
 clear h; obtain ⟨⟨t418, t419, t420⟩, A2, H⟩ := oB H; (try dsimp only at H); have i0_ := iB134 HI0; have i1_ : LB w0 w := ⟨HB.out⟩; obtain ⟨AS3_0, cS3_0, bk3, HG3, HS3_0, HL3_0⟩ := oS134 HI0
 go_enter Tryz.func123, Tryz.ntmps123
 have H' := Aside0.mk H; clear H
 try go_wp2
 refine sB [] impl_reader_num.tab1 impl_reader_num.bits1 ?_; intro w4 _ HT_ HW_
 refine pA 0 (some 7) (bz 16 1) HT_ ?_
 refine pA 1 (some 8) (bz 16 3) HT_ ?_
 refine pA 2 (some 9) (bz 16 7) HT_ ?_
 refine tB 3 (some 10) (bz 16 15) HT_ HW_ ?_
 refine pA 4 (some 11) (bz 16 31) HT_ ?_
 refine pA 5 (some 12) (bz 16 63) HT_ ?_
 refine pA 6 (some 13) (bz 16 127) HT_ ?_
 refine tB 7 (some 14) (bz 16 255) HT_ HW_ ?_
 refine o1 8 (some 15) (bz 16 511) HT_ rfl (kC Tryz.func135 (impl_GetNum.calls (hr0 := pC HS3_0) (hc0 := HL3_0.out) (w := _) (h := A2.out)) ?_); intro w5 _
 refine nA (some 15) ?_
 refine pA 9 (some 6) (bz 16 1023) HT_ ?_
 refine pA 10 (some 16) (bz 16 2047) HT_ ?_
 refine pA 11 (some 17) (bz 16 4095) HT_ ?_
 refine pA 12 (some 18) (bz 16 0x1fff) HT_ ?_
 refine pA 13 (some 3) (bz 16 0x3fff) HT_ ?_
 refine pA 14 (some 4) (bz 16 0x7fff) HT_ ?_
 refine pA 15 (some 5) (bz 16 0xffff) HT_ ?_
 refine done_ (done_of HT_.out (by kernel_rfl)) ?_
 go_upto_region 2 with fail
 have H := H'.out; clear H'
 by_cases c6 : s0_2 = true
 ·
  subst c6
  rw [if_pos rfl] at H
  have H' := Aside0.mk H; clear H
  go_upto_if 26 with fail
  have H := H'.out; clear H'
  simp only [Option.some.injEq, Prod.mk.injEq] at H
  obtain ⟨rfl, rfl, rfl⟩ := H
  go_wp2
  go_ret
  exact ⟨y0_8, (nS134 xB HS3_0 HL3_0), UpW.out, UpB.out⟩
 replace c6 := Bool.eq_false_iff.mpr c6; subst c6
 rw [if_neg Bool.false_ne_true] at H
 have H' := Aside0.mk H; clear H
 go_upto_if 26 with fail
 have H := H'.out; clear H'
 by_cases c7 : t420 = true
 ·
  subst c7
  rw [if_pos rfl] at H
  simp only [Option.some.injEq, Prod.mk.injEq] at H
  obtain ⟨rfl, rfl, rfl⟩ := H
  go_wp2
  go_ret
  exact ⟨y0_8, (nS134 xB HS3_0 HL3_0), UpW.out, UpB.out⟩
 replace c7 := Bool.eq_false_iff.mpr c7; subst c7
 rw [if_neg Bool.false_ne_true] at H
 simp only [Option.some.injEq, Prod.mk.injEq] at H
 obtain ⟨rfl, rfl, rfl⟩ := H
 go_wp2
 go_ret
 exact ⟨y0_8, (nS134 xB HS3_0 HL3_0), UpW.out, UpB.out⟩
def impl_GetText.f (k : Nat) (l0 : List Int) (a1 : Int) : Option (ByteArray × Int × Bool) := (impl_GetNum.f k l0 a1).bind fun bt421 => (if bt421.2.2 = true then (if bt421.1 > (wrap64 ((l0.length : Int) - bt421.2.1)) then (some ((⟨#[]⟩ : ByteArray), 0, false)) else (if 0 ≤ bt421.2.1 then (if bt421.2.1 ≤ (wrap64 (bt421.2.1 + bt421.1)) then (if (wrap64 (bt421.2.1 + bt421.1)) ≤ (l0.length : Int) then (some (strOfNums ((l0.take ((wrap64 (bt421.2.1 + bt421.1)) : Int).toNat).drop (bt421.2.1 : Int).toNat), wrap64 (bt421.2.1 + bt421.1), true)) else (none)) else (none)) else (none))) else (some ((⟨#[]⟩ : ByteArray), 0, false)))
theorem impl_GetText.calls (k : Nat) (A0 : Option Addr) (c0 : Nat) (l0 : List Int) (a1 : Int) (r1 : ByteArray) (r2 : Int) (r3 : Bool) (w : World) (hr0 : Kd.C (Kd.int .u8) w A0 l0.length l0) (hc0 : l0.length ≤ c0) (h : impl_GetText.f k l0 a1 = some (r1, r2, r3)) :
  Calls Tryz.prog 73 #[.slice A0 l0.length c0, .int .i64 a1] w fun e w' => e = .returned (.tuple #[.string r1, .int .i64 r2, .bool r3]) ∧ Below w.heap.size w w' := by
 have HR0 := Aside0.mk hr0; have HC0 := Aside0.mk hc0; clear hr0 hc0; have HB := Aside0.mk (Below.refl w.heap.size w)
 have H := h; unfold impl_GetText.f at H
 clear h; obtain ⟨⟨t421, t422, t423⟩, A3, H⟩ := oB H; (try dsimp only at H)
 by_cases c4 : t423 = true
 ·
  subst c4
  rw [if_pos rfl] at H
  by_cases c5 : t421 > (wrap64 ((l0.length : Int) - t422))
  ·
   rw [if_pos c5] at H
   have c5b0 : decide ((wrap64 ((l0.length : Int) - t422)) < t421) = true := decide_eq_true c5; clear c5
   simp only [Option.some.injEq, Prod.mk.injEq] at H
   obtain ⟨rfl, rfl, rfl⟩ := H
   go_enter Tryz.func73, Tryz.ntmps73
   go_wp2_with (first | ((with_reducible refine gate_callee (f := 135) rfl ?_); refine gB (some 13) Tryz.func135 #[.slice A0 l0.length c0, .int .i64 a1] ?_; (with_reducible refine (impl_GetNum.calls k _ _ l0 a1 t421 t422 true _ ?side1 ?side2 A3.out).mono ?_); (case side1 => exact cI HR0.out); (case side2 => exact HC0.out); rintro e w6 ⟨rfl, hb⟩; refine ⟨_, rfl, ?_⟩; replace HB := bs HB hb; (try clear hb); (try clear hb2); (try clear hk); (try clear hi)))
   go_ret3
   exact ⟨y0_3, bI HB.out⟩
  rw [if_neg c5] at H
  have c5b0 : decide ((wrap64 ((l0.length : Int) - t422)) < t421) = false := decide_eq_false c5; clear c5
  by_cases c7 : 0 ≤ t422
  rotate_left
  ·
   rw [if_neg c7] at H
   exact absurd H (by simp)
  rw [if_pos c7] at H
  have c7b0 := eq_true c7; have c7b1 : decide (0 ≤ t422) = true := decide_eq_true c7; clear c7
  by_cases c8 : t422 ≤ (wrap64 (t422 + t421))
  rotate_left
  ·
   rw [if_neg c8] at H
   exact absurd H (by simp)
  rw [if_pos c8] at H
  have c8b0 := eq_true c8; have c8b1 : decide (t422 ≤ (wrap64 (t422 + t421))) = true := decide_eq_true c8
  by_cases c9 : (wrap64 (t422 + t421)) ≤ (l0.length : Int)
  rotate_left
  ·
   rw [if_neg c9] at H
   exact absurd H (by simp)
  rw [if_pos c9] at H
  have c9b0 := eq_true c9; have c9b1 : decide ((wrap64 (t422 + t421)) ≤ (l0.length : Int)) = true := decide_eq_true c9
  simp only [Option.some.injEq, Prod.mk.injEq] at H
  obtain ⟨rfl, rfl, rfl⟩ := H
  go_enter Tryz.func73, Tryz.ntmps73
  go_wp2_with (first | ((with_reducible refine gate_callee (f := 135) rfl ?_); refine gB (some 13) Tryz.func135 #[.slice A0 l0.length c0, .int .i64 a1] ?_; (with_reducible refine (impl_GetNum.calls k _ _ l0 a1 t421 t422 true _ ?side1 ?side2 A3.out).mono ?_); (case side1 => exact cI HR0.out); (case side2 => exact HC0.out); rintro e w10 ⟨rfl, hb⟩; refine ⟨_, rfl, ?_⟩; replace HB := bs HB hb; (try clear hb); (try clear hb2); (try clear hk); (try clear hi); obtain ⟨i011, hi011, _, hsz11, _⟩ := info_parts info5; obtain ⟨A11, hcut11, hA11, hC11⟩ := print_mid_of (P := Tryz.prog) (Value.int .u8) 0 24 5 .i64 .i64 Tryz.underlying24 hi011 hsz11 A0 c0 l0 t422 (wrap64 (t422 + t421)) (of_decide_eq_true y0_7) (by first | omega | exact of_decide_eq_true y0_7) (of_decide_eq_true y0_7) HC0.out; have HR424 := Aside0.mk (Kd.C_of_reads (h1 := fun _ => rfl) (hA11 _ (Kd.reads_of_C HR0.out))); have HC424 := Aside0.mk hC11; clear hA11 hC11 hi011 hsz11; have hcv12 := Kd.C_string (P := Tryz.prog) (A := A11) (c := (c0 - t422.toNat)) Tryz.underlying24 Tryz.underlying5 Tryz.underlying9 (Kd.C_below HR424.out HB.out); rw [show (List.drop t422.toNat (List.take (wrap64 (t422 + t421)).toNat l0)).length = (wrap64 (t422 + t421)).toNat - t422.toNat from (by have h_ : (wrap64 (t422 + t421)) ≤ (l0.length : Int) := of_decide_eq_true (by first | (with_reducible assumption) | assumption); rw [List.length_drop, List.length_take, Nat.min_eq_left (by omega)])] at hcv12))
  go_ret3
  exact ⟨y0_3, bI HB.out⟩
 replace c4 := Bool.eq_false_iff.mpr c4; subst c4
 rw [if_neg Bool.false_ne_true] at H
 simp only [Option.some.injEq, Prod.mk.injEq] at H
 obtain ⟨rfl, rfl, rfl⟩ := H
 go_enter Tryz.func73, Tryz.ntmps73
 go_wp2_with (first | ((with_reducible refine gate_callee (f := 135) rfl ?_); refine gB (some 13) Tryz.func135 #[.slice A0 l0.length c0, .int .i64 a1] ?_; (with_reducible refine (impl_GetNum.calls k _ _ l0 a1 t421 t422 false _ ?side1 ?side2 A3.out).mono ?_); (case side1 => exact cI HR0.out); (case side2 => exact HC0.out); rintro e w13 ⟨rfl, hb⟩; refine ⟨_, rfl, ?_⟩; replace HB := bs HB hb; (try clear hb); (try clear hb2); (try clear hk); (try clear hi)))
 go_ret3
 exact ⟨y0_3, bI HB.out⟩
def impl_reader_text.f (k : Nat) (s0_0 : List Int) (s0_1 : Int) (s0_2 : Bool) : Option (ByteArray × Int × Bool) := (impl_GetText.f k s0_0 s0_1).bind fun bt425 => (if s0_2 = true then (some ((⟨#[]⟩ : ByteArray), s0_1, true)) else (if bt425.2.2 = true then (some (bt425.1, bt425.2.1, s0_2)) else (some ((⟨#[]⟩ : ByteArray), s0_1, true))))
def impl_reader_text.T1 : Bool × List (List Nat × List Nat) := (true, [([], []), ([0], [0]), ([1], [1]), ([2], [2]), ([], []), ([4], [4]), ([5], [5]), ([6], [6]), ([3, 7], [3, 7]), ([8], [8]), ([9], [9]), ([9], [9]), ([9], [9]), ([10, 8, 0, 1, 2, 3, 4, 5, 6, 7, 8, 9, 10], [10]), ([11, 13, 0, 1, 2, 3, 4, 5, 6, 7, 8, 9, 10, 11, 13], [11]), ([12, 14, 0, 1, 2, 3, 4, 5, 6, 7, 8, 9, 10, 11, 12, 13, 14], [12])])
def impl_reader_text.B1 : List Nat := [0, 1, 3, 7, 0, 16, 48, 112, 255, 511, 1023, 1023, 1023, 2047, 12287, 32767]
theorem impl_reader_text.tab1 : rtab .any (opsOf Tryz.f125 1) = impl_reader_text.T1 := by kernel_rfl
theorem impl_reader_text.bits1 : waitsOk impl_reader_text.T1.2 impl_reader_text.B1 = true := by kernel_rfl
theorem impl_reader_text.calls (k : Nat) (g : Nat) (s0_0 : List Int) (s0_1 : Int) (s0_2 : Bool) (r1 : ByteArray) (r2 : Int) (r3 : Bool) (w0 w : World) (hI : IsS134 w0 w g s0_0 s0_1 s0_2) (hB : Below w0.heap.size w0 w) (h : impl_reader_text.f k s0_0 s0_1 s0_2 = some (r1, r2, r3)) :
  Calls Tryz.prog 125 #[.pointer (some ⟨g, 0, none⟩)] w fun e w' => e = .returned (.string r1) ∧ IsS134 w0 w' g s0_0 r2 r3 ∧ Below w0.heap.size w0 w' ∧ KeepBut w w' g none := by
 have HI0 := Aside0.mk hI; have HK := Aside0.mk (KeepBut.refl w g none); have HL := Aside0.mk hB.size; clear hI; have HW0 := Aside0.mk hB.size; have HB := Aside0.mk hB; clear hB
 have H := h; unfold impl_reader_text.f at H
 clear h; obtain ⟨⟨t425, t426, t427⟩, A2, H⟩ := oB H; (try dsimp only at H); have i0_ := iB134 HI0; have i1_ : LB w0 w := ⟨HB.out⟩; obtain ⟨AS3_0, cS3_0, bk3, HG3, HS3_0, HL3_0⟩ := oS134 HI0
 go_enter Tryz.func125, Tryz.ntmps125
 have H' := Aside0.mk H; clear H
 try go_wp2
 refine sB [] impl_reader_text.tab1 impl_reader_text.bits1 ?_; intro w4 _ HT_ HW_
 refine pA 0 (some 7) (bz 16 1) HT_ ?_
 refine pA 1 (some 8) (bz 16 3) HT_ ?_
 refine pA 2 (some 9) (bz 16 7) HT_ ?_
 refine tB 3 (some 10) (bz 16 15) HT_ HW_ ?_
 refine pA 4 (some 11) (bz 16 31) HT_ ?_
 refine pA 5 (some 12) (bz 16 63) HT_ ?_
 refine pA 6 (some 13) (bz 16 127) HT_ ?_
 refine tB 7 (some 14) (bz 16 255) HT_ HW_ ?_
 refine o1 8 (some 15) (bz 16 511) HT_ rfl (kC Tryz.func73 (impl_GetText.calls (hr0 := pC HS3_0) (hc0 := HL3_0.out) (w := _) (h := A2.out)) ?_); intro w5 _
 refine nA (some 15) ?_
 refine pA 9 (some 6) (bz 16 1023) HT_ ?_
 refine pA 10 (some 16) (bz 16 2047) HT_ ?_
 refine pA 11 (some 17) (bz 16 4095) HT_ ?_
 refine pA 12 (some 18) (bz 16 0x1fff) HT_ ?_
 refine pA 13 (some 3) (bz 16 0x3fff) HT_ ?_
 refine pA 14 (some 4) (bz 16 0x7fff) HT_ ?_
 refine pA 15 (some 5) (bz 16 0xffff) HT_ ?_
 refine done_ (done_of HT_.out (by kernel_rfl)) ?_
 go_upto_region 2 with fail
 have H := H'.out; clear H'
 by_cases c6 : s0_2 = true
 ·
  subst c6
  rw [if_pos rfl] at H
  have H' := Aside0.mk H; clear H
  go_upto_if 26 with fail
  have H := H'.out; clear H'
  simp only [Option.some.injEq, Prod.mk.injEq] at H
  obtain ⟨rfl, rfl, rfl⟩ := H
  go_wp2
  go_ret
  exact ⟨y0_8, (nS134 xB HS3_0 HL3_0), UpW.out, UpB.out⟩
 replace c6 := Bool.eq_false_iff.mpr c6; subst c6
 rw [if_neg Bool.false_ne_true] at H
 have H' := Aside0.mk H; clear H
 go_upto_if 26 with fail
 have H := H'.out; clear H'
 by_cases c7 : t427 = true
 ·
  subst c7
  rw [if_pos rfl] at H
  simp only [Option.some.injEq, Prod.mk.injEq] at H
  obtain ⟨rfl, rfl, rfl⟩ := H
  go_wp2
  go_ret
  exact ⟨y0_8, (nS134 xB HS3_0 HL3_0), UpW.out, UpB.out⟩
 replace c7 := Bool.eq_false_iff.mpr c7; subst c7
 rw [if_neg Bool.false_ne_true] at H
 simp only [Option.some.injEq, Prod.mk.injEq] at H
 obtain ⟨rfl, rfl, rfl⟩ := H
 go_wp2
 go_ret
 exact ⟨y0_8, (nS134 xB HS3_0 HL3_0), UpW.out, UpB.out⟩
def impl_reader_nums.l0 : Nat → List Int → Int → Int → List Int → Int → Bool → Option (List Int × Int × Bool)
 | 0, _, _, _, _, _, _ => none
 | k + 1, x3, x4, x5, x1000, x1001, x1002 => if x5 < x4 then (if x1002 = true then (some (x3, x1001, x1002)) else ((impl_reader_num.f k x1000 x1001 x1002).bind fun bt431 => (if x3.length < 17592186044416 then (impl_reader_nums.l0 k (x3 ++ [bt431.1]) x4 (wrap64 (x5 + 1)) x1000 bt431.2.1 bt431.2.2) else (none)))) else (some (x3, x1001, x1002))
def impl_reader_nums.f (k : Nat) (s0_0 : List Int) (s0_1 : Int) (s0_2 : Bool) : Option (List Int × Int × Bool) := (impl_reader_num.f k s0_0 s0_1 s0_2).bind fun bt428 => (impl_reader_nums.l0 k ([] : List Int) bt428.1 0 s0_0 bt428.2.1 bt428.2.2)
theorem impl_reader_nums.calls (k : Nat) (g : Nat) (s0_0 : List Int) (s0_1 : Int) (s0_2 : Bool) (r1 : List Int) (r2 : Int) (r3 : Bool) (w0 w : World) (hI : IsS134 w0 w g s0_0 s0_1 s0_2) (hB : Below w0.heap.size w0 w) (h : impl_reader_nums.f k s0_0 s0_1 s0_2 = some (r1, r2, r3)) :
  Calls Tryz.prog 159 #[.pointer (some ⟨g, 0, none⟩)] w fun e w' => ∃ v0_ : Value, e = .returned (v0_) ∧ Kd.R (Kd.int .i64) 3 w' w.heap.size (fun _ => True) v0_ r1 ∧ IsS134 w0 w' g s0_0 r2 r3 ∧ Below w0.heap.size w0 w' ∧ KeepBut w w' g none := by
 have HI0 := Aside0.mk hI; have HK := Aside0.mk (KeepBut.refl w g none); have HL := Aside0.mk hB.size; clear hI; have HW0 := Aside0.mk hB.size; have HB := Aside0.mk hB; clear hB
 have H := h; unfold impl_reader_nums.f at H
 clear h; obtain ⟨⟨t428, t429, t430⟩, A2, H⟩ := oB H; (try dsimp only at H); have i0_ := iB134 HI0; have i1_ : LB w0 w := ⟨HB.out⟩; obtain ⟨AS3_0, cS3_0, bk3, HG3, HS3_0, HL3_0⟩ := oS134 HI0
 go_enter Tryz.func159, Tryz.ntmps159
 have H' := Aside0.mk H; clear H
 go_wp2_with (first | ((with_reducible refine gate_callee (f := 123) rfl ?_); refine gK (some 7) Tryz.func123 (impl_reader_num.calls (hI := (nS134 xB HS3_0 HL3_0)) (hB := UpW.out) (w := _) (h := A2.out)) ?_; intro w4 _ _ _ HI5; obtain ⟨AS6_0, cS6_0, bk6, HG6, HS6_0, HL6_0⟩ := oS134 HI5; clear bk3))
 refine wC ?_; intro w7 _
 go_loopg [3, 5] k (fun kq v3 v5 w' => ∃ (x3_1 : List Int) (x5_1 : Int) (x1001_1 : Int) (x1002_1 : Bool) (Ao3_1 : Option Addr) (co3_1 : Nat), v3 = .slice Ao3_1 x3_1.length co3_1 ∧ v5 = .int .i64 x5_1 ∧ Aside0 (impl_reader_nums.l0 kq x3_1 t428 x5_1 s0_0 x1001_1 x1002_1 = some (r1, r2, r3)) ∧ Aside0 (kq ≤ k) ∧ Aside0 (Kd.R (Kd.int .i64) 3 w' w7.heap.size (iv w7 w') (.slice Ao3_1 x3_1.length co3_1) x3_1) ∧ StB g w' 134 ∧ Aside0 (IsS134 w0 w' g s0_0 x1001_1 x1002_1) ∧ KT w7 [g] w7 _ (Kd.int .i64) 3 w' ∧ LB w0 w' ∧ KS w g w')
 case atStart => exact ⟨(([] : List Int)), (0), (t429), (t430), (none), (0), y0_8, y0_8, H', ⟨Nat.le_refl _⟩, ⟨Kd.R_nil _ _ _ _ _⟩, iB134 ⟨(nS134 xB HS6_0 HL6_0)⟩, ⟨(nS134 xB HS6_0 HL6_0)⟩, ⟨UpT.out⟩, ⟨UpW.out⟩, ⟨UpB.out⟩⟩
 case round =>
  clear H'; obtain ⟨x3_1, x5_1, x1001_1, x1002_1, Ao3_1, co3_1, rfl, rfl, HA, HK1, HO_3, _, HI8, _, _, _⟩ := hrel; cases gk with
  | zero => exact absurd HA.out (by simp [impl_reader_nums.l0])
  | succ k1 =>
   have H := HA.out; clear HA
   simp only [impl_reader_nums.l0] at H
   obtain ⟨AS9_0, cS9_0, bk9, HG9, HS9_0, HL9_0⟩ := oS134 HI8; clear bk6
   by_cases c10 : x5_1 < t428
   ·
    rw [if_pos c10] at H
    have c10b0 : decide (x5_1 < t428) = true := decide_eq_true c10; clear c10; have H' := Aside0.mk H; clear H
    go_upto_if 17 with fail
    have H := H'.out; clear H'
    by_cases c11 : x1002_1 = true
    ·
     subst c11
     rw [if_pos rfl] at H
     simp only [Option.some.injEq, Prod.mk.injEq] at H
     obtain ⟨rfl, rfl, rfl⟩ := H
     go_wp2
     go_ret
     exact ⟨_, y0_8, rR HO_3, (nS134 xB HS9_0 HL9_0), UpW.out, UpB.out⟩
    replace c11 := Bool.eq_false_iff.mpr c11; subst c11
    rw [if_neg Bool.false_ne_true] at H
    obtain ⟨⟨t431, t432, t433⟩, A12, H⟩ := oB H; (try dsimp only at H)
    by_cases c13 : x3_1.length < 17592186044416
    rotate_left
    ·
     rw [if_neg c13] at H
     exact absurd H (by simp)
    rw [if_pos c13] at H
    have LMc13 := Aside0.mk c13; clear c13; obtain ⟨y434, hy434⟩ : ∃ y_ : List Int, y_ = (x3_1 ++ [t431]) := ⟨_, rfl⟩
    replace H : (impl_reader_nums.l0 k1 y434 t428 (wrap64 (x5_1 + 1)) s0_0 t432 t433) = some (r1, r2, r3) := by first | (rw [hy434]; with_reducible exact H) | (rw [hy434]; with_reducible exact (Option.bind_some _ _).symm.trans H) | (rw [hy434]; exact H) | exact H
    have Ny434 := Aside0.mk hy434; clear hy434; have H' := Aside0.mk H; clear H
    go_wp2_with (first | ((with_reducible refine gate_callee (f := 123) rfl ?_); refine gK (some 22) Tryz.func123 (impl_reader_num.calls (hI := (nS134 xB HS9_0 HL9_0)) (hB := UpW.out) (w := _) (h := A12.out)) ?_; intro w14 _ _ _ HI15; obtain ⟨AS16_0, cS16_0, bk16, HG16, HS16_0, HL16_0⟩ := oS134 HI15; clear bk9) | ((with_reducible refine gate_builtin (b := .append) (xs := #[.tmp 20, .tmp 23]) rfl ?_); at_builtin; refine gA (Kd.int .i64) (.tmp 20) (.tmp 23) 25 3 (.int .i64 0) 8 t431 [.int .i64 t431] w7 Ny434 HO_3 rfl (by have := LMc13.out; omega) ?_ (ht := Tryz.underlying25) (hinfo := info3); intro Ao435 co435 w17 _ _ HO436))
    go_roundg k1
    case measure => have := HK1.out; omega
    case rel => exact ⟨(y434), (wrap64 (x5_1 + 1)), (t432), (t433), (Ao435), (co435), y0_8, y0_8, H', ⟨y0_11⟩, ⟨rJ HO436⟩, iB134 ⟨(nS134 xB HS16_0 HL16_0)⟩, ⟨(nS134 xB HS16_0 HL16_0)⟩, ⟨UpT.out⟩, ⟨UpW.out⟩, ⟨UpB.out⟩⟩
   rw [if_neg c10] at H
   have c10b0 : decide (x5_1 < t428) = false := decide_eq_false c10; clear c10
   simp only [Option.some.injEq, Prod.mk.injEq] at H
   obtain ⟨rfl, rfl, rfl⟩ := H
   go_wp2
   go_ret
   exact ⟨_, y0_8, rR HO_3, (nS134 xB HS9_0 HL9_0), UpW.out, UpB.out⟩
def impl_reader_qc.f (k : Nat) (s0_0 : List Int) (s0_1 : Int) (s0_2 : Bool) : Option (Int × ByteArray × List Int × Int × Bool) := (impl_reader_num.f k s0_0 s0_1 s0_2).bind fun bt438 => ((impl_reader_text.f k s0_0 bt438.2.1 bt438.2.2).bind fun bt442 => ((impl_reader_nums.f k s0_0 bt442.2.1 bt442.2.2).bind fun bt445 => (some (bt438.1, bt442.1, bt445.1, bt445.2.1, bt445.2.2))))
theorem impl_reader_qc.calls (k : Nat) (g : Nat) (s0_0 : List Int) (s0_1 : Int) (s0_2 : Bool) (r1 : Int) (r2 : ByteArray) (r3 : List Int) (r4 : Int) (r5 : Bool) (w0 w : World) (hI : IsS134 w0 w g s0_0 s0_1 s0_2) (hB : Below w0.heap.size w0 w) (h : impl_reader_qc.f k s0_0 s0_1 s0_2 = some (r1, r2, r3, r4, r5)) :
  Calls Tryz.prog 124 #[.pointer (some ⟨g, 0, none⟩)] w fun e w' => ∃ v2_ : Value, e = .returned (.agg #[.int .i64 r1, .string r2, v2_]) ∧ Kd.R (Kd.int .i64) 3 w' w.heap.size (fun _ => True) v2_ r3 ∧ IsS134 w0 w' g s0_0 r4 r5 ∧ Below w0.heap.size w0 w' ∧ KeepBut w w' g none := by
 have hu27 := Tryz.underlying27; have HI0 := Aside0.mk hI; have HK := Aside0.mk (KeepBut.refl w g none); have HL := Aside0.mk hB.size; clear hI; have HW0 := Aside0.mk hB.size; have HB := Aside0.mk hB; clear hB
 have H := h; unfold impl_reader_qc.f at H
 clear h; obtain ⟨⟨t438, t439, t440⟩, A2, H⟩ := oB H; (try dsimp only at H); obtain ⟨⟨t442, t443, t444⟩, A3, H⟩ := oB H; (try dsimp only at H); obtain ⟨⟨t445, t448, t449⟩, A4, H⟩ := oB H; (try dsimp only at H)
 simp only [Option.some.injEq, Prod.mk.injEq] at H
 obtain ⟨rfl, rfl, rfl, rfl, rfl⟩ := H; have i0_ := iB134 HI0; have i1_ : LB w0 w := ⟨HB.out⟩
 go_enter Tryz.func124, Tryz.ntmps124
 go_wp2_with (first | ((with_reducible refine gd 2 ?_); refine bL 2 #[.int .i64 0, .string (⟨#[]⟩ : ByteArray), .slice none 0 0] 27 ?_; intro gb437 w5 _ _ _) | ((with_reducible refine gate_callee (f := 123) rfl ?_); refine gK (some 5) Tryz.func123 (impl_reader_num.calls (hI := iS134 HI0) (hB := UpW.out) (w := _) (h := A2.out)) ?_; intro w6 _ _ _ HI7) | ((with_reducible refine gd 3 ?_); refine bL 3 #[.int .i64 0, .string (⟨#[]⟩ : ByteArray), .slice none 0 0] 27 ?_; intro gb441 w8 _ _ _) | ((with_reducible refine gate_callee (f := 125) rfl ?_); refine gK (some 8) Tryz.func125 (impl_reader_text.calls (hI := iS134 HI7) (hB := UpW.out) (w := _) (h := A3.out)) ?_; intro w9 _ _ _ HI10) | ((with_reducible refine gate_callee (f := 159) rfl ?_); refine gK1 (some 11) Tryz.func159 (impl_reader_nums.calls (hI := iS134 HI10) (hB := UpW.out) (w := _) (h := A4.out)) ?_; intro Ao446 co446 w11 _ _ _ HI12 HO447))
 refine bodyPost_ret (results_cell_row rfl _ _ gb437 27 #[.int .i64 t438, .string t442, .slice Ao446 t445.length co446] (0, 0) _ rfl xB Tryz.underlying27 rfl (by kernel_rfl)) rfl ?_
 exact ⟨_, y0_8, rR HO447, iS134 HI12, UpW.out, UpB.out⟩
def impl_SafeOf.f (k : Nat) (a0_0 : Int) (a0_1 : Int) (l1 : List Int) : Option (Int × Int × Int × ByteArray × List Int × ByteArray × Bool) := (impl_reader_num.f k l1 0 false).bind fun bt453 => ((impl_reader_num.f k l1 bt453.2.1 bt453.2.2).bind fun bt456 => ((impl_reader_qc.f k l1 bt456.2.1 bt456.2.2).bind fun bt460 => ((impl_reader_text.f k l1 bt460.2.2.2.1 bt460.2.2.2.2).bind fun bt467 => (if bt467.2.2 = true then (some (0, 0, 0, (⟨#[]⟩ : ByteArray), ([] : List Int), (⟨#[]⟩ : ByteArray), false)) else (if bt467.2.1 = (l1.length : Int) then ((impl_SafeOk.f k a0_0 a0_1 bt453.1 bt456.1 bt460.1 bt460.2.1 bt460.2.2.1 bt467.1).bind fun t470 => (if t470 = true then (some (bt453.1, bt456.1, bt460.1, bt460.2.1, bt460.2.2.1, bt467.1, true)) else (some (0, 0, 0, (⟨#[]⟩ : ByteArray), ([] : List Int), (⟨#[]⟩ : ByteArray), false)))) else (some (0, 0, 0, (⟨#[]⟩ : ByteArray), ([] : List Int), (⟨#[]⟩ : ByteArray), false)))))))
theorem impl_SafeOf.calls (k : Nat) (a0_0 : Int) (a0_1 : Int) (A1 : Option Addr) (c1 : Nat) (l1 : List Int) (r1 : Int) (r2 : Int) (r3 : Int) (r4 : ByteArray) (r5 : List Int) (r6 : ByteArray) (r7 : Bool) (w : World) (hr1 : Kd.C (Kd.int .u8) w A1 l1.length l1) (hc1 : l1.length ≤ c1) (h : impl_SafeOf.f k a0_0 a0_1 l1 = some (r1, r2, r3, r4, r5, r6, r7)) (hG : Glob w := by exact gG HG HB) :
  Calls Tryz.prog 57 #[.agg #[.int .i64 a0_0, .int .i64 a0_1], .slice A1 l1.length c1] w fun e w' => ∃ v4_ : Value, e = .returned (.tuple #[.agg #[.int .i64 r1, .int .i64 r2, .int .i64 r3, .string r4, v4_, .string r6], .bool r7]) ∧ Kd.R (Kd.int .i64) 3 w' w.heap.size (fun _ => True) v4_ r5 ∧ Below w.heap.size w w' := by
 have HG := Aside0.mk hG; clear hG; have hu32 := Tryz.underlying32; have hu29 := Tryz.underlying29; have hu134 := Tryz.underlying134; have hu27 := Tryz.underlying27; have HR1 := Aside0.mk hr1; have HC1 := Aside0.mk hc1; clear hr1 hc1; have HB := Aside0.mk (Below.refl w.heap.size w)
 have H := h; unfold impl_SafeOf.f at H
 clear h; obtain ⟨⟨t453, t454, t455⟩, A3, H⟩ := oB H; (try dsimp only at H); obtain ⟨⟨t456, t457, t458⟩, A4, H⟩ := oB H; (try dsimp only at H); obtain ⟨⟨t460, t461, t462, t465, t466⟩, A5, H⟩ := oB H; (try dsimp only at H); obtain ⟨⟨t467, t468, t469⟩, A6, H⟩ := oB H; (try dsimp only at H)
 go_enter Tryz.func57, Tryz.ntmps57
 have H' := Aside0.mk H; clear H
 go_upto_region 5 with (first | ((with_reducible refine gd 2 ?_); refine bL 2 #[.int .i64 a0_0, .int .i64 a0_1] 32 ?_; intro gb450 w7 _ _ _) | ((with_reducible refine gd 4 ?_); refine bL 4 #[.int .i64 0, .int .i64 0, .int .i64 0, .string (⟨#[]⟩ : ByteArray), .slice none 0 0, .string (⟨#[]⟩ : ByteArray)] 29 ?_; intro gb451 w8 _ _ _) | ((with_reducible refine gd 10 ?_); refine bL 10 #[.slice A1 l1.length c1, .int .i64 0, .bool false] 134 ?_; intro gb452 w9 _ _ _) | ((with_reducible refine gate_callee (f := 123) rfl ?_); refine gK (some 12) Tryz.func123 (impl_reader_num.calls (hI := (nS134 xB HR1 HC1)) (hB := UpW.out) (w := _) (h := A3.out)) ?_; intro w10 _ _ _ HI11; obtain ⟨AS12_0, cS12_0, bk12, HG12, HS12_0, HL12_0⟩ := oS134 HI11) | ((with_reducible refine gate_callee (f := 123) rfl ?_); refine gK (some 14) Tryz.func123 (impl_reader_num.calls (hI := (nS134 xB HS12_0 HL12_0)) (hB := UpW.out) (w := _) (h := A4.out)) ?_; intro w13 _ _ _ HI14; obtain ⟨AS15_0, cS15_0, bk15, HG15, HS15_0, HL15_0⟩ := oS134 HI14; clear bk12) | ((with_reducible refine gd 7 ?_); refine bL 7 #[.int .i64 0, .int .i64 0, .int .i64 0, .string (⟨#[]⟩ : ByteArray), .slice none 0 0, .string (⟨#[]⟩ : ByteArray)] 29 ?_; intro gb459 w16 _ _ _) | ((with_reducible refine gate_callee (f := 124) rfl ?_); refine gK1 (some 17) Tryz.func124 (impl_reader_qc.calls (hI := (nS134 xB HS15_0 HL15_0)) (hB := UpW.out) (w := _) (h := A5.out)) ?_; intro Ao463 co463 w17 _ _ _ HI18 HO464; obtain ⟨AS19_0, cS19_0, bk19, HG19, HS19_0, HL19_0⟩ := oS134 HI18; clear bk15) | ((with_reducible refine gate_callee (f := 125) rfl ?_); refine gK (some 20) Tryz.func125 (impl_reader_text.calls (hI := (nS134 xB HS19_0 HL19_0)) (hB := UpW.out) (w := _) (h := A6.out)) ?_; intro w20 _ _ _ HI21; obtain ⟨AS22_0, cS22_0, bk22, HG22, HS22_0, HL22_0⟩ := oS134 HI21; clear bk19))
 have H := H'.out; clear H'
 by_cases c23 : t469 = true
 ·
  subst c23
  rw [if_pos rfl] at H
  have H' := Aside0.mk H; clear H
  go_upto_if 40 with fail
  have H := H'.out; clear H'
  simp only [Option.some.injEq, Prod.mk.injEq] at H
  obtain ⟨rfl, rfl, rfl, rfl, rfl, rfl, rfl⟩ := H
  go_wp2
  refine bodyPost_ret (results_ct rfl _ _ gb451 29 #[.int .i64 0, .int .i64 0, .int .i64 0, .string (⟨#[]⟩ : ByteArray), .slice none 0 0, .string (⟨#[]⟩ : ByteArray)] (0, 0) _ rfl xB Tryz.underlying29 rfl (by kernel_rfl)) rfl ?_
  exact ⟨_, y0_8, Kd.R_nil _ _ _ _ _, UpW.out⟩
 replace c23 := Bool.eq_false_iff.mpr c23; subst c23
 rw [if_neg Bool.false_ne_true] at H
 by_cases c24 : t468 = (l1.length : Int)
 ·
  rw [if_pos c24] at H
  have c24b0 : (t468 == (l1.length : Int)) = true := beq_iff_eq.mpr c24; have c24b1 : (t468 != (l1.length : Int)) = false := bne_eq_false_iff_eq.mpr c24; clear c24; obtain ⟨t470, A25, H⟩ := oB H; (try dsimp only at H); have H' := Aside0.mk H; clear H
  go_upto_if 40 with (first | (go_at_call 69; refine aC (impl_SafeOk.calls (hr1_4 := rC HO464) (hc1_4 := rL HO464) (w := _) (h := A25.out)) ?_; intro w26 _))
  have H := H'.out; clear H'
  by_cases c27 : t470 = true
  ·
   subst c27
   rw [if_pos rfl] at H
   simp only [Option.some.injEq, Prod.mk.injEq] at H
   obtain ⟨rfl, rfl, rfl, rfl, rfl, rfl, rfl⟩ := H
   go_wp2
   refine bodyPost_ret (results_ct rfl _ _ gb451 29 #[.int .i64 t453, .int .i64 t456, .int .i64 t460, .string t461, .slice Ao463 t462.length co463, .string t467] (0, 0) _ rfl xB Tryz.underlying29 rfl (by kernel_rfl)) rfl ?_
   exact ⟨_, y0_8, rR HO464, UpW.out⟩
  replace c27 := Bool.eq_false_iff.mpr c27; subst c27
  rw [if_neg Bool.false_ne_true] at H
  simp only [Option.some.injEq, Prod.mk.injEq] at H
  obtain ⟨rfl, rfl, rfl, rfl, rfl, rfl, rfl⟩ := H
  go_wp2
  refine bodyPost_ret (results_ct rfl _ _ gb451 29 #[.int .i64 0, .int .i64 0, .int .i64 0, .string (⟨#[]⟩ : ByteArray), .slice none 0 0, .string (⟨#[]⟩ : ByteArray)] (0, 0) _ rfl xB Tryz.underlying29 rfl (by kernel_rfl)) rfl ?_
  exact ⟨_, y0_8, Kd.R_nil _ _ _ _ _, UpW.out⟩
 rw [if_neg c24] at H
 have c24b0 : (t468 == (l1.length : Int)) = false := beq_eq_false_iff_ne.mpr c24; have c24b1 : (t468 != (l1.length : Int)) = true := bne_iff_ne.mpr c24; have H' := Aside0.mk H; clear H
 go_upto_if 40 with fail
 have H := H'.out; clear H'
 simp only [Option.some.injEq, Prod.mk.injEq] at H
 obtain ⟨rfl, rfl, rfl, rfl, rfl, rfl, rfl⟩ := H
 go_wp2
 refine bodyPost_ret (results_ct rfl _ _ gb451 29 #[.int .i64 0, .int .i64 0, .int .i64 0, .string (⟨#[]⟩ : ByteArray), .slice none 0 0, .string (⟨#[]⟩ : ByteArray)] (0, 0) _ rfl xB Tryz.underlying29 rfl (by kernel_rfl)) rfl ?_
 exact ⟨_, y0_8, Kd.R_nil _ _ _ _ _, UpW.out⟩
def impl_SafeNew.f  : Option (Int × Int × Int × ByteArray × List Int × ByteArray) := some (0, 0, 0, (⟨#[]⟩ : ByteArray), ([] : List Int), (⟨#[]⟩ : ByteArray))
theorem impl_SafeNew.calls  (r1 : Int) (r2 : Int) (r3 : Int) (r4 : ByteArray) (r5 : List Int) (r6 : ByteArray) (w : World) (h : impl_SafeNew.f  = some (r1, r2, r3, r4, r5, r6)) :
  Calls Tryz.prog 70 #[] w fun e w' => ∃ v4_ : Value, e = .returned (.agg #[.int .i64 r1, .int .i64 r2, .int .i64 r3, .string r4, v4_, .string r6]) ∧ Kd.R (Kd.int .i64) 3 w' w.heap.size (fun _ => True) v4_ r5 ∧ Below w.heap.size w w' := by
 have hu29 := Tryz.underlying29; have HB := Aside0.mk (Below.refl w.heap.size w); have H := h; unfold impl_SafeNew.f at H; clear h
 simp only [Option.some.injEq, Prod.mk.injEq] at H
 obtain ⟨rfl, rfl, rfl, rfl, rfl, rfl⟩ := H
 go_enter Tryz.func70, Tryz.ntmps70
 go_wp2_with (first | ((with_reducible refine gd 0 ?_); refine bL 0 #[.int .i64 0, .int .i64 0, .int .i64 0, .string (⟨#[]⟩ : ByteArray), .slice none 0 0, .string (⟨#[]⟩ : ByteArray)] 29 ?_; intro gb471 w1 _ _ _))
 refine bodyPost_ret (results_cell_row rfl _ _ gb471 29 #[.int .i64 0, .int .i64 0, .int .i64 0, .string (⟨#[]⟩ : ByteArray), .slice none 0 0, .string (⟨#[]⟩ : ByteArray)] (0, 0) _ rfl xB Tryz.underlying29 rfl (by kernel_rfl)) rfl ?_
 exact ⟨_, y0_8, Kd.R_nil _ _ _ _ _, UpW.out⟩
mutual
def impl_LastNote.l0 : Nat → List Int → Int → Int → Int → Int → Int → Int → ByteArray → List Int → ByteArray → Option (Int × Int × Int × ByteArray × List Int × ByteArray × Int)
 | 0, _, _, _, _, _, _, _, _, _, _ => none
 | k + 1, l, n, c, d, s0, s1, s2, s3, s4, s5 => (impl_GetText.f k l n).bind fun bt => (if bt.2.2 = true then (if bt.2.1 ≥ (l.length : Int) then (impl_LastNote.j1 k l n bt.1 bt.2.1 true c d s0 s1 s2 s3 s4 s5) else (if 0 ≤ bt.2.1 then (if bt.2.1 < (l.length : Int) then (impl_LastNote.j1 k l n bt.1 bt.2.1 ((rd l bt.2.1) != 10) c d s0 s1 s2 s3 s4 s5) else (none)) else (none))) else (impl_LastNote.j1 k l n bt.1 bt.2.1 true c d s0 s1 s2 s3 s4 s5))
def impl_LastNote.j1 : Nat → List Int → Int → ByteArray → Int → Bool → Int → Int → Int → Int → Int → ByteArray → List Int → ByteArray → Option (Int × Int × Int × ByteArray × List Int × ByteArray × Int)
 | 0, _, _, _, _, _, _, _, _, _, _, _, _, _ => none
 | k + 1, l, n, t, p, b, c, d, s0, s1, s2, s3, s4, s5 => if b = true then (some (s0, s1, s2, s3, s4, s5, n)) else (if t.size < 140737488355328 then ((impl_SafeOf.f k c d (bytesOf t)).bind fun bt => (if bt.2.2.2.2.2.2 = true then (impl_LastNote.l0 k l (wrap64 (p + 1)) c d bt.1 bt.2.1 bt.2.2.1 bt.2.2.2.1 bt.2.2.2.2.1 bt.2.2.2.2.2.1) else (some (s0, s1, s2, s3, s4, s5, n)))) else (none))
end
def impl_LastNote.f (k : Nat) (a0_0 : Int) (a0_1 : Int) (l1 : List Int) : Option (Int × Int × Int × ByteArray × List Int × ByteArray × Int) := (impl_SafeNew.f).bind fun bt => (impl_LastNote.l0 k l1 0 a0_0 a0_1 bt.1 bt.2.1 bt.2.2.1 bt.2.2.2.1 bt.2.2.2.2.1 bt.2.2.2.2.2)
theorem impl_LastNote.calls (k : Nat) (a0_0 : Int) (a0_1 : Int) (A1 : Option Addr) (c1 : Nat) (l1 : List Int) (r1 : Int) (r2 : Int) (r3 : Int) (r4 : ByteArray) (r5 : List Int) (r6 : ByteArray) (r7 : Int) (w : World) (hr1 : Kd.C (Kd.int .u8) w A1 l1.length l1) (hc1 : l1.length ≤ c1) (h : impl_LastNote.f k a0_0 a0_1 l1 = some (r1, r2, r3, r4, r5, r6, r7)) (hG : Glob w := by exact gG HG HB) :
  Calls Tryz.prog 10 #[.agg #[.int .i64 a0_0, .int .i64 a0_1], .slice A1 l1.length c1] w fun e w' => ∃ v4_ : Value, e = .returned (.tuple #[.agg #[.int .i64 r1, .int .i64 r2, .int .i64 r3, .string r4, v4_, .string r6], .int .i64 r7]) ∧ Kd.R (Kd.int .i64) 3 w' w.heap.size (fun _ => True) v4_ r5 ∧ Below w.heap.size w w' := by
 have HG := Aside0.mk hG; clear hG; have hu32 := Tryz.underlying32; have hu29 := Tryz.underlying29; have HR1 := Aside0.mk hr1; have HC1 := Aside0.mk hc1; clear hr1 hc1; have HB := Aside0.mk (Below.refl w.heap.size w); have H := h
 unfold impl_LastNote.f at H
 clear h; obtain ⟨⟨t281, t282, t283, t284, t285, t288⟩, A3, H⟩ := oB H
 (try dsimp only at H)
 go_enter Tryz.func10, Tryz.ntmps10
 have H' := Aside0.mk H; clear H
 go_wp2_with (first | ((with_reducible refine gd 2 ?_); refine bL 2 #[.int .i64 a0_0, .int .i64 a0_1] 32 ?_; intro gb2 w4 _ _ _) | ((with_reducible refine gd 4 ?_); refine bL 4 #[.int .i64 0, .int .i64 0, .int .i64 0, .string (⟨#[]⟩ : ByteArray), .slice none 0 0, .string (⟨#[]⟩ : ByteArray)] 29 ?_; intro gb4 w5 _ _ _) | ((with_reducible refine gate_callee (f := 70) rfl ?_); refine gC1 (some 12) Tryz.func70 (impl_SafeNew.calls (w := _) (h := A3.out)) ?_; intro Ao1 co1 w6 _ HO1) | ((with_reducible refine gd 6 ?_); refine bL 6 #[.int .i64 0, .int .i64 0, .int .i64 0, .string (⟨#[]⟩ : ByteArray), .slice none 0 0, .string (⟨#[]⟩ : ByteArray)] 29 ?_; intro gb6 w7 _ _ _))
 refine wC ?_
 intro w8 _
 go_loopg [7] k (fun kq v7 w' => ∃ (x7 : Int) (s0 : Int) (s1 : Int) (s2 : Int) (s3 : ByteArray) (s4 : List Int) (s5 : ByteArray) (Ao : Option Addr) (co : Nat), v7 = .int .i64 x7 ∧ Aside0 (impl_LastNote.l0 kq l1 x7 a0_0 a0_1 s0 s1 s2 s3 s4 s5 = some (r1, r2, r3, r4, r5, r6, r7)) ∧ Aside0 (kq ≤ k) ∧ Aside0 (Kd.R (Kd.int .i64) 3 w' w.heap.size (iv w w') (.slice Ao s4.length co) s4) ∧ BkI gb6 w' #[.int .i64 s0, .int .i64 s1, .int .i64 s2, .string s3, .slice Ao s4.length co, .string s5] 29 ∧ KL w8 [gb6] w' ∧ LB w w')
 case atStart => exact ⟨0, t281, t282, t283, t284, t285, t288, Ao1, co1, y0_9, H', ⟨Nat.le_refl _⟩, ⟨rJ HO1⟩, ⟨xB⟩, ⟨UpL.out⟩, ⟨UpW.out⟩⟩
 case round =>
  clear H'; obtain ⟨x7, s0, s1, s2, s3, s4, s5, Ao, co, rfl, HA, HK1, HO, _, _, _⟩ := hrel; cases gk with
  | zero => exact absurd HA.out (by simp [impl_LastNote.l0])
  | succ k1 =>
    have H := HA.out; clear HA
    simp only [impl_LastNote.l0] at H
    obtain ⟨⟨t, p, b⟩, A12, H⟩ := oB H
    (try dsimp only at H)
    have H' := Aside0.mk H; clear H
    go_upto_region 4 with (first | ((with_reducible refine gate_callee (f := 73) rfl ?_); refine gC (some 16) Tryz.func73 (impl_GetText.calls (hr0 := pC HR1) (hc0 := HC1.out) (w := _) (h := A12.out)) ?_; intro w11 _))
    have H := H'.out; clear H'
    by_cases c1_ : b = true
    ·
      subst c1_
      rw [if_pos rfl] at H
      by_cases c2_ : p ≥ (l1.length : Int)
      ·
        rw [if_pos c2_] at H
        have c2b0 : decide ((l1.length : Int) ≤ p) = true := decide_eq_true c2_; clear c2_; cases k1 with
        | zero => exact absurd H (by simp [impl_LastNote.j1])
        | succ k2 =>
          simp only [impl_LastNote.j1] at H
          rw [if_pos trivial] at H
          simp only [Option.some.injEq, Prod.mk.injEq] at H
          obtain ⟨rfl, rfl, rfl, rfl, rfl, rfl, rfl⟩ := H
          go_wp2
          refine bodyPost_ret (results_ct rfl _ _ gb4 29 #[.int .i64 s0, .int .i64 s1, .int .i64 s2, .string s3, .slice Ao s4.length co, .string s5] (0, 0) _ rfl xB Tryz.underlying29 rfl (by kernel_rfl)) rfl ?_
          exact ⟨_, y0_9, rR HO, UpW.out⟩
      rw [if_neg c2_] at H
      have c2b0 : decide ((l1.length : Int) ≤ p) = false := decide_eq_false c2_; clear c2_
      by_cases c3_ : 0 ≤ p
      rotate_left
      ·
        rw [if_neg c3_] at H
        exact absurd H (by simp)
      rw [if_pos c3_] at H
      by_cases c4_ : p < (l1.length : Int)
      rotate_left
      ·
        rw [if_neg c4_] at H
        exact absurd H (by simp)
      rw [if_pos c4_] at H
      have c3b0 : decide (0 ≤ p) = true := decide_eq_true c3_; have c4b0 : decide (p < (l1.length : Int)) = true := decide_eq_true c4_; obtain ⟨ad, ead, hx0⟩ := Kd.at_int (pC (W := w11) HR1) p c3_ c4_; cases ead; replace c3_ := eq_true c3_; replace c4_ := eq_true c4_; cases k1 with
      | zero => exact absurd H (by simp [impl_LastNote.j1])
      | succ k2 =>
        simp only [impl_LastNote.j1] at H
        by_cases c5_ : (rd l1 p != 10) = true
        ·
          rw [if_pos c5_] at H
          simp only [Option.some.injEq, Prod.mk.injEq] at H
          obtain ⟨rfl, rfl, rfl, rfl, rfl, rfl, rfl⟩ := H
          go_wp2
          refine bodyPost_ret (results_ct rfl _ _ gb4 29 #[.int .i64 s0, .int .i64 s1, .int .i64 s2, .string s3, .slice Ao s4.length co, .string s5] (0, 0) _ rfl xB Tryz.underlying29 rfl (by kernel_rfl)) rfl ?_
          exact ⟨_, y0_9, rR HO, UpW.out⟩
        rw [if_neg c5_] at H
        by_cases c6_ : t.size < 140737488355328
        rotate_left
        ·
          rw [if_neg c6_] at H
          exact absurd H (by simp)
        rw [if_pos c6_] at H
        replace c5_ := Bool.eq_false_iff.mpr c5_; obtain ⟨⟨t1, t2, t3, t4, t5, t6, t7⟩, A13, H⟩ := oB H
        (try dsimp only at H)
        have H' := Aside0.mk H; clear H; have kb := print_bytes (P := Tryz.prog) 9 24 5 Tryz.underlying9 Tryz.underlying24 Tryz.underlying5 t w11; have hUB : UB w11 (Lib.bytesWorld w11 5 t) := ⟨bytes_below (Below.refl _ _) (Nat.le_refl _) 5 t⟩
        have hKC := Aside0.mk (Kd.C_of_reads (d := (0 : Int)) (h1 := fun _ => rfl) (readsInt_of.1 (bytes_reads w11 5 t (by omega))))
        have hKL := Aside0.mk (grownCap_ge w11 t.size 0 5)
        rw [← bytesOf_length t] at hKC hKL
        generalize Lib.bytesWorld w11 5 t = w12 at kb hUB hKC
        go_upto_if 45 with (first | ((with_reducible refine gate_callee (f := 57) rfl ?_); refine gC1 (some 41) Tryz.func57 (impl_SafeOf.calls (hr1 := pC hKC) (hc1 := hKL.out) (w := _) (h := A13.out)) ?_ (hargs := by (simp only [List.map_toArray, List.map_cons, List.map_nil, bytesOf_length]); rfl); intro Ao2 co2 w13 _ HO2) | ((with_reducible refine gd 11 ?_); refine bL 11 #[.int .i64 0, .int .i64 0, .int .i64 0, .string (⟨#[]⟩ : ByteArray), .slice none 0 0, .string (⟨#[]⟩ : ByteArray)] 29 ?_; intro gb11 w14 _ _ _))
        have H := H'.out; clear H'
        by_cases c7_ : t7 = true
        ·
          subst c7_
          rw [if_pos rfl] at H
          have H' := Aside0.mk H; clear H
          go_wp2
          go_roundg k2
          case measure => have := HK1.out; omega
          case rel => exact ⟨_, t1, t2, t3, t4, t5, t6, Ao2, co2, y0_9, H', ⟨y0_11⟩, ⟨rJ HO2⟩, ⟨xB⟩, ⟨UpL.out⟩, ⟨UpW.out⟩⟩
        rw [if_neg c7_] at H
        replace c7_ := Bool.eq_false_iff.mpr c7_; subst c7_
        simp only [Option.some.injEq, Prod.mk.injEq] at H
        obtain ⟨rfl, rfl, rfl, rfl, rfl, rfl, rfl⟩ := H
        go_wp2
        refine bodyPost_ret (results_ct rfl _ _ gb4 29 #[.int .i64 s0, .int .i64 s1, .int .i64 s2, .string s3, .slice Ao s4.length co, .string s5] (0, 0) _ rfl xB Tryz.underlying29 rfl (by kernel_rfl)) rfl ?_
        exact ⟨_, y0_9, rR HO, UpW.out⟩
    rw [if_neg c1_] at H
    replace c1_ := Bool.eq_false_iff.mpr c1_; subst c1_; cases k1 with
    | zero => exact absurd H (by simp [impl_LastNote.j1])
    | succ k2 =>
      simp only [impl_LastNote.j1] at H
      rw [if_pos trivial] at H
      simp only [Option.some.injEq, Prod.mk.injEq] at H
      obtain ⟨rfl, rfl, rfl, rfl, rfl, rfl, rfl⟩ := H
      go_wp2
      refine bodyPost_ret (results_ct rfl _ _ gb4 29 #[.int .i64 s0, .int .i64 s1, .int .i64 s2, .string s3, .slice Ao s4.length co, .string s5] (0, 0) _ rfl xB Tryz.underlying29 rfl (by kernel_rfl)) rfl ?_
      exact ⟨_, y0_9, rR HO, UpW.out⟩
def laws_big.f (l0 : List Int) : Option (Bool) := some (decide ((l0.length : Int) > 1048576))
theorem laws_big.calls (A0 : Option Addr) (c0 : Nat) (l0 : List Int) (r : Bool) (w : World) (hr0 : Kd.C (Kd.int .u8) w A0 l0.length l0) (hc0 : l0.length ≤ c0) (h : laws_big.f l0 = some r) :
  Calls Tryz.prog 27 #[.slice A0 l0.length c0] w fun e w' => e = .returned (.bool r) ∧ Drawn0 w w' := by
 have HR0 := Aside0.mk hr0; have HC0 := Aside0.mk hc0; clear hr0 hc0; have H := h; unfold laws_big.f at H; clear h; obtain rfl := Option.some.inj H
 go_enter Tryz.func27, Tryz.ntmps27
 go_wp2
 go_ret
 exact ⟨y0_8, y0_6⟩
def IsS149 (w0 W : World) (g : Nat) (f0 : List Int) (f1 : Int) (f2 : Int) : Prop := ∃ A0 c0, W.heap[g]? = some (.cells #[.slice A0 f0.length c0, .int .i64 f1, .int .i64 f2] 149 (0, 0)) ∧ w0.heap.size ≤ g ∧ Kd.C (Kd.int .u8) w0 A0 f0.length f0 ∧ f0.length ≤ c0
theorem IsS149.grown {w0 W : World} {g : Nat} {f0 : List Int} {f1 : Int} {f2 : Int} {W1 : World} {row : Option Nat} (h : IsS149 w0 W g f0 f1 f2) (hw : W.grownBy W1 row) (hne : some g ≠ row) : IsS149 w0 W1 g f0 f1 f2 := by
 obtain ⟨A0, c0, hb, hg, hr0, hl0⟩ := h
 exact ⟨A0, c0, blk_grown hb hw hne, hg, hr0, hl0⟩
theorem IsS149.below {w0 W : World} {g : Nat} {f0 : List Int} {f1 : Int} {f2 : Int} {W1 : World} (h : IsS149 w0 W g f0 f1 f2) (hw : Below W.heap.size W W1) : IsS149 w0 W1 g f0 f1 f2 := h.grown (grown_of_below hw none) (by simp)
theorem IsS149.alloc {w0 W : World} {g : Nat} {f0 : List Int} {f1 : Int} {f2 : Int} (h : IsS149 w0 W g f0 f1 f2) (o : Obj) : IsS149 w0 (W.alloc o) g f0 f1 f2 := h.below (below_alloc (Below.refl _ _) o)
theorem IsS149.drewN {w0 W : World} {g : Nat} {f0 : List Int} {f1 : Int} {f2 : Int} (h : IsS149 w0 W g f0 f1 f2) (m : Nat) : IsS149 w0 (W.drewN m) g f0 f1 f2 := h
theorem IsS149.drew {w0 W : World} {g : Nat} {f0 : List Int} {f1 : Int} {f2 : Int} (h : IsS149 w0 W g f0 f1 f2) : IsS149 w0 W.drew g f0 f1 f2 := h
theorem IsS149.ge {w0 W : World} {g : Nat} {f0 : List Int} {f1 : Int} {f2 : Int} (h : IsS149 w0 W g f0 f1 f2) : w0.heap.size ≤ g := by
 obtain ⟨A0, c0, hb, hg, hr0, hl0⟩ := h
 exact hg
theorem cellS149_0 {W : World} {g : Nat} {A0 : Option Addr} {c0 : Nat} {f0 : List Int} {f1 : Int} {f2 : Int} (h : W.heap[g]? = some (.cells #[.slice A0 f0.length c0, .int .i64 f1, .int .i64 f2] 149 (0, 0))) : W.cell? ⟨g, 0, none⟩ = some (.slice A0 f0.length c0) := (blk_cell h 0).trans rfl
theorem cellS149_1 {W : World} {g : Nat} {A0 : Option Addr} {c0 : Nat} {f0 : List Int} {f1 : Int} {f2 : Int} (h : W.heap[g]? = some (.cells #[.slice A0 f0.length c0, .int .i64 f1, .int .i64 f2] 149 (0, 0))) : W.cell? ⟨g, 1, none⟩ = some (.int .i64 f1) := (blk_cell h 1).trans rfl
theorem IsS149.set_1 {w0 W : World} {g : Nat} {f0 : List Int} {f1 : Int} {f2 : Int} (h : IsS149 w0 W g f0 f1 f2) (x : Int) : IsS149 w0 (W.setCell ⟨g, 1, none⟩ (.int .i64 x)) g f0 x f2 := by
 obtain ⟨A0, c0, hb, hg, hr0, hl0⟩ := h
 exact ⟨A0, c0, by simpa using blk_set hb 1 (.int .i64 x), hg, hr0, hl0⟩
theorem cellS149_2 {W : World} {g : Nat} {A0 : Option Addr} {c0 : Nat} {f0 : List Int} {f1 : Int} {f2 : Int} (h : W.heap[g]? = some (.cells #[.slice A0 f0.length c0, .int .i64 f1, .int .i64 f2] 149 (0, 0))) : W.cell? ⟨g, 2, none⟩ = some (.int .i64 f2) := (blk_cell h 2).trans rfl
theorem IsS149.set_2 {w0 W : World} {g : Nat} {f0 : List Int} {f1 : Int} {f2 : Int} (h : IsS149 w0 W g f0 f1 f2) (x : Int) : IsS149 w0 (W.setCell ⟨g, 2, none⟩ (.int .i64 x)) g f0 f1 x := by
 obtain ⟨A0, c0, hb, hg, hr0, hl0⟩ := h
 exact ⟨A0, c0, by simpa using blk_set hb 2 (.int .i64 x), hg, hr0, hl0⟩
theorem iS149 {w0 w W : World} {g : Nat} {f0 : List Int} {f1 : Int} {f2 : Int} (h : Aside0 (IsS149 w0 w g f0 f1 f2)) [u : UpG g w W] : IsS149 w0 W g f0 f1 f2 := by obtain ⟨_, _, hb, r⟩ := h.out; exact ⟨_, _, u.out _ _ hb, r⟩
theorem iB149 {w0 w : World} {g : Nat} {f0 : List Int} {f1 : Int} {f2 : Int} (h : Aside0 (IsS149 w0 w g f0 f1 f2)) : StB g w 149 := ⟨by obtain ⟨_, _, hb, r⟩ := h.out; exact ⟨_, hb⟩⟩
instance (w0 : World) (g : Nat) (f0 : List Int) (f1 : Int) (f2 : Int) : StP (fun w => IsS149 w0 w g f0 f1 f2) g 149 := ⟨fun w h => (iB149 ⟨h⟩).out⟩
instance (w0 : World) (f0 : List Int) (f1 : Int) (f2 : Int) : StN (fun g w => IsS149 w0 w g f0 f1 f2) w0 149 := ⟨fun g w h => (iB149 ⟨h⟩).out, fun g w h => IsS149.ge h⟩
def spec_l1New.l0 : Nat → List Int → Int → Int → Option (List Int × Int × Int)
 | 0, _, _, _ => none
 | k + 1, x0, x3, x4 => if x4 < (x0.length : Int) then (if x4 < 4000 then (if 0 ≤ x4 then (spec_l1New.l0 k x0 (Go.bits .and .i64 (wrap64 ((wrap64 ((wrap64 (x3 * 131)) + (wrap64 (rd x0 x4)))) + 7)) 1073741823) (wrap64 (x4 + 1))) else (none)) else (some (x0, 0, x3))) else (some (x0, 0, x3))
def spec_l1New.f (k : Nat) (l0 : List Int) : Option (List Int × Int × Int) := spec_l1New.l0 k l0 (wrap64 (26583 + (l0.length : Int))) 0
theorem spec_l1New.calls (k : Nat) (A0 : Option Addr) (c0 : Nat) (l0 : List Int) (r1 : List Int) (r2 : Int) (r3 : Int) (w0 w : World) (hB : Below w0.heap.size w0 w) (hr0 : Kd.C (Kd.int .u8) w0 A0 l0.length l0) (hc0 : l0.length ≤ c0) (h : spec_l1New.f k l0 = some (r1, r2, r3)) :
  Calls Tryz.prog 90 #[.slice A0 l0.length c0] w fun e w' => ∃ g_ : Nat, e = .returned (.pointer (some ⟨g_, 0, none⟩)) ∧ IsS149 w0 w' g_ r1 r2 r3 ∧ Below w0.heap.size w0 w' ∧ Below w.heap.size w w' := by
 have hu149 := Tryz.underlying149; have HR0 := Aside0.mk hr0; have HC0 := Aside0.mk hc0; clear hr0 hc0; have HBW := Aside0.mk (Below.refl w.heap.size w); have HW0 := Aside0.mk hB.size; have HB := Aside0.mk hB; clear hB; have H := h; unfold spec_l1New.f at H; clear h; have H' := Aside0.mk H; clear H
 go_enter Tryz.func90, Tryz.ntmps90
 go_wp2
 go_loopg [3, 4] k (fun kq v3 v4 w' => ∃ (x3_1 : Int) (x4_1 : Int), v3 = .int .i64 x3_1 ∧ v4 = .int .i64 x4_1 ∧ Aside0 (spec_l1New.l0 kq l0 x3_1 x4_1 = some (r1, r2, r3)) ∧ Aside0 (kq ≤ k) ∧ Aside0 (Below w0.heap.size w0 w') ∧ Aside0 (Below w.heap.size w w'))
 case atStart => exact ⟨(wrap64 (26583 + (l0.length : Int))), (0), y0_8, y0_8, H', ⟨Nat.le_refl _⟩, ⟨bI HB.out⟩, ⟨bI HBW.out⟩⟩
 case round =>
  clear H'; obtain ⟨x3_1, x4_1, rfl, rfl, HA, HK1, HB, HBW⟩ := hrel; cases gk with
  | zero => exact absurd HA.out (by simp [spec_l1New.l0])
  | succ k1 =>
   have H := HA.out; clear HA
   simp only [spec_l1New.l0] at H
   by_cases c2 : x4_1 < (l0.length : Int)
   ·
    rw [if_pos c2] at H
    have c2b0 : decide (x4_1 < (l0.length : Int)) = true := decide_eq_true c2; clear c2
    by_cases c3 : x4_1 < 4000
    ·
     rw [if_pos c3] at H
     have c3b0 : decide (x4_1 < 4000) = true := decide_eq_true c3; clear c3
     by_cases c4 : 0 ≤ x4_1
     rotate_left
     ·
      rw [if_neg c4] at H
      exact absurd H (by simp)
     rw [if_pos c4] at H
     have c4b0 : decide (0 ≤ x4_1) = true := decide_eq_true c4; clear c4; have H' := Aside0.mk H; clear H; have p472 : 0 ≤ (x4_1 : Int) := of_decide_eq_true y0_7; have q472 : x4_1 < (l0.length : Int) := of_decide_eq_true y0_7; obtain ⟨ad472, e472, hx472_0⟩ := Kd.at_int HR0.out x4_1 p472 q472; cases e472; replace hx472_0 := pw_cell_below HB.out hx472_0; replace p472 := eq_true p472; replace q472 := eq_true q472
     go_wp2
     go_roundg k1
     case measure => have := HK1.out; omega
     case rel => exact ⟨(Go.bits .and .i64 (wrap64 ((wrap64 ((wrap64 (x3_1 * 131)) + (wrap64 (rd l0 x4_1)))) + 7)) 1073741823), (wrap64 (x4_1 + 1)), y0_8, y0_8, H', ⟨y0_11⟩, ⟨bI HB.out⟩, ⟨bI HBW.out⟩⟩
    rw [if_neg c3] at H
    have c3b0 : decide (x4_1 < 4000) = false := decide_eq_false c3; clear c3
    simp only [Option.some.injEq, Prod.mk.injEq] at H
    obtain ⟨rfl, rfl, rfl⟩ := H
    go_wp2_with (first | ((with_reducible refine gd 31 ?_); refine bA 31 #[.slice A0 l0.length c0, .int .i64 0, .int .i64 x3_1] 149 ?_; intro gb473 hg w5 hbox hb; replace HB := bs HB hb; have BK473 := Aside0.mk (hbox); have GW473 := bg hg HBW; have GJ473 := gi GW473; have GE473 := Aside0.mk ((Nat.le_trans HW0.out (by rw [hg]; exact (below_size (bI HBW.out)) : w.heap.size ≤ gb473) : w0.heap.size ≤ gb473)); have GI473 := gi GE473; replace HBW := Aside0.mk (below_step HBW.out hb); clear hb hbox hg))
    go_ret
    exact ⟨_, rfl, (show IsS149 w0 _ gb473 l0 0 x3_1 from ⟨_, _, pI BK473, GE473.out, HR0.out, HC0.out⟩), bI HB.out, bI HBW.out⟩
   rw [if_neg c2] at H
   have c2b0 : decide (x4_1 < (l0.length : Int)) = false := decide_eq_false c2; clear c2
   simp only [Option.some.injEq, Prod.mk.injEq] at H
   obtain ⟨rfl, rfl, rfl⟩ := H
   go_wp2_with (first | ((with_reducible refine gd 31 ?_); refine bA 31 #[.slice A0 l0.length c0, .int .i64 0, .int .i64 x3_1] 149 ?_; intro gb474 hg w6 hbox hb; replace HB := bs HB hb; have BK474 := Aside0.mk (hbox); have GW474 := bg hg HBW; have GJ474 := gi GW474; have GE474 := Aside0.mk ((Nat.le_trans HW0.out (by rw [hg]; exact (below_size (bI HBW.out)) : w.heap.size ≤ gb474) : w0.heap.size ≤ gb474)); have GI474 := gi GE474; replace HBW := Aside0.mk (below_step HBW.out hb); clear hb hbox hg))
   go_ret
   exact ⟨_, rfl, (show IsS149 w0 _ gb474 l0 0 x3_1 from ⟨_, _, pI BK474, GE474.out, HR0.out, HC0.out⟩), bI HB.out, bI HBW.out⟩
def spec_l1Byte.f (s0_0 : List Int) (s0_1 : Int) (s0_2 : Int) : Option (Int × Int × Int) := if s0_1 < (s0_0.length : Int) then (if 0 ≤ s0_1 then (some (Go.bits .and .i64 (wrap64 ((Go.bits .and .i64 (Go.bits .xor .i64 ((wrap64 ((wrap64 (s0_2 * 6364136223846793005)) + 1442695040888963407)) / 8589934592) ((wrap64 ((wrap64 (s0_2 * 6364136223846793005)) + 1442695040888963407)) / 35184372088832)) 255) + (wrap64 (rd s0_0 s0_1)))) 255, wrap64 (s0_1 + 1), wrap64 ((wrap64 (s0_2 * 6364136223846793005)) + 1442695040888963407))) else (none)) else (some (Go.bits .and .i64 (Go.bits .xor .i64 ((wrap64 ((wrap64 (s0_2 * 6364136223846793005)) + 1442695040888963407)) / 8589934592) ((wrap64 ((wrap64 (s0_2 * 6364136223846793005)) + 1442695040888963407)) / 35184372088832)) 255, s0_1, wrap64 ((wrap64 (s0_2 * 6364136223846793005)) + 1442695040888963407)))
theorem spec_l1Byte.calls (g : Nat) (s0_0 : List Int) (s0_1 : Int) (s0_2 : Int) (r1 : Int) (r2 : Int) (r3 : Int) (w0 w : World) (hI : IsS149 w0 w g s0_0 s0_1 s0_2) (hB : Below w0.heap.size w0 w) (h : spec_l1Byte.f s0_0 s0_1 s0_2 = some (r1, r2, r3)) :
  Calls Tryz.prog 146 #[.pointer (some ⟨g, 0, none⟩)] w fun e w' => e = .returned (.int .i64 r1) ∧ IsS149 w0 w' g s0_0 r2 r3 ∧ Below w0.heap.size w0 w' ∧ KeepBut w w' g none := by
 have HI0 := Aside0.mk hI; have HK := Aside0.mk (KeepBut.refl w g none); have HL := Aside0.mk hB.size; clear hI; have HW0 := Aside0.mk hB.size; have HB := Aside0.mk hB; clear hB; have H := h; unfold spec_l1Byte.f at H; clear h
 by_cases c2 : s0_1 < (s0_0.length : Int)
 ·
  rw [if_pos c2] at H
  have c2b0 : decide (s0_1 < (s0_0.length : Int)) = true := decide_eq_true c2; clear c2
  by_cases c3 : 0 ≤ s0_1
  rotate_left
  ·
   rw [if_neg c3] at H
   exact absurd H (by simp)
  rw [if_pos c3] at H
  have c3b0 : decide (0 ≤ s0_1) = true := decide_eq_true c3; clear c3
  simp only [Option.some.injEq, Prod.mk.injEq] at H
  obtain ⟨rfl, rfl, rfl⟩ := H; obtain ⟨ASz4_0, cSz4_0, HGz4, hgz4, HSz4_0, HSLz4_0⟩ := HI0.out; have hcz4_0 := cellS149_0 HGz4; have hcz4_1 := cellS149_1 HGz4; have hcz4_2 := cellS149_2 HGz4; have hfz4_1 := blk_frozen HGz4 1; have hfz4_2 := blk_frozen HGz4 2; clear HGz4 hgz4; have p475 : 0 ≤ (s0_1 : Int) := of_decide_eq_true y0_7; have q475 : s0_1 < (s0_0.length : Int) := of_decide_eq_true y0_7; obtain ⟨ad475, e475, hx475_0⟩ := Kd.at_int HSz4_0 s0_1 p475 q475; cases e475
  have hn475_0 : ad475.block ≠ g := Nat.ne_of_lt (Nat.lt_of_lt_of_le (by have := World.block_lt_of_cell? _ _ hx475_0; first | rwa [add_block] at this | exact this) (IsS149.ge HI0.out))
  replace hx475_0 := pw_cell_below HB.out hx475_0
  replace hx475_0 := (cell_far (p := ⟨g, 2, none⟩) (by first | (rw [add_block]; exact hn475_0) | (show (Addr.add _ _).block ≠ _; rw [add_block]; exact hn475_0) | exact hn475_0) (.int .i64 (wrap64 ((wrap64 (s0_2 * 6364136223846793005)) + 1442695040888963407)))).trans hx475_0
  (try have hy475_0 := fun (n_ : Nat) => (show (((w.drewN n_).setCell ⟨g, 2, none⟩ (.int .i64 (wrap64 ((wrap64 (s0_2 * 6364136223846793005)) + 1442695040888963407))))).cell? _ = some _ from hx475_0))
  clear hn475_0; replace p475 := eq_true p475; replace q475 := eq_true q475
  go_enter Tryz.func146, Tryz.ntmps146
  go_wp2
  repeat (go_quiet (fail); try go_wp2)
  go_ret
  exact ⟨y0_3, by repeat (first | (with_reducible first | exact HI0.out | apply IsS149.alloc | apply IsS149.drewN | apply IsS149.drew | apply IsS149.set_1 | apply IsS149.set_2) | exact HI0.out), by repeat (first | (with_reducible first | exact HB.out | apply below_alloc | apply pw_below_drewN | apply below_drew1 | refine below_set ?_ (IsS149.ge HI0.out)) | exact HB.out), hI HK.out⟩
 rw [if_neg c2] at H
 have c2b0 : decide (s0_1 < (s0_0.length : Int)) = false := decide_eq_false c2; clear c2
 simp only [Option.some.injEq, Prod.mk.injEq] at H
 obtain ⟨rfl, rfl, rfl⟩ := H; obtain ⟨ASz5_0, cSz5_0, HGz5, hgz5, HSz5_0, HSLz5_0⟩ := HI0.out; have hcz5_0 := cellS149_0 HGz5; have hcz5_1 := cellS149_1 HGz5; have hcz5_2 := cellS149_2 HGz5; have hfz5_1 := blk_frozen HGz5 1; have hfz5_2 := blk_frozen HGz5 2; clear HGz5 hgz5
 go_enter Tryz.func146, Tryz.ntmps146
 go_wp2
 repeat (go_quiet (fail); try go_wp2)
 go_ret
 exact ⟨y0_3, by repeat (first | (with_reducible first | exact HI0.out | apply IsS149.alloc | apply IsS149.drewN | apply IsS149.drew | apply IsS149.set_1 | apply IsS149.set_2) | exact HI0.out), by repeat (first | (with_reducible first | exact HB.out | apply below_alloc | apply pw_below_drewN | apply below_drew1 | refine below_set ?_ (IsS149.ge HI0.out)) | exact HB.out), hI HK.out⟩
def spec_l1Below.f (s0_0 : List Int) (s0_1 : Int) (s0_2 : Int) (a1 : Int) : Option (Int × Int × Int) := if a1 ≤ 0 then (some (0, s0_1, s0_2)) else (if a1 ≤ 256 then ((spec_l1Byte.f s0_0 s0_1 s0_2).bind fun bt476 => (if a1 = 0 then (none) else (some (Int.tmod bt476.1 a1, bt476.2.1, bt476.2.2)))) else ((spec_l1Byte.f s0_0 s0_1 s0_2).bind fun bt479 => ((spec_l1Byte.f s0_0 bt479.2.1 bt479.2.2).bind fun bt482 => ((spec_l1Byte.f s0_0 bt482.2.1 bt482.2.2).bind fun bt485 => ((spec_l1Byte.f s0_0 bt485.2.1 bt485.2.2).bind fun bt488 => (if a1 = 0 then (none) else (some (Int.tmod (wrap64 ((wrap64 ((wrap64 ((wrap64 (bt479.1 * 16777216)) + (wrap64 (bt482.1 * 65536)))) + (wrap64 (bt485.1 * 256)))) + bt488.1)) a1, bt488.2.1, bt488.2.2))))))))
theorem spec_l1Below.calls (g : Nat) (s0_0 : List Int) (s0_1 : Int) (s0_2 : Int) (a1 : Int) (r1 : Int) (r2 : Int) (r3 : Int) (w0 w : World) (hI : IsS149 w0 w g s0_0 s0_1 s0_2) (hB : Below w0.heap.size w0 w) (h : spec_l1Below.f s0_0 s0_1 s0_2 a1 = some (r1, r2, r3)) :
  Calls Tryz.prog 97 #[.pointer (some ⟨g, 0, none⟩), .int .i64 a1] w fun e w' => e = .returned (.int .i64 r1) ∧ IsS149 w0 w' g s0_0 r2 r3 ∧ Below w0.heap.size w0 w' ∧ KeepBut w w' g none := by
 have HI0 := Aside0.mk hI; have HK := Aside0.mk (KeepBut.refl w g none); have HL := Aside0.mk hB.size; clear hI; have HW0 := Aside0.mk hB.size; have HB := Aside0.mk hB; clear hB
 have H := h; unfold spec_l1Below.f at H
 clear h; have i0_ := iB149 HI0; have i1_ : LB w0 w := ⟨HB.out⟩
 go_enter Tryz.func97, Tryz.ntmps97
 have H' := Aside0.mk H; clear H
 go_upto_if 10 with fail
 have H := H'.out; clear H'
 by_cases c3 : a1 ≤ 0
 ·
  rw [if_pos c3] at H
  have c3b0 : decide (a1 ≤ 0) = true := decide_eq_true c3; clear c3
  (first | rw [c3b0] | (simp only [i64_w, i32_w]; rw [c3b0]) | skip)
  simp only [Option.some.injEq, Prod.mk.injEq] at H
  obtain ⟨rfl, rfl, rfl⟩ := H
  go_wp2
  go_ret
  exact ⟨y0_8, iS149 HI0, UpW.out, UpB.out⟩
 rw [if_neg c3] at H
 have c3b0 : decide (a1 ≤ 0) = false := decide_eq_false c3; clear c3
 (first | rw [c3b0] | (simp only [i64_w, i32_w]; rw [c3b0]) | skip)
 by_cases c4 : a1 ≤ 256
 ·
  rw [if_pos c4] at H
  have c4b0 : decide (a1 ≤ 256) = true := decide_eq_true c4; clear c4; obtain ⟨⟨t476, t477, t478⟩, A5, H⟩ := oB H; (try dsimp only at H)
  by_cases c6 : a1 = 0
  ·
   rw [if_pos c6] at H
   exact absurd H (by simp)
  rw [if_neg c6] at H
  have c6b0 : (a1 == 0) = false := beq_eq_false_iff_ne.mpr c6; have c6b1 : (a1 != 0) = true := bne_iff_ne.mpr c6
  simp only [Option.some.injEq, Prod.mk.injEq] at H
  obtain ⟨rfl, rfl, rfl⟩ := H
  go_wp2_with (first | ((with_reducible refine gate_callee (f := 146) rfl ?_); refine gK (some 14) Tryz.func146 (spec_l1Byte.calls (hI := iS149 HI0) (hB := UpW.out) (w := _) (h := A5.out)) ?_; intro w7 _ _ _ HI8))
  go_ret
  exact ⟨y0_8, iS149 HI8, UpW.out, UpB.out⟩
 rw [if_neg c4] at H
 have c4b0 : decide (a1 ≤ 256) = false := decide_eq_false c4; clear c4; obtain ⟨⟨t479, t480, t481⟩, A9, H⟩ := oB H; (try dsimp only at H); obtain ⟨⟨t482, t483, t484⟩, A10, H⟩ := oB H; (try dsimp only at H); obtain ⟨⟨t485, t486, t487⟩, A11, H⟩ := oB H; (try dsimp only at H); obtain ⟨⟨t488, t489, t490⟩, A12, H⟩ := oB H; (try dsimp only at H)
 by_cases c13 : a1 = 0
 ·
  rw [if_pos c13] at H
  exact absurd H (by simp)
 rw [if_neg c13] at H
 have c13b0 : (a1 == 0) = false := beq_eq_false_iff_ne.mpr c13; have c13b1 : (a1 != 0) = true := bne_iff_ne.mpr c13
 simp only [Option.some.injEq, Prod.mk.injEq] at H
 obtain ⟨rfl, rfl, rfl⟩ := H
 go_wp2_with (first | ((with_reducible refine gate_callee (f := 146) rfl ?_); refine gK (some 18) Tryz.func146 (spec_l1Byte.calls (hI := iS149 HI0) (hB := UpW.out) (w := _) (h := A9.out)) ?_; intro w14 _ _ _ HI15) | ((with_reducible refine gate_callee (f := 146) rfl ?_); refine gK (some 20) Tryz.func146 (spec_l1Byte.calls (hI := iS149 HI15) (hB := UpW.out) (w := _) (h := A10.out)) ?_; intro w16 _ _ _ HI17) | ((with_reducible refine gate_callee (f := 146) rfl ?_); refine gK (some 22) Tryz.func146 (spec_l1Byte.calls (hI := iS149 HI17) (hB := UpW.out) (w := _) (h := A11.out)) ?_; intro w18 _ _ _ HI19) | ((with_reducible refine gate_callee (f := 146) rfl ?_); refine gK (some 24) Tryz.func146 (spec_l1Byte.calls (hI := iS149 HI19) (hB := UpW.out) (w := _) (h := A12.out)) ?_; intro w20 _ _ _ HI21))
 go_ret
 exact ⟨y0_8, iS149 HI21, UpW.out, UpB.out⟩
def spec_l7DrawConf.f (s0_0 : List Int) (s0_1 : Int) (s0_2 : Int) : Option (Int × Int × Int × Int) := (spec_l1Below.f s0_0 s0_1 s0_2 4).bind fun bt492 => ((spec_l1Below.f s0_0 bt492.2.1 bt492.2.2 3).bind fun bt495 => (some (wrap64 (4 + bt492.1), wrap64 (1 + bt495.1), bt495.2.1, bt495.2.2)))
theorem spec_l7DrawConf.calls (g : Nat) (s0_0 : List Int) (s0_1 : Int) (s0_2 : Int) (r1 : Int) (r2 : Int) (r3 : Int) (r4 : Int) (w0 w : World) (hI : IsS149 w0 w g s0_0 s0_1 s0_2) (hB : Below w0.heap.size w0 w) (h : spec_l7DrawConf.f s0_0 s0_1 s0_2 = some (r1, r2, r3, r4)) :
  Calls Tryz.prog 91 #[.pointer (some ⟨g, 0, none⟩)] w fun e w' => e = .returned (.agg #[.int .i64 r1, .int .i64 r2]) ∧ IsS149 w0 w' g s0_0 r3 r4 ∧ Below w0.heap.size w0 w' ∧ KeepBut w w' g none := by
 have hu32 := Tryz.underlying32; have HI0 := Aside0.mk hI; have HK := Aside0.mk (KeepBut.refl w g none); have HL := Aside0.mk hB.size; clear hI; have HW0 := Aside0.mk hB.size; have HB := Aside0.mk hB; clear hB
 have H := h; unfold spec_l7DrawConf.f at H
 clear h; obtain ⟨⟨t492, t493, t494⟩, A2, H⟩ := oB H; (try dsimp only at H); obtain ⟨⟨t495, t496, t497⟩, A3, H⟩ := oB H; (try dsimp only at H)
 simp only [Option.some.injEq, Prod.mk.injEq] at H
 obtain ⟨rfl, rfl, rfl, rfl⟩ := H; have i0_ := iB149 HI0; have i1_ : LB w0 w := ⟨HB.out⟩
 go_enter Tryz.func91, Tryz.ntmps91
 go_wp2_with (first | ((with_reducible refine gd 2 ?_); refine bL 2 #[.int .i64 0, .int .i64 0] 32 ?_; intro gb491 w4 _ _ _) | ((with_reducible refine gate_callee (f := 97) rfl ?_); refine gK (some 4) Tryz.func97 (spec_l1Below.calls (hI := iS149 HI0) (hB := UpW.out) (w := _) (h := A2.out)) ?_; intro w5 _ _ _ HI6) | ((with_reducible refine gate_callee (f := 97) rfl ?_); refine gK (some 7) Tryz.func97 (spec_l1Below.calls (hI := iS149 HI6) (hB := UpW.out) (w := _) (h := A3.out)) ?_; intro w7 _ _ _ HI8))
 refine bodyPost_ret (results_cell_row rfl _ _ gb491 32 #[.int .i64 (wrap64 (4 + t492)), .int .i64 (wrap64 (1 + t495))] (0, 0) _ rfl xB Tryz.underlying32 rfl (by kernel_rfl)) rfl ?_
 exact ⟨y0_8, iS149 HI8, UpW.out, UpB.out⟩
def spec_l1Once.f (s0_0 : List Int) (s0_1 : Int) (s0_2 : Int) (a1 : Int) : Option (Bool × Int × Int) := (spec_l1Below.f s0_0 s0_1 s0_2 a1).bind fun bt498 => (some ((bt498.1 == 0), bt498.2.1, bt498.2.2))
theorem spec_l1Once.calls (g : Nat) (s0_0 : List Int) (s0_1 : Int) (s0_2 : Int) (a1 : Int) (r1 : Bool) (r2 : Int) (r3 : Int) (w0 w : World) (hI : IsS149 w0 w g s0_0 s0_1 s0_2) (hB : Below w0.heap.size w0 w) (h : spec_l1Once.f s0_0 s0_1 s0_2 a1 = some (r1, r2, r3)) :
  Calls Tryz.prog 93 #[.pointer (some ⟨g, 0, none⟩), .int .i64 a1] w fun e w' => e = .returned (.bool r1) ∧ IsS149 w0 w' g s0_0 r2 r3 ∧ Below w0.heap.size w0 w' ∧ KeepBut w w' g none := by
 have HI0 := Aside0.mk hI; have HK := Aside0.mk (KeepBut.refl w g none); have HL := Aside0.mk hB.size; clear hI; have HW0 := Aside0.mk hB.size; have HB := Aside0.mk hB; clear hB
 have H := h; unfold spec_l1Once.f at H
 clear h; obtain ⟨⟨t498, t499, t500⟩, A3, H⟩ := oB H; (try dsimp only at H)
 simp only [Option.some.injEq, Prod.mk.injEq] at H
 obtain ⟨rfl, rfl, rfl⟩ := H; have i0_ := iB149 HI0; have i1_ : LB w0 w := ⟨HB.out⟩
 go_enter Tryz.func93, Tryz.ntmps93
 go_wp2_with (first | ((with_reducible refine gate_callee (f := 97) rfl ?_); refine gK (some 7) Tryz.func97 (spec_l1Below.calls (hI := iS149 HI0) (hB := UpW.out) (w := _) (h := A3.out)) ?_; intro w4 _ _ _ HI5))
 go_ret
 exact ⟨y0_8, iS149 HI5, UpW.out, UpB.out⟩
def spec_l1PickInt.f (s0_0 : List Int) (s0_1 : Int) (s0_2 : Int) (l1 : List Int) : Option (Int × Int × Int) := (spec_l1Below.f s0_0 s0_1 s0_2 (l1.length : Int)).bind fun bt501 => (if 0 ≤ bt501.1 then (if bt501.1 < (l1.length : Int) then (some (rd l1 bt501.1, bt501.2.1, bt501.2.2)) else (none)) else (none))
theorem spec_l1PickInt.calls (g : Nat) (s0_0 : List Int) (s0_1 : Int) (s0_2 : Int) (A1 : Option Addr) (c1 : Nat) (l1 : List Int) (r1 : Int) (r2 : Int) (r3 : Int) (w0 w : World) (hI : IsS149 w0 w g s0_0 s0_1 s0_2) (hB : Below w0.heap.size w0 w) (hr1 : Kd.C (Kd.int .i64) w A1 l1.length l1) (hc1 : l1.length ≤ c1) (hf1 : ∀ ad, A1 = some ad → 0 < l1.length → ad.block ≠ g) (h : spec_l1PickInt.f s0_0 s0_1 s0_2 l1 = some (r1, r2, r3)) :
  Calls Tryz.prog 132 #[.pointer (some ⟨g, 0, none⟩), .slice A1 l1.length c1] w fun e w' => e = .returned (.int .i64 r1) ∧ IsS149 w0 w' g s0_0 r2 r3 ∧ Below w0.heap.size w0 w' ∧ KeepBut w w' g none := by
 have HR1 := Aside0.mk hr1; have HC1 := Aside0.mk hc1; clear hr1 hc1; have HI0 := Aside0.mk hI; have HK := Aside0.mk (KeepBut.refl w g none); have HL := Aside0.mk hB.size; clear hI; have HW0 := Aside0.mk hB.size; have HB := Aside0.mk hB; clear hB
 have H := h; unfold spec_l1PickInt.f at H
 clear h; obtain ⟨⟨t501, t502, t503⟩, A3, H⟩ := oB H; (try dsimp only at H)
 by_cases c4 : 0 ≤ t501
 ·
  rw [if_pos c4] at H
  have c4b0 : decide (0 ≤ t501) = true := decide_eq_true c4; clear c4
  by_cases c5 : t501 < (l1.length : Int)
  rotate_left
  ·
   rw [if_neg c5] at H
   exact absurd H (by simp)
  rw [if_pos c5] at H
  have c5b0 : decide (t501 < (l1.length : Int)) = true := decide_eq_true c5; clear c5
  simp only [Option.some.injEq, Prod.mk.injEq] at H
  obtain ⟨rfl, rfl, rfl⟩ := H; have i0_ := iB149 HI0; have i1_ : LB w0 w := ⟨HB.out⟩
  go_enter Tryz.func132, Tryz.ntmps132
  go_wp2_with (first | ((with_reducible refine gate_callee (f := 97) rfl ?_); refine gK (some 9) Tryz.func97 (spec_l1Below.calls (hI := iS149 HI0) (hB := UpW.out) (w := _) (h := A3.out)) ?_; intro w6 _ _ _ HI7; have p504 : 0 ≤ (t501 : Int) := of_decide_eq_true y0_7; have q504 : t501 < (l1.length : Int) := of_decide_eq_true y0_7; obtain ⟨ad504, e504, hx504_0⟩ := Kd.at_int HR1.out t501 p504 q504; cases e504; have nb504 : NbI ad504 g := ⟨hf1 _ rfl (by omega)⟩; have i504_0_ := RdP.mk hx504_0; clear hx504_0; replace p504 := eq_true p504; replace q504 := eq_true q504))
  go_ret
  exact ⟨y0_8, iS149 HI7, UpW.out, UpB.out⟩
 rw [if_neg c4] at H
 exact absurd H (by simp)
def spec_l7DrawBent.f (s0_0 : List Int) (s0_1 : Int) (s0_2 : Int) : Option (Int × Int × Int × Int) := (spec_l7DrawConf.f s0_0 s0_1 s0_2).bind fun bt506 => ((spec_l1Below.f s0_0 bt506.2.2.1 bt506.2.2.2 12).bind fun bt511 => (if bt511.1 = 0 then ((spec_l1PickInt.f s0_0 bt511.2.1 bt511.2.2 (([0, 3, 8, (-1)] : List Int))).bind fun bt517 => (some (bt517.1, bt506.2.1, bt517.2.1, bt517.2.2))) else (if bt511.1 = 1 then ((spec_l1PickInt.f s0_0 bt511.2.1 bt511.2.2 (([0, 6, 7] : List Int))).bind fun bt523 => (some (bt506.1, bt523.1, bt523.2.1, bt523.2.2))) else (some (bt506.1, bt506.2.1, bt511.2.1, bt511.2.2)))))
theorem spec_l7DrawBent.calls (g : Nat) (s0_0 : List Int) (s0_1 : Int) (s0_2 : Int) (r1 : Int) (r2 : Int) (r3 : Int) (r4 : Int) (w0 w : World) (hI : IsS149 w0 w g s0_0 s0_1 s0_2) (hB : Below w0.heap.size w0 w) (h : spec_l7DrawBent.f s0_0 s0_1 s0_2 = some (r1, r2, r3, r4)) :
  Calls Tryz.prog 102 #[.pointer (some ⟨g, 0, none⟩)] w fun e w' => e = .returned (.agg #[.int .i64 r1, .int .i64 r2]) ∧ IsS149 w0 w' g s0_0 r3 r4 ∧ Below w0.heap.size w0 w' ∧ KeepBut w w' g none := by
 have hu32 := Tryz.underlying32; have HI0 := Aside0.mk hI; have HK := Aside0.mk (KeepBut.refl w g none); have HL := Aside0.mk hB.size; clear hI; have HW0 := Aside0.mk hB.size; have HB := Aside0.mk hB; clear hB
 have H := h; unfold spec_l7DrawBent.f at H
 clear h; obtain ⟨⟨t506, t507, t508, t509⟩, A2, H⟩ := oB H; (try dsimp only at H); obtain ⟨⟨t511, t512, t513⟩, A3, H⟩ := oB H; (try dsimp only at H); have i0_ := iB149 HI0; have i1_ : LB w0 w := ⟨HB.out⟩
 go_enter Tryz.func102, Tryz.ntmps102
 have H' := Aside0.mk H; clear H
 go_upto_if 8 with (first | ((with_reducible refine gd 2 ?_); refine bL 2 #[.int .i64 0, .int .i64 0] 32 ?_; intro gb505 w4 _ _ _) | ((with_reducible refine gate_callee (f := 91) rfl ?_); refine gK (some 5) Tryz.func91 (spec_l7DrawConf.calls (hI := iS149 HI0) (hB := UpW.out) (w := _) (h := A2.out)) ?_; intro w5 _ _ _ HI6) | ((with_reducible refine gd 3 ?_); refine bL 3 #[.int .i64 0, .int .i64 0] 32 ?_; intro gb510 w7 _ _ _) | ((with_reducible refine gate_callee (f := 97) rfl ?_); refine gK (some 7) Tryz.func97 (spec_l1Below.calls (hI := iS149 HI6) (hB := UpW.out) (w := _) (h := A3.out)) ?_; intro w8 _ _ _ HI9))
 have H := H'.out; clear H'
 by_cases c10 : t511 = 0
 ·
  rw [if_pos c10] at H
  have c10b0 : (t511 == 0) = true := beq_iff_eq.mpr c10; have c10b1 : (t511 != 0) = false := bne_eq_false_iff_eq.mpr c10; clear c10
  (first | rw [c10b0] | (simp only [i64_w, i32_w]; rw [c10b0]) | skip)
  obtain ⟨y514, hy514⟩ : ∃ y_ : List Int, y_ = (([0, 3, 8, (-1)] : List Int)) := ⟨_, rfl⟩
  replace H : ((spec_l1PickInt.f s0_0 t512 t513 y514).bind fun bt517 => (some (bt517.1, t507, bt517.2.1, bt517.2.2))) = some (r1, r2, r3, r4) := by first | (rw [hy514]; with_reducible exact H) | (rw [hy514]; with_reducible exact (Option.bind_some _ _).symm.trans H) | (rw [hy514]; exact H) | exact H
  have Ny514 := Aside0.mk hy514; clear hy514; obtain ⟨⟨t517, t518, t519⟩, A11, H⟩ := oB H; (try dsimp only at H)
  simp only [Option.some.injEq, Prod.mk.injEq] at H
  obtain ⟨rfl, rfl, rfl, rfl⟩ := H
  go_wp2_with (first | ((with_reducible refine gate_dst (N := 11) rfl ?_); refine lL 11 3 (Kd.int .i64) rfl Ny514 ?_; intro Ao515 co515 w12 _ HO516) | ((with_reducible refine gate_callee (f := 132) rfl ?_); refine gK (some 12) Tryz.func132 (spec_l1PickInt.calls (hI := iS149 HI9) (hB := UpW.out) (hr1 := rC HO516) (hc1 := rL HO516) (hf1 := fS HO516) (w := _) (h := A11.out)) ?_; intro w13 _ _ _ HI14))
  refine bodyPost_ret (results_cell_row rfl _ _ gb505 32 #[.int .i64 t517, .int .i64 t507] (0, 0) _ rfl xB Tryz.underlying32 rfl (by kernel_rfl)) rfl ?_
  exact ⟨y0_8, iS149 HI14, UpW.out, UpB.out⟩
 rw [if_neg c10] at H
 have c10b0 : (t511 == 0) = false := beq_eq_false_iff_ne.mpr c10; have c10b1 : (t511 != 0) = true := bne_iff_ne.mpr c10
 (first | rw [c10b0] | (simp only [i64_w, i32_w]; rw [c10b0]) | skip)
 by_cases c15 : t511 = 1
 ·
  rw [if_pos c15] at H
  have c15b0 : (t511 == 1) = true := beq_iff_eq.mpr c15; have c15b1 : (t511 != 1) = false := bne_eq_false_iff_eq.mpr c15; clear c15; obtain ⟨y520, hy520⟩ : ∃ y_ : List Int, y_ = (([0, 6, 7] : List Int)) := ⟨_, rfl⟩
  replace H : ((spec_l1PickInt.f s0_0 t512 t513 y520).bind fun bt523 => (some (t506, bt523.1, bt523.2.1, bt523.2.2))) = some (r1, r2, r3, r4) := by first | (rw [hy520]; with_reducible exact H) | (rw [hy520]; with_reducible exact (Option.bind_some _ _).symm.trans H) | (rw [hy520]; exact H) | exact H
  have Ny520 := Aside0.mk hy520; clear hy520; obtain ⟨⟨t523, t524, t525⟩, A16, H⟩ := oB H; (try dsimp only at H)
  simp only [Option.some.injEq, Prod.mk.injEq] at H
  obtain ⟨rfl, rfl, rfl, rfl⟩ := H
  go_wp2_with (first | ((with_reducible refine gate_dst (N := 17) rfl ?_); refine lL 17 3 (Kd.int .i64) rfl Ny520 ?_; intro Ao521 co521 w17 _ HO522) | ((with_reducible refine gate_callee (f := 132) rfl ?_); refine gK (some 18) Tryz.func132 (spec_l1PickInt.calls (hI := iS149 HI9) (hB := UpW.out) (hr1 := rC HO522) (hc1 := rL HO522) (hf1 := fS HO522) (w := _) (h := A16.out)) ?_; intro w18 _ _ _ HI19))
  refine bodyPost_ret (results_cell_row rfl _ _ gb505 32 #[.int .i64 t506, .int .i64 t523] (0, 0) _ rfl xB Tryz.underlying32 rfl (by kernel_rfl)) rfl ?_
  exact ⟨y0_8, iS149 HI19, UpW.out, UpB.out⟩
 rw [if_neg c15] at H
 have c15b0 : (t511 == 1) = false := beq_eq_false_iff_ne.mpr c15; have c15b1 : (t511 != 1) = true := bne_iff_ne.mpr c15
 simp only [Option.some.injEq, Prod.mk.injEq] at H
 obtain ⟨rfl, rfl, rfl, rfl⟩ := H
 go_wp2
 refine bodyPost_ret (results_cell_row rfl _ _ gb505 32 #[.int .i64 t506, .int .i64 t507] (0, 0) _ rfl xB Tryz.underlying32 rfl (by kernel_rfl)) rfl ?_
 exact ⟨y0_8, iS149 HI9, UpW.out, UpB.out⟩
def spec_l2DrawRight.f (s0_0 : List Int) (s0_1 : Int) (s0_2 : Int) : Option (Int × Int × Int × Int × Int × Int) := (spec_l1Below.f s0_0 s0_1 s0_2 4).bind fun bt527 => ((spec_l1Below.f s0_0 bt527.2.1 bt527.2.2 4).bind fun bt530 => ((spec_l1PickInt.f s0_0 bt530.2.1 bt530.2.2 (([0, 5, 60, 100, 1000] : List Int))).bind fun bt536 => ((spec_l1Below.f s0_0 bt536.2.1 bt536.2.2 3).bind fun bt539 => (some (bt527.1, bt530.1, bt536.1, bt539.1, bt539.2.1, bt539.2.2)))))
theorem spec_l2DrawRight.calls (g : Nat) (s0_0 : List Int) (s0_1 : Int) (s0_2 : Int) (r1 : Int) (r2 : Int) (r3 : Int) (r4 : Int) (r5 : Int) (r6 : Int) (w0 w : World) (hI : IsS149 w0 w g s0_0 s0_1 s0_2) (hB : Below w0.heap.size w0 w) (h : spec_l2DrawRight.f s0_0 s0_1 s0_2 = some (r1, r2, r3, r4, r5, r6)) :
  Calls Tryz.prog 149 #[.pointer (some ⟨g, 0, none⟩)] w fun e w' => e = .returned (.agg #[.int .i64 r1, .int .i64 r2, .int .i64 r3, .int .i64 r4]) ∧ IsS149 w0 w' g s0_0 r5 r6 ∧ Below w0.heap.size w0 w' ∧ KeepBut w w' g none := by
 have hu156 := Tryz.underlying156; have HI0 := Aside0.mk hI; have HK := Aside0.mk (KeepBut.refl w g none); have HL := Aside0.mk hB.size; clear hI; have HW0 := Aside0.mk hB.size; have HB := Aside0.mk hB; clear hB
 have H := h; unfold spec_l2DrawRight.f at H
 clear h; obtain ⟨⟨t527, t528, t529⟩, A2, H⟩ := oB H; (try dsimp only at H); obtain ⟨⟨t530, t531, t532⟩, A3, H⟩ := oB H; (try dsimp only at H); obtain ⟨y533, hy533⟩ : ∃ y_ : List Int, y_ = (([0, 5, 60, 100, 1000] : List Int)) := ⟨_, rfl⟩
 replace H : ((spec_l1PickInt.f s0_0 t531 t532 y533).bind fun bt536 => ((spec_l1Below.f s0_0 bt536.2.1 bt536.2.2 3).bind fun bt539 => (some (t527, t530, bt536.1, bt539.1, bt539.2.1, bt539.2.2)))) = some (r1, r2, r3, r4, r5, r6) := by first | (rw [hy533]; with_reducible exact H) | (rw [hy533]; with_reducible exact (Option.bind_some _ _).symm.trans H) | (rw [hy533]; exact H) | exact H
 have Ny533 := Aside0.mk hy533; clear hy533; obtain ⟨⟨t536, t537, t538⟩, A4, H⟩ := oB H; (try dsimp only at H); obtain ⟨⟨t539, t540, t541⟩, A5, H⟩ := oB H; (try dsimp only at H)
 simp only [Option.some.injEq, Prod.mk.injEq] at H
 obtain ⟨rfl, rfl, rfl, rfl, rfl, rfl⟩ := H; have i0_ := iB149 HI0; have i1_ : LB w0 w := ⟨HB.out⟩
 go_enter Tryz.func149, Tryz.ntmps149
 go_wp2_with (first | ((with_reducible refine gd 2 ?_); refine bL 2 #[.int .i64 0, .int .i64 0, .int .i64 0, .int .i64 0] 156 ?_; intro gb526 w6 _ _ _) | ((with_reducible refine gate_callee (f := 97) rfl ?_); refine gK (some 4) Tryz.func97 (spec_l1Below.calls (hI := iS149 HI0) (hB := UpW.out) (w := _) (h := A2.out)) ?_; intro w7 _ _ _ HI8) | ((with_reducible refine gate_callee (f := 97) rfl ?_); refine gK (some 6) Tryz.func97 (spec_l1Below.calls (hI := iS149 HI8) (hB := UpW.out) (w := _) (h := A3.out)) ?_; intro w9 _ _ _ HI10) | ((with_reducible refine gate_dst (N := 8) rfl ?_); refine lL 8 3 (Kd.int .i64) rfl Ny533 ?_; intro Ao534 co534 w11 _ HO535) | ((with_reducible refine gate_callee (f := 132) rfl ?_); refine gK (some 9) Tryz.func132 (spec_l1PickInt.calls (hI := iS149 HI10) (hB := UpW.out) (hr1 := rC HO535) (hc1 := rL HO535) (hf1 := fS HO535) (w := _) (h := A4.out)) ?_; intro w12 _ _ _ HI13) | ((with_reducible refine gate_callee (f := 97) rfl ?_); refine gK (some 11) Tryz.func97 (spec_l1Below.calls (hI := iS149 HI13) (hB := UpW.out) (w := _) (h := A5.out)) ?_; intro w14 _ _ _ HI15))
 refine bodyPost_ret (results_cell_row rfl _ _ gb526 156 #[.int .i64 t527, .int .i64 t530, .int .i64 t536, .int .i64 t539] (0, 0) _ rfl xB Tryz.underlying156 rfl (by kernel_rfl)) rfl ?_
 exact ⟨y0_8, iS149 HI15, UpW.out, UpB.out⟩
def spec_TxsText.l0 : Nat → List (S156) → ByteArray → Int → Option (ByteArray)
 | 0, _, _, _ => none
 | k + 1, x0, x3, x4 => if x4 < (x0.length : Int) then (if 0 ≤ x4 then ((spec_TxOk.f ((rd_T156 x0 x4).f0) ((rd_T156 x0 x4).f1) ((rd_T156 x0 x4).f2) ((rd_T156 x0 x4).f3)).bind fun t543 => (if t543 = true then (if x4 > 0 then (if x3.size + 1 ≤ 9223372036854775807 then ((spec_TxText.f k ((rd_T156 x0 x4).f0) ((rd_T156 x0 x4).f1) ((rd_T156 x0 x4).f2) ((rd_T156 x0 x4).f3)).bind fun t545 => (if (x3 ++ (⟨#[44]⟩ : ByteArray)).size + t545.size ≤ 9223372036854775807 then (spec_TxsText.l0 k x0 ((x3 ++ (⟨#[44]⟩ : ByteArray)) ++ t545) (wrap64 (x4 + 1))) else (none))) else (none)) else ((spec_TxText.f k ((rd_T156 x0 x4).f0) ((rd_T156 x0 x4).f1) ((rd_T156 x0 x4).f2) ((rd_T156 x0 x4).f3)).bind fun t547 => (if x3.size + t547.size ≤ 9223372036854775807 then (spec_TxsText.l0 k x0 (x3 ++ t547) (wrap64 (x4 + 1))) else (none)))) else (some (⟨#[]⟩ : ByteArray)))) else (none)) else (some x3)
def spec_TxsText.f (k : Nat) (l0 : List (S156)) : Option (ByteArray) := spec_TxsText.l0 k l0 (⟨#[]⟩ : ByteArray) 0
theorem spec_TxsText.calls (k : Nat) (A0 : Option Addr) (c0 : Nat) (l0 : List (S156)) (r : ByteArray) (w : World) (hr0 : Kd.C k156 w A0 l0.length l0) (hc0 : l0.length ≤ c0) (h : spec_TxsText.f k l0 = some r) :
  Calls Tryz.prog 173 #[.slice A0 l0.length c0] w fun e w' => e = .returned (.string r) ∧ Below w.heap.size w w' := by
 have hu156 := Tryz.underlying156; have HR0 := Aside0.mk hr0; have HC0 := Aside0.mk hc0; clear hr0 hc0; have HB := Aside0.mk (Below.refl w.heap.size w); have H := h; unfold spec_TxsText.f at H; clear h
 go_enter Tryz.func173, Tryz.ntmps173
 have H' := Aside0.mk H; clear H
 go_wp2
 refine wC ?_; intro w2 _
 go_loopg [3, 4] k (fun kq v3 v4 w' => ∃ (x3_1 : ByteArray) (x4_1 : Int), v3 = .string x3_1 ∧ v4 = .int .i64 x4_1 ∧ Aside0 (spec_TxsText.l0 kq l0 x3_1 x4_1 = some r) ∧ Aside0 (kq ≤ k) ∧ UB w2 w')
 case atStart => exact ⟨((⟨#[]⟩ : ByteArray)), (0), y0_8, y0_8, H', ⟨Nat.le_refl _⟩, ⟨UpW.out⟩⟩
 case round =>
  clear H'; obtain ⟨x3_1, x4_1, rfl, rfl, HA, HK1, _⟩ := hrel; cases gk with
  | zero => exact absurd HA.out (by simp [spec_TxsText.l0])
  | succ k1 =>
   have H := HA.out; clear HA
   simp only [spec_TxsText.l0] at H
   by_cases c3 : x4_1 < (l0.length : Int)
   ·
    rw [if_pos c3] at H
    have c3b0 : decide (x4_1 < (l0.length : Int)) = true := decide_eq_true c3; clear c3
    by_cases c4 : 0 ≤ x4_1
    rotate_left
    ·
     rw [if_neg c4] at H
     exact absurd H (by simp)
    rw [if_pos c4] at H
    have c4b0 : decide (0 ≤ x4_1) = true := decide_eq_true c4; clear c4; obtain ⟨t543, A5, H⟩ := oB H; (try dsimp only at H); have H' := Aside0.mk H; clear H; have p542 : 0 ≤ (x4_1 : Int) := of_decide_eq_true y0_7; have q542 : x4_1 < (l0.length : Int) := of_decide_eq_true y0_7; obtain ⟨ad542, e542, hx542_0, hx542_1, hx542_2, hx542_3⟩ := at_T156 HR0.out x4_1 p542 q542; cases e542; have i542_0_ := RdP.mk hx542_0; have i542_1_ := RdP.mk hx542_1; have i542_2_ := RdP.mk hx542_2; have i542_3_ := RdP.mk hx542_3; clear hx542_0 hx542_1 hx542_2 hx542_3; replace p542 := eq_true p542; replace q542 := eq_true q542
    go_upto_if 16 with (first | ((with_reducible refine gate_callee (f := 172) rfl ?_); refine gC (some 15) Tryz.func172 (spec_TxOk.calls (w := _) (h := A5.out)) ?_; intro w6 _))
    have H := H'.out; clear H'
    by_cases c7 : t543 = true
    ·
     subst c7
     rw [if_pos rfl] at H
     by_cases c8 : x4_1 > 0
     ·
      rw [if_pos c8] at H
      have c8b0 : decide (0 < x4_1) = true := decide_eq_true c8; clear c8
      (first | rw [c8b0] | (simp only [i64_w, i32_w]; rw [c8b0]) | skip)
      by_cases c9 : x3_1.size + 1 ≤ 9223372036854775807
      rotate_left
      ·
       rw [if_neg c9] at H
       exact absurd H (by simp)
      rw [if_pos c9] at H
      have c9b0 := eq_true c9; have c9b1 : decide (x3_1.size + 1 ≤ 9223372036854775807) = true := decide_eq_true c9
      try have c9b2 : (9223372036854775807 < x3_1.size + 1) = False := eq_false (Nat.not_lt.2 c9)
      obtain ⟨t545, A10, H⟩ := oB H; (try dsimp only at H)
      by_cases c11 : (x3_1 ++ (⟨#[44]⟩ : ByteArray)).size + t545.size ≤ 9223372036854775807
      rotate_left
      ·
       rw [if_neg c11] at H
       exact absurd H (by simp)
      rw [if_pos c11] at H
      have c11b0 := eq_true c11; have c11b1 : decide ((x3_1 ++ (⟨#[44]⟩ : ByteArray)).size + t545.size ≤ 9223372036854775807) = true := decide_eq_true c11
      try have c11b2 : (9223372036854775807 < (x3_1 ++ (⟨#[44]⟩ : ByteArray)).size + t545.size) = False := eq_false (Nat.not_lt.2 c11)
      (try have c11b3 : (9223372036854775807 < x3_1.size + 1 + t545.size) = False := eq_false (by have h_ := c11; simp only [ByteArray.size_append, ByteArray.size_extract, show (⟨#[44]⟩ : ByteArray).size = 1 from rfl] at h_; omega))
      have H' := Aside0.mk H; clear H; have p544 : 0 ≤ (x4_1 : Int) := of_decide_eq_true y0_7; have q544 : x4_1 < (l0.length : Int) := of_decide_eq_true y0_7; obtain ⟨ad544, e544, hx544_0, hx544_1, hx544_2, hx544_3⟩ := at_T156 HR0.out x4_1 p544 q544
      obtain rfl : ad542 = ad544 := (by injection e544)
      have i544_0_ := RdP.mk hx544_0; have i544_1_ := RdP.mk hx544_1; have i544_2_ := RdP.mk hx544_2; have i544_3_ := RdP.mk hx544_3; clear hx544_0 hx544_1 hx544_2 hx544_3; replace p544 := eq_true p544; replace q544 := eq_true q544
      go_wp2_with (first | ((with_reducible refine gate_callee (f := 194) rfl ?_); refine gC (some 26) Tryz.func194 (spec_TxText.calls (w := _) (h := A10.out)) ?_; intro w12 _))
      go_roundg k1
      case measure => have := HK1.out; omega
      case rel => exact ⟨((x3_1 ++ (⟨#[44]⟩ : ByteArray)) ++ t545), (wrap64 (x4_1 + 1)), y0_8, y0_8, H', ⟨y0_11⟩, ⟨UpW.out⟩⟩
     rw [if_neg c8] at H
     have c8b0 : decide (0 < x4_1) = false := decide_eq_false c8; clear c8
     (first | rw [c8b0] | (simp only [i64_w, i32_w]; rw [c8b0]) | skip)
     obtain ⟨t547, A13, H⟩ := oB H; (try dsimp only at H)
     by_cases c14 : x3_1.size + t547.size ≤ 9223372036854775807
     rotate_left
     ·
      rw [if_neg c14] at H
      exact absurd H (by simp)
     rw [if_pos c14] at H
     have c14b0 := eq_true c14; have c14b1 : decide (x3_1.size + t547.size ≤ 9223372036854775807) = true := decide_eq_true c14
     try have c14b2 : (9223372036854775807 < x3_1.size + t547.size) = False := eq_false (Nat.not_lt.2 c14)
     have H' := Aside0.mk H; clear H; have p546 : 0 ≤ (x4_1 : Int) := of_decide_eq_true y0_7; have q546 : x4_1 < (l0.length : Int) := of_decide_eq_true y0_7; obtain ⟨ad546, e546, hx546_0, hx546_1, hx546_2, hx546_3⟩ := at_T156 HR0.out x4_1 p546 q546
     obtain rfl : ad542 = ad546 := (by injection e546)
     have i546_0_ := RdP.mk hx546_0; have i546_1_ := RdP.mk hx546_1; have i546_2_ := RdP.mk hx546_2; have i546_3_ := RdP.mk hx546_3; clear hx546_0 hx546_1 hx546_2 hx546_3; replace p546 := eq_true p546; replace q546 := eq_true q546
     go_wp2_with (first | ((with_reducible refine gate_callee (f := 194) rfl ?_); refine gC (some 26) Tryz.func194 (spec_TxText.calls (w := _) (h := A13.out)) ?_; intro w15 _))
     go_roundg k1
     case measure => have := HK1.out; omega
     case rel => exact ⟨(x3_1 ++ t547), (wrap64 (x4_1 + 1)), y0_8, y0_8, H', ⟨y0_11⟩, ⟨UpW.out⟩⟩
    replace c7 := Bool.eq_false_iff.mpr c7; subst c7
    rw [if_neg Bool.false_ne_true] at H
    obtain rfl := Option.some.inj H
    go_wp2
    go_ret
    exact ⟨y0_8, UpW.out⟩
   rw [if_neg c3] at H
   have c3b0 : decide (x4_1 < (l0.length : Int)) = false := decide_eq_false c3; clear c3; obtain rfl := Option.some.inj H
   go_wp2
   go_ret
   exact ⟨y0_8, UpW.out⟩
def spec_NameOf.l0 : Nat → ByteArray → Int → List (S156) → Int → Option (ByteArray)
 | 0, _, _, _, _ => none
 | k + 1, x0, x1, x2, x7 => if x7 < (x2.length : Int) then (if 0 ≤ x7 then ((spec_TxOk.f ((rd_T156 x2 x7).f0) ((rd_T156 x2 x7).f1) ((rd_T156 x2 x7).f2) ((rd_T156 x2 x7).f3)).bind fun t549 => (if t549 = true then (spec_NameOf.l0 k x0 x1 x2 (wrap64 (x7 + 1))) else (some (⟨#[]⟩ : ByteArray)))) else (none)) else (if x0.size + 1 ≤ 9223372036854775807 then ((spec_Digits.f k x1).bind fun t550 => (if (x0 ++ (⟨#[47]⟩ : ByteArray)).size + t550.size ≤ 9223372036854775807 then (if ((x0 ++ (⟨#[47]⟩ : ByteArray)) ++ t550).size + 1 ≤ 9223372036854775807 then ((spec_TxsText.f k x2).bind fun t551 => (if (((x0 ++ (⟨#[47]⟩ : ByteArray)) ++ t550) ++ (⟨#[124]⟩ : ByteArray)).size + t551.size ≤ 9223372036854775807 then ((spec_NameOk.f k ((((x0 ++ (⟨#[47]⟩ : ByteArray)) ++ t550) ++ (⟨#[124]⟩ : ByteArray)) ++ t551)).bind fun t552 => (if t552 = true then (some ((((x0 ++ (⟨#[47]⟩ : ByteArray)) ++ t550) ++ (⟨#[124]⟩ : ByteArray)) ++ t551)) else (some (⟨#[]⟩ : ByteArray)))) else (none))) else (none)) else (none))) else (none))
def spec_NameOf.f (k : Nat) (a0 : ByteArray) (a1 : Int) (l2 : List (S156)) : Option (ByteArray) := spec_NameOf.l0 k a0 a1 l2 0
theorem spec_NameOf.calls (k : Nat) (a0 : ByteArray) (a1 : Int) (A2 : Option Addr) (c2 : Nat) (l2 : List (S156)) (r : ByteArray) (w : World) (hr2 : Kd.C k156 w A2 l2.length l2) (hc2 : l2.length ≤ c2) (h : spec_NameOf.f k a0 a1 l2 = some r) :
  Calls Tryz.prog 150 #[.string a0, .int .i64 a1, .slice A2 l2.length c2] w fun e w' => e = .returned (.string r) ∧ Below w.heap.size w w' := by
 have hu156 := Tryz.underlying156; have HR2 := Aside0.mk hr2; have HC2 := Aside0.mk hc2; clear hr2 hc2; have HB := Aside0.mk (Below.refl w.heap.size w); have H := h; unfold spec_NameOf.f at H; clear h
 go_enter Tryz.func150, Tryz.ntmps150
 have H' := Aside0.mk H; clear H
 go_wp2
 refine wC ?_; intro w4 _
 go_loopg [7] k (fun kq v7 w' => ∃ (x7_1 : Int), v7 = .int .i64 x7_1 ∧ Aside0 (spec_NameOf.l0 kq a0 a1 l2 x7_1 = some r) ∧ Aside0 (kq ≤ k) ∧ UB w4 w')
 case atStart => exact ⟨(0), y0_8, H', ⟨Nat.le_refl _⟩, ⟨UpW.out⟩⟩
 case round =>
  clear H'; obtain ⟨x7_1, rfl, HA, HK1, _⟩ := hrel; cases gk with
  | zero => exact absurd HA.out (by simp [spec_NameOf.l0])
  | succ k1 =>
   have H := HA.out; clear HA
   simp only [spec_NameOf.l0] at H
   by_cases c5 : x7_1 < (l2.length : Int)
   ·
    rw [if_pos c5] at H
    have c5b0 : decide (x7_1 < (l2.length : Int)) = true := decide_eq_true c5; clear c5
    by_cases c6 : 0 ≤ x7_1
    rotate_left
    ·
     rw [if_neg c6] at H
     exact absurd H (by simp)
    rw [if_pos c6] at H
    have c6b0 : decide (0 ≤ x7_1) = true := decide_eq_true c6; clear c6; obtain ⟨t549, A7, H⟩ := oB H; (try dsimp only at H); have H' := Aside0.mk H; clear H; have p548 : 0 ≤ (x7_1 : Int) := of_decide_eq_true y0_7; have q548 : x7_1 < (l2.length : Int) := of_decide_eq_true y0_7; obtain ⟨ad548, e548, hx548_0, hx548_1, hx548_2, hx548_3⟩ := at_T156 HR2.out x7_1 p548 q548; cases e548; have i548_0_ := RdP.mk hx548_0; have i548_1_ := RdP.mk hx548_1; have i548_2_ := RdP.mk hx548_2; have i548_3_ := RdP.mk hx548_3; clear hx548_0 hx548_1 hx548_2 hx548_3; replace p548 := eq_true p548; replace q548 := eq_true q548
    go_upto_if 20 with (first | ((with_reducible refine gate_callee (f := 172) rfl ?_); refine gC (some 19) Tryz.func172 (spec_TxOk.calls (w := _) (h := A7.out)) ?_; intro w8 _))
    have H := H'.out; clear H'
    by_cases c9 : t549 = true
    ·
     subst c9
     rw [if_pos rfl] at H
     have H' := Aside0.mk H; clear H
     go_wp2
     go_roundg k1
     case measure => have := HK1.out; omega
     case rel => exact ⟨(wrap64 (x7_1 + 1)), y0_8, H', ⟨y0_11⟩, ⟨UpW.out⟩⟩
    replace c9 := Bool.eq_false_iff.mpr c9; subst c9
    rw [if_neg Bool.false_ne_true] at H
    obtain rfl := Option.some.inj H
    go_wp2
    go_ret
    exact ⟨y0_8, UpW.out⟩
   rw [if_neg c5] at H
   have c5b0 : decide (x7_1 < (l2.length : Int)) = false := decide_eq_false c5; clear c5
   by_cases c10 : a0.size + 1 ≤ 9223372036854775807
   ·
    rw [if_pos c10] at H
    have c10b0 := eq_true c10; have c10b1 : decide (a0.size + 1 ≤ 9223372036854775807) = true := decide_eq_true c10
    try have c10b2 : (9223372036854775807 < a0.size + 1) = False := eq_false (Nat.not_lt.2 c10)
    obtain ⟨t550, A11, H⟩ := oB H; (try dsimp only at H)
    by_cases c12 : (a0 ++ (⟨#[47]⟩ : ByteArray)).size + t550.size ≤ 9223372036854775807
    rotate_left
    ·
     rw [if_neg c12] at H
     exact absurd H (by simp)
    rw [if_pos c12] at H
    have c12b0 := eq_true c12; have c12b1 : decide ((a0 ++ (⟨#[47]⟩ : ByteArray)).size + t550.size ≤ 9223372036854775807) = true := decide_eq_true c12
    try have c12b2 : (9223372036854775807 < (a0 ++ (⟨#[47]⟩ : ByteArray)).size + t550.size) = False := eq_false (Nat.not_lt.2 c12)
    (try have c12b3 : (9223372036854775807 < a0.size + 1 + t550.size) = False := eq_false (by have h_ := c12; simp only [ByteArray.size_append, ByteArray.size_extract, show (⟨#[47]⟩ : ByteArray).size = 1 from rfl] at h_; omega))
    by_cases c13 : ((a0 ++ (⟨#[47]⟩ : ByteArray)) ++ t550).size + 1 ≤ 9223372036854775807
    rotate_left
    ·
     rw [if_neg c13] at H
     exact absurd H (by simp)
    rw [if_pos c13] at H
    have c13b0 := eq_true c13; have c13b1 : decide (((a0 ++ (⟨#[47]⟩ : ByteArray)) ++ t550).size + 1 ≤ 9223372036854775807) = true := decide_eq_true c13
    try have c13b2 : (9223372036854775807 < ((a0 ++ (⟨#[47]⟩ : ByteArray)) ++ t550).size + 1) = False := eq_false (Nat.not_lt.2 c13)
    (try have c13b3 : (9223372036854775807 < a0.size + 1 + t550.size + 1) = False := eq_false (by have h_ := c13; simp only [ByteArray.size_append, ByteArray.size_extract, show (⟨#[47]⟩ : ByteArray).size = 1 from rfl] at h_; omega))
    obtain ⟨t551, A14, H⟩ := oB H; (try dsimp only at H)
    by_cases c15 : (((a0 ++ (⟨#[47]⟩ : ByteArray)) ++ t550) ++ (⟨#[124]⟩ : ByteArray)).size + t551.size ≤ 9223372036854775807
    rotate_left
    ·
     rw [if_neg c15] at H
     exact absurd H (by simp)
    rw [if_pos c15] at H
    have c15b0 := eq_true c15; have c15b1 : decide ((((a0 ++ (⟨#[47]⟩ : ByteArray)) ++ t550) ++ (⟨#[124]⟩ : ByteArray)).size + t551.size ≤ 9223372036854775807) = true := decide_eq_true c15
    try have c15b2 : (9223372036854775807 < (((a0 ++ (⟨#[47]⟩ : ByteArray)) ++ t550) ++ (⟨#[124]⟩ : ByteArray)).size + t551.size) = False := eq_false (Nat.not_lt.2 c15)
    (try have c15b3 : (9223372036854775807 < a0.size + 1 + t550.size + 1 + t551.size) = False := eq_false (by have h_ := c15; simp only [ByteArray.size_append, ByteArray.size_extract, show (⟨#[124]⟩ : ByteArray).size = 1 from rfl, show (⟨#[47]⟩ : ByteArray).size = 1 from rfl] at h_; omega))
    obtain ⟨t552, A16, H⟩ := oB H; (try dsimp only at H); have H' := Aside0.mk H; clear H
    go_upto_if 32 with (first | ((with_reducible refine gate_callee (f := 166) rfl ?_); refine gC (some 24) Tryz.func166 (spec_Digits.calls (w := _) (h := A11.out)) ?_; intro w17 _) | ((with_reducible refine gate_callee (f := 173) rfl ?_); refine gC (some 28) Tryz.func173 (spec_TxsText.calls (hr0 := pC HR2) (hc0 := HC2.out) (w := _) (h := A14.out)) ?_; intro w18 _) | ((with_reducible refine gate_callee (f := 112) rfl ?_); refine gC (some 31) Tryz.func112 (spec_NameOk.calls (w := _) (h := A16.out)) ?_; intro w19 _))
    have H := H'.out; clear H'
    by_cases c20 : t552 = true
    ·
     subst c20
     rw [if_pos rfl] at H
     obtain rfl := Option.some.inj H
     go_wp2
     go_ret
     exact ⟨y0_8, UpW.out⟩
    replace c20 := Bool.eq_false_iff.mpr c20; subst c20
    rw [if_neg Bool.false_ne_true] at H
    obtain rfl := Option.some.inj H
    go_wp2
    go_ret
    exact ⟨y0_8, UpW.out⟩
   rw [if_neg c10] at H
   exact absurd H (by simp)
mutual
def spec_l5DrawRight.l0 : Nat → ByteArray → Int → Int → List Int → Int → Int → Option (ByteArray × Int × Int)
 | 0, _, _, _, _, _, _ => none
 | k + 1, x3, x4, x5, x1000, x1001, x1002 => (spec_l1Below.f x1000 x1001 x1002 6).bind fun bt553 => (if x5 < bt553.1 then ((spec_l1Below.f x1000 bt553.2.1 bt553.2.2 4).bind fun bt556 => (spec_l5DrawRight.l1 k x3 (wrap64 ((wrap64 (x4 + 1)) + (wrap64 (Int.tdiv bt556.1 3)))) x5 (([] : List (S156))) 0 x1000 bt556.2.1 bt556.2.2)) else (some (x3, bt553.2.1, bt553.2.2)))
def spec_l5DrawRight.l1 : Nat → ByteArray → Int → Int → List (S156) → Int → List Int → Int → Int → Option (ByteArray × Int × Int)
 | 0, _, _, _, _, _, _, _, _ => none
 | k + 1, x3, x4, x5, x6, x7, x1000, x1001, x1002 => (spec_l1Below.f x1000 x1001 x1002 3).bind fun bt562 => (if x7 < bt562.1 then ((spec_l2DrawRight.f x1000 bt562.2.1 bt562.2.2).bind fun bt565 => (if x6.length < 4398046511104 then (spec_l5DrawRight.l1 k x3 x4 x5 (x6 ++ [(⟨bt565.1, bt565.2.1, bt565.2.2.1, bt565.2.2.2.1⟩ : S156)]) (wrap64 (x7 + 1)) x1000 bt565.2.2.2.2.1 bt565.2.2.2.2.2) else (none))) else ((spec_NameOf.f k x3 x4 x6).bind fun t574 => (spec_l5DrawRight.l0 k t574 x4 (wrap64 (x5 + 1)) x1000 bt562.2.1 bt562.2.2)))
end
def spec_l5DrawRight.f (k : Nat) (s0_0 : List Int) (s0_1 : Int) (s0_2 : Int) : Option (ByteArray × Int × Int) := spec_l5DrawRight.l0 k (⟨#[]⟩ : ByteArray) 0 0 s0_0 s0_1 s0_2
theorem spec_l5DrawRight.calls (k : Nat) (g : Nat) (s0_0 : List Int) (s0_1 : Int) (s0_2 : Int) (r1 : ByteArray) (r2 : Int) (r3 : Int) (w0 w : World) (hI : IsS149 w0 w g s0_0 s0_1 s0_2) (hB : Below w0.heap.size w0 w) (h : spec_l5DrawRight.f k s0_0 s0_1 s0_2 = some (r1, r2, r3)) :
  Calls Tryz.prog 101 #[.pointer (some ⟨g, 0, none⟩)] w fun e w' => e = .returned (.string r1) ∧ IsS149 w0 w' g s0_0 r2 r3 ∧ Below w0.heap.size w0 w' ∧ KeepBut w w' g none := by
 have HI0 := Aside0.mk hI; have HK := Aside0.mk (KeepBut.refl w g none); have HL := Aside0.mk hB.size; clear hI; have HW0 := Aside0.mk hB.size; have HB := Aside0.mk hB; clear hB; have H := h; unfold spec_l5DrawRight.f at H; clear h; have i0_ := iB149 HI0; have i1_ : LB w0 w := ⟨HB.out⟩
 go_enter Tryz.func101, Tryz.ntmps101
 have H' := Aside0.mk H; clear H
 go_wp2
 refine wC ?_; intro w2 _
 go_loopg [3, 4, 5] k (fun kq v3 v4 v5 w' => ∃ (x3_1 : ByteArray) (x4_1 : Int) (x5_1 : Int) (x1001_1 : Int) (x1002_1 : Int), v3 = .string x3_1 ∧ v4 = .int .i64 x4_1 ∧ v5 = .int .i64 x5_1 ∧ Aside0 (spec_l5DrawRight.l0 kq x3_1 x4_1 x5_1 s0_0 x1001_1 x1002_1 = some (r1, r2, r3)) ∧ Aside0 (kq ≤ k) ∧ StB g w' 149 ∧ Aside0 (IsS149 w0 w' g s0_0 x1001_1 x1002_1) ∧ KL w2 [g] w' ∧ LB w0 w' ∧ KS w g w')
 case atStart => exact ⟨((⟨#[]⟩ : ByteArray)), (0), (0), (s0_1), (s0_2), y0_8, y0_8, y0_8, H', ⟨Nat.le_refl _⟩, iB149 ⟨iS149 HI0⟩, ⟨iS149 HI0⟩, ⟨UpL.out⟩, ⟨UpW.out⟩, ⟨UpB.out⟩⟩
 case round =>
  clear H'; obtain ⟨x3_1, x4_1, x5_1, x1001_1, x1002_1, rfl, rfl, rfl, HA, HK1, _, HI3, _, _, _⟩ := hrel; cases gk with
  | zero => exact absurd HA.out (by simp [spec_l5DrawRight.l0])
  | succ k1 =>
   have H := HA.out; clear HA
   simp only [spec_l5DrawRight.l0] at H
   obtain ⟨⟨t553, t554, t555⟩, A4, H⟩ := oB H; (try dsimp only at H); have H' := Aside0.mk H; clear H
   go_upto_if 11 with (first | ((with_reducible refine gate_callee (f := 97) rfl ?_); refine gK (some 10) Tryz.func97 (spec_l1Below.calls (hI := iS149 HI3) (hB := UpW.out) (w := _) (h := A4.out)) ?_; intro w5 _ _ _ HI6))
   have H := H'.out; clear H'
   by_cases c7 : x5_1 < t553
   ·
    rw [if_pos c7] at H
    have c7b0 : decide (x5_1 < t553) = true := decide_eq_true c7; clear c7
    (first | rw [c7b0] | (simp only [i64_w, i32_w]; rw [c7b0]) | skip)
    obtain ⟨⟨t556, t557, t558⟩, A8, H⟩ := oB H; (try dsimp only at H); obtain ⟨y559, hy559⟩ : ∃ y_ : List (S156), y_ = (([] : List (S156))) := ⟨_, rfl⟩
    replace H : (spec_l5DrawRight.l1 k1 x3_1 (wrap64 ((wrap64 (x4_1 + 1)) + (wrap64 (Int.tdiv t556 3)))) x5_1 y559 0 s0_0 t557 t558) = some (r1, r2, r3) := by first | (rw [hy559]; with_reducible exact H) | (rw [hy559]; with_reducible exact (Option.bind_some _ _).symm.trans H) | (rw [hy559]; exact H) | exact H
    have Ny559 := Aside0.mk hy559; clear hy559; have H' := Aside0.mk H; clear H
    go_wp2_with (first | ((with_reducible refine gate_callee (f := 97) rfl ?_); refine gK (some 17) Tryz.func97 (spec_l1Below.calls (hI := iS149 HI6) (hB := UpW.out) (w := _) (h := A8.out)) ?_; intro w9 _ _ _ HI10) | ((with_reducible refine gate_dst (N := 20) rfl ?_); refine lE 20 156 k156 Ny559 ?_; intro Ao560 co560 w11 _ HO561))
    refine wC ?_; intro w12 _
    go_loopg [6, 7] k1 (fun kq v6 v7 w' => ∃ (x6_2 : List (S156)) (x7_2 : Int) (x1001_2 : Int) (x1002_2 : Int) (Ao6_2 : Option Addr) (co6_2 : Nat), v6 = .slice Ao6_2 x6_2.length co6_2 ∧ v7 = .int .i64 x7_2 ∧ Aside0 (spec_l5DrawRight.l1 kq x3_1 (wrap64 ((wrap64 (x4_1 + 1)) + (wrap64 (Int.tdiv t556 3)))) x5_1 x6_2 x7_2 s0_0 x1001_2 x1002_2 = some (r1, r2, r3)) ∧ Aside0 (kq ≤ k1) ∧ Aside0 (Kd.R k156 156 w' w9.heap.size (iv w9 w') (.slice Ao6_2 x6_2.length co6_2) x6_2) ∧ StB g w' 149 ∧ Aside0 (IsS149 w0 w' g s0_0 x1001_2 x1002_2) ∧ KT w12 [g] w9 _ k156 156 w' ∧ LB w0 w' ∧ KS w g w')
    case atStart => exact ⟨(y559), (0), (t557), (t558), (Ao560), (co560), y0_8, y0_8, H', ⟨Nat.le_refl _⟩, ⟨rJ HO561⟩, iB149 ⟨iS149 HI10⟩, ⟨iS149 HI10⟩, ⟨UpT.out⟩, ⟨UpW.out⟩, ⟨UpB.out⟩⟩
    case round =>
     clear H'; obtain ⟨x6_2, x7_2, x1001_2, x1002_2, Ao6_2, co6_2, rfl, rfl, HA, HK2, HO_6, _, HI13, _, _, _⟩ := hrel; have HO_20 := HO561; cases gk with
     | zero => exact absurd HA.out (by simp [spec_l5DrawRight.l1])
     | succ k2 =>
      have H := HA.out; clear HA
      simp only [spec_l5DrawRight.l1] at H
      obtain ⟨⟨t562, t563, t564⟩, A14, H⟩ := oB H; (try dsimp only at H); have H' := Aside0.mk H; clear H
      go_upto_if 24 with (first | ((with_reducible refine gate_callee (f := 97) rfl ?_); refine gK (some 23) Tryz.func97 (spec_l1Below.calls (hI := iS149 HI13) (hB := UpW.out) (w := _) (h := A14.out)) ?_; intro w15 _ _ _ HI16))
      have H := H'.out; clear H'
      by_cases c17 : x7_2 < t562
      ·
       rw [if_pos c17] at H
       have c17b0 : decide (x7_2 < t562) = true := decide_eq_true c17; clear c17
       (first | rw [c17b0] | (simp only [i64_w, i32_w]; rw [c17b0]) | skip)
       obtain ⟨⟨t565, t566, t567, t568, t569, t570⟩, A18, H⟩ := oB H; (try dsimp only at H)
       by_cases c19 : x6_2.length < 4398046511104
       rotate_left
       ·
        rw [if_neg c19] at H
        exact absurd H (by simp)
       rw [if_pos c19] at H
       have LMc19 := Aside0.mk c19; clear c19; obtain ⟨y571, hy571⟩ : ∃ y_ : List (S156), y_ = (x6_2 ++ [(⟨t565, t566, t567, t568⟩ : S156)]) := ⟨_, rfl⟩
       replace H : (spec_l5DrawRight.l1 k2 x3_1 (wrap64 ((wrap64 (x4_1 + 1)) + (wrap64 (Int.tdiv t556 3)))) x5_1 y571 (wrap64 (x7_2 + 1)) s0_0 t569 t570) = some (r1, r2, r3) := by first | (rw [hy571]; with_reducible exact H) | (rw [hy571]; with_reducible exact (Option.bind_some _ _).symm.trans H) | (rw [hy571]; exact H) | exact H
       have Ny571 := Aside0.mk hy571; clear hy571; have H' := Aside0.mk H; clear H
       go_wp2_with (first | ((with_reducible refine gate_callee (f := 149) rfl ?_); refine gK (some 29) Tryz.func149 (spec_l2DrawRight.calls (hI := iS149 HI16) (hB := UpW.out) (w := _) (h := A18.out)) ?_; intro w20 _ _ _ HI21) | ((with_reducible refine gate_builtin (b := .append) (xs := #[.tmp 27, .tmp 30]) rfl ?_); at_builtin; refine gA k156 (.tmp 27) (.tmp 30) 154 156 (.agg #[(.int .i64 0), (.int .i64 0), (.int .i64 0), (.int .i64 0)]) 32 (⟨t565, t566, t567, t568⟩ : S156) [.int .i64 t565, .int .i64 t566, .int .i64 t567, .int .i64 t568] w9 Ny571 HO_6 (k156_mkM _ _ _ (⟨t565, t566, t567, t568⟩ : S156)) (by have := LMc19.out; omega) ?_ (ht := Tryz.underlying154) (hinfo := info156); intro Ao572 co572 w22 _ _ HO573))
       go_roundg k2
       case measure => have := HK1.out; have := HK2.out; omega
       case rel => exact ⟨(y571), (wrap64 (x7_2 + 1)), (t569), (t570), (Ao572), (co572), y0_8, y0_8, H', ⟨by have := HK1.out; have := HK2.out; omega⟩, ⟨rJ HO573⟩, iB149 ⟨iS149 HI21⟩, ⟨iS149 HI21⟩, ⟨UpT.out⟩, ⟨UpW.out⟩, ⟨UpB.out⟩⟩
      rw [if_neg c17] at H
      have c17b0 : decide (x7_2 < t562) = false := decide_eq_false c17; clear c17
      (first | rw [c17b0] | (simp only [i64_w, i32_w]; rw [c17b0]) | skip)
      obtain ⟨t574, A23, H⟩ := oB H; (try dsimp only at H); have H' := Aside0.mk H; clear H
      go_wp2_with (first | ((with_reducible refine gate_callee (f := 150) rfl ?_); refine gC (some 35) Tryz.func150 (spec_NameOf.calls (hr2 := rC HO_6) (hc2 := rL HO_6) (w := _) (h := A23.out)) ?_; intro w24 _))
      go_roundg k2
      case measure => have := HK1.out; have := HK2.out; omega
      case rel => exact ⟨(t574), ((wrap64 ((wrap64 (x4_1 + 1)) + (wrap64 (Int.tdiv t556 3))))), (wrap64 (x5_1 + 1)), (t563), (t564), y0_8, y0_8, y0_8, H', ⟨by have := HK1.out; have := HK2.out; omega⟩, iB149 ⟨iS149 HI16⟩, ⟨iS149 HI16⟩, ⟨UpL.out⟩, ⟨UpW.out⟩, ⟨UpB.out⟩⟩
   rw [if_neg c7] at H
   have c7b0 : decide (x5_1 < t553) = false := decide_eq_false c7; clear c7
   (first | rw [c7b0] | (simp only [i64_w, i32_w]; rw [c7b0]) | skip)
   simp only [Option.some.injEq, Prod.mk.injEq] at H
   obtain ⟨rfl, rfl, rfl⟩ := H
   go_wp2
   go_ret
   exact ⟨y0_8, iS149 HI6, UpW.out, UpB.out⟩
def spec_SetHas.l0 : Nat → List Int → Int → Int → Option (Bool)
 | 0, _, _, _ => none
 | k + 1, x0, x1, x5 => if x5 < (x0.length : Int) then (if 0 ≤ x5 then (if (rd x0 x5) = x1 then (some true) else (spec_SetHas.l0 k x0 x1 (wrap64 (x5 + 1)))) else (none)) else (some false)
def spec_SetHas.f (k : Nat) (l0 : List Int) (a1 : Int) : Option (Bool) := spec_SetHas.l0 k l0 a1 0
theorem spec_SetHas.calls (k : Nat) (A0 : Option Addr) (c0 : Nat) (l0 : List Int) (a1 : Int) (r : Bool) (w : World) (hr0 : Kd.C (Kd.int .i64) w A0 l0.length l0) (hc0 : l0.length ≤ c0) (h : spec_SetHas.f k l0 a1 = some r) :
  Calls Tryz.prog 171 #[.slice A0 l0.length c0, .int .i64 a1] w fun e w' => e = .returned (.bool r) ∧ Drawn0 w w' := by
 have HR0 := Aside0.mk hr0; have HC0 := Aside0.mk hc0; clear hr0 hc0; have H := h; unfold spec_SetHas.f at H; clear h; have H' := Aside0.mk H; clear H
 go_enter Tryz.func171, Tryz.ntmps171
 go_wp2
 go_loopg [5] k (fun kq v5 w' => ∃ (x5_1 : Int), v5 = .int .i64 x5_1 ∧ Aside0 (spec_SetHas.l0 kq l0 a1 x5_1 = some r) ∧ Aside0 (kq ≤ k) ∧ Drawn0 w w')
 case atStart => exact ⟨(0), y0_8, H', ⟨Nat.le_refl _⟩, y0_6⟩
 case round =>
  clear H'
  try clear c1
  try clear p2
  obtain ⟨x5_1, rfl, HA, HK1, ⟨m1, rfl⟩⟩ := hrel; cases gk with
  | zero => exact absurd HA.out (by simp [spec_SetHas.l0])
  | succ k1 =>
   have H := HA.out; clear HA
   simp only [spec_SetHas.l0] at H
   by_cases c3 : x5_1 < (l0.length : Int)
   ·
    rw [if_pos c3] at H
    have c3b0 : decide (x5_1 < (l0.length : Int)) = true := decide_eq_true c3; clear c3
    by_cases c4 : 0 ≤ x5_1
    rotate_left
    ·
     rw [if_neg c4] at H
     exact absurd H (by simp)
    rw [if_pos c4] at H
    have c4b0 : decide (0 ≤ x5_1) = true := decide_eq_true c4; clear c4
    by_cases c5 : (rd l0 x5_1) = a1
    ·
     rw [if_pos c5] at H
     have c5b0 : ((rd l0 x5_1) == a1) = true := beq_iff_eq.mpr c5; have c5b1 : ((rd l0 x5_1) != a1) = false := bne_eq_false_iff_eq.mpr c5; clear c5; obtain rfl := Option.some.inj H; have p575 : 0 ≤ (x5_1 : Int) := of_decide_eq_true y0_7; have q575 : x5_1 < (l0.length : Int) := of_decide_eq_true y0_7; obtain ⟨ad575, e575, hx575_0⟩ := Kd.at_int HR0.out x5_1 p575 q575; cases e575; replace p575 := eq_true p575; replace q575 := eq_true q575
     go_wp2
     go_ret
     exact ⟨y0_8, y0_6⟩
    rw [if_neg c5] at H
    have c5b0 : ((rd l0 x5_1) == a1) = false := beq_eq_false_iff_ne.mpr c5; have c5b1 : ((rd l0 x5_1) != a1) = true := bne_iff_ne.mpr c5; have H' := Aside0.mk H; clear H; have p575 : 0 ≤ (x5_1 : Int) := of_decide_eq_true y0_7; have q575 : x5_1 < (l0.length : Int) := of_decide_eq_true y0_7; obtain ⟨ad575, e575, hx575_0⟩ := Kd.at_int HR0.out x5_1 p575 q575; cases e575; replace p575 := eq_true p575; replace q575 := eq_true q575
    go_wp2
    go_roundg k1
    case measure => have := HK1.out; omega
    case rel => exact ⟨(wrap64 (x5_1 + 1)), y0_8, H', ⟨y0_11⟩, y0_6⟩
   rw [if_neg c3] at H
   have c3b0 : decide (x5_1 < (l0.length : Int)) = false := decide_eq_false c3; clear c3; obtain rfl := Option.some.inj H
   go_wp2
   go_ret
   exact ⟨y0_8, y0_6⟩
def spec_SetAdd.l0 : Nat → List Int → Int → Int → Option (List Int)
 | 0, _, _, _ => none
 | k + 1, x0, x1, x5 => if x5 < (x0.length : Int) then (if 0 ≤ x5 then (if (rd x0 x5) < x1 then (spec_SetAdd.l0 k x0 x1 (wrap64 (x5 + 1))) else ((some (([] : List Int) : List Int)).bind fun y584 => (if x5 ≤ (x0.length : Int) then ((some (x0.take (x5 : Int).toNat : List Int)).bind fun y587 => (if y584.length + y587.length < 17592186044416 then ((some (y584 ++ y587 : List Int)).bind fun y591 => (if y591.length < 17592186044416 then ((some (y591 ++ [x1] : List Int)).bind fun y594 => ((some (x0.drop (x5 : Int).toNat : List Int)).bind fun y597 => (if y594.length + y597.length < 17592186044416 then (some (y594 ++ y597)) else (none)))) else (none))) else (none))) else (none)))) else (none)) else ((some (([] : List Int) : List Int)).bind fun y604 => (if 0 ≤ x5 then (if x5 ≤ (x0.length : Int) then ((some (x0.take (x5 : Int).toNat : List Int)).bind fun y607 => (if y604.length + y607.length < 17592186044416 then ((some (y604 ++ y607 : List Int)).bind fun y611 => (if y611.length < 17592186044416 then ((some (y611 ++ [x1] : List Int)).bind fun y614 => ((some (x0.drop (x5 : Int).toNat : List Int)).bind fun y617 => (if y614.length + y617.length < 17592186044416 then (some (y614 ++ y617)) else (none)))) else (none))) else (none))) else (none)) else (none)))
def spec_SetAdd.f (k : Nat) (l0 : List Int) (a1 : Int) : Option (List Int) := (spec_SetHas.f k l0 a1).bind fun t576 => (if t576 = true then ((some (([] : List Int) : List Int)).bind fun y577 => (if y577.length + l0.length < 17592186044416 then (some (y577 ++ l0)) else (none))) else (spec_SetAdd.l0 k l0 a1 0))
theorem spec_SetAdd.calls (k : Nat) (A0 : Option Addr) (c0 : Nat) (l0 : List Int) (a1 : Int) (r : List Int) (w : World) (hr0 : Kd.C (Kd.int .i64) w A0 l0.length l0) (hc0 : l0.length ≤ c0) (h : spec_SetAdd.f k l0 a1 = some r) :
  Calls Tryz.prog 145 #[.slice A0 l0.length c0, .int .i64 a1] w fun e w' => ∃ v0_ : Value, e = .returned (v0_) ∧ Kd.R (Kd.int .i64) 3 w' w.heap.size (fun _ => True) v0_ r ∧ Below w.heap.size w w' := by
 have HR0 := Aside0.mk hr0; have HC0 := Aside0.mk hc0; clear hr0 hc0; have HB := Aside0.mk (Below.refl w.heap.size w)
 have H := h; unfold spec_SetAdd.f at H
 clear h; obtain ⟨t576, A3, H⟩ := oB H; (try dsimp only at H)
 go_enter Tryz.func145, Tryz.ntmps145
 have H' := Aside0.mk H; clear H
 go_upto_if 9 with (first | ((with_reducible refine gate_callee (f := 171) rfl ?_); refine gD (some 9) Tryz.func171 (spec_SetHas.calls (hr0 := pC HR0) (hc0 := HC0.out) (w := _) (h := A3.out)) ?_; intro w4 _))
 have H := H'.out; clear H'
 by_cases c5 : t576 = true
 ·
  subst c5
  rw [if_pos rfl] at H
  obtain ⟨y577, hy577⟩ : ∃ y_ : List Int, y_ = (([] : List Int)) := ⟨_, rfl⟩
  replace H : (if y577.length + l0.length < 17592186044416 then (some (y577 ++ l0)) else (none)) = some r := by first | (rw [hy577]; with_reducible exact H) | (rw [hy577]; with_reducible exact (Option.bind_some _ _).symm.trans H) | (rw [hy577]; exact H) | exact H
  have Ny577 := Aside0.mk hy577; clear hy577
  by_cases c6 : y577.length + l0.length < 17592186044416
  rotate_left
  ·
   rw [if_neg c6] at H
   exact absurd H (by simp)
  rw [if_pos c6] at H
  have LMc6 := Aside0.mk c6; clear c6; obtain ⟨y580, hy580⟩ : ∃ y_ : List Int, y_ = (y577 ++ l0) := ⟨_, rfl⟩
  replace H : (some y580) = some r := by first | (rw [hy580]; with_reducible exact H) | (rw [hy580]; with_reducible exact (Option.bind_some _ _).symm.trans H) | (rw [hy580]; exact H) | exact H
  have Ny580 := Aside0.mk hy580; clear hy580; obtain rfl := Option.some.inj H
  go_wp2_with (first | ((with_reducible refine gate_dst (N := 10) rfl ?_); refine lL 10 3 (Kd.int .i64) rfl Ny577 ?_; intro Ao578 co578 w7 _ HO579) | ((with_reducible refine gate_builtin (b := .append) (xs := #[.tmp 10, .tmp 11]) rfl ?_); at_builtin; refine gR (Kd.int .i64) (.tmp 10) (.tmp 11) 25 3 (.int .i64 0) 8 w4 Ny580 HO579 (pC HR0) (by have := LMc6.out; omega) ?_ (ht := Tryz.underlying25) (hinfo := info3); intro Ao581 co581 w8 _ _ HO582))
  go_ret
  exact ⟨_, y0_8, rR HO582, UpW.out⟩
 replace c5 := Bool.eq_false_iff.mpr c5; subst c5
 rw [if_neg Bool.false_ne_true] at H
 have H' := Aside0.mk H; clear H
 go_wp2
 refine wC ?_; intro w9 _
 go_loopg [5] k (fun kq v5 w' => ∃ (x5_1 : Int), v5 = .int .i64 x5_1 ∧ Aside0 (spec_SetAdd.l0 kq l0 a1 x5_1 = some r) ∧ Aside0 (kq ≤ k) ∧ UB w9 w')
 case atStart => exact ⟨(0), y0_8, H', ⟨Nat.le_refl _⟩, ⟨UpW.out⟩⟩
 case round =>
  clear H'; obtain ⟨x5_1, rfl, HA, HK1, _⟩ := hrel; cases gk with
  | zero => exact absurd HA.out (by simp [spec_SetAdd.l0])
  | succ k1 =>
   have H := HA.out; clear HA
   simp only [spec_SetAdd.l0] at H
   by_cases c10 : x5_1 < (l0.length : Int)
   ·
    rw [if_pos c10] at H
    have c10b0 : decide (x5_1 < (l0.length : Int)) = true := decide_eq_true c10; clear c10
    (first | rw [c10b0] | (simp only [i64_w, i32_w]; rw [c10b0]) | skip)
    by_cases c11 : 0 ≤ x5_1
    rotate_left
    ·
     rw [if_neg c11] at H
     exact absurd H (by simp)
    rw [if_pos c11] at H
    have c11b0 : decide (0 ≤ x5_1) = true := decide_eq_true c11; clear c11; have H' := Aside0.mk H; clear H; have p583 : 0 ≤ (x5_1 : Int) := of_decide_eq_true y0_7; have q583 : x5_1 < (l0.length : Int) := of_decide_eq_true y0_7; obtain ⟨ad583, e583, hx583_0⟩ := Kd.at_int HR0.out x5_1 p583 q583; cases e583; have i583_0_ := RdP.mk hx583_0; clear hx583_0; replace p583 := eq_true p583; replace q583 := eq_true q583
    go_upto_if 24 with fail
    have H := H'.out; clear H'
    by_cases c12 : (rd l0 x5_1) < a1
    ·
     rw [if_pos c12] at H
     have c12b0 : decide ((rd l0 x5_1) < a1) = true := decide_eq_true c12; clear c12
     (first | rw [c12b0] | (simp only [i64_w, i32_w]; rw [c12b0]) | skip)
     have H' := Aside0.mk H; clear H
     go_wp2
     go_roundg k1
     case measure => have := HK1.out; omega
     case rel => exact ⟨(wrap64 (x5_1 + 1)), y0_8, H', ⟨y0_11⟩, ⟨UpW.out⟩⟩
    rw [if_neg c12] at H
    have c12b0 : decide ((rd l0 x5_1) < a1) = false := decide_eq_false c12; clear c12
    (first | rw [c12b0] | (simp only [i64_w, i32_w]; rw [c12b0]) | skip)
    obtain ⟨y584, hy584⟩ : ∃ y_ : List Int, y_ = (([] : List Int)) := ⟨_, rfl⟩
    replace H : (if x5_1 ≤ (l0.length : Int) then ((some (l0.take (x5_1 : Int).toNat : List Int)).bind fun y587 => (if y584.length + y587.length < 17592186044416 then ((some (y584 ++ y587 : List Int)).bind fun y591 => (if y591.length < 17592186044416 then ((some (y591 ++ [a1] : List Int)).bind fun y594 => ((some (l0.drop (x5_1 : Int).toNat : List Int)).bind fun y597 => (if y594.length + y597.length < 17592186044416 then (some (y594 ++ y597)) else (none)))) else (none))) else (none))) else (none)) = some r := by first | (rw [hy584]; with_reducible exact H) | (rw [hy584]; with_reducible exact (Option.bind_some _ _).symm.trans H) | (rw [hy584]; exact H) | exact H
    have Ny584 := Aside0.mk hy584; clear hy584; have c13b0 := eq_true (of_decide_eq_true y0_7 : 0 ≤ x5_1)
    by_cases c14 : x5_1 ≤ (l0.length : Int)
    rotate_left
    ·
     rw [if_neg c14] at H
     exact absurd H (by simp)
    rw [if_pos c14] at H
    have c14b0 := eq_true c14; have c14b1 : decide (x5_1 ≤ (l0.length : Int)) = true := decide_eq_true c14; clear c14; obtain ⟨y587, hy587⟩ : ∃ y_ : List Int, y_ = (l0.take (x5_1 : Int).toNat) := ⟨_, rfl⟩
    replace H : (if y584.length + y587.length < 17592186044416 then ((some (y584 ++ y587 : List Int)).bind fun y591 => (if y591.length < 17592186044416 then ((some (y591 ++ [a1] : List Int)).bind fun y594 => ((some (l0.drop (x5_1 : Int).toNat : List Int)).bind fun y597 => (if y594.length + y597.length < 17592186044416 then (some (y594 ++ y597)) else (none)))) else (none))) else (none)) = some r := by first | (rw [hy587]; with_reducible exact H) | (rw [hy587]; with_reducible exact (Option.bind_some _ _).symm.trans H) | (rw [hy587]; exact H) | exact H
    have Ny587 := Aside0.mk hy587; clear hy587
    by_cases c15 : y584.length + y587.length < 17592186044416
    rotate_left
    ·
     rw [if_neg c15] at H
     exact absurd H (by simp)
    rw [if_pos c15] at H
    have LMc15 := Aside0.mk c15; clear c15; obtain ⟨y591, hy591⟩ : ∃ y_ : List Int, y_ = (y584 ++ y587) := ⟨_, rfl⟩
    replace H : (if y591.length < 17592186044416 then ((some (y591 ++ [a1] : List Int)).bind fun y594 => ((some (l0.drop (x5_1 : Int).toNat : List Int)).bind fun y597 => (if y594.length + y597.length < 17592186044416 then (some (y594 ++ y597)) else (none)))) else (none)) = some r := by first | (rw [hy591]; with_reducible exact H) | (rw [hy591]; with_reducible exact (Option.bind_some _ _).symm.trans H) | (rw [hy591]; exact H) | exact H
    have Ny591 := Aside0.mk hy591; clear hy591
    by_cases c16 : y591.length < 17592186044416
    rotate_left
    ·
     rw [if_neg c16] at H
     exact absurd H (by simp)
    rw [if_pos c16] at H
    have LMc16 := Aside0.mk c16; clear c16; obtain ⟨y594, hy594⟩ : ∃ y_ : List Int, y_ = (y591 ++ [a1]) := ⟨_, rfl⟩
    replace H : ((some (l0.drop (x5_1 : Int).toNat : List Int)).bind fun y597 => (if y594.length + y597.length < 17592186044416 then (some (y594 ++ y597)) else (none))) = some r := by first | (rw [hy594]; with_reducible exact H) | (rw [hy594]; with_reducible exact (Option.bind_some _ _).symm.trans H) | (rw [hy594]; exact H) | exact H
    have Ny594 := Aside0.mk hy594; clear hy594; have c17b0 := eq_true (of_decide_eq_true y0_7 : 0 ≤ x5_1); have c18b0 := eq_true (of_decide_eq_true y0_7 : x5_1 ≤ (l0.length : Int)); obtain ⟨y597, hy597⟩ : ∃ y_ : List Int, y_ = (l0.drop (x5_1 : Int).toNat) := ⟨_, rfl⟩
    replace H : (if y594.length + y597.length < 17592186044416 then (some (y594 ++ y597)) else (none)) = some r := by first | (rw [hy597]; with_reducible exact H) | (rw [hy597]; with_reducible exact (Option.bind_some _ _).symm.trans H) | (rw [hy597]; exact H) | exact H
    have Ny597 := Aside0.mk hy597; clear hy597
    by_cases c19 : y594.length + y597.length < 17592186044416
    rotate_left
    ·
     rw [if_neg c19] at H
     exact absurd H (by simp)
    rw [if_pos c19] at H
    have LMc19 := Aside0.mk c19; clear c19; obtain ⟨y601, hy601⟩ : ∃ y_ : List Int, y_ = (y594 ++ y597) := ⟨_, rfl⟩
    replace H : (some y601) = some r := by first | (rw [hy601]; with_reducible exact H) | (rw [hy601]; with_reducible exact (Option.bind_some _ _).symm.trans H) | (rw [hy601]; exact H) | exact H
    have Ny601 := Aside0.mk hy601; clear hy601; obtain rfl := Option.some.inj H
    go_wp2_with (first | ((with_reducible refine gate_dst (N := 27) rfl ?_); refine lL 27 3 (Kd.int .i64) rfl Ny584 ?_; intro Ao585 co585 w20 _ HO586; have q21 : (x5_1 : Int) ≤ (l0.length : Int) := of_decide_eq_true y0_7; have q021 : 0 ≤ (x5_1 : Int) := of_decide_eq_true y0_7; obtain ⟨i021, hi021, _, hsz21, _⟩ := info_parts info3; obtain ⟨hcut21, hr21, hl21⟩ := print_take_of (P := Tryz.prog) (Value.int .i64) 0 25 3 .i64 Tryz.underlying25 hi021 hsz21 (some ad583) c0 l0 x5_1 q021 q21 HC0.out; rw [← Ny587.out] at hcut21 hr21 hl21; have HR590 := Aside0.mk (Kd.C_of_reads (h1 := fun _ => rfl) (hr21 _ (Kd.reads_of_C HR0.out)) : (Kd.int .i64).C _ _ y587.length y587); have HC590 := Aside0.mk hl21; clear hi021 hsz21 hr21 hl21; replace q21 := eq_true q21; replace q021 := eq_true q021) | ((with_reducible refine gate_builtin (b := .append) (xs := #[.tmp 27, .tmp 30]) rfl ?_); at_builtin; refine gR (Kd.int .i64) (.tmp 27) (.tmp 30) 25 3 (.int .i64 0) 8 wr Ny591 HO586 (pC HR590) (by have := LMc15.out; omega) ?_ (ht := Tryz.underlying25) (hinfo := info3); intro Ao592 co592 w22 _ _ HO593) | ((with_reducible refine gate_builtin (b := .append) (xs := #[.tmp 32, .tmp 34]) rfl ?_); at_builtin; refine gA (Kd.int .i64) (.tmp 32) (.tmp 34) 25 3 (.int .i64 0) 8 a1 [.int .i64 a1] wr Ny594 HO593 rfl (by have := LMc16.out; omega) ?_ (ht := Tryz.underlying25) (hinfo := info3); intro Ao595 co595 w23 _ _ HO596; have q24 : (x5_1 : Int) ≤ (l0.length : Int) := of_decide_eq_true y0_7; have q024 : 0 ≤ (x5_1 : Int) := of_decide_eq_true y0_7; obtain ⟨i024, hi024, _, hsz24, _⟩ := info_parts info3; obtain ⟨A24, hcut24, hr24, hl24⟩ := print_drop_of (P := Tryz.prog) (Value.int .i64) 0 25 3 .i64 Tryz.underlying25 hi024 hsz24 (some ad583) c0 l0 (x5_1 : Int) q024 q24 HC0.out; rw [← Ny597.out] at hcut24 hr24 hl24; have HR600 := Aside0.mk (Kd.C_of_reads (h1 := fun _ => rfl) (hr24 _ (Kd.reads_of_C HR0.out)) : (Kd.int .i64).C _ _ y597.length y597); have HC600 := Aside0.mk hl24; clear hi024 hsz24 hr24 hl24; replace q24 := eq_true q24; replace q024 := eq_true q024) | ((with_reducible refine gate_builtin (b := .append) (xs := #[.tmp 36, .tmp 39]) rfl ?_); at_builtin; refine gR (Kd.int .i64) (.tmp 36) (.tmp 39) 25 3 (.int .i64 0) 8 wr Ny601 HO596 (pC HR600) (by have := LMc19.out; omega) ?_ (ht := Tryz.underlying25) (hinfo := info3); intro Ao602 co602 w25 _ _ HO603))
    go_ret
    exact ⟨_, y0_8, rR HO603, UpW.out⟩
   rw [if_neg c10] at H
   have c10b0 : decide (x5_1 < (l0.length : Int)) = false := decide_eq_false c10; clear c10
   (first | rw [c10b0] | (simp only [i64_w, i32_w]; rw [c10b0]) | skip)
   obtain ⟨y604, hy604⟩ : ∃ y_ : List Int, y_ = (([] : List Int)) := ⟨_, rfl⟩
   replace H : (if 0 ≤ x5_1 then (if x5_1 ≤ (l0.length : Int) then ((some (l0.take (x5_1 : Int).toNat : List Int)).bind fun y607 => (if y604.length + y607.length < 17592186044416 then ((some (y604 ++ y607 : List Int)).bind fun y611 => (if y611.length < 17592186044416 then ((some (y611 ++ [a1] : List Int)).bind fun y614 => ((some (l0.drop (x5_1 : Int).toNat : List Int)).bind fun y617 => (if y614.length + y617.length < 17592186044416 then (some (y614 ++ y617)) else (none)))) else (none))) else (none))) else (none)) else (none)) = some r := by first | (rw [hy604]; with_reducible exact H) | (rw [hy604]; with_reducible exact (Option.bind_some _ _).symm.trans H) | (rw [hy604]; exact H) | exact H
   have Ny604 := Aside0.mk hy604; clear hy604
   by_cases c26 : 0 ≤ x5_1
   ·
    rw [if_pos c26] at H
    have c26b0 := eq_true c26; have c26b1 : decide (0 ≤ x5_1) = true := decide_eq_true c26; clear c26
    by_cases c27 : x5_1 ≤ (l0.length : Int)
    rotate_left
    ·
     rw [if_neg c27] at H
     exact absurd H (by simp)
    rw [if_pos c27] at H
    have c27b0 := eq_true c27; have c27b1 : decide (x5_1 ≤ (l0.length : Int)) = true := decide_eq_true c27; clear c27; obtain ⟨y607, hy607⟩ : ∃ y_ : List Int, y_ = (l0.take (x5_1 : Int).toNat) := ⟨_, rfl⟩
    replace H : (if y604.length + y607.length < 17592186044416 then ((some (y604 ++ y607 : List Int)).bind fun y611 => (if y611.length < 17592186044416 then ((some (y611 ++ [a1] : List Int)).bind fun y614 => ((some (l0.drop (x5_1 : Int).toNat : List Int)).bind fun y617 => (if y614.length + y617.length < 17592186044416 then (some (y614 ++ y617)) else (none)))) else (none))) else (none)) = some r := by first | (rw [hy607]; with_reducible exact H) | (rw [hy607]; with_reducible exact (Option.bind_some _ _).symm.trans H) | (rw [hy607]; exact H) | exact H
    have Ny607 := Aside0.mk hy607; clear hy607
    by_cases c28 : y604.length + y607.length < 17592186044416
    rotate_left
    ·
     rw [if_neg c28] at H
     exact absurd H (by simp)
    rw [if_pos c28] at H
    have LMc28 := Aside0.mk c28; clear c28; obtain ⟨y611, hy611⟩ : ∃ y_ : List Int, y_ = (y604 ++ y607) := ⟨_, rfl⟩
    replace H : (if y611.length < 17592186044416 then ((some (y611 ++ [a1] : List Int)).bind fun y614 => ((some (l0.drop (x5_1 : Int).toNat : List Int)).bind fun y617 => (if y614.length + y617.length < 17592186044416 then (some (y614 ++ y617)) else (none)))) else (none)) = some r := by first | (rw [hy611]; with_reducible exact H) | (rw [hy611]; with_reducible exact (Option.bind_some _ _).symm.trans H) | (rw [hy611]; exact H) | exact H
    have Ny611 := Aside0.mk hy611; clear hy611
    by_cases c29 : y611.length < 17592186044416
    rotate_left
    ·
     rw [if_neg c29] at H
     exact absurd H (by simp)
    rw [if_pos c29] at H
    have LMc29 := Aside0.mk c29; clear c29; obtain ⟨y614, hy614⟩ : ∃ y_ : List Int, y_ = (y611 ++ [a1]) := ⟨_, rfl⟩
    replace H : ((some (l0.drop (x5_1 : Int).toNat : List Int)).bind fun y617 => (if y614.length + y617.length < 17592186044416 then (some (y614 ++ y617)) else (none))) = some r := by first | (rw [hy614]; with_reducible exact H) | (rw [hy614]; with_reducible exact (Option.bind_some _ _).symm.trans H) | (rw [hy614]; exact H) | exact H
    have Ny614 := Aside0.mk hy614; clear hy614; have c30b0 := eq_true (of_decide_eq_true y0_7 : 0 ≤ x5_1); have c31b0 := eq_true (of_decide_eq_true y0_7 : x5_1 ≤ (l0.length : Int)); obtain ⟨y617, hy617⟩ : ∃ y_ : List Int, y_ = (l0.drop (x5_1 : Int).toNat) := ⟨_, rfl⟩
    replace H : (if y614.length + y617.length < 17592186044416 then (some (y614 ++ y617)) else (none)) = some r := by first | (rw [hy617]; with_reducible exact H) | (rw [hy617]; with_reducible exact (Option.bind_some _ _).symm.trans H) | (rw [hy617]; exact H) | exact H
    have Ny617 := Aside0.mk hy617; clear hy617
    by_cases c32 : y614.length + y617.length < 17592186044416
    rotate_left
    ·
     rw [if_neg c32] at H
     exact absurd H (by simp)
    rw [if_pos c32] at H
    have LMc32 := Aside0.mk c32; clear c32; obtain ⟨y621, hy621⟩ : ∃ y_ : List Int, y_ = (y614 ++ y617) := ⟨_, rfl⟩
    replace H : (some y621) = some r := by first | (rw [hy621]; with_reducible exact H) | (rw [hy621]; with_reducible exact (Option.bind_some _ _).symm.trans H) | (rw [hy621]; exact H) | exact H
    have Ny621 := Aside0.mk hy621; clear hy621; obtain rfl := Option.some.inj H
    go_wp2_with (first | ((with_reducible refine gate_dst (N := 27) rfl ?_); refine lL 27 3 (Kd.int .i64) rfl Ny604 ?_; intro Ao605 co605 w33 _ HO606; have q34 : (x5_1 : Int) ≤ (l0.length : Int) := of_decide_eq_true y0_7; have q034 : 0 ≤ (x5_1 : Int) := of_decide_eq_true y0_7; obtain ⟨i034, hi034, _, hsz34, _⟩ := info_parts info3; obtain ⟨hcut34, hr34, hl34⟩ := print_take_of (P := Tryz.prog) (Value.int .i64) 0 25 3 .i64 Tryz.underlying25 hi034 hsz34 A0 c0 l0 x5_1 q034 q34 HC0.out; rw [← Ny607.out] at hcut34 hr34 hl34; have HR610 := Aside0.mk (Kd.C_of_reads (h1 := fun _ => rfl) (hr34 _ (Kd.reads_of_C HR0.out)) : (Kd.int .i64).C _ _ y607.length y607); have HC610 := Aside0.mk hl34; clear hi034 hsz34 hr34 hl34; replace q34 := eq_true q34; replace q034 := eq_true q034) | ((with_reducible refine gate_builtin (b := .append) (xs := #[.tmp 27, .tmp 30]) rfl ?_); at_builtin; refine gR (Kd.int .i64) (.tmp 27) (.tmp 30) 25 3 (.int .i64 0) 8 wr Ny611 HO606 (pC HR610) (by have := LMc28.out; omega) ?_ (ht := Tryz.underlying25) (hinfo := info3); intro Ao612 co612 w35 _ _ HO613) | ((with_reducible refine gate_builtin (b := .append) (xs := #[.tmp 32, .tmp 34]) rfl ?_); at_builtin; refine gA (Kd.int .i64) (.tmp 32) (.tmp 34) 25 3 (.int .i64 0) 8 a1 [.int .i64 a1] wr Ny614 HO613 rfl (by have := LMc29.out; omega) ?_ (ht := Tryz.underlying25) (hinfo := info3); intro Ao615 co615 w36 _ _ HO616; have q37 : (x5_1 : Int) ≤ (l0.length : Int) := of_decide_eq_true y0_7; have q037 : 0 ≤ (x5_1 : Int) := of_decide_eq_true y0_7; obtain ⟨i037, hi037, _, hsz37, _⟩ := info_parts info3; obtain ⟨A37, hcut37, hr37, hl37⟩ := print_drop_of (P := Tryz.prog) (Value.int .i64) 0 25 3 .i64 Tryz.underlying25 hi037 hsz37 A0 c0 l0 (x5_1 : Int) q037 q37 HC0.out; rw [← Ny617.out] at hcut37 hr37 hl37; have HR620 := Aside0.mk (Kd.C_of_reads (h1 := fun _ => rfl) (hr37 _ (Kd.reads_of_C HR0.out)) : (Kd.int .i64).C _ _ y617.length y617); have HC620 := Aside0.mk hl37; clear hi037 hsz37 hr37 hl37; replace q37 := eq_true q37; replace q037 := eq_true q037) | ((with_reducible refine gate_builtin (b := .append) (xs := #[.tmp 36, .tmp 39]) rfl ?_); at_builtin; refine gR (Kd.int .i64) (.tmp 36) (.tmp 39) 25 3 (.int .i64 0) 8 wr Ny621 HO616 (pC HR620) (by have := LMc32.out; omega) ?_ (ht := Tryz.underlying25) (hinfo := info3); intro Ao622 co622 w38 _ _ HO623))
    go_ret
    exact ⟨_, y0_8, rR HO623, UpW.out⟩
   rw [if_neg c26] at H
   exact absurd H (by simp)
end Go.Proofs.YtdmjhgogljhfkaaGreatDoor.PFnNotes
