-- By a program of this session, out of the translation (the print of the kit, with turns of its own). Lean checks it.
import Derived.Test.YtnpbopadajbopaaGreatDoorPFnBlocksx0
import Derived.Test.YtnpbopadajbopaaGreatDoorPFnBlocksx3
import Derived.Test.YtnpbopadajbopaaGreatDoorPFnBlocksx9
import Derived.Test.YtnpbopadajbopaaGreatDoorPFnBlocksx12
import Derived.Test.YtnpbopadajbopaaGreatDoorPFnBlocksx13
import Derived.Test.YtnpbopadajbopaaGreatDoorPFnBlocksx14
namespace Go.Proofs.YtnpbopadajbopaaGreatDoor.PFnBlocks
open Go.RowKit Go.Proofs.YtnpbopadajbopaaGreatDoorW.PrintWords Go.Proofs.YtnpbopadajbopaaGreatDoorW.PrintLast Go.Proofs.YtnpbopadajbopaaGreatDoorW.PrintMore
attribute [local go_sem] max2_int min2_int max_two min_two max_three min_three max_four min_four   -- for this text's walks alone
attribute [local go_sem] cell_in frozen_in
set_option synthInstance.maxSize 1000000
set_option synthInstance.maxHeartbeats 2000000
set_option linter.unusedVariables false
set_option linter.unusedSimpArgs false

/-! ### impl_BlockNew: function 76 -/
def impl_BlockNew.f (k : Nat) (a0_0 : Int) (a0_1 : Int) (a1_0 : Int) (a1_1 : ByteArray) (l1_2 : List Int) (a2 : Int) (l3 : List (S204)) : Option (ByteArray × Int × ByteArray × List Int × Bool) := (impl_NameOf.f k a1_1 a2 l3).bind fun t796 => ((impl_copyQc.f a1_0 a1_1 l1_2).bind fun bt797 => ((impl_BlockOk.f k a0_0 a0_1 t796 bt797.1 bt797.2.1 bt797.2.2).bind fun t803 => (if t803 = true then ((impl_ViewOf.f k t796).bind fun t804 => (if t804 = a2 then (some (t796, bt797.1, bt797.2.1, bt797.2.2, true)) else (some ((⟨#[]⟩ : ByteArray), 0, (⟨#[]⟩ : ByteArray), ([] : List Int), false)))) else (some ((⟨#[]⟩ : ByteArray), 0, (⟨#[]⟩ : ByteArray), ([] : List Int), false)))))
theorem impl_BlockNew.mono : ∀ a0 a1 a2 a3 a4 a5 a6 k, LeO (impl_BlockNew.f k a0 a1 a2 a3 a4 a5 a6) (impl_BlockNew.f (k + 1) a0 a1 a2 a3 a4 a5 a6) := by
 intro a0 a1 a2 a3 a4 a5 a6 k
 unfold impl_BlockNew.f
 repeat' first | (with_reducible exact impl_BlockOk.mono _ _ _ _ _ _ _) | (with_reducible exact impl_NameOf.mono _ _ _ _) | (with_reducible exact impl_ViewOf.mono _ _) | (with_reducible exact LeO.refl _) | (with_reducible exact LeO.none _) | (with_reducible refine LeO.ite ?_ ?_) | (with_reducible refine LeO.bind ?_ (fun _ => ?_))
def impl_BlockNew.T1 : Bool × List (List Nat × List Nat) := (true, [([], []), ([0], [0]), ([], []), ([], []), ([1, 2, 3], [1, 2, 3]), ([], []), ([5, 4], [5]), ([4, 6], [4, 6]), ([], []), ([8, 7, 6, 0, 1, 2, 3, 4, 5, 6, 7, 8], [7, 8])])
def impl_BlockNew.B1 : List Nat := [0, 1, 0, 0, 15, 0, 63, 127, 0, 511]
theorem impl_BlockNew.tab1 : rtab .any (opsOf Tryz.f76 1) = impl_BlockNew.T1 := by kernel_rfl
theorem impl_BlockNew.bits1 : waitsOk impl_BlockNew.T1.2 impl_BlockNew.B1 = true := by kernel_rfl
set_option maxHeartbeats 8000000 in
set_option maxRecDepth 100000 in
theorem impl_BlockNew.calls (k : Nat) (a0_0 : Int) (a0_1 : Int) (a1_0 : Int) (a1_1 : ByteArray) (A1_2 : Option Addr) (c1_2 : Nat) (l1_2 : List Int) (a2 : Int) (A3 : Option Addr) (c3 : Nat) (l3 : List (S204)) (r1 : ByteArray) (r2 : Int) (r3 : ByteArray) (r4 : List Int) (r5 : Bool) (w : World) (hr1_2 : Kd.C (Kd.int .i64) w A1_2 l1_2.length l1_2) (hc1_2 : l1_2.length ≤ c1_2) (hr3 : Kd.C k204 w A3 l3.length l3) (hc3 : l3.length ≤ c3) (h : impl_BlockNew.f k a0_0 a0_1 a1_0 a1_1 l1_2 a2 l3 = some (r1, r2, r3, r4, r5)) (hG : Glob w := by exact gG HG HB) :
  Calls Tryz.prog 76 #[.agg #[.int .i64 a0_0, .int .i64 a0_1], .agg #[.int .i64 a1_0, .string a1_1, .slice A1_2 l1_2.length c1_2], .int .i64 a2, .slice A3 l3.length c3] w fun e w' => ∃ v3_ : Value, e = .returned (.tuple #[.agg #[.string r1, .int .i64 r2, .string r3, v3_], .bool r5]) ∧ Kd.R (Kd.int .i64) 3 w' w.heap.size (fun _ => True) v3_ r4 ∧ Below w.heap.size w w' := by
 have HG := Aside0.mk hG; clear hG; have hu32 := Tryz.underlying32; have hu27 := Tryz.underlying27; have hu60 := Tryz.underlying60; have HR1_2 := Aside0.mk hr1_2; have HC1_2 := Aside0.mk hc1_2; clear hr1_2 hc1_2; have HR3 := Aside0.mk hr3; have HC3 := Aside0.mk hc3; clear hr3 hc3; have HB := Aside0.mk (Below.refl w.heap.size w)
 have H : ((impl_NameOf.f k a1_1 a2 l3).bind fun t796 => ((impl_copyQc.f a1_0 a1_1 l1_2).bind fun bt797 => ((impl_BlockOk.f k a0_0 a0_1 t796 bt797.1 bt797.2.1 bt797.2.2).bind fun t803 => (if t803 = true then ((impl_ViewOf.f k t796).bind fun t804 => (if t804 = a2 then (some (t796, bt797.1, bt797.2.1, bt797.2.2, true)) else (some ((⟨#[]⟩ : ByteArray), 0, (⟨#[]⟩ : ByteArray), ([] : List Int), false)))) else (some ((⟨#[]⟩ : ByteArray), 0, (⟨#[]⟩ : ByteArray), ([] : List Int), false)))))) = some (r1, r2, r3, r4, r5) := h
 clear h; obtain ⟨t796, A50, H⟩ := Option.bind_eq_some_iff.mp H
 try dsimp only at H
 have A5 := Aside0.mk A50; clear A50; obtain ⟨⟨t797, t798, t799⟩, A60, H⟩ := Option.bind_eq_some_iff.mp H
 try dsimp only at H
 have A6 := Aside0.mk A60; clear A60; obtain ⟨t803, A70, H⟩ := Option.bind_eq_some_iff.mp H
 try dsimp only at H
 have A7 := Aside0.mk A70; clear A70
 by_cases c8 : t803 = true
 ·
  subst c8
  rw [if_pos rfl] at H
  obtain ⟨t804, A90, H⟩ := Option.bind_eq_some_iff.mp H
  try dsimp only at H
  have A9 := Aside0.mk A90; clear A90
  by_cases c10 : t804 = a2
  ·
   rw [if_pos c10] at H
   have c10b0 : (t804 == a2) = true := beq_iff_eq.mpr c10; have c10b1 : (t804 != a2) = false := bne_eq_false_iff_eq.mpr c10; clear c10
   simp only [Option.some.injEq, Prod.mk.injEq] at H
   obtain ⟨rfl, rfl, rfl, rfl, rfl⟩ := H
   go_enter Tryz.func76, Tryz.ntmps76
   try go_wp2_with (first | ((with_reducible refine gd 4 ?_); refine bL 4 #[.int .i64 a0_0, .int .i64 a0_1] 32 ?_; intro gb793 w11 _ _ _) | ((with_reducible refine gd 5 ?_); refine bL 5 #[.int .i64 a1_0, .string a1_1, .slice A1_2 l1_2.length c1_2] 27 ?_; intro gb794 w12 _ _ _) | ((with_reducible refine gd 8 ?_); refine bL 8 #[.string (⟨#[]⟩ : ByteArray), .int .i64 0, .string (⟨#[]⟩ : ByteArray), .slice none 0 0] 60 ?_; intro gb795 w13 _ _ _))
   refine sB [] impl_BlockNew.tab1 impl_BlockNew.bits1 ?_; intro w14 _ HT_ HW_
   refine pA 0 (some 11) (bz 10 1) HT_ ?_
   refine tB 1 (some 12) (bz 10 3) HT_ HW_ ?_
   refine pA 2 (some 13) (bz 10 7) HT_ ?_
   refine pA 3 (some 14) (bz 10 15) HT_ ?_
   refine tB 5 (some 16) (bz 10 47) HT_ HW_ ?_
   refine join_ (σ := Option Addr × Nat × Nat) 1 (bz 10 511) (fun s_ => [(15, .string t796), (17, .agg #[.int .i64 t797, .string t798, .slice s_.1 t799.length s_.2.1]), (18, .agg #[.string t796, .int .i64 t797, .string t798, .slice s_.1 t799.length s_.2.1]), (10, .pointer (some ⟨s_.2.2, 0, none⟩))]) (fun s_ w' => Aside0 (Kd.R (Kd.int .i64) 3 w' w14.heap.size (iv w14 w') (.slice s_.1 t799.length s_.2.1) t799) ∧ BkI (s_.2.2) w' #[.string (⟨#[]⟩ : ByteArray), .int .i64 0, .string (⟨#[]⟩ : ByteArray), .slice none 0 0] 60 ∧ BornI (s_.2.2) w14 ∧ UB w14 w') ?_ ?_
   rotate_left
   ·
    intro hCont
    refine o2 4 8 (some 15) (some 10) (bz 10 63) (bz 10 303) HT_ rfl rfl (kC Tryz.func162 (impl_NameOf.calls (hr2 := pC HR3) (hc2 := HC3.out) (w := _) (h := A5.out)) ?_) (kB #[.string (⟨#[]⟩ : ByteArray), .int .i64 0, .string (⟨#[]⟩ : ByteArray), .slice none 0 0] 60 ?_)
    ·
     intro w15 _
     refine nA (some 15) ?_
     refine o2 6 8 (some 17) (some 10) (bz 10 127) (bz 10 319) HT_ rfl rfl (kC1 Tryz.func151 (impl_copyQc.calls (hr0_2 := pC HR1_2) (hc0_2 := HC1_2.out) (w := _) (h := A6.out)) ?_) (kB #[.string (⟨#[]⟩ : ByteArray), .int .i64 0, .string (⟨#[]⟩ : ByteArray), .slice none 0 0] 60 ?_)
     ·
      intro Ao800 co800 w17 _ HO801
      refine nA (some 17) ?_
      refine pA 7 (some 18) (bz 10 255) HT_ ?_
      refine o1 8 (some 10) (bz 10 511) HT_ rfl (kB #[.string (⟨#[]⟩ : ByteArray), .int .i64 0, .string (⟨#[]⟩ : ByteArray), .slice none 0 0] 60 ?_); intro gb802 w19 _ _ _
      refine nA (some 10) ?_
      exact hJ (hCont (Ao800, co800, gb802) _ ⟨⟨rJ HO801⟩, ⟨xB⟩, ⟨GeI.out⟩, ⟨UpW.out⟩⟩)
     intro gb802 w18 _ _ _
     refine nA (some 10) ?_
     refine o1 6 (some 17) (bz 10 383) HT_ rfl (kC1 Tryz.func151 (impl_copyQc.calls (hr0_2 := pC HR1_2) (hc0_2 := HC1_2.out) (w := _) (h := A6.out)) ?_); intro Ao800 co800 w20 _ HO801
     refine nA (some 17) ?_
     refine pA 7 (some 18) (bz 10 511) HT_ ?_
     exact hJ (hCont (Ao800, co800, gb802) _ ⟨⟨rJ HO801⟩, ⟨xB⟩, ⟨GeI.out⟩, ⟨UpW.out⟩⟩)
    intro gb802 w16 _ _ _
    refine nA (some 10) ?_
    refine o1 4 (some 15) (bz 10 319) HT_ rfl (kC Tryz.func162 (impl_NameOf.calls (hr2 := pC HR3) (hc2 := HC3.out) (w := _) (h := A5.out)) ?_); intro w21 _
    refine nA (some 15) ?_
    refine o1 6 (some 17) (bz 10 383) HT_ rfl (kC1 Tryz.func151 (impl_copyQc.calls (hr0_2 := pC HR1_2) (hc0_2 := HC1_2.out) (w := _) (h := A6.out)) ?_); intro Ao800 co800 w22 _ HO801
    refine nA (some 17) ?_
    refine pA 7 (some 18) (bz 10 511) HT_ ?_
    exact hJ (hCont (Ao800, co800, gb802) _ ⟨⟨rJ HO801⟩, ⟨xB⟩, ⟨GeI.out⟩, ⟨UpW.out⟩⟩)
   rintro ⟨Ao800, co800, gb802⟩ w23 ⟨HO801, _, _, _⟩
   refine nP ?_
   refine o1 9 none (bz 10 1023) HT_ rfl (kS ?_)
   refine done_ (done_of HT_.out (by kernel_rfl)) ?_
   try go_wp2_with (first | ((with_reducible refine gate_callee (f := 79) rfl ?_); refine gC (some 21) Tryz.func79 (impl_BlockOk.calls (hr1_3 := rC HO801) (hc1_3 := rL HO801) (w := _) (h := A7.out)) ?_; intro w24 _) | (go_at_call 83; refine aC (impl_ViewOf.calls (w := _) (h := A9.out)) ?_; intro w25 _))
   refine bodyPost_ret (results_ct rfl _ _ gb795 60 #[.string t796, .int .i64 t797, .string t798, .slice Ao800 t799.length co800] (0, 0) _ rfl xB Tryz.underlying60 rfl (by kernel_rfl)) rfl ?_
   exact ⟨_, y0_18, rR HO801, UpW.out⟩
  rw [if_neg c10] at H
  have c10b0 : (t804 == a2) = false := beq_eq_false_iff_ne.mpr c10; have c10b1 : (t804 != a2) = true := bne_iff_ne.mpr c10
  simp only [Option.some.injEq, Prod.mk.injEq] at H
  obtain ⟨rfl, rfl, rfl, rfl, rfl⟩ := H
  go_enter Tryz.func76, Tryz.ntmps76
  try go_wp2_with (first | ((with_reducible refine gd 4 ?_); refine bL 4 #[.int .i64 a0_0, .int .i64 a0_1] 32 ?_; intro gb793 w26 _ _ _) | ((with_reducible refine gd 5 ?_); refine bL 5 #[.int .i64 a1_0, .string a1_1, .slice A1_2 l1_2.length c1_2] 27 ?_; intro gb794 w27 _ _ _) | ((with_reducible refine gd 8 ?_); refine bL 8 #[.string (⟨#[]⟩ : ByteArray), .int .i64 0, .string (⟨#[]⟩ : ByteArray), .slice none 0 0] 60 ?_; intro gb795 w28 _ _ _))
  refine sB [] impl_BlockNew.tab1 impl_BlockNew.bits1 ?_; intro w29 _ HT_ HW_
  refine pA 0 (some 11) (bz 10 1) HT_ ?_
  refine tB 1 (some 12) (bz 10 3) HT_ HW_ ?_
  refine pA 2 (some 13) (bz 10 7) HT_ ?_
  refine pA 3 (some 14) (bz 10 15) HT_ ?_
  refine tB 5 (some 16) (bz 10 47) HT_ HW_ ?_
  refine join_ (σ := Option Addr × Nat × Nat) 1 (bz 10 511) (fun s_ => [(15, .string t796), (17, .agg #[.int .i64 t797, .string t798, .slice s_.1 t799.length s_.2.1]), (18, .agg #[.string t796, .int .i64 t797, .string t798, .slice s_.1 t799.length s_.2.1]), (10, .pointer (some ⟨s_.2.2, 0, none⟩))]) (fun s_ w' => Aside0 (Kd.R (Kd.int .i64) 3 w' w29.heap.size (iv w29 w') (.slice s_.1 t799.length s_.2.1) t799) ∧ BkI (s_.2.2) w' #[.string (⟨#[]⟩ : ByteArray), .int .i64 0, .string (⟨#[]⟩ : ByteArray), .slice none 0 0] 60 ∧ BornI (s_.2.2) w29 ∧ UB w29 w') ?_ ?_
  rotate_left
  ·
   intro hCont
   refine o2 4 8 (some 15) (some 10) (bz 10 63) (bz 10 303) HT_ rfl rfl (kC Tryz.func162 (impl_NameOf.calls (hr2 := pC HR3) (hc2 := HC3.out) (w := _) (h := A5.out)) ?_) (kB #[.string (⟨#[]⟩ : ByteArray), .int .i64 0, .string (⟨#[]⟩ : ByteArray), .slice none 0 0] 60 ?_)
   ·
    intro w30 _
    refine nA (some 15) ?_
    refine o2 6 8 (some 17) (some 10) (bz 10 127) (bz 10 319) HT_ rfl rfl (kC1 Tryz.func151 (impl_copyQc.calls (hr0_2 := pC HR1_2) (hc0_2 := HC1_2.out) (w := _) (h := A6.out)) ?_) (kB #[.string (⟨#[]⟩ : ByteArray), .int .i64 0, .string (⟨#[]⟩ : ByteArray), .slice none 0 0] 60 ?_)
    ·
     intro Ao800 co800 w32 _ HO801
     refine nA (some 17) ?_
     refine pA 7 (some 18) (bz 10 255) HT_ ?_
     refine o1 8 (some 10) (bz 10 511) HT_ rfl (kB #[.string (⟨#[]⟩ : ByteArray), .int .i64 0, .string (⟨#[]⟩ : ByteArray), .slice none 0 0] 60 ?_); intro gb802 w34 _ _ _
     refine nA (some 10) ?_
     exact hJ (hCont (Ao800, co800, gb802) _ ⟨⟨rJ HO801⟩, ⟨xB⟩, ⟨GeI.out⟩, ⟨UpW.out⟩⟩)
    intro gb802 w33 _ _ _
    refine nA (some 10) ?_
    refine o1 6 (some 17) (bz 10 383) HT_ rfl (kC1 Tryz.func151 (impl_copyQc.calls (hr0_2 := pC HR1_2) (hc0_2 := HC1_2.out) (w := _) (h := A6.out)) ?_); intro Ao800 co800 w35 _ HO801
    refine nA (some 17) ?_
    refine pA 7 (some 18) (bz 10 511) HT_ ?_
    exact hJ (hCont (Ao800, co800, gb802) _ ⟨⟨rJ HO801⟩, ⟨xB⟩, ⟨GeI.out⟩, ⟨UpW.out⟩⟩)
   intro gb802 w31 _ _ _
   refine nA (some 10) ?_
   refine o1 4 (some 15) (bz 10 319) HT_ rfl (kC Tryz.func162 (impl_NameOf.calls (hr2 := pC HR3) (hc2 := HC3.out) (w := _) (h := A5.out)) ?_); intro w36 _
   refine nA (some 15) ?_
   refine o1 6 (some 17) (bz 10 383) HT_ rfl (kC1 Tryz.func151 (impl_copyQc.calls (hr0_2 := pC HR1_2) (hc0_2 := HC1_2.out) (w := _) (h := A6.out)) ?_); intro Ao800 co800 w37 _ HO801
   refine nA (some 17) ?_
   refine pA 7 (some 18) (bz 10 511) HT_ ?_
   exact hJ (hCont (Ao800, co800, gb802) _ ⟨⟨rJ HO801⟩, ⟨xB⟩, ⟨GeI.out⟩, ⟨UpW.out⟩⟩)
  rintro ⟨Ao800, co800, gb802⟩ w38 ⟨HO801, _, _, _⟩
  refine nP ?_
  refine o1 9 none (bz 10 1023) HT_ rfl (kS ?_)
  refine done_ (done_of HT_.out (by kernel_rfl)) ?_
  try go_wp2_with (first | ((with_reducible refine gate_callee (f := 79) rfl ?_); refine gC (some 21) Tryz.func79 (impl_BlockOk.calls (hr1_3 := rC HO801) (hc1_3 := rL HO801) (w := _) (h := A7.out)) ?_; intro w39 _) | (go_at_call 83; refine aC (impl_ViewOf.calls (w := _) (h := A9.out)) ?_; intro w40 _))
  refine bodyPost_ret (results_ct rfl _ _ gb795 60 #[.string (⟨#[]⟩ : ByteArray), .int .i64 0, .string (⟨#[]⟩ : ByteArray), .slice none 0 0] (0, 0) _ rfl xB Tryz.underlying60 rfl (by kernel_rfl)) rfl ?_
  exact ⟨_, y0_18, Kd.R_nil _ _ _ _ _, UpW.out⟩
 replace c8 := Bool.eq_false_iff.mpr c8; subst c8
 rw [if_neg (show ¬ (false = true) by decide)] at H
 simp only [Option.some.injEq, Prod.mk.injEq] at H
 obtain ⟨rfl, rfl, rfl, rfl, rfl⟩ := H
 go_enter Tryz.func76, Tryz.ntmps76
 try go_wp2_with (first | ((with_reducible refine gd 4 ?_); refine bL 4 #[.int .i64 a0_0, .int .i64 a0_1] 32 ?_; intro gb793 w41 _ _ _) | ((with_reducible refine gd 5 ?_); refine bL 5 #[.int .i64 a1_0, .string a1_1, .slice A1_2 l1_2.length c1_2] 27 ?_; intro gb794 w42 _ _ _) | ((with_reducible refine gd 8 ?_); refine bL 8 #[.string (⟨#[]⟩ : ByteArray), .int .i64 0, .string (⟨#[]⟩ : ByteArray), .slice none 0 0] 60 ?_; intro gb795 w43 _ _ _))
 refine sB [] impl_BlockNew.tab1 impl_BlockNew.bits1 ?_; intro w44 _ HT_ HW_
 refine pA 0 (some 11) (bz 10 1) HT_ ?_
 refine tB 1 (some 12) (bz 10 3) HT_ HW_ ?_
 refine pA 2 (some 13) (bz 10 7) HT_ ?_
 refine pA 3 (some 14) (bz 10 15) HT_ ?_
 refine tB 5 (some 16) (bz 10 47) HT_ HW_ ?_
 refine join_ (σ := Option Addr × Nat × Nat) 1 (bz 10 511) (fun s_ => [(15, .string t796), (17, .agg #[.int .i64 t797, .string t798, .slice s_.1 t799.length s_.2.1]), (18, .agg #[.string t796, .int .i64 t797, .string t798, .slice s_.1 t799.length s_.2.1]), (10, .pointer (some ⟨s_.2.2, 0, none⟩))]) (fun s_ w' => Aside0 (Kd.R (Kd.int .i64) 3 w' w44.heap.size (iv w44 w') (.slice s_.1 t799.length s_.2.1) t799) ∧ BkI (s_.2.2) w' #[.string (⟨#[]⟩ : ByteArray), .int .i64 0, .string (⟨#[]⟩ : ByteArray), .slice none 0 0] 60 ∧ BornI (s_.2.2) w44 ∧ UB w44 w') ?_ ?_
 rotate_left
 ·
  intro hCont
  refine o2 4 8 (some 15) (some 10) (bz 10 63) (bz 10 303) HT_ rfl rfl (kC Tryz.func162 (impl_NameOf.calls (hr2 := pC HR3) (hc2 := HC3.out) (w := _) (h := A5.out)) ?_) (kB #[.string (⟨#[]⟩ : ByteArray), .int .i64 0, .string (⟨#[]⟩ : ByteArray), .slice none 0 0] 60 ?_)
  ·
   intro w45 _
   refine nA (some 15) ?_
   refine o2 6 8 (some 17) (some 10) (bz 10 127) (bz 10 319) HT_ rfl rfl (kC1 Tryz.func151 (impl_copyQc.calls (hr0_2 := pC HR1_2) (hc0_2 := HC1_2.out) (w := _) (h := A6.out)) ?_) (kB #[.string (⟨#[]⟩ : ByteArray), .int .i64 0, .string (⟨#[]⟩ : ByteArray), .slice none 0 0] 60 ?_)
   ·
    intro Ao800 co800 w47 _ HO801
    refine nA (some 17) ?_
    refine pA 7 (some 18) (bz 10 255) HT_ ?_
    refine o1 8 (some 10) (bz 10 511) HT_ rfl (kB #[.string (⟨#[]⟩ : ByteArray), .int .i64 0, .string (⟨#[]⟩ : ByteArray), .slice none 0 0] 60 ?_); intro gb802 w49 _ _ _
    refine nA (some 10) ?_
    exact hJ (hCont (Ao800, co800, gb802) _ ⟨⟨rJ HO801⟩, ⟨xB⟩, ⟨GeI.out⟩, ⟨UpW.out⟩⟩)
   intro gb802 w48 _ _ _
   refine nA (some 10) ?_
   refine o1 6 (some 17) (bz 10 383) HT_ rfl (kC1 Tryz.func151 (impl_copyQc.calls (hr0_2 := pC HR1_2) (hc0_2 := HC1_2.out) (w := _) (h := A6.out)) ?_); intro Ao800 co800 w50 _ HO801
   refine nA (some 17) ?_
   refine pA 7 (some 18) (bz 10 511) HT_ ?_
   exact hJ (hCont (Ao800, co800, gb802) _ ⟨⟨rJ HO801⟩, ⟨xB⟩, ⟨GeI.out⟩, ⟨UpW.out⟩⟩)
  intro gb802 w46 _ _ _
  refine nA (some 10) ?_
  refine o1 4 (some 15) (bz 10 319) HT_ rfl (kC Tryz.func162 (impl_NameOf.calls (hr2 := pC HR3) (hc2 := HC3.out) (w := _) (h := A5.out)) ?_); intro w51 _
  refine nA (some 15) ?_
  refine o1 6 (some 17) (bz 10 383) HT_ rfl (kC1 Tryz.func151 (impl_copyQc.calls (hr0_2 := pC HR1_2) (hc0_2 := HC1_2.out) (w := _) (h := A6.out)) ?_); intro Ao800 co800 w52 _ HO801
  refine nA (some 17) ?_
  refine pA 7 (some 18) (bz 10 511) HT_ ?_
  exact hJ (hCont (Ao800, co800, gb802) _ ⟨⟨rJ HO801⟩, ⟨xB⟩, ⟨GeI.out⟩, ⟨UpW.out⟩⟩)
 rintro ⟨Ao800, co800, gb802⟩ w53 ⟨HO801, _, _, _⟩
 refine nP ?_
 refine o1 9 none (bz 10 1023) HT_ rfl (kS ?_)
 refine done_ (done_of HT_.out (by kernel_rfl)) ?_
 try go_wp2_with (first | ((with_reducible refine gate_callee (f := 79) rfl ?_); refine gC (some 21) Tryz.func79 (impl_BlockOk.calls (hr1_3 := rC HO801) (hc1_3 := rL HO801) (w := _) (h := A7.out)) ?_; intro w54 _))
 refine bodyPost_ret (results_ct rfl _ _ gb795 60 #[.string (⟨#[]⟩ : ByteArray), .int .i64 0, .string (⟨#[]⟩ : ByteArray), .slice none 0 0] (0, 0) _ rfl xB Tryz.underlying60 rfl (by kernel_rfl)) rfl ?_
 exact ⟨_, y0_18, Kd.R_nil _ _ _ _ _, UpW.out⟩

/-! ### spec_l8Copy: function 165 -/
def spec_l8Copy.f (a0_0 : ByteArray) (a0_1 : Int) (a0_2 : ByteArray) (l0_3 : List Int) : Option (ByteArray × Int × ByteArray × List Int) := (spec_l7Copy.f a0_1 a0_2 l0_3).bind fun bt807 => (some (a0_0, bt807.1, bt807.2.1, bt807.2.2))
def spec_l8Copy.T1 : Bool × List (List Nat × List Nat) := (true, [([], []), ([0], [0]), ([], []), ([2], [2]), ([3], [3]), ([1, 4], [1, 4]), ([5, 4, 0, 1, 2, 3, 4, 5], [5])])
def spec_l8Copy.B1 : List Nat := [0, 1, 0, 4, 12, 31, 63]
theorem spec_l8Copy.tab1 : rtab .any (opsOf Tryz.f165 1) = spec_l8Copy.T1 := by kernel_rfl
theorem spec_l8Copy.bits1 : waitsOk spec_l8Copy.T1.2 spec_l8Copy.B1 = true := by kernel_rfl
set_option maxHeartbeats 8000000 in
set_option maxRecDepth 100000 in
theorem spec_l8Copy.calls (a0_0 : ByteArray) (a0_1 : Int) (a0_2 : ByteArray) (A0_3 : Option Addr) (c0_3 : Nat) (l0_3 : List Int) (r1 : ByteArray) (r2 : Int) (r3 : ByteArray) (r4 : List Int) (w : World) (hr0_3 : Kd.C (Kd.int .i64) w A0_3 l0_3.length l0_3) (hc0_3 : l0_3.length ≤ c0_3) (h : spec_l8Copy.f a0_0 a0_1 a0_2 l0_3 = some (r1, r2, r3, r4)) :
  Calls Tryz.prog 165 #[.agg #[.string a0_0, .int .i64 a0_1, .string a0_2, .slice A0_3 l0_3.length c0_3]] w fun e w' => ∃ v3_ : Value, e = .returned (.agg #[.string r1, .int .i64 r2, .string r3, v3_]) ∧ Kd.R (Kd.int .i64) 3 w' w.heap.size (fun _ => True) v3_ r4 ∧ Below w.heap.size w w' := by
 have hu60 := Tryz.underlying60; have hu27 := Tryz.underlying27; have HR0_3 := Aside0.mk hr0_3; have HC0_3 := Aside0.mk hc0_3; clear hr0_3 hc0_3; have HB := Aside0.mk (Below.refl w.heap.size w)
 have H : ((spec_l7Copy.f a0_1 a0_2 l0_3).bind fun bt807 => (some (a0_0, bt807.1, bt807.2.1, bt807.2.2))) = some (r1, r2, r3, r4) := h
 clear h; obtain ⟨⟨t807, t808, t809⟩, A20, H⟩ := Option.bind_eq_some_iff.mp H
 try dsimp only at H
 have A2 := Aside0.mk A20; clear A20
 simp only [Option.some.injEq, Prod.mk.injEq] at H
 obtain ⟨rfl, rfl, rfl, rfl⟩ := H
 go_enter Tryz.func165, Tryz.ntmps165
 try go_wp2_with (first | ((with_reducible refine gd 1 ?_); refine bL 1 #[.string a0_0, .int .i64 a0_1, .string a0_2, .slice A0_3 l0_3.length c0_3] 60 ?_; intro gb805 w3 _ _ _) | ((with_reducible refine gd 2 ?_); refine bL 2 #[.string (⟨#[]⟩ : ByteArray), .int .i64 0, .string (⟨#[]⟩ : ByteArray), .slice none 0 0] 60 ?_; intro gb806 w4 _ _ _))
 refine sB [gb806] spec_l8Copy.tab1 spec_l8Copy.bits1 ?_; intro w5 _ HT_ HW_
 refine pA 0 (some 3) (bz 7 1) HT_ ?_
 refine tB 1 (some 4) (bz 7 3) HT_ HW_ ?_
 refine pA 2 (some 5) (bz 7 7) HT_ ?_
 refine tB 3 (some 6) (bz 7 15) HT_ HW_ ?_
 refine o1 4 (some 7) (bz 7 31) HT_ rfl (kC1 Tryz.func164 (spec_l7Copy.calls (hr0_2 := pC HR0_3) (hc0_2 := HC0_3.out) (w := _) (h := A2.out)) ?_); intro Ao810 co810 w6 _ HO811
 refine nA (some 7) ?_
 refine pA 5 (some 8) (bz 7 63) HT_ ?_
 refine o1 6 none (bz 7 127) HT_ rfl (kS ?_)
 refine done_ (done_of HT_.out (by kernel_rfl)) ?_
 try go_wp2
 refine bodyPost_ret (results_cell_row rfl _ _ gb806 60 #[.string a0_0, .int .i64 t807, .string t808, .slice Ao810 t809.length co810] (0, 0) _ rfl xB Tryz.underlying60 rfl (by kernel_rfl)) rfl ?_
 exact ⟨_, y0_18, rR HO811, UpW.out⟩

/-! ### spec_DrawBlockSame: function 78 -/
def spec_DrawBlockSame.f (k : Nat) (l0 : List Int) : Option (ByteArray × Int × ByteArray × List Int × ByteArray × Int × ByteArray × List Int) := (spec_l1New.f k l0).bind fun bt814 => ((spec_l7DrawConf.f bt814.1 bt814.2.1 bt814.2.2).bind fun bt818 => ((spec_l8Draw.f k bt814.1 bt818.2.2.1 bt818.2.2.2 bt818.1 bt818.2.1).bind fun bt823 => ((spec_l1Once.f bt814.1 bt823.2.2.2.2.1 bt823.2.2.2.2.2 2).bind fun bt832 => (if bt832.1 = true then ((spec_l8Copy.f bt823.1 bt823.2.1 bt823.2.2.1 bt823.2.2.2.1).bind fun bt835 => (some (bt823.1, bt823.2.1, bt823.2.2.1, bt823.2.2.2.1, bt835.1, bt835.2.1, bt835.2.2.1, bt835.2.2.2))) else ((spec_l8Draw.f k bt814.1 bt832.2.1 bt832.2.2 bt818.1 bt818.2.1).bind fun bt841 => (some (bt823.1, bt823.2.1, bt823.2.2.1, bt823.2.2.2.1, bt841.1, bt841.2.1, bt841.2.2.1, bt841.2.2.2.1)))))))
theorem spec_DrawBlockSame.mono : ∀ a0 k, LeO (spec_DrawBlockSame.f k a0) (spec_DrawBlockSame.f (k + 1) a0) := by
 intro a0 k
 unfold spec_DrawBlockSame.f
 repeat' first | (with_reducible exact spec_l1New.mono _ _) | (with_reducible exact spec_l8Draw.mono _ _ _ _ _ _) | (with_reducible exact LeO.refl _) | (with_reducible exact LeO.none _) | (with_reducible refine LeO.ite ?_ ?_) | (with_reducible refine LeO.bind ?_ (fun _ => ?_))
def spec_DrawBlockSame.T5 : Bool × List (List Nat × List Nat) := (true, [([], []), ([], []), ([1], [1]), ([0, 2, 0], [0]), ([2, 3, 0, 1, 2, 3], [2])])
def spec_DrawBlockSame.B5 : List Nat := [0, 0, 2, 7, 15]
theorem spec_DrawBlockSame.tab5 : rtab .any (opsOf Tryz.f78 5) = spec_DrawBlockSame.T5 := by kernel_rfl
theorem spec_DrawBlockSame.bits5 : waitsOk spec_DrawBlockSame.T5.2 spec_DrawBlockSame.B5 = true := by kernel_rfl
def spec_DrawBlockSame.T6 : Bool × List (List Nat × List Nat) := (true, [([], []), ([], []), ([], []), ([1, 2], [1, 2]), ([0, 3, 0], [0]), ([3, 4, 0, 1, 2, 3, 4], [3])])
def spec_DrawBlockSame.B6 : List Nat := [0, 0, 0, 6, 15, 31]
theorem spec_DrawBlockSame.tab6 : rtab .any (opsOf Tryz.f78 6) = spec_DrawBlockSame.T6 := by kernel_rfl
theorem spec_DrawBlockSame.bits6 : waitsOk spec_DrawBlockSame.T6.2 spec_DrawBlockSame.B6 = true := by kernel_rfl
set_option maxHeartbeats 8000000 in
set_option maxRecDepth 100000 in
theorem spec_DrawBlockSame.calls (k : Nat) (A0 : Option Addr) (c0 : Nat) (l0 : List Int) (r1 : ByteArray) (r2 : Int) (r3 : ByteArray) (r4 : List Int) (r5 : ByteArray) (r6 : Int) (r7 : ByteArray) (r8 : List Int) (w : World) (hr0 : Kd.C (Kd.int .u8) w A0 l0.length l0) (hc0 : l0.length ≤ c0) (h : spec_DrawBlockSame.f k l0 = some (r1, r2, r3, r4, r5, r6, r7, r8)) :
  Calls Tryz.prog 78 #[.slice A0 l0.length c0] w fun e w' => ∃ v3_ v7_ : Value, e = .returned (.tuple #[.agg #[.string r1, .int .i64 r2, .string r3, v3_], .agg #[.string r5, .int .i64 r6, .string r7, v7_]]) ∧ Kd.R (Kd.int .i64) 3 w' w.heap.size (fun k_ => some k_ ≠ (v7_ : Value).ownBlock) v3_ r4 ∧ Kd.R (Kd.int .i64) 3 w' w.heap.size (fun k_ => some k_ ≠ (v3_ : Value).ownBlock) v7_ r8 ∧ Below w.heap.size w w' := by
 have hu60 := Tryz.underlying60; have hu32 := Tryz.underlying32; have HR0 := Aside0.mk hr0; have HC0 := Aside0.mk hc0; clear hr0 hc0; have HB := Aside0.mk (Below.refl w.heap.size w)
 have H : ((spec_l1New.f k l0).bind fun bt814 => ((spec_l7DrawConf.f bt814.1 bt814.2.1 bt814.2.2).bind fun bt818 => ((spec_l8Draw.f k bt814.1 bt818.2.2.1 bt818.2.2.2 bt818.1 bt818.2.1).bind fun bt823 => ((spec_l1Once.f bt814.1 bt823.2.2.2.2.1 bt823.2.2.2.2.2 2).bind fun bt832 => (if bt832.1 = true then ((spec_l8Copy.f bt823.1 bt823.2.1 bt823.2.2.1 bt823.2.2.2.1).bind fun bt835 => (some (bt823.1, bt823.2.1, bt823.2.2.1, bt823.2.2.2.1, bt835.1, bt835.2.1, bt835.2.2.1, bt835.2.2.2))) else ((spec_l8Draw.f k bt814.1 bt832.2.1 bt832.2.2 bt818.1 bt818.2.1).bind fun bt841 => (some (bt823.1, bt823.2.1, bt823.2.2.1, bt823.2.2.2.1, bt841.1, bt841.2.1, bt841.2.2.1, bt841.2.2.2.1)))))))) = some (r1, r2, r3, r4, r5, r6, r7, r8) := h
 clear h; obtain ⟨⟨t814, t815, t816⟩, A20, H⟩ := Option.bind_eq_some_iff.mp H
 try dsimp only at H
 have A2 := Aside0.mk A20; clear A20; obtain ⟨⟨t818, t819, t820, t821⟩, A30, H⟩ := Option.bind_eq_some_iff.mp H
 try dsimp only at H
 have A3 := Aside0.mk A30; clear A30; obtain ⟨⟨t823, t824, t825, t826, t829, t830⟩, A40, H⟩ := Option.bind_eq_some_iff.mp H
 try dsimp only at H
 have A4 := Aside0.mk A40; clear A40; obtain ⟨⟨t832, t833, t834⟩, A50, H⟩ := Option.bind_eq_some_iff.mp H
 try dsimp only at H
 have A5 := Aside0.mk A50; clear A50
 by_cases c6 : t832 = true
 ·
  subst c6
  rw [if_pos rfl] at H
  obtain ⟨⟨t835, t836, t837, t838⟩, A70, H⟩ := Option.bind_eq_some_iff.mp H
  try dsimp only at H
  have A7 := Aside0.mk A70; clear A70
  simp only [Option.some.injEq, Prod.mk.injEq] at H
  obtain ⟨rfl, rfl, rfl, rfl, rfl, rfl, rfl, rfl⟩ := H
  go_enter Tryz.func78, Tryz.ntmps78
  try go_wp2_with (first | ((with_reducible refine gd 2 ?_); refine bL 2 #[.string (⟨#[]⟩ : ByteArray), .int .i64 0, .string (⟨#[]⟩ : ByteArray), .slice none 0 0] 60 ?_; intro gb812 w8 _ _ _) | ((with_reducible refine gd 3 ?_); refine bL 3 #[.string (⟨#[]⟩ : ByteArray), .int .i64 0, .string (⟨#[]⟩ : ByteArray), .slice none 0 0] 60 ?_; intro gb813 w9 _ _ _) | ((with_reducible refine gate_callee (f := 118) rfl ?_); refine wL ?_; intro w10 _; refine gN (some 8) Tryz.func118 (spec_l1New.calls (hB := Below.refl _ _) (hr0 := pC HR0) (hc0 := HC0.out) (w := _) (h := A2.out)) ?_; intro g817 w11 _ _ _ HI12) | ((with_reducible refine gate_callee (f := 119) rfl ?_); refine gK (some 10) Tryz.func119 (spec_l7DrawConf.calls (hI := iS188 HI12) (hB := UpW.out) (w := _) (h := A3.out)) ?_; intro w13 _ _ _ HI14) | ((with_reducible refine gd 5 ?_); refine bL 5 #[.int .i64 0, .int .i64 0] 32 ?_; intro gb822 w15 _ _ _) | ((with_reducible refine gate_callee (f := 159) rfl ?_); refine gK1 (some 13) Tryz.func159 (spec_l8Draw.calls (hI := iS188 HI14) (hB := UpW.out) (w := _) (h := A4.out)) ?_; intro Ao827 co827 w16 _ _ _ HI17 HO828) | ((with_reducible refine gd 6 ?_); refine bL 6 #[.string (⟨#[]⟩ : ByteArray), .int .i64 0, .string (⟨#[]⟩ : ByteArray), .slice none 0 0] 60 ?_; intro gb831 w18 _ _ _) | ((with_reducible refine gate_callee (f := 128) rfl ?_); refine gK (some 15) Tryz.func128 (spec_l1Once.calls (hI := iS188 HI17) (hB := UpW.out) (w := _) (h := A5.out)) ?_; intro w19 _ _ _ HI20))
  refine sB [gb812, gb813] spec_DrawBlockSame.tab5 spec_DrawBlockSame.bits5 ?_; intro w21 _ HT_ HW_
  refine tB 0 (some 16) (bz 5 1) HT_ HW_ ?_
  refine tB 1 (some 17) (bz 5 3) HT_ HW_ ?_
  refine o1 2 (some 18) (bz 5 7) HT_ rfl (kC1 Tryz.func165 (spec_l8Copy.calls (hr0_3 := rC HO828) (hc0_3 := rL HO828) (w := _) (h := A7.out)) ?_); intro Ao839 co839 w22 _ HO840
  refine nA (some 18) ?_
  refine o1 3 none (bz 5 15) HT_ rfl (kS ?_)
  refine o1 4 none (bz 5 31) HT_ rfl (kS ?_)
  refine done_ (done_of HT_.out (by kernel_rfl)) ?_
  try go_wp2
  refine bodyPost_ret (results_cc rfl _ _ gb812 gb813 60 60 #[.string t823, .int .i64 t824, .string t825, .slice Ao827 t826.length co827] #[.string t835, .int .i64 t836, .string t837, .slice Ao839 t838.length co839] (0, 0) (0, 0) _ _ rfl xB Tryz.underlying60 rfl (by kernel_rfl) rfl xB Tryz.underlying60 rfl (by kernel_rfl)) rfl ?_
  exact ⟨_, _, y0_18, rE HO828 HO840, rY HO840 HO828, UpW.out⟩
 replace c6 := Bool.eq_false_iff.mpr c6; subst c6
 rw [if_neg (show ¬ (false = true) by decide)] at H
 obtain ⟨⟨t841, t842, t843, t844, t847, t848⟩, A230, H⟩ := Option.bind_eq_some_iff.mp H
 try dsimp only at H
 have A23 := Aside0.mk A230; clear A230
 simp only [Option.some.injEq, Prod.mk.injEq] at H
 obtain ⟨rfl, rfl, rfl, rfl, rfl, rfl, rfl, rfl⟩ := H
 go_enter Tryz.func78, Tryz.ntmps78
 try go_wp2_with (first | ((with_reducible refine gd 2 ?_); refine bL 2 #[.string (⟨#[]⟩ : ByteArray), .int .i64 0, .string (⟨#[]⟩ : ByteArray), .slice none 0 0] 60 ?_; intro gb812 w24 _ _ _) | ((with_reducible refine gd 3 ?_); refine bL 3 #[.string (⟨#[]⟩ : ByteArray), .int .i64 0, .string (⟨#[]⟩ : ByteArray), .slice none 0 0] 60 ?_; intro gb813 w25 _ _ _) | ((with_reducible refine gate_callee (f := 118) rfl ?_); refine wL ?_; intro w26 _; refine gN (some 8) Tryz.func118 (spec_l1New.calls (hB := Below.refl _ _) (hr0 := pC HR0) (hc0 := HC0.out) (w := _) (h := A2.out)) ?_; intro g817 w27 _ _ _ HI28) | ((with_reducible refine gate_callee (f := 119) rfl ?_); refine gK (some 10) Tryz.func119 (spec_l7DrawConf.calls (hI := iS188 HI28) (hB := UpW.out) (w := _) (h := A3.out)) ?_; intro w29 _ _ _ HI30) | ((with_reducible refine gd 5 ?_); refine bL 5 #[.int .i64 0, .int .i64 0] 32 ?_; intro gb822 w31 _ _ _) | ((with_reducible refine gate_callee (f := 159) rfl ?_); refine gK1 (some 13) Tryz.func159 (spec_l8Draw.calls (hI := iS188 HI30) (hB := UpW.out) (w := _) (h := A4.out)) ?_; intro Ao827 co827 w32 _ _ _ HI33 HO828) | ((with_reducible refine gd 6 ?_); refine bL 6 #[.string (⟨#[]⟩ : ByteArray), .int .i64 0, .string (⟨#[]⟩ : ByteArray), .slice none 0 0] 60 ?_; intro gb831 w34 _ _ _) | ((with_reducible refine gate_callee (f := 128) rfl ?_); refine gK (some 15) Tryz.func128 (spec_l1Once.calls (hI := iS188 HI33) (hB := UpW.out) (w := _) (h := A5.out)) ?_; intro w35 _ _ _ HI36))
 refine sB [g817, gb812, gb813] spec_DrawBlockSame.tab6 spec_DrawBlockSame.bits6 ?_; intro w37 _ HT_ HW_
 refine tB 0 (some 19) (bz 6 1) HT_ HW_ ?_
 refine pA 1 (some 20) (bz 6 3) HT_ ?_
 refine tB 2 (some 21) (bz 6 7) HT_ HW_ ?_
 refine o1 3 (some 22) (bz 6 15) HT_ rfl (kK1 Tryz.func159 (spec_l8Draw.calls (hI := iS188 HI36) (hB := UpW.out) (w := _) (h := A23.out)) ?_); intro Ao845 co845 w38 _ _ _ HI39 HO846
 refine nA (some 22) ?_
 refine o1 4 none (bz 6 31) HT_ rfl (kS ?_)
 refine o1 5 none (bz 6 63) HT_ rfl (kS ?_)
 refine done_ (done_of HT_.out (by kernel_rfl)) ?_
 try go_wp2
 refine bodyPost_ret (results_cc rfl _ _ gb812 gb813 60 60 #[.string t823, .int .i64 t824, .string t825, .slice Ao827 t826.length co827] #[.string t841, .int .i64 t842, .string t843, .slice Ao845 t844.length co845] (0, 0) (0, 0) _ _ rfl xB Tryz.underlying60 rfl (by kernel_rfl) rfl xB Tryz.underlying60 rfl (by kernel_rfl)) rfl ?_
 exact ⟨_, _, y0_18, rE HO828 HO846, rY HO846 HO828, UpW.out⟩

/-! ### impl_BlockSame: function 81 -/
def impl_BlockSame.f (k : Nat) (a0_0 : ByteArray) (a0_1 : Int) (a0_2 : ByteArray) (l0_3 : List Int) (a1_0 : ByteArray) (a1_1 : Int) (a1_2 : ByteArray) (l1_3 : List Int) : Option (Bool) := if a0_0.toList = a1_0.toList then ((impl_QcSame.f k a0_1 a0_2 l0_3 a1_1 a1_2 l1_3).bind fun t851 => (some t851)) else (some false)
theorem impl_BlockSame.mono : ∀ a0 a1 a2 a3 a4 a5 a6 a7 k, LeO (impl_BlockSame.f k a0 a1 a2 a3 a4 a5 a6 a7) (impl_BlockSame.f (k + 1) a0 a1 a2 a3 a4 a5 a6 a7) := by
 intro a0 a1 a2 a3 a4 a5 a6 a7 k
 unfold impl_BlockSame.f
 repeat' first | (with_reducible exact impl_QcSame.mono _ _ _ _ _ _ _) | (with_reducible exact LeO.refl _) | (with_reducible exact LeO.none _) | (with_reducible refine LeO.ite ?_ ?_) | (with_reducible refine LeO.bind ?_ (fun _ => ?_))
set_option maxHeartbeats 8000000 in
set_option maxRecDepth 100000 in
theorem impl_BlockSame.calls (k : Nat) (a0_0 : ByteArray) (a0_1 : Int) (a0_2 : ByteArray) (A0_3 : Option Addr) (c0_3 : Nat) (l0_3 : List Int) (a1_0 : ByteArray) (a1_1 : Int) (a1_2 : ByteArray) (A1_3 : Option Addr) (c1_3 : Nat) (l1_3 : List Int) (r : Bool) (w : World) (hr0_3 : Kd.C (Kd.int .i64) w A0_3 l0_3.length l0_3) (hc0_3 : l0_3.length ≤ c0_3) (hr1_3 : Kd.C (Kd.int .i64) w A1_3 l1_3.length l1_3) (hc1_3 : l1_3.length ≤ c1_3) (h : impl_BlockSame.f k a0_0 a0_1 a0_2 l0_3 a1_0 a1_1 a1_2 l1_3 = some r) :
  Calls Tryz.prog 81 #[.agg #[.string a0_0, .int .i64 a0_1, .string a0_2, .slice A0_3 l0_3.length c0_3], .agg #[.string a1_0, .int .i64 a1_1, .string a1_2, .slice A1_3 l1_3.length c1_3]] w fun e w' => e = .returned (.bool r) ∧ Below w.heap.size w w' := by
 have hu60 := Tryz.underlying60; have hu27 := Tryz.underlying27; have HR0_3 := Aside0.mk hr0_3; have HC0_3 := Aside0.mk hc0_3; clear hr0_3 hc0_3; have HR1_3 := Aside0.mk hr1_3; have HC1_3 := Aside0.mk hc1_3; clear hr1_3 hc1_3; have HB := Aside0.mk (Below.refl w.heap.size w)
 have H : (if a0_0.toList = a1_0.toList then ((impl_QcSame.f k a0_1 a0_2 l0_3 a1_1 a1_2 l1_3).bind fun t851 => (some t851)) else (some false)) = some r := h
 clear h
 by_cases c3 : a0_0.toList = a1_0.toList
 ·
  rw [if_pos c3] at H
  have c3b0 : (a0_0.toList == a1_0.toList) = true := beq_iff_eq.mpr c3; have c3b1 : (a0_0.toList != a1_0.toList) = false := bne_eq_false_iff_eq.mpr c3; clear c3; obtain ⟨t851, A40, H⟩ := Option.bind_eq_some_iff.mp H
  try dsimp only at H
  have A4 := Aside0.mk A40; clear A40; obtain rfl := Option.some.inj H
  go_enter Tryz.func81, Tryz.ntmps81
  go_wp2_with (first | ((with_reducible refine gd 2 ?_); refine bL 2 #[.string a0_0, .int .i64 a0_1, .string a0_2, .slice A0_3 l0_3.length c0_3] 60 ?_; intro gb849 w5 _ _ _) | ((with_reducible refine gd 3 ?_); refine bL 3 #[.string a1_0, .int .i64 a1_1, .string a1_2, .slice A1_3 l1_3.length c1_3] 60 ?_; intro gb850 w6 _ _ _) | (go_at_call 63; refine aC (impl_QcSame.calls (hr0_2 := pC HR0_3) (hc0_2 := HC0_3.out) (hr1_2 := pC HR1_3) (hc1_2 := HC1_3.out) (w := _) (h := A4.out)) ?_; intro w7 _))
  go_ret
  exact ⟨y0_18, UpW.out⟩
 rw [if_neg c3] at H
 have c3b0 : (a0_0.toList == a1_0.toList) = false := beq_eq_false_iff_ne.mpr c3; have c3b1 : (a0_0.toList != a1_0.toList) = true := bne_iff_ne.mpr c3; obtain rfl := Option.some.inj H
 go_enter Tryz.func81, Tryz.ntmps81
 go_wp2_with (first | ((with_reducible refine gd 2 ?_); refine bL 2 #[.string a0_0, .int .i64 a0_1, .string a0_2, .slice A0_3 l0_3.length c0_3] 60 ?_; intro gb849 w8 _ _ _) | ((with_reducible refine gd 3 ?_); refine bL 3 #[.string a1_0, .int .i64 a1_1, .string a1_2, .slice A1_3 l1_3.length c1_3] 60 ?_; intro gb850 w9 _ _ _))
 go_ret
 exact ⟨y0_18, UpW.out⟩

/-! ### spec_l7Ints: function 202 -/
mutual
def spec_l7Ints.l0 : Nat → List Int → List Int → Int → Option (Bool)
 | 0, _, _, _ => none
 | k + 1, x0, x1, x5 => if x5 < (x0.length : Int) then (spec_l7Ints.j1 k x0 x1 x5 (decide (x5 < (x1.length : Int)))) else (spec_l7Ints.j1 k x0 x1 x5 false)
def spec_l7Ints.j1 : Nat → List Int → List Int → Int → Bool → Option (Bool)
 | 0, _, _, _, _ => none
 | k + 1, x0, x1, x5, x15 => if x15 = true then (if 0 ≤ x5 then (if x5 < (x0.length : Int) then (if x5 < (x1.length : Int) then (if (rd x0 x5) = (rd x1 x5) then (spec_l7Ints.l0 k x0 x1 (wrap64 (x5 + 1))) else (some false)) else (none)) else (none)) else (none)) else (some ((x0.length : Int) == (x1.length : Int)))
end
def spec_l7Ints.f (k : Nat) (l0 : List Int) (l1 : List Int) : Option (Bool) := spec_l7Ints.l0 k l0 l1 0
theorem spec_l7Ints.mono_l : ∀ k, (∀ y0 y1 y2, LeO (spec_l7Ints.l0 k y0 y1 y2) (spec_l7Ints.l0 (k + 1) y0 y1 y2)) ∧ (∀ y0 y1 y2 y3, LeO (spec_l7Ints.j1 k y0 y1 y2 y3) (spec_l7Ints.j1 (k + 1) y0 y1 y2 y3))
 | 0 => ⟨fun _ _ _ r h => by simp [spec_l7Ints.l0] at h, fun _ _ _ _ r h => by simp [spec_l7Ints.j1] at h⟩
 | k + 1 => by
  obtain ⟨ih0, ih1⟩ := spec_l7Ints.mono_l k
  refine ⟨?_, ?_⟩
  ·
   intro y0 y1 y2
   unfold spec_l7Ints.l0
   repeat' first | (with_reducible exact ih0 _ _ _) | (with_reducible exact ih1 _ _ _ _) | (with_reducible exact LeO.refl _) | (with_reducible exact LeO.none _) | (with_reducible refine LeO.ite ?_ ?_) | (with_reducible refine LeO.bind ?_ (fun _ => ?_))
  intro y0 y1 y2 y3
  unfold spec_l7Ints.j1
  repeat' first | (with_reducible exact ih0 _ _ _) | (with_reducible exact ih1 _ _ _ _) | (with_reducible exact LeO.refl _) | (with_reducible exact LeO.none _) | (with_reducible refine LeO.ite ?_ ?_) | (with_reducible refine LeO.bind ?_ (fun _ => ?_))
theorem spec_l7Ints.mono : ∀ a0 a1 k, LeO (spec_l7Ints.f k a0 a1) (spec_l7Ints.f (k + 1) a0 a1) := by
 intro a0 a1 k
 obtain ⟨ih0, ih1⟩ := spec_l7Ints.mono_l k
 unfold spec_l7Ints.f
 repeat' first | (with_reducible exact ih0 _ _ _) | (with_reducible exact ih1 _ _ _ _) | (with_reducible exact LeO.refl _) | (with_reducible exact LeO.none _) | (with_reducible refine LeO.ite ?_ ?_) | (with_reducible refine LeO.bind ?_ (fun _ => ?_))
set_option maxHeartbeats 8000000 in
set_option maxRecDepth 100000 in
theorem spec_l7Ints.calls (k : Nat) (A0 : Option Addr) (c0 : Nat) (l0 : List Int) (A1 : Option Addr) (c1 : Nat) (l1 : List Int) (r : Bool) (w : World) (hr0 : Kd.C (Kd.int .i64) w A0 l0.length l0) (hc0 : l0.length ≤ c0) (hr1 : Kd.C (Kd.int .i64) w A1 l1.length l1) (hc1 : l1.length ≤ c1) (h : spec_l7Ints.f k l0 l1 = some r) :
  Calls Tryz.prog 202 #[.slice A0 l0.length c0, .slice A1 l1.length c1] w fun e w' => e = .returned (.bool r) ∧ Drawn0 w w' := by
 have HR0 := Aside0.mk hr0; have HC0 := Aside0.mk hc0; clear hr0 hc0; have HR1 := Aside0.mk hr1; have HC1 := Aside0.mk hc1; clear hr1 hc1; have H : (spec_l7Ints.l0 k l0 l1 0) = some r := h; clear h; have H' := Aside0.mk H; clear H
 go_enter Tryz.func202, Tryz.ntmps202
 go_wp2
 repeat (go_quiet (fail); try go_wp2)
 go_loopg [5] k (fun kq v5 w' => ∃ (x5_1 : Int), v5 = .int .i64 x5_1 ∧ Aside0 (spec_l7Ints.l0 kq l0 l1 x5_1 = some r) ∧ Aside0 (kq ≤ k) ∧ Drawn0 w w')
 case atStart => exact ⟨(0), y0_18, H', ⟨Nat.le_refl _⟩, y0_16⟩
 case round =>
  clear H'
  try clear c1
  try clear c2
  try clear p2
  obtain ⟨x5_1, rfl, HA, HK1, ⟨m1, rfl⟩⟩ := hrel; cases gk with
  | zero => exact absurd HA.out (by simp [spec_l7Ints.l0])
  | succ k1 =>
   have H := HA.out; clear HA
   simp only [spec_l7Ints.l0] at H
   have HC3 := Aside0.mk H; clear H
   go_upto_region 2 with (fail)
   repeat (go_quiet (fail); go_upto_region 2 with (fail))
   go_cut [15] (fun v15 wc => ∃ (kq : Nat) (x15_2 : Bool), v15 = .bool x15_2 ∧ Aside0 (spec_l7Ints.j1 kq l0 l1 x5_1 x15_2 = some r) ∧ Aside0 (kq ≤ k1) ∧ Drawn0 w wc)
   case first =>
    have H := HC3.out; clear HC3
    by_cases c4 : x5_1 < (l0.length : Int)
    ·
     rw [if_pos c4] at H
     have c4b0 : decide (x5_1 < (l0.length : Int)) = true := decide_eq_true c4; clear c4
     (first | rw [c4b0] | (simp only [i64_w, i32_w]; rw [c4b0]) | skip)
     have H' := Aside0.mk H; clear H
     go_wp2
     repeat (go_quiet (fail); try go_wp2)
     go_meet
     case rel => exact ⟨_, (decide (x5_1 < (l1.length : Int))), y0_18, H', ⟨by have := HK1.out; first | omega | exact Nat.le_refl _⟩, y0_16⟩
    rw [if_neg c4] at H
    have c4b0 : decide (x5_1 < (l0.length : Int)) = false := decide_eq_false c4; clear c4
    (first | rw [c4b0] | (simp only [i64_w, i32_w]; rw [c4b0]) | skip)
    have H' := Aside0.mk H; clear H
    go_wp2
    repeat (go_quiet (fail); try go_wp2)
    go_meet
    case rel => exact ⟨_, (false), y0_18, H', ⟨by have := HK1.out; first | omega | exact Nat.le_refl _⟩, y0_16⟩
   case rest =>
    clear HC3
    try clear c1
    try clear c2
    try clear p2
    try clear c4
    try clear c4b0
    try clear p2
    obtain ⟨kq, x15_2, rfl, HA, HJ2, ⟨mc2, rfl⟩⟩ := hcut; cases kq with
    | zero => exact absurd HA.out (by simp [spec_l7Ints.j1])
    | succ kj2 =>
     have H := HA.out; clear HA
     simp only [spec_l7Ints.j1] at H
     by_cases c5 : x15_2 = true
     ·
      subst c5
      rw [if_pos rfl] at H
      by_cases c6 : 0 ≤ x5_1
      rotate_left
      ·
       rw [if_neg c6] at H
       exact absurd H (by simp)
      rw [if_pos c6] at H
      have c6b0 : decide (0 ≤ x5_1) = true := decide_eq_true c6; clear c6
      by_cases c7 : x5_1 < (l0.length : Int)
      rotate_left
      ·
       rw [if_neg c7] at H
       exact absurd H (by simp)
      rw [if_pos c7] at H
      have c7b0 : decide (x5_1 < (l0.length : Int)) = true := decide_eq_true c7; clear c7
      by_cases c8 : x5_1 < (l1.length : Int)
      rotate_left
      ·
       rw [if_neg c8] at H
       exact absurd H (by simp)
      rw [if_pos c8] at H
      have c8b0 : decide (x5_1 < (l1.length : Int)) = true := decide_eq_true c8; clear c8
      by_cases c9 : (rd l0 x5_1) = (rd l1 x5_1)
      ·
       rw [if_pos c9] at H
       have c9b0 : ((rd l0 x5_1) == (rd l1 x5_1)) = true := beq_iff_eq.mpr c9; have c9b1 : ((rd l0 x5_1) != (rd l1 x5_1)) = false := bne_eq_false_iff_eq.mpr c9; clear c9; have H' := Aside0.mk H; clear H; have p852 : 0 ≤ (x5_1 : Int) := of_decide_eq_true y0_17; have q852 : x5_1 < (l0.length : Int) := of_decide_eq_true y0_17; obtain ⟨ad852, e852, hx852_0⟩ := Kd.at_int HR0.out x5_1 p852 q852; cases e852; replace p852 := eq_true p852; replace q852 := eq_true q852; have p853 : 0 ≤ (x5_1 : Int) := of_decide_eq_true y0_17; have q853 : x5_1 < (l1.length : Int) := of_decide_eq_true y0_17; obtain ⟨ad853, e853, hx853_0⟩ := Kd.at_int HR1.out x5_1 p853 q853; cases e853; replace p853 := eq_true p853; replace q853 := eq_true q853
       go_wp2
       repeat (go_quiet (fail); try go_wp2)
       go_roundg kj2
       case measure => have := HK1.out; have := HJ2.out; omega
       case rel => exact ⟨(wrap64 (x5_1 + 1)), y0_18, H', ⟨by have := HK1.out; have := HJ2.out; omega⟩, y0_16⟩
      rw [if_neg c9] at H
      have c9b0 : ((rd l0 x5_1) == (rd l1 x5_1)) = false := beq_eq_false_iff_ne.mpr c9; have c9b1 : ((rd l0 x5_1) != (rd l1 x5_1)) = true := bne_iff_ne.mpr c9; obtain rfl := Option.some.inj H; have p852 : 0 ≤ (x5_1 : Int) := of_decide_eq_true y0_17; have q852 : x5_1 < (l0.length : Int) := of_decide_eq_true y0_17; obtain ⟨ad852, e852, hx852_0⟩ := Kd.at_int HR0.out x5_1 p852 q852; cases e852; replace p852 := eq_true p852; replace q852 := eq_true q852; have p853 : 0 ≤ (x5_1 : Int) := of_decide_eq_true y0_17; have q853 : x5_1 < (l1.length : Int) := of_decide_eq_true y0_17; obtain ⟨ad853, e853, hx853_0⟩ := Kd.at_int HR1.out x5_1 p853 q853; cases e853; replace p853 := eq_true p853; replace q853 := eq_true q853
      go_wp2
      repeat (go_quiet (fail); try go_wp2)
      go_ret
      exact ⟨y0_18, y0_16⟩
     replace c5 := Bool.eq_false_iff.mpr c5; subst c5
     rw [if_neg (show ¬ (false = true) by decide)] at H
     obtain rfl := Option.some.inj H
     go_wp2
     repeat (go_quiet (fail); try go_wp2)
     go_ret
     exact ⟨y0_18, y0_16⟩

/-! ### spec_QcSame: function 137 -/
def spec_QcSame.f (k : Nat) (a0_0 : Int) (a0_1 : ByteArray) (l0_2 : List Int) (a1_0 : Int) (a1_1 : ByteArray) (l1_2 : List Int) : Option (Bool) := if a0_0 = a1_0 then (if a0_1.toList = a1_1.toList then ((spec_l7Ints.f k l0_2 l1_2).bind fun t856 => (some t856)) else (some false)) else (some false)
theorem spec_QcSame.mono : ∀ a0 a1 a2 a3 a4 a5 k, LeO (spec_QcSame.f k a0 a1 a2 a3 a4 a5) (spec_QcSame.f (k + 1) a0 a1 a2 a3 a4 a5) := by
 intro a0 a1 a2 a3 a4 a5 k
 unfold spec_QcSame.f
 repeat' first | (with_reducible exact spec_l7Ints.mono _ _ _) | (with_reducible exact LeO.refl _) | (with_reducible exact LeO.none _) | (with_reducible refine LeO.ite ?_ ?_) | (with_reducible refine LeO.bind ?_ (fun _ => ?_))
set_option maxHeartbeats 8000000 in
set_option maxRecDepth 100000 in
theorem spec_QcSame.calls (k : Nat) (a0_0 : Int) (a0_1 : ByteArray) (A0_2 : Option Addr) (c0_2 : Nat) (l0_2 : List Int) (a1_0 : Int) (a1_1 : ByteArray) (A1_2 : Option Addr) (c1_2 : Nat) (l1_2 : List Int) (r : Bool) (w : World) (hr0_2 : Kd.C (Kd.int .i64) w A0_2 l0_2.length l0_2) (hc0_2 : l0_2.length ≤ c0_2) (hr1_2 : Kd.C (Kd.int .i64) w A1_2 l1_2.length l1_2) (hc1_2 : l1_2.length ≤ c1_2) (h : spec_QcSame.f k a0_0 a0_1 l0_2 a1_0 a1_1 l1_2 = some r) :
  Calls Tryz.prog 137 #[.agg #[.int .i64 a0_0, .string a0_1, .slice A0_2 l0_2.length c0_2], .agg #[.int .i64 a1_0, .string a1_1, .slice A1_2 l1_2.length c1_2]] w fun e w' => e = .returned (.bool r) ∧ Below w.heap.size w w' := by
 have hu27 := Tryz.underlying27; have HR0_2 := Aside0.mk hr0_2; have HC0_2 := Aside0.mk hc0_2; clear hr0_2 hc0_2; have HR1_2 := Aside0.mk hr1_2; have HC1_2 := Aside0.mk hc1_2; clear hr1_2 hc1_2; have HB := Aside0.mk (Below.refl w.heap.size w)
 have H : (if a0_0 = a1_0 then (if a0_1.toList = a1_1.toList then ((spec_l7Ints.f k l0_2 l1_2).bind fun t856 => (some t856)) else (some false)) else (some false)) = some r := h
 clear h
 by_cases c3 : a0_0 = a1_0
 ·
  rw [if_pos c3] at H
  have c3b0 : (a0_0 == a1_0) = true := beq_iff_eq.mpr c3; have c3b1 : (a0_0 != a1_0) = false := bne_eq_false_iff_eq.mpr c3; clear c3
  by_cases c4 : a0_1.toList = a1_1.toList
  ·
   rw [if_pos c4] at H
   have c4b0 : (a0_1.toList == a1_1.toList) = true := beq_iff_eq.mpr c4; have c4b1 : (a0_1.toList != a1_1.toList) = false := bne_eq_false_iff_eq.mpr c4; clear c4; obtain ⟨t856, A50, H⟩ := Option.bind_eq_some_iff.mp H
   try dsimp only at H
   have A5 := Aside0.mk A50; clear A50; obtain rfl := Option.some.inj H
   go_enter Tryz.func137, Tryz.ntmps137
   go_wp2_with (first | ((with_reducible refine gd 2 ?_); refine bL 2 #[.int .i64 a0_0, .string a0_1, .slice A0_2 l0_2.length c0_2] 27 ?_; intro gb854 w6 _ _ _) | ((with_reducible refine gd 3 ?_); refine bL 3 #[.int .i64 a1_0, .string a1_1, .slice A1_2 l1_2.length c1_2] 27 ?_; intro gb855 w7 _ _ _) | (go_at_call 202; refine aD (spec_l7Ints.calls (hr0 := pC HR0_2) (hc0 := HC0_2.out) (hr1 := pC HR1_2) (hc1 := HC1_2.out) (w := _) (h := A5.out)) ?_; intro w8 _))
   go_ret
   exact ⟨y0_18, UpW.out⟩
  rw [if_neg c4] at H
  have c4b0 : (a0_1.toList == a1_1.toList) = false := beq_eq_false_iff_ne.mpr c4; have c4b1 : (a0_1.toList != a1_1.toList) = true := bne_iff_ne.mpr c4; obtain rfl := Option.some.inj H
  go_enter Tryz.func137, Tryz.ntmps137
  go_wp2_with (first | ((with_reducible refine gd 2 ?_); refine bL 2 #[.int .i64 a0_0, .string a0_1, .slice A0_2 l0_2.length c0_2] 27 ?_; intro gb854 w9 _ _ _) | ((with_reducible refine gd 3 ?_); refine bL 3 #[.int .i64 a1_0, .string a1_1, .slice A1_2 l1_2.length c1_2] 27 ?_; intro gb855 w10 _ _ _))
  go_ret
  exact ⟨y0_18, UpW.out⟩
 rw [if_neg c3] at H
 have c3b0 : (a0_0 == a1_0) = false := beq_eq_false_iff_ne.mpr c3; have c3b1 : (a0_0 != a1_0) = true := bne_iff_ne.mpr c3; obtain rfl := Option.some.inj H
 go_enter Tryz.func137, Tryz.ntmps137
 go_wp2_with (first | ((with_reducible refine gd 2 ?_); refine bL 2 #[.int .i64 a0_0, .string a0_1, .slice A0_2 l0_2.length c0_2] 27 ?_; intro gb854 w11 _ _ _) | ((with_reducible refine gd 3 ?_); refine bL 3 #[.int .i64 a1_0, .string a1_1, .slice A1_2 l1_2.length c1_2] 27 ?_; intro gb855 w12 _ _ _))
 go_ret
 exact ⟨y0_18, UpW.out⟩

/-! ### spec_BlockSame: function 82 -/
def spec_BlockSame.f (k : Nat) (a0_0 : ByteArray) (a0_1 : Int) (a0_2 : ByteArray) (l0_3 : List Int) (a1_0 : ByteArray) (a1_1 : Int) (a1_2 : ByteArray) (l1_3 : List Int) : Option (Bool) := if a0_0.toList = a1_0.toList then ((spec_QcSame.f k a0_1 a0_2 l0_3 a1_1 a1_2 l1_3).bind fun t859 => (some t859)) else (some false)
theorem spec_BlockSame.mono : ∀ a0 a1 a2 a3 a4 a5 a6 a7 k, LeO (spec_BlockSame.f k a0 a1 a2 a3 a4 a5 a6 a7) (spec_BlockSame.f (k + 1) a0 a1 a2 a3 a4 a5 a6 a7) := by
 intro a0 a1 a2 a3 a4 a5 a6 a7 k
 unfold spec_BlockSame.f
 repeat' first | (with_reducible exact spec_QcSame.mono _ _ _ _ _ _ _) | (with_reducible exact LeO.refl _) | (with_reducible exact LeO.none _) | (with_reducible refine LeO.ite ?_ ?_) | (with_reducible refine LeO.bind ?_ (fun _ => ?_))
set_option maxHeartbeats 8000000 in
set_option maxRecDepth 100000 in
theorem spec_BlockSame.calls (k : Nat) (a0_0 : ByteArray) (a0_1 : Int) (a0_2 : ByteArray) (A0_3 : Option Addr) (c0_3 : Nat) (l0_3 : List Int) (a1_0 : ByteArray) (a1_1 : Int) (a1_2 : ByteArray) (A1_3 : Option Addr) (c1_3 : Nat) (l1_3 : List Int) (r : Bool) (w : World) (hr0_3 : Kd.C (Kd.int .i64) w A0_3 l0_3.length l0_3) (hc0_3 : l0_3.length ≤ c0_3) (hr1_3 : Kd.C (Kd.int .i64) w A1_3 l1_3.length l1_3) (hc1_3 : l1_3.length ≤ c1_3) (h : spec_BlockSame.f k a0_0 a0_1 a0_2 l0_3 a1_0 a1_1 a1_2 l1_3 = some r) :
  Calls Tryz.prog 82 #[.agg #[.string a0_0, .int .i64 a0_1, .string a0_2, .slice A0_3 l0_3.length c0_3], .agg #[.string a1_0, .int .i64 a1_1, .string a1_2, .slice A1_3 l1_3.length c1_3]] w fun e w' => e = .returned (.bool r) ∧ Below w.heap.size w w' := by
 have hu60 := Tryz.underlying60; have hu27 := Tryz.underlying27; have HR0_3 := Aside0.mk hr0_3; have HC0_3 := Aside0.mk hc0_3; clear hr0_3 hc0_3; have HR1_3 := Aside0.mk hr1_3; have HC1_3 := Aside0.mk hc1_3; clear hr1_3 hc1_3; have HB := Aside0.mk (Below.refl w.heap.size w)
 have H : (if a0_0.toList = a1_0.toList then ((spec_QcSame.f k a0_1 a0_2 l0_3 a1_1 a1_2 l1_3).bind fun t859 => (some t859)) else (some false)) = some r := h
 clear h
 by_cases c3 : a0_0.toList = a1_0.toList
 ·
  rw [if_pos c3] at H
  have c3b0 : (a0_0.toList == a1_0.toList) = true := beq_iff_eq.mpr c3; have c3b1 : (a0_0.toList != a1_0.toList) = false := bne_eq_false_iff_eq.mpr c3; clear c3; obtain ⟨t859, A40, H⟩ := Option.bind_eq_some_iff.mp H
  try dsimp only at H
  have A4 := Aside0.mk A40; clear A40; obtain rfl := Option.some.inj H
  go_enter Tryz.func82, Tryz.ntmps82
  go_wp2_with (first | ((with_reducible refine gd 2 ?_); refine bL 2 #[.string a0_0, .int .i64 a0_1, .string a0_2, .slice A0_3 l0_3.length c0_3] 60 ?_; intro gb857 w5 _ _ _) | ((with_reducible refine gd 3 ?_); refine bL 3 #[.string a1_0, .int .i64 a1_1, .string a1_2, .slice A1_3 l1_3.length c1_3] 60 ?_; intro gb858 w6 _ _ _) | (go_at_call 137; refine aC (spec_QcSame.calls (hr0_2 := pC HR0_3) (hc0_2 := HC0_3.out) (hr1_2 := pC HR1_3) (hc1_2 := HC1_3.out) (w := _) (h := A4.out)) ?_; intro w7 _))
  go_ret
  exact ⟨y0_18, UpW.out⟩
 rw [if_neg c3] at H
 have c3b0 : (a0_0.toList == a1_0.toList) = false := beq_eq_false_iff_ne.mpr c3; have c3b1 : (a0_0.toList != a1_0.toList) = true := bne_iff_ne.mpr c3; obtain rfl := Option.some.inj H
 go_enter Tryz.func82, Tryz.ntmps82
 go_wp2_with (first | ((with_reducible refine gd 2 ?_); refine bL 2 #[.string a0_0, .int .i64 a0_1, .string a0_2, .slice A0_3 l0_3.length c0_3] 60 ?_; intro gb857 w8 _ _ _) | ((with_reducible refine gd 3 ?_); refine bL 3 #[.string a1_0, .int .i64 a1_1, .string a1_2, .slice A1_3 l1_3.length c1_3] 60 ?_; intro gb858 w9 _ _ _))
 go_ret
 exact ⟨y0_18, UpW.out⟩

end Go.Proofs.YtnpbopadajbopaaGreatDoor.PFnBlocks
