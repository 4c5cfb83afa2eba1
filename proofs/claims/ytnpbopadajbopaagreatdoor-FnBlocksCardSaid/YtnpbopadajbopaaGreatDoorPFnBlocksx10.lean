-- By a program of this session, out of the translation (the print of the kit, with turns of its own). Lean checks it.
import Derived.Test.YtnpbopadajbopaaGreatDoorPFnBlocksx0
import Derived.Test.YtnpbopadajbopaaGreatDoorPFnBlocksx6
import Derived.Test.YtnpbopadajbopaaGreatDoorPFnBlocksx7
import Derived.Test.YtnpbopadajbopaaGreatDoorPFnBlocksx9
namespace Go.Proofs.YtnpbopadajbopaaGreatDoor.PFnBlocks
open Go.RowKit Go.Proofs.YtnpbopadajbopaaGreatDoorW.PrintWords Go.Proofs.YtnpbopadajbopaaGreatDoorW.PrintLast Go.Proofs.YtnpbopadajbopaaGreatDoorW.PrintMore
attribute [local go_sem] max2_int min2_int max_two min_two max_three min_three max_four min_four   -- for this text's walks alone
attribute [local go_sem] cell_in frozen_in
set_option synthInstance.maxSize 1000000
set_option synthInstance.maxHeartbeats 2000000
set_option linter.unusedVariables false
set_option linter.unusedSimpArgs false

/-! ### spec_BlockNew: function 77 -/
def spec_BlockNew.f (k : Nat) (a0_0 : Int) (a0_1 : Int) (a1_0 : Int) (a1_1 : ByteArray) (l1_2 : List Int) (a2 : Int) (l3 : List (S204)) : Option (ByteArray × Int × ByteArray × List Int × Bool) := (spec_NameOf.f k a1_1 a2 l3).bind fun t547 => ((spec_l7Copy.f a1_0 a1_1 l1_2).bind fun bt548 => ((spec_BlockOk.f k a0_0 a0_1 t547 bt548.1 bt548.2.1 bt548.2.2).bind fun t554 => (if t554 = true then ((spec_ViewOf.f k t547).bind fun t555 => (if t555 = a2 then (some (t547, bt548.1, bt548.2.1, bt548.2.2, true)) else (some ((⟨#[]⟩ : ByteArray), 0, (⟨#[]⟩ : ByteArray), ([] : List Int), false)))) else (some ((⟨#[]⟩ : ByteArray), 0, (⟨#[]⟩ : ByteArray), ([] : List Int), false)))))
theorem spec_BlockNew.mono : ∀ a0 a1 a2 a3 a4 a5 a6 k, LeO (spec_BlockNew.f k a0 a1 a2 a3 a4 a5 a6) (spec_BlockNew.f (k + 1) a0 a1 a2 a3 a4 a5 a6) := by
 intro a0 a1 a2 a3 a4 a5 a6 k
 unfold spec_BlockNew.f
 repeat' first | (with_reducible exact spec_BlockOk.mono _ _ _ _ _ _ _) | (with_reducible exact spec_NameOf.mono _ _ _ _) | (with_reducible exact spec_ViewOf.mono _ _) | (with_reducible exact LeO.refl _) | (with_reducible exact LeO.none _) | (with_reducible refine LeO.ite ?_ ?_) | (with_reducible refine LeO.bind ?_ (fun _ => ?_))
def spec_BlockNew.T1 : Bool × List (List Nat × List Nat) := (true, [([], []), ([0], [0]), ([], []), ([], []), ([1, 2, 3], [1, 2, 3]), ([], []), ([5, 4], [5]), ([4, 6], [4, 6]), ([], []), ([8, 7, 6, 0, 1, 2, 3, 4, 5, 6, 7, 8], [7, 8])])
def spec_BlockNew.B1 : List Nat := [0, 1, 0, 0, 15, 0, 63, 127, 0, 511]
theorem spec_BlockNew.tab1 : rtab .any (opsOf Tryz.f77 1) = spec_BlockNew.T1 := by kernel_rfl
theorem spec_BlockNew.bits1 : waitsOk spec_BlockNew.T1.2 spec_BlockNew.B1 = true := by kernel_rfl
set_option maxHeartbeats 8000000 in
set_option maxRecDepth 100000 in
theorem spec_BlockNew.calls (k : Nat) (a0_0 : Int) (a0_1 : Int) (a1_0 : Int) (a1_1 : ByteArray) (A1_2 : Option Addr) (c1_2 : Nat) (l1_2 : List Int) (a2 : Int) (A3 : Option Addr) (c3 : Nat) (l3 : List (S204)) (r1 : ByteArray) (r2 : Int) (r3 : ByteArray) (r4 : List Int) (r5 : Bool) (w : World) (hr1_2 : Kd.C (Kd.int .i64) w A1_2 l1_2.length l1_2) (hc1_2 : l1_2.length ≤ c1_2) (hr3 : Kd.C k204 w A3 l3.length l3) (hc3 : l3.length ≤ c3) (h : spec_BlockNew.f k a0_0 a0_1 a1_0 a1_1 l1_2 a2 l3 = some (r1, r2, r3, r4, r5)) :
  Calls Tryz.prog 77 #[.agg #[.int .i64 a0_0, .int .i64 a0_1], .agg #[.int .i64 a1_0, .string a1_1, .slice A1_2 l1_2.length c1_2], .int .i64 a2, .slice A3 l3.length c3] w fun e w' => ∃ v3_ : Value, e = .returned (.tuple #[.agg #[.string r1, .int .i64 r2, .string r3, v3_], .bool r5]) ∧ Kd.R (Kd.int .i64) 3 w' w.heap.size (fun _ => True) v3_ r4 ∧ Below w.heap.size w w' := by
 have hu32 := Tryz.underlying32; have hu27 := Tryz.underlying27; have hu60 := Tryz.underlying60; have HR1_2 := Aside0.mk hr1_2; have HC1_2 := Aside0.mk hc1_2; clear hr1_2 hc1_2; have HR3 := Aside0.mk hr3; have HC3 := Aside0.mk hc3; clear hr3 hc3; have HB := Aside0.mk (Below.refl w.heap.size w)
 have H : ((spec_NameOf.f k a1_1 a2 l3).bind fun t547 => ((spec_l7Copy.f a1_0 a1_1 l1_2).bind fun bt548 => ((spec_BlockOk.f k a0_0 a0_1 t547 bt548.1 bt548.2.1 bt548.2.2).bind fun t554 => (if t554 = true then ((spec_ViewOf.f k t547).bind fun t555 => (if t555 = a2 then (some (t547, bt548.1, bt548.2.1, bt548.2.2, true)) else (some ((⟨#[]⟩ : ByteArray), 0, (⟨#[]⟩ : ByteArray), ([] : List Int), false)))) else (some ((⟨#[]⟩ : ByteArray), 0, (⟨#[]⟩ : ByteArray), ([] : List Int), false)))))) = some (r1, r2, r3, r4, r5) := h
 clear h; obtain ⟨t547, A50, H⟩ := Option.bind_eq_some_iff.mp H
 try dsimp only at H
 have A5 := Aside0.mk A50; clear A50; obtain ⟨⟨t548, t549, t550⟩, A60, H⟩ := Option.bind_eq_some_iff.mp H
 try dsimp only at H
 have A6 := Aside0.mk A60; clear A60; obtain ⟨t554, A70, H⟩ := Option.bind_eq_some_iff.mp H
 try dsimp only at H
 have A7 := Aside0.mk A70; clear A70
 by_cases c8 : t554 = true
 ·
  subst c8
  rw [if_pos rfl] at H
  obtain ⟨t555, A90, H⟩ := Option.bind_eq_some_iff.mp H
  try dsimp only at H
  have A9 := Aside0.mk A90; clear A90
  by_cases c10 : t555 = a2
  ·
   rw [if_pos c10] at H
   have c10b0 : (t555 == a2) = true := beq_iff_eq.mpr c10; have c10b1 : (t555 != a2) = false := bne_eq_false_iff_eq.mpr c10; clear c10
   simp only [Option.some.injEq, Prod.mk.injEq] at H
   obtain ⟨rfl, rfl, rfl, rfl, rfl⟩ := H
   go_enter Tryz.func77, Tryz.ntmps77
   try go_wp2_with (first | ((with_reducible refine gd 4 ?_); refine bL 4 #[.int .i64 a0_0, .int .i64 a0_1] 32 ?_; intro gb544 w11 _ _ _) | ((with_reducible refine gd 5 ?_); refine bL 5 #[.int .i64 a1_0, .string a1_1, .slice A1_2 l1_2.length c1_2] 27 ?_; intro gb545 w12 _ _ _) | ((with_reducible refine gd 8 ?_); refine bL 8 #[.string (⟨#[]⟩ : ByteArray), .int .i64 0, .string (⟨#[]⟩ : ByteArray), .slice none 0 0] 60 ?_; intro gb546 w13 _ _ _))
   refine sB [] spec_BlockNew.tab1 spec_BlockNew.bits1 ?_; intro w14 _ HT_ HW_
   refine pA 0 (some 11) (bz 10 1) HT_ ?_
   refine tB 1 (some 12) (bz 10 3) HT_ HW_ ?_
   refine pA 2 (some 13) (bz 10 7) HT_ ?_
   refine pA 3 (some 14) (bz 10 15) HT_ ?_
   refine tB 5 (some 16) (bz 10 47) HT_ HW_ ?_
   refine join_ (σ := Option Addr × Nat × Nat) 1 (bz 10 511) (fun s_ => [(15, .string t547), (17, .agg #[.int .i64 t548, .string t549, .slice s_.1 t550.length s_.2.1]), (18, .agg #[.string t547, .int .i64 t548, .string t549, .slice s_.1 t550.length s_.2.1]), (10, .pointer (some ⟨s_.2.2, 0, none⟩))]) (fun s_ w' => Aside0 (Kd.R (Kd.int .i64) 3 w' w14.heap.size (iv w14 w') (.slice s_.1 t550.length s_.2.1) t550) ∧ BkI (s_.2.2) w' #[.string (⟨#[]⟩ : ByteArray), .int .i64 0, .string (⟨#[]⟩ : ByteArray), .slice none 0 0] 60 ∧ BornI (s_.2.2) w14 ∧ UB w14 w') ?_ ?_
   rotate_left
   ·
    intro hCont
    refine o2 4 8 (some 15) (some 10) (bz 10 63) (bz 10 303) HT_ rfl rfl (kC Tryz.func163 (spec_NameOf.calls (hr2 := pC HR3) (hc2 := HC3.out) (w := _) (h := A5.out)) ?_) (kB #[.string (⟨#[]⟩ : ByteArray), .int .i64 0, .string (⟨#[]⟩ : ByteArray), .slice none 0 0] 60 ?_)
    ·
     intro w15 _
     refine nA (some 15) ?_
     refine o2 6 8 (some 17) (some 10) (bz 10 127) (bz 10 319) HT_ rfl rfl (kC1 Tryz.func164 (spec_l7Copy.calls (hr0_2 := pC HR1_2) (hc0_2 := HC1_2.out) (w := _) (h := A6.out)) ?_) (kB #[.string (⟨#[]⟩ : ByteArray), .int .i64 0, .string (⟨#[]⟩ : ByteArray), .slice none 0 0] 60 ?_)
     ·
      intro Ao551 co551 w17 _ HO552
      refine nA (some 17) ?_
      refine pA 7 (some 18) (bz 10 255) HT_ ?_
      refine o1 8 (some 10) (bz 10 511) HT_ rfl (kB #[.string (⟨#[]⟩ : ByteArray), .int .i64 0, .string (⟨#[]⟩ : ByteArray), .slice none 0 0] 60 ?_); intro gb553 w19 _ _ _
      refine nA (some 10) ?_
      exact hJ (hCont (Ao551, co551, gb553) _ ⟨⟨rJ HO552⟩, ⟨xB⟩, ⟨GeI.out⟩, ⟨UpW.out⟩⟩)
     intro gb553 w18 _ _ _
     refine nA (some 10) ?_
     refine o1 6 (some 17) (bz 10 383) HT_ rfl (kC1 Tryz.func164 (spec_l7Copy.calls (hr0_2 := pC HR1_2) (hc0_2 := HC1_2.out) (w := _) (h := A6.out)) ?_); intro Ao551 co551 w20 _ HO552
     refine nA (some 17) ?_
     refine pA 7 (some 18) (bz 10 511) HT_ ?_
     exact hJ (hCont (Ao551, co551, gb553) _ ⟨⟨rJ HO552⟩, ⟨xB⟩, ⟨GeI.out⟩, ⟨UpW.out⟩⟩)
    intro gb553 w16 _ _ _
    refine nA (some 10) ?_
    refine o1 4 (some 15) (bz 10 319) HT_ rfl (kC Tryz.func163 (spec_NameOf.calls (hr2 := pC HR3) (hc2 := HC3.out) (w := _) (h := A5.out)) ?_); intro w21 _
    refine nA (some 15) ?_
    refine o1 6 (some 17) (bz 10 383) HT_ rfl (kC1 Tryz.func164 (spec_l7Copy.calls (hr0_2 := pC HR1_2) (hc0_2 := HC1_2.out) (w := _) (h := A6.out)) ?_); intro Ao551 co551 w22 _ HO552
    refine nA (some 17) ?_
    refine pA 7 (some 18) (bz 10 511) HT_ ?_
    exact hJ (hCont (Ao551, co551, gb553) _ ⟨⟨rJ HO552⟩, ⟨xB⟩, ⟨GeI.out⟩, ⟨UpW.out⟩⟩)
   rintro ⟨Ao551, co551, gb553⟩ w23 ⟨HO552, _, _, _⟩
   refine nP ?_
   refine o1 9 none (bz 10 1023) HT_ rfl (kS ?_)
   refine done_ (done_of HT_.out (by kernel_rfl)) ?_
   try go_wp2_with (first | ((with_reducible refine gate_callee (f := 80) rfl ?_); refine gC (some 21) Tryz.func80 (spec_BlockOk.calls (hr1_3 := rC HO552) (hc1_3 := rL HO552) (w := _) (h := A7.out)) ?_; intro w24 _) | (go_at_call 127; refine aC (spec_ViewOf.calls (w := _) (h := A9.out)) ?_; intro w25 _))
   refine bodyPost_ret (results_ct rfl _ _ gb546 60 #[.string t547, .int .i64 t548, .string t549, .slice Ao551 t550.length co551] (0, 0) _ rfl xB Tryz.underlying60 rfl (by kernel_rfl)) rfl ?_
   exact ⟨_, y0_18, rR HO552, UpW.out⟩
  rw [if_neg c10] at H
  have c10b0 : (t555 == a2) = false := beq_eq_false_iff_ne.mpr c10; have c10b1 : (t555 != a2) = true := bne_iff_ne.mpr c10
  simp only [Option.some.injEq, Prod.mk.injEq] at H
  obtain ⟨rfl, rfl, rfl, rfl, rfl⟩ := H
  go_enter Tryz.func77, Tryz.ntmps77
  try go_wp2_with (first | ((with_reducible refine gd 4 ?_); refine bL 4 #[.int .i64 a0_0, .int .i64 a0_1] 32 ?_; intro gb544 w26 _ _ _) | ((with_reducible refine gd 5 ?_); refine bL 5 #[.int .i64 a1_0, .string a1_1, .slice A1_2 l1_2.length c1_2] 27 ?_; intro gb545 w27 _ _ _) | ((with_reducible refine gd 8 ?_); refine bL 8 #[.string (⟨#[]⟩ : ByteArray), .int .i64 0, .string (⟨#[]⟩ : ByteArray), .slice none 0 0] 60 ?_; intro gb546 w28 _ _ _))
  refine sB [] spec_BlockNew.tab1 spec_BlockNew.bits1 ?_; intro w29 _ HT_ HW_
  refine pA 0 (some 11) (bz 10 1) HT_ ?_
  refine tB 1 (some 12) (bz 10 3) HT_ HW_ ?_
  refine pA 2 (some 13) (bz 10 7) HT_ ?_
  refine pA 3 (some 14) (bz 10 15) HT_ ?_
  refine tB 5 (some 16) (bz 10 47) HT_ HW_ ?_
  refine join_ (σ := Option Addr × Nat × Nat) 1 (bz 10 511) (fun s_ => [(15, .string t547), (17, .agg #[.int .i64 t548, .string t549, .slice s_.1 t550.length s_.2.1]), (18, .agg #[.string t547, .int .i64 t548, .string t549, .slice s_.1 t550.length s_.2.1]), (10, .pointer (some ⟨s_.2.2, 0, none⟩))]) (fun s_ w' => Aside0 (Kd.R (Kd.int .i64) 3 w' w29.heap.size (iv w29 w') (.slice s_.1 t550.length s_.2.1) t550) ∧ BkI (s_.2.2) w' #[.string (⟨#[]⟩ : ByteArray), .int .i64 0, .string (⟨#[]⟩ : ByteArray), .slice none 0 0] 60 ∧ BornI (s_.2.2) w29 ∧ UB w29 w') ?_ ?_
  rotate_left
  ·
   intro hCont
   refine o2 4 8 (some 15) (some 10) (bz 10 63) (bz 10 303) HT_ rfl rfl (kC Tryz.func163 (spec_NameOf.calls (hr2 := pC HR3) (hc2 := HC3.out) (w := _) (h := A5.out)) ?_) (kB #[.string (⟨#[]⟩ : ByteArray), .int .i64 0, .string (⟨#[]⟩ : ByteArray), .slice none 0 0] 60 ?_)
   ·
    intro w30 _
    refine nA (some 15) ?_
    refine o2 6 8 (some 17) (some 10) (bz 10 127) (bz 10 319) HT_ rfl rfl (kC1 Tryz.func164 (spec_l7Copy.calls (hr0_2 := pC HR1_2) (hc0_2 := HC1_2.out) (w := _) (h := A6.out)) ?_) (kB #[.string (⟨#[]⟩ : ByteArray), .int .i64 0, .string (⟨#[]⟩ : ByteArray), .slice none 0 0] 60 ?_)
    ·
     intro Ao551 co551 w32 _ HO552
     refine nA (some 17) ?_
     refine pA 7 (some 18) (bz 10 255) HT_ ?_
     refine o1 8 (some 10) (bz 10 511) HT_ rfl (kB #[.string (⟨#[]⟩ : ByteArray), .int .i64 0, .string (⟨#[]⟩ : ByteArray), .slice none 0 0] 60 ?_); intro gb553 w34 _ _ _
     refine nA (some 10) ?_
     exact hJ (hCont (Ao551, co551, gb553) _ ⟨⟨rJ HO552⟩, ⟨xB⟩, ⟨GeI.out⟩, ⟨UpW.out⟩⟩)
    intro gb553 w33 _ _ _
    refine nA (some 10) ?_
    refine o1 6 (some 17) (bz 10 383) HT_ rfl (kC1 Tryz.func164 (spec_l7Copy.calls (hr0_2 := pC HR1_2) (hc0_2 := HC1_2.out) (w := _) (h := A6.out)) ?_); intro Ao551 co551 w35 _ HO552
    refine nA (some 17) ?_
    refine pA 7 (some 18) (bz 10 511) HT_ ?_
    exact hJ (hCont (Ao551, co551, gb553) _ ⟨⟨rJ HO552⟩, ⟨xB⟩, ⟨GeI.out⟩, ⟨UpW.out⟩⟩)
   intro gb553 w31 _ _ _
   refine nA (some 10) ?_
   refine o1 4 (some 15) (bz 10 319) HT_ rfl (kC Tryz.func163 (spec_NameOf.calls (hr2 := pC HR3) (hc2 := HC3.out) (w := _) (h := A5.out)) ?_); intro w36 _
   refine nA (some 15) ?_
   refine o1 6 (some 17) (bz 10 383) HT_ rfl (kC1 Tryz.func164 (spec_l7Copy.calls (hr0_2 := pC HR1_2) (hc0_2 := HC1_2.out) (w := _) (h := A6.out)) ?_); intro Ao551 co551 w37 _ HO552
   refine nA (some 17) ?_
   refine pA 7 (some 18) (bz 10 511) HT_ ?_
   exact hJ (hCont (Ao551, co551, gb553) _ ⟨⟨rJ HO552⟩, ⟨xB⟩, ⟨GeI.out⟩, ⟨UpW.out⟩⟩)
  rintro ⟨Ao551, co551, gb553⟩ w38 ⟨HO552, _, _, _⟩
  refine nP ?_
  refine o1 9 none (bz 10 1023) HT_ rfl (kS ?_)
  refine done_ (done_of HT_.out (by kernel_rfl)) ?_
  try go_wp2_with (first | ((with_reducible refine gate_callee (f := 80) rfl ?_); refine gC (some 21) Tryz.func80 (spec_BlockOk.calls (hr1_3 := rC HO552) (hc1_3 := rL HO552) (w := _) (h := A7.out)) ?_; intro w39 _) | (go_at_call 127; refine aC (spec_ViewOf.calls (w := _) (h := A9.out)) ?_; intro w40 _))
  refine bodyPost_ret (results_ct rfl _ _ gb546 60 #[.string (⟨#[]⟩ : ByteArray), .int .i64 0, .string (⟨#[]⟩ : ByteArray), .slice none 0 0] (0, 0) _ rfl xB Tryz.underlying60 rfl (by kernel_rfl)) rfl ?_
  exact ⟨_, y0_18, Kd.R_nil _ _ _ _ _, UpW.out⟩
 replace c8 := Bool.eq_false_iff.mpr c8; subst c8
 rw [if_neg (show ¬ (false = true) by decide)] at H
 simp only [Option.some.injEq, Prod.mk.injEq] at H
 obtain ⟨rfl, rfl, rfl, rfl, rfl⟩ := H
 go_enter Tryz.func77, Tryz.ntmps77
 try go_wp2_with (first | ((with_reducible refine gd 4 ?_); refine bL 4 #[.int .i64 a0_0, .int .i64 a0_1] 32 ?_; intro gb544 w41 _ _ _) | ((with_reducible refine gd 5 ?_); refine bL 5 #[.int .i64 a1_0, .string a1_1, .slice A1_2 l1_2.length c1_2] 27 ?_; intro gb545 w42 _ _ _) | ((with_reducible refine gd 8 ?_); refine bL 8 #[.string (⟨#[]⟩ : ByteArray), .int .i64 0, .string (⟨#[]⟩ : ByteArray), .slice none 0 0] 60 ?_; intro gb546 w43 _ _ _))
 refine sB [] spec_BlockNew.tab1 spec_BlockNew.bits1 ?_; intro w44 _ HT_ HW_
 refine pA 0 (some 11) (bz 10 1) HT_ ?_
 refine tB 1 (some 12) (bz 10 3) HT_ HW_ ?_
 refine pA 2 (some 13) (bz 10 7) HT_ ?_
 refine pA 3 (some 14) (bz 10 15) HT_ ?_
 refine tB 5 (some 16) (bz 10 47) HT_ HW_ ?_
 refine join_ (σ := Option Addr × Nat × Nat) 1 (bz 10 511) (fun s_ => [(15, .string t547), (17, .agg #[.int .i64 t548, .string t549, .slice s_.1 t550.length s_.2.1]), (18, .agg #[.string t547, .int .i64 t548, .string t549, .slice s_.1 t550.length s_.2.1]), (10, .pointer (some ⟨s_.2.2, 0, none⟩))]) (fun s_ w' => Aside0 (Kd.R (Kd.int .i64) 3 w' w44.heap.size (iv w44 w') (.slice s_.1 t550.length s_.2.1) t550) ∧ BkI (s_.2.2) w' #[.string (⟨#[]⟩ : ByteArray), .int .i64 0, .string (⟨#[]⟩ : ByteArray), .slice none 0 0] 60 ∧ BornI (s_.2.2) w44 ∧ UB w44 w') ?_ ?_
 rotate_left
 ·
  intro hCont
  refine o2 4 8 (some 15) (some 10) (bz 10 63) (bz 10 303) HT_ rfl rfl (kC Tryz.func163 (spec_NameOf.calls (hr2 := pC HR3) (hc2 := HC3.out) (w := _) (h := A5.out)) ?_) (kB #[.string (⟨#[]⟩ : ByteArray), .int .i64 0, .string (⟨#[]⟩ : ByteArray), .slice none 0 0] 60 ?_)
  ·
   intro w45 _
   refine nA (some 15) ?_
   refine o2 6 8 (some 17) (some 10) (bz 10 127) (bz 10 319) HT_ rfl rfl (kC1 Tryz.func164 (spec_l7Copy.calls (hr0_2 := pC HR1_2) (hc0_2 := HC1_2.out) (w := _) (h := A6.out)) ?_) (kB #[.string (⟨#[]⟩ : ByteArray), .int .i64 0, .string (⟨#[]⟩ : ByteArray), .slice none 0 0] 60 ?_)
   ·
    intro Ao551 co551 w47 _ HO552
    refine nA (some 17) ?_
    refine pA 7 (some 18) (bz 10 255) HT_ ?_
    refine o1 8 (some 10) (bz 10 511) HT_ rfl (kB #[.string (⟨#[]⟩ : ByteArray), .int .i64 0, .string (⟨#[]⟩ : ByteArray), .slice none 0 0] 60 ?_); intro gb553 w49 _ _ _
    refine nA (some 10) ?_
    exact hJ (hCont (Ao551, co551, gb553) _ ⟨⟨rJ HO552⟩, ⟨xB⟩, ⟨GeI.out⟩, ⟨UpW.out⟩⟩)
   intro gb553 w48 _ _ _
   refine nA (some 10) ?_
   refine o1 6 (some 17) (bz 10 383) HT_ rfl (kC1 Tryz.func164 (spec_l7Copy.calls (hr0_2 := pC HR1_2) (hc0_2 := HC1_2.out) (w := _) (h := A6.out)) ?_); intro Ao551 co551 w50 _ HO552
   refine nA (some 17) ?_
   refine pA 7 (some 18) (bz 10 511) HT_ ?_
   exact hJ (hCont (Ao551, co551, gb553) _ ⟨⟨rJ HO552⟩, ⟨xB⟩, ⟨GeI.out⟩, ⟨UpW.out⟩⟩)
  intro gb553 w46 _ _ _
  refine nA (some 10) ?_
  refine o1 4 (some 15) (bz 10 319) HT_ rfl (kC Tryz.func163 (spec_NameOf.calls (hr2 := pC HR3) (hc2 := HC3.out) (w := _) (h := A5.out)) ?_); intro w51 _
  refine nA (some 15) ?_
  refine o1 6 (some 17) (bz 10 383) HT_ rfl (kC1 Tryz.func164 (spec_l7Copy.calls (hr0_2 := pC HR1_2) (hc0_2 := HC1_2.out) (w := _) (h := A6.out)) ?_); intro Ao551 co551 w52 _ HO552
  refine nA (some 17) ?_
  refine pA 7 (some 18) (bz 10 511) HT_ ?_
  exact hJ (hCont (Ao551, co551, gb553) _ ⟨⟨rJ HO552⟩, ⟨xB⟩, ⟨GeI.out⟩, ⟨UpW.out⟩⟩)
 rintro ⟨Ao551, co551, gb553⟩ w53 ⟨HO552, _, _, _⟩
 refine nP ?_
 refine o1 9 none (bz 10 1023) HT_ rfl (kS ?_)
 refine done_ (done_of HT_.out (by kernel_rfl)) ?_
 try go_wp2_with (first | ((with_reducible refine gate_callee (f := 80) rfl ?_); refine gC (some 21) Tryz.func80 (spec_BlockOk.calls (hr1_3 := rC HO552) (hc1_3 := rL HO552) (w := _) (h := A7.out)) ?_; intro w54 _))
 refine bodyPost_ret (results_ct rfl _ _ gb546 60 #[.string (⟨#[]⟩ : ByteArray), .int .i64 0, .string (⟨#[]⟩ : ByteArray), .slice none 0 0] (0, 0) _ rfl xB Tryz.underlying60 rfl (by kernel_rfl)) rfl ?_
 exact ⟨_, y0_18, Kd.R_nil _ _ _ _ _, UpW.out⟩

end Go.Proofs.YtnpbopadajbopaaGreatDoor.PFnBlocks
