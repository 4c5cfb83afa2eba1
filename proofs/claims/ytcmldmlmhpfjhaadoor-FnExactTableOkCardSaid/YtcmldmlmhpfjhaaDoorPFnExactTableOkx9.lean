-- By a program of this session, out of the translation (the print of the kit, with turns of its own). Lean checks it.
import Derived.Test.YtcmldmlmhpfjhaaDoorPFnExactTableOkx0
import Derived.Test.YtcmldmlmhpfjhaaDoorPFnExactTableOkx6
import Derived.Test.YtcmldmlmhpfjhaaDoorPFnExactTableOkx8
namespace Go.Proofs.YtcmldmlmhpfjhaaDoor.PFnExactTableOk
open Go.RowKit Go.Proofs.YtcmldmlmhpfjhaaDoorW.PrintWords Go.Proofs.YtcmldmlmhpfjhaaDoorW.PrintLast Go.Proofs.YtcmldmlmhpfjhaaDoorW.PrintMore
attribute [local go_sem] max2_int min2_int max_two min_two max_three min_three max_four min_four   -- for this text's walks alone
set_option linter.unusedVariables false
set_option linter.unusedSimpArgs false

/-! ### impl_PartOk: function 21 -/
def impl_PartOk.f (k : Nat) (a0_0 : Int) (a0_1 : Int) (a1_0 : Int) (a1_1 : ByteArray) (l1_2 : List Int) : Option (Bool) := (impl_ConfOk.f a0_0 a0_1).bind fun t319 => (if t319 = true then ((impl_within.f a1_0 1 60).bind fun t320 => (if t320 = true then (if a1_1.toList = ([] : List UInt8) then ((impl_SetOk.f k a0_0 l1_2).bind fun t321 => (if t321 = true then (some (decide ((l1_2.length : Int) > 0))) else (some false))) else ((impl_NameOk.f k a1_1).bind fun t322 => (if t322 = true then ((impl_ViewOf.f k a1_1).bind fun t323 => (if t323 = a1_0 then ((impl_SetOk.f k a0_0 l1_2).bind fun t324 => (if t324 = true then (some (decide ((l1_2.length : Int) > 0))) else (some false))) else (some false))) else (some false)))) else (some false))) else (some false))
theorem impl_PartOk.mono : ∀ a0 a1 a2 a3 a4 k, LeO (impl_PartOk.f k a0 a1 a2 a3 a4) (impl_PartOk.f (k + 1) a0 a1 a2 a3 a4) := by
  intro a0 a1 a2 a3 a4 k
  unfold impl_PartOk.f
  repeat' first
      | (with_reducible exact impl_NameOk.mono _ _)
      | (with_reducible exact impl_SetOk.mono _ _ _)
      | (with_reducible exact impl_ViewOf.mono _ _)
      | (with_reducible exact LeO.refl _)
      | (with_reducible exact LeO.none _)
      | (with_reducible refine LeO.ite ?_ ?_)
      | (with_reducible refine LeO.bind ?_ (fun _ => ?_))
      | exact impl_NameOk.mono _ _
      | exact impl_SetOk.mono _ _ _
      | exact impl_ViewOf.mono _ _
      | exact LeO.none _
      | refine LeO.ite ?_ ?_
      | refine LeO.bind ?_ (fun _ => ?_)
def impl_PartOk.T1 : Bool × List (List Nat × List Nat) := (true, [([], []), ([0], [0]), ([1, 1], [1]), ([2], [2]), ([3, 2], [2, 3]), ([4, 2, 2], [2, 4]), ([2, 5], [2, 5]), ([6, 5], [6]), ([7], [7]), ([8, 7], [7, 8]), ([9, 7], [7, 9]), ([10, 7, 7], [7, 10]), ([11], [11]), ([12, 11], [11, 12]), ([13, 11, 11], [11, 13]), ([14, 14, 11], [11, 14]), ([15], [15]), ([16, 15], [15, 16]), ([17, 15, 15], [15, 17]), ([15], [15]), ([19, 15], [15, 19]), ([18, 20, 15], [15, 18, 20]), ([15, 21, 11], [11, 15, 21]), ([11, 22, 7], [7, 11, 22]), ([7, 23], [7, 23]), ([24, 18], [24]), ([25], [25]), ([26, 25], [25, 26]), ([25], [25]), ([28, 25], [25, 28]), ([27, 29, 25, 25], [25, 27, 29]), ([25, 30], [25, 30]), ([31, 30], [31]), ([32], [32]), ([33, 32], [32, 33]), ([34, 32], [32, 34]), ([35, 32], [32, 35]), ([32, 36], [32, 36]), ([37, 32, 0, 1, 2, 3, 4, 5, 6, 7, 8, 9, 10, 11, 12, 13, 14, 15, 16, 17, 18, 19, 20, 21, 22, 23, 24, 25, 26, 27, 28, 29, 30, 31, 32, 33, 34, 35, 36, 37], [37])])
def impl_PartOk.B1 : List Nat := [0, 1, 3, 7, 15, 31, 63, 127, 255, 511, 1023, 2047, 4095, 8191, 16383, 32767, 65535, 131071, 262143, 65535, 589823, 2097151, 4194303, 8388607, 16777215, 33554431, 67108863, 134217727, 67108863, 335544319, 1073741823, 2147483647, 4294967295, 8589934591, 17179869183, 34359738367, 68719476735, 137438953471, 274877906943]
theorem impl_PartOk.tab1 : rtab .any (opsOf Tryd.f21 1) = impl_PartOk.T1 := by kernel_rfl
theorem impl_PartOk.bits1 : waitsOk impl_PartOk.T1.2 impl_PartOk.B1 = true := by kernel_rfl
set_option maxHeartbeats 8000000 in
set_option maxRecDepth 100000 in
theorem impl_PartOk.calls (k : Nat) (a0_0 : Int) (a0_1 : Int) (a1_0 : Int) (a1_1 : ByteArray) (A1_2 : Option Addr) (c1_2 : Nat) (l1_2 : List Int) (r : Bool) (w : World) (hr1_2 : Kd.C (Kd.int .i64) w A1_2 l1_2.length l1_2) (hc1_2 : l1_2.length ≤ c1_2) (h : impl_PartOk.f k a0_0 a0_1 a1_0 a1_1 l1_2 = some r) (hG : Glob w := by exact gG HG HB) :
    Calls Tryd.prog 21 #[.agg #[.int .i64 a0_0, .int .i64 a0_1], .agg #[.int .i64 a1_0, .string a1_1, .slice A1_2 l1_2.length c1_2]] w fun e w' => e = .returned (.bool r) ∧ Below w.heap.size w w' := by
  have HG := Aside0.mk hG
  clear hG
  have hu32 := Tryd.underlying32
  have hu34 := Tryd.underlying34
  have HR1_2 := Aside0.mk hr1_2
  have HC1_2 := Aside0.mk hc1_2
  clear hr1_2 hc1_2
  have HB := Aside0.mk (Below.refl w.heap.size w)
  have H : ((impl_ConfOk.f a0_0 a0_1).bind fun t319 => (if t319 = true then ((impl_within.f a1_0 1 60).bind fun t320 => (if t320 = true then (if a1_1.toList = ([] : List UInt8) then ((impl_SetOk.f k a0_0 l1_2).bind fun t321 => (if t321 = true then (some (decide ((l1_2.length : Int) > 0))) else (some false))) else ((impl_NameOk.f k a1_1).bind fun t322 => (if t322 = true then ((impl_ViewOf.f k a1_1).bind fun t323 => (if t323 = a1_0 then ((impl_SetOk.f k a0_0 l1_2).bind fun t324 => (if t324 = true then (some (decide ((l1_2.length : Int) > 0))) else (some false))) else (some false))) else (some false)))) else (some false))) else (some false))) = some r := h
  clear h
  obtain ⟨t319, A30, H⟩ := Option.bind_eq_some_iff.mp H
  try dsimp only at H
  have A3 := Aside0.mk A30
  clear A30
  by_cases c4 : t319 = true
  · subst c4
    rw [if_pos rfl] at H
    obtain ⟨t320, A50, H⟩ := Option.bind_eq_some_iff.mp H
    try dsimp only at H
    have A5 := Aside0.mk A50
    clear A50
    by_cases c6 : t320 = true
    · subst c6
      rw [if_pos rfl] at H
      by_cases c7 : a1_1.toList = ([] : List UInt8)
      · rw [if_pos c7] at H
        have c7b0 : (a1_1.toList == ([] : List UInt8)) = true := beq_iff_eq.mpr c7
        have c7b1 : (a1_1.toList != ([] : List UInt8)) = false := bne_eq_false_iff_eq.mpr c7
        clear c7
        obtain ⟨t321, A80, H⟩ := Option.bind_eq_some_iff.mp H
        try dsimp only at H
        have A8 := Aside0.mk A80
        clear A80
        by_cases c9 : t321 = true
        · subst c9
          rw [if_pos rfl] at H
          obtain rfl := Option.some.inj H
          go_enter Tryd.func21, Tryd.ntmps21
          try go_wp2_with (first | ((with_reducible refine gate_dst (N := 2) rfl ?_); (try (refine gate_guard (by rfl) ?_; dsimp only)); refine box_event ?hg (N := 2) ?hd (cs := #[.int .i64 a0_0, .int .i64 a0_1]) (t := 32) ?hr ?_; (case hd => rfl); (case hg => rfl); (case hr => first | (go_simp; done) | (go_simp; rfl)); intro gb317 hg w10 hbox hb; have BK317 := Aside0.mk (hbox); have GW317 := bg hg HB; have GJ317 := gi GW317; have GE317 := GW317; replace HB := bs HB hb; clear hb hbox hg) | ((with_reducible refine gate_dst (N := 3) rfl ?_); (try (refine gate_guard (by rfl) ?_; dsimp only)); refine box_event ?hg (N := 3) ?hd (cs := #[.int .i64 a1_0, .string a1_1, .slice A1_2 l1_2.length c1_2]) (t := 34) ?hr ?_; (case hd => rfl); (case hg => rfl); (case hr => first | (go_simp; done) | (go_simp; rfl)); intro gb318 hg w11 hbox hb; have BK318 := Aside0.mk (hbox); have GW318 := bg hg HB; have GJ318 := gi GW318; have GE318 := GW318; replace HB := bs HB hb; have NB317_318 := b1 BK317 hg; have NI317_318 := ni NB317_318; have NB318_317 := b2 BK317 hg; have NI318_317 := ni NB318_317; replace BK317 := bk BK317 hb; clear hb hbox hg))
          replace BK317 := Aside0.mk (blk_drew BK317.out)
          replace BK318 := Aside0.mk (blk_drew BK318.out)
          replace HB := Aside0.mk (below_drew1 HB.out)
          refine start_ (n := 39) (S := fun w' => w'.cell? ⟨gb317, 0, none⟩ = some (.int .i64 a0_0) ∧ w'.cell? ⟨gb317, 1, none⟩ = some (.int .i64 a0_1) ∧ w'.cell? ⟨gb318, 0, none⟩ = some (.int .i64 a1_0) ∧ w'.cell? ⟨gb318, 1, none⟩ = some (.string a1_1) ∧ w'.cell? ⟨gb318, 2, none⟩ = some (.slice A1_2 l1_2.length c1_2)) (ds := []) #[false, false, false, false, false, false, false, false, false, false, false, false, false, false, false, false, false, false, false, false, false, false, false, false, false, false, false, false, false, false, false, false, false, false, false, false, false, false, false] (by kernel_rfl) rfl rfl ⟨bc0 BK317.out, bc1 BK317.out, bc0 BK318.out, bc1 BK318.out, bc2 BK318.out⟩ (fun hHeld => ?_); refine with_tabW impl_PartOk.tab1 impl_PartOk.bits1 (fun HT_ HW_ => ?_)
          generalize w11.drew = w12 at BK317 BK318 HB hHeld ⊢
          refine tA 0 (some 5) (bz 39 1) HT_ HW_ hHeld ?_
          refine oA 1 (some 6) (bz 39 3) HT_ (fun K hK => ?_)
          refine gA Tryd.func76 #[.agg #[.int .i64 a0_0, .int .i64 a0_1]] ?_
          with_reducible refine (impl_ConfOk.calls a0_0 a0_1 true _ A3.out).mono ?_
          rintro e w13 ⟨rfl, hb⟩
          refine ⟨_, rfl, ?_⟩
          replace BK317 := bk BK317 hb
          replace BK318 := bk BK318 hb
          replace HB := bs HB hb
          (try clear hb)
          (try clear hb2)
          (try clear hk)
          (try clear hi)
          refine hK.out _ _ ⟨bc0 BK317.out, bc1 BK317.out, bc0 BK318.out, bc1 BK318.out, bc2 BK318.out⟩ (fun hHeld => ?_)
          clear hK K
          refine nA (some 6) ?_
          refine pA 2 (some 7) (bz 39 7) HT_ ?_
          refine pA 3 (some 8) (bz 39 15) HT_ ?_
          refine tA 4 (some 9) (bz 39 31) HT_ HW_ hHeld ?_
          refine oA 5 (some 10) (bz 39 63) HT_ (fun K hK => ?_)
          refine gA Tryd.func77 #[.int .i64 a1_0, .int .i64 1, .int .i64 60] ?_
          with_reducible refine (impl_within.calls a1_0 1 60 true _ A5.out).mono ?_
          rintro e w' ⟨rfl, ⟨nd, rfl⟩⟩
          refine ⟨_, rfl, ?_⟩
          refine hK.out _ _ ⟨bc0 BK317.out, bc1 BK317.out, bc0 BK318.out, bc1 BK318.out, bc2 BK318.out⟩ (fun hHeld => ?_)
          clear hK K
          refine nA (some 10) ?_
          refine pA 6 (some 11) (bz 39 127) HT_ ?_
          refine pA 7 (some 12) (bz 39 255) HT_ ?_
          refine pA 8 (some 13) (bz 39 511) HT_ ?_
          refine tA 9 (some 14) (bz 39 1023) HT_ HW_ hHeld ?_
          refine pA 10 (some 15) (bz 39 2047) HT_ ?_
          refine pA 11 (some 16) (bz 39 4095) HT_ ?_
          refine pU 12 (some 17) (bz 39 0x1fff) HT_ ?_
          refine pU 13 (some 18) (bz 39 0x3fff) HT_ ?_
          refine pU 14 (some 19) (bz 39 0x7fff) HT_ ?_
          refine pU 15 (some 20) (bz 39 0xffff) HT_ ?_
          refine pU 16 (some 21) (bz 39 0x1ffff) HT_ ?_
          refine pU 17 (some 22) (bz 39 0x3ffff) HT_ ?_
          refine pU 18 (some 23) (bz 39 0x7ffff) HT_ ?_
          refine pU 19 (some 24) (bz 39 0xfffff) HT_ ?_
          refine pU 20 (some 25) (bz 39 0x1fffff) HT_ ?_
          refine pU 21 (some 26) (bz 39 0x3fffff) HT_ ?_
          refine pU 22 (some 27) (bz 39 0x7fffff) HT_ ?_
          refine pA 23 (some 28) (bz 39 0xffffff) HT_ ?_
          refine pA 24 (some 29) (bz 39 0x1ffffff) HT_ ?_
          refine pA 25 (some 30) (bz 39 0x3ffffff) HT_ ?_
          refine pA 26 (some 31) (bz 39 0x7ffffff) HT_ ?_
          refine pA 28 (some 33) (bz 39 0x17ffffff) HT_ ?_
          refine tA 27 (some 32) (bz 39 0x1fffffff) HT_ HW_ hHeld ?_
          refine tA 29 (some 34) (bz 39 0x3fffffff) HT_ HW_ hHeld ?_
          refine oA 30 (some 35) (bz 39 0x7fffffff) HT_ (fun K hK => ?_)
          refine gA Tryd.func80 #[.int .i64 a0_0, .slice A1_2 l1_2.length c1_2] ?_
          with_reducible refine (impl_SetOk.calls k a0_0 _ _ l1_2 true _ ?side1 ?side2 A8.out).mono ?_
          (case side1 => exact (Kd.C_below HR1_2.out (bI HB.out)))
          (case side2 => exact HC1_2.out)
          rintro e w' ⟨rfl, ⟨nd, rfl⟩⟩
          refine ⟨_, rfl, ?_⟩
          refine hK.out _ _ ⟨bc0 BK317.out, bc1 BK317.out, bc0 BK318.out, bc1 BK318.out, bc2 BK318.out⟩ (fun hHeld => ?_)
          clear hK K
          refine nA (some 35) ?_
          refine pA 31 (some 36) (bz 39 0xffffffff) HT_ ?_
          refine pA 32 (some 37) (bz 39 0x1ffffffff) HT_ ?_
          refine pA 33 (some 38) (bz 39 0x3ffffffff) HT_ ?_
          refine tA 34 (some 39) (bz 39 0x7ffffffff) HT_ HW_ hHeld ?_
          refine pA 35 (some 40) (bz 39 0xfffffffff) HT_ ?_
          refine pA 36 (some 41) (bz 39 0x1fffffffff) HT_ ?_
          refine pA 37 (some 42) (bz 39 0x3fffffffff) HT_ ?_
          refine pA 38 (some 4) (bz 39 0x7fffffffff) HT_ ?_
          refine done_ (done_of HT_.out (by kernel_rfl)) ?_
          try go_wp2
          go_ret
          exact ⟨y0_4, bI HB.out⟩
        · replace c9 := Bool.eq_false_iff.mpr c9
          subst c9
          rw [if_neg (show ¬ (false = true) by decide)] at H
          obtain rfl := Option.some.inj H
          go_enter Tryd.func21, Tryd.ntmps21
          try go_wp2_with (first | ((with_reducible refine gate_dst (N := 2) rfl ?_); (try (refine gate_guard (by rfl) ?_; dsimp only)); refine box_event ?hg (N := 2) ?hd (cs := #[.int .i64 a0_0, .int .i64 a0_1]) (t := 32) ?hr ?_; (case hd => rfl); (case hg => rfl); (case hr => first | (go_simp; done) | (go_simp; rfl)); intro gb317 hg w14 hbox hb; have BK317 := Aside0.mk (hbox); have GW317 := bg hg HB; have GJ317 := gi GW317; have GE317 := GW317; replace HB := bs HB hb; clear hb hbox hg) | ((with_reducible refine gate_dst (N := 3) rfl ?_); (try (refine gate_guard (by rfl) ?_; dsimp only)); refine box_event ?hg (N := 3) ?hd (cs := #[.int .i64 a1_0, .string a1_1, .slice A1_2 l1_2.length c1_2]) (t := 34) ?hr ?_; (case hd => rfl); (case hg => rfl); (case hr => first | (go_simp; done) | (go_simp; rfl)); intro gb318 hg w15 hbox hb; have BK318 := Aside0.mk (hbox); have GW318 := bg hg HB; have GJ318 := gi GW318; have GE318 := GW318; replace HB := bs HB hb; have NB317_318 := b1 BK317 hg; have NI317_318 := ni NB317_318; have NB318_317 := b2 BK317 hg; have NI318_317 := ni NB318_317; replace BK317 := bk BK317 hb; clear hb hbox hg))
          replace BK317 := Aside0.mk (blk_drew BK317.out)
          replace BK318 := Aside0.mk (blk_drew BK318.out)
          replace HB := Aside0.mk (below_drew1 HB.out)
          refine start_ (n := 39) (S := fun w' => w'.cell? ⟨gb317, 0, none⟩ = some (.int .i64 a0_0) ∧ w'.cell? ⟨gb317, 1, none⟩ = some (.int .i64 a0_1) ∧ w'.cell? ⟨gb318, 0, none⟩ = some (.int .i64 a1_0) ∧ w'.cell? ⟨gb318, 1, none⟩ = some (.string a1_1) ∧ w'.cell? ⟨gb318, 2, none⟩ = some (.slice A1_2 l1_2.length c1_2)) (ds := []) #[false, false, false, false, false, false, false, false, false, false, false, false, false, false, false, false, false, false, false, false, false, false, false, false, false, false, false, false, false, false, false, false, false, false, false, false, false, false, false] (by kernel_rfl) rfl rfl ⟨bc0 BK317.out, bc1 BK317.out, bc0 BK318.out, bc1 BK318.out, bc2 BK318.out⟩ (fun hHeld => ?_); refine with_tabW impl_PartOk.tab1 impl_PartOk.bits1 (fun HT_ HW_ => ?_)
          generalize w15.drew = w16 at BK317 BK318 HB hHeld ⊢
          refine tA 0 (some 5) (bz 39 1) HT_ HW_ hHeld ?_
          refine oA 1 (some 6) (bz 39 3) HT_ (fun K hK => ?_)
          refine gA Tryd.func76 #[.agg #[.int .i64 a0_0, .int .i64 a0_1]] ?_
          with_reducible refine (impl_ConfOk.calls a0_0 a0_1 true _ A3.out).mono ?_
          rintro e w17 ⟨rfl, hb⟩
          refine ⟨_, rfl, ?_⟩
          replace BK317 := bk BK317 hb
          replace BK318 := bk BK318 hb
          replace HB := bs HB hb
          (try clear hb)
          (try clear hb2)
          (try clear hk)
          (try clear hi)
          refine hK.out _ _ ⟨bc0 BK317.out, bc1 BK317.out, bc0 BK318.out, bc1 BK318.out, bc2 BK318.out⟩ (fun hHeld => ?_)
          clear hK K
          refine nA (some 6) ?_
          refine pA 2 (some 7) (bz 39 7) HT_ ?_
          refine pA 3 (some 8) (bz 39 15) HT_ ?_
          refine tA 4 (some 9) (bz 39 31) HT_ HW_ hHeld ?_
          refine oA 5 (some 10) (bz 39 63) HT_ (fun K hK => ?_)
          refine gA Tryd.func77 #[.int .i64 a1_0, .int .i64 1, .int .i64 60] ?_
          with_reducible refine (impl_within.calls a1_0 1 60 true _ A5.out).mono ?_
          rintro e w' ⟨rfl, ⟨nd, rfl⟩⟩
          refine ⟨_, rfl, ?_⟩
          refine hK.out _ _ ⟨bc0 BK317.out, bc1 BK317.out, bc0 BK318.out, bc1 BK318.out, bc2 BK318.out⟩ (fun hHeld => ?_)
          clear hK K
          refine nA (some 10) ?_
          refine pA 6 (some 11) (bz 39 127) HT_ ?_
          refine pA 7 (some 12) (bz 39 255) HT_ ?_
          refine pA 8 (some 13) (bz 39 511) HT_ ?_
          refine tA 9 (some 14) (bz 39 1023) HT_ HW_ hHeld ?_
          refine pA 10 (some 15) (bz 39 2047) HT_ ?_
          refine pA 11 (some 16) (bz 39 4095) HT_ ?_
          refine pU 12 (some 17) (bz 39 0x1fff) HT_ ?_
          refine pU 13 (some 18) (bz 39 0x3fff) HT_ ?_
          refine pU 14 (some 19) (bz 39 0x7fff) HT_ ?_
          refine pU 15 (some 20) (bz 39 0xffff) HT_ ?_
          refine pU 16 (some 21) (bz 39 0x1ffff) HT_ ?_
          refine pU 17 (some 22) (bz 39 0x3ffff) HT_ ?_
          refine pU 18 (some 23) (bz 39 0x7ffff) HT_ ?_
          refine pU 19 (some 24) (bz 39 0xfffff) HT_ ?_
          refine pU 20 (some 25) (bz 39 0x1fffff) HT_ ?_
          refine pU 21 (some 26) (bz 39 0x3fffff) HT_ ?_
          refine pU 22 (some 27) (bz 39 0x7fffff) HT_ ?_
          refine pA 23 (some 28) (bz 39 0xffffff) HT_ ?_
          refine pA 24 (some 29) (bz 39 0x1ffffff) HT_ ?_
          refine pA 25 (some 30) (bz 39 0x3ffffff) HT_ ?_
          refine pA 26 (some 31) (bz 39 0x7ffffff) HT_ ?_
          refine pA 28 (some 33) (bz 39 0x17ffffff) HT_ ?_
          refine tA 27 (some 32) (bz 39 0x1fffffff) HT_ HW_ hHeld ?_
          refine tA 29 (some 34) (bz 39 0x3fffffff) HT_ HW_ hHeld ?_
          refine oA 30 (some 35) (bz 39 0x7fffffff) HT_ (fun K hK => ?_)
          refine gA Tryd.func80 #[.int .i64 a0_0, .slice A1_2 l1_2.length c1_2] ?_
          with_reducible refine (impl_SetOk.calls k a0_0 _ _ l1_2 false _ ?side1 ?side2 A8.out).mono ?_
          (case side1 => exact (Kd.C_below HR1_2.out (bI HB.out)))
          (case side2 => exact HC1_2.out)
          rintro e w' ⟨rfl, ⟨nd, rfl⟩⟩
          refine ⟨_, rfl, ?_⟩
          refine hK.out _ _ ⟨bc0 BK317.out, bc1 BK317.out, bc0 BK318.out, bc1 BK318.out, bc2 BK318.out⟩ (fun hHeld => ?_)
          clear hK K
          refine nA (some 35) ?_
          refine pA 31 (some 36) (bz 39 0xffffffff) HT_ ?_
          refine pA 32 (some 37) (bz 39 0x1ffffffff) HT_ ?_
          refine pU 33 (some 38) (bz 39 0x3ffffffff) HT_ ?_
          refine pU 34 (some 39) (bz 39 0x7ffffffff) HT_ ?_
          refine pU 35 (some 40) (bz 39 0xfffffffff) HT_ ?_
          refine pU 36 (some 41) (bz 39 0x1fffffffff) HT_ ?_
          refine pA 37 (some 42) (bz 39 0x3fffffffff) HT_ ?_
          refine pA 38 (some 4) (bz 39 0x7fffffffff) HT_ ?_
          refine done_ (done_of HT_.out (by kernel_rfl)) ?_
          try go_wp2
          go_ret
          exact ⟨y0_4, bI HB.out⟩
      · rw [if_neg c7] at H
        have c7b0 : (a1_1.toList == ([] : List UInt8)) = false := beq_eq_false_iff_ne.mpr c7
        have c7b1 : (a1_1.toList != ([] : List UInt8)) = true := bne_iff_ne.mpr c7
        obtain ⟨t322, A180, H⟩ := Option.bind_eq_some_iff.mp H
        try dsimp only at H
        have A18 := Aside0.mk A180
        clear A180
        by_cases c19 : t322 = true
        · subst c19
          rw [if_pos rfl] at H
          obtain ⟨t323, A200, H⟩ := Option.bind_eq_some_iff.mp H
          try dsimp only at H
          have A20 := Aside0.mk A200
          clear A200
          by_cases c21 : t323 = a1_0
          · rw [if_pos c21] at H
            have c21b0 : (t323 == a1_0) = true := beq_iff_eq.mpr c21
            have c21b1 : (t323 != a1_0) = false := bne_eq_false_iff_eq.mpr c21
            clear c21
            obtain ⟨t324, A220, H⟩ := Option.bind_eq_some_iff.mp H
            try dsimp only at H
            have A22 := Aside0.mk A220
            clear A220
            by_cases c23 : t324 = true
            · subst c23
              rw [if_pos rfl] at H
              obtain rfl := Option.some.inj H
              go_enter Tryd.func21, Tryd.ntmps21
              try go_wp2_with (first | ((with_reducible refine gate_dst (N := 2) rfl ?_); (try (refine gate_guard (by rfl) ?_; dsimp only)); refine box_event ?hg (N := 2) ?hd (cs := #[.int .i64 a0_0, .int .i64 a0_1]) (t := 32) ?hr ?_; (case hd => rfl); (case hg => rfl); (case hr => first | (go_simp; done) | (go_simp; rfl)); intro gb317 hg w24 hbox hb; have BK317 := Aside0.mk (hbox); have GW317 := bg hg HB; have GJ317 := gi GW317; have GE317 := GW317; replace HB := bs HB hb; clear hb hbox hg) | ((with_reducible refine gate_dst (N := 3) rfl ?_); (try (refine gate_guard (by rfl) ?_; dsimp only)); refine box_event ?hg (N := 3) ?hd (cs := #[.int .i64 a1_0, .string a1_1, .slice A1_2 l1_2.length c1_2]) (t := 34) ?hr ?_; (case hd => rfl); (case hg => rfl); (case hr => first | (go_simp; done) | (go_simp; rfl)); intro gb318 hg w25 hbox hb; have BK318 := Aside0.mk (hbox); have GW318 := bg hg HB; have GJ318 := gi GW318; have GE318 := GW318; replace HB := bs HB hb; have NB317_318 := b1 BK317 hg; have NI317_318 := ni NB317_318; have NB318_317 := b2 BK317 hg; have NI318_317 := ni NB318_317; replace BK317 := bk BK317 hb; clear hb hbox hg))
              replace BK317 := Aside0.mk (blk_drew BK317.out)
              replace BK318 := Aside0.mk (blk_drew BK318.out)
              replace HB := Aside0.mk (below_drew1 HB.out)
              refine start_ (n := 39) (S := fun w' => w'.cell? ⟨gb317, 0, none⟩ = some (.int .i64 a0_0) ∧ w'.cell? ⟨gb317, 1, none⟩ = some (.int .i64 a0_1) ∧ w'.cell? ⟨gb318, 0, none⟩ = some (.int .i64 a1_0) ∧ w'.cell? ⟨gb318, 1, none⟩ = some (.string a1_1) ∧ w'.cell? ⟨gb318, 2, none⟩ = some (.slice A1_2 l1_2.length c1_2)) (ds := []) #[false, false, false, false, false, false, false, false, false, false, false, false, false, false, false, false, false, false, false, false, false, false, false, false, false, false, false, false, false, false, false, false, false, false, false, false, false, false, false] (by kernel_rfl) rfl rfl ⟨bc0 BK317.out, bc1 BK317.out, bc0 BK318.out, bc1 BK318.out, bc2 BK318.out⟩ (fun hHeld => ?_); refine with_tabW impl_PartOk.tab1 impl_PartOk.bits1 (fun HT_ HW_ => ?_)
              generalize w25.drew = w26 at BK317 BK318 HB hHeld ⊢
              refine tA 0 (some 5) (bz 39 1) HT_ HW_ hHeld ?_
              refine oA 1 (some 6) (bz 39 3) HT_ (fun K hK => ?_)
              refine gA Tryd.func76 #[.agg #[.int .i64 a0_0, .int .i64 a0_1]] ?_
              with_reducible refine (impl_ConfOk.calls a0_0 a0_1 true _ A3.out).mono ?_
              rintro e w27 ⟨rfl, hb⟩
              refine ⟨_, rfl, ?_⟩
              replace BK317 := bk BK317 hb
              replace BK318 := bk BK318 hb
              replace HB := bs HB hb
              (try clear hb)
              (try clear hb2)
              (try clear hk)
              (try clear hi)
              refine hK.out _ _ ⟨bc0 BK317.out, bc1 BK317.out, bc0 BK318.out, bc1 BK318.out, bc2 BK318.out⟩ (fun hHeld => ?_)
              clear hK K
              refine nA (some 6) ?_
              refine pA 2 (some 7) (bz 39 7) HT_ ?_
              refine pA 3 (some 8) (bz 39 15) HT_ ?_
              refine tA 4 (some 9) (bz 39 31) HT_ HW_ hHeld ?_
              refine oA 5 (some 10) (bz 39 63) HT_ (fun K hK => ?_)
              refine gA Tryd.func77 #[.int .i64 a1_0, .int .i64 1, .int .i64 60] ?_
              with_reducible refine (impl_within.calls a1_0 1 60 true _ A5.out).mono ?_
              rintro e w' ⟨rfl, ⟨nd, rfl⟩⟩
              refine ⟨_, rfl, ?_⟩
              refine hK.out _ _ ⟨bc0 BK317.out, bc1 BK317.out, bc0 BK318.out, bc1 BK318.out, bc2 BK318.out⟩ (fun hHeld => ?_)
              clear hK K
              refine nA (some 10) ?_
              refine pA 6 (some 11) (bz 39 127) HT_ ?_
              refine pA 7 (some 12) (bz 39 255) HT_ ?_
              refine pA 8 (some 13) (bz 39 511) HT_ ?_
              refine tA 9 (some 14) (bz 39 1023) HT_ HW_ hHeld ?_
              refine pA 10 (some 15) (bz 39 2047) HT_ ?_
              refine pA 11 (some 16) (bz 39 4095) HT_ ?_
              refine pA 12 (some 17) (bz 39 0x1fff) HT_ ?_
              refine tA 13 (some 18) (bz 39 0x3fff) HT_ HW_ hHeld ?_
              refine oA 14 (some 19) (bz 39 0x7fff) HT_ (fun K hK => ?_)
              refine gA Tryd.func78 #[.string a1_1] ?_
              with_reducible refine (impl_NameOk.calls k a1_1 true _ A18.out).mono ?_
              rintro e w28 ⟨rfl, hb⟩
              refine ⟨_, rfl, ?_⟩
              replace BK317 := bk BK317 hb
              replace BK318 := bk BK318 hb
              replace HB := bs HB hb
              (try clear hb)
              (try clear hb2)
              (try clear hk)
              (try clear hi)
              refine hK.out _ _ ⟨bc0 BK317.out, bc1 BK317.out, bc0 BK318.out, bc1 BK318.out, bc2 BK318.out⟩ (fun hHeld => ?_)
              clear hK K
              refine nA (some 19) ?_
              refine pA 15 (some 20) (bz 39 0xffff) HT_ ?_
              refine pA 16 (some 21) (bz 39 0x1ffff) HT_ ?_
              refine pA 19 (some 24) (bz 39 0x9ffff) HT_ ?_
              refine tA 17 (some 22) (bz 39 0xbffff) HT_ HW_ hHeld ?_
              refine tA 20 (some 25) (bz 39 0x1bffff) HT_ HW_ hHeld ?_
              refine oA 18 (some 23) (bz 39 0x1fffff) HT_ (fun K hK => ?_)
              refine gA Tryd.func79 #[.string a1_1] ?_
              with_reducible refine (impl_ViewOf.calls k a1_1 t323 _ A20.out).mono ?_
              rintro e w29 ⟨rfl, hb⟩
              refine ⟨_, rfl, ?_⟩
              replace BK317 := bk BK317 hb
              replace BK318 := bk BK318 hb
              replace HB := bs HB hb
              (try clear hb)
              (try clear hb2)
              (try clear hk)
              (try clear hi)
              refine hK.out _ _ ⟨bc0 BK317.out, bc1 BK317.out, bc0 BK318.out, bc1 BK318.out, bc2 BK318.out⟩ (fun hHeld => ?_)
              clear hK K
              refine nA (some 23) ?_
              refine pA 21 (some 26) (bz 39 0x3fffff) HT_ ?_
              refine pA 22 (some 27) (bz 39 0x7fffff) HT_ ?_
              refine pA 23 (some 28) (bz 39 0xffffff) HT_ ?_
              refine pA 24 (some 29) (bz 39 0x1ffffff) HT_ ?_
              refine pA 25 (some 30) (bz 39 0x3ffffff) HT_ ?_
              refine pA 26 (some 31) (bz 39 0x7ffffff) HT_ ?_
              refine pA 28 (some 33) (bz 39 0x17ffffff) HT_ ?_
              refine tA 27 (some 32) (bz 39 0x1fffffff) HT_ HW_ hHeld ?_
              refine tA 29 (some 34) (bz 39 0x3fffffff) HT_ HW_ hHeld ?_
              refine oA 30 (some 35) (bz 39 0x7fffffff) HT_ (fun K hK => ?_)
              refine gA Tryd.func80 #[.int .i64 a0_0, .slice A1_2 l1_2.length c1_2] ?_
              with_reducible refine (impl_SetOk.calls k a0_0 _ _ l1_2 true _ ?side1 ?side2 A22.out).mono ?_
              (case side1 => exact ch HR1_2 HB)
              (case side2 => exact HC1_2.out)
              rintro e w' ⟨rfl, ⟨nd, rfl⟩⟩
              refine ⟨_, rfl, ?_⟩
              refine hK.out _ _ ⟨bc0 BK317.out, bc1 BK317.out, bc0 BK318.out, bc1 BK318.out, bc2 BK318.out⟩ (fun hHeld => ?_)
              clear hK K
              refine nA (some 35) ?_
              refine pA 31 (some 36) (bz 39 0xffffffff) HT_ ?_
              refine pA 32 (some 37) (bz 39 0x1ffffffff) HT_ ?_
              refine pA 33 (some 38) (bz 39 0x3ffffffff) HT_ ?_
              refine tA 34 (some 39) (bz 39 0x7ffffffff) HT_ HW_ hHeld ?_
              refine pA 35 (some 40) (bz 39 0xfffffffff) HT_ ?_
              refine pA 36 (some 41) (bz 39 0x1fffffffff) HT_ ?_
              refine pA 37 (some 42) (bz 39 0x3fffffffff) HT_ ?_
              refine pA 38 (some 4) (bz 39 0x7fffffffff) HT_ ?_
              refine done_ (done_of HT_.out (by kernel_rfl)) ?_
              try go_wp2
              go_ret
              exact ⟨y0_4, bI HB.out⟩
            · replace c23 := Bool.eq_false_iff.mpr c23
              subst c23
              rw [if_neg (show ¬ (false = true) by decide)] at H
              obtain rfl := Option.some.inj H
              go_enter Tryd.func21, Tryd.ntmps21
              try go_wp2_with (first | ((with_reducible refine gate_dst (N := 2) rfl ?_); (try (refine gate_guard (by rfl) ?_; dsimp only)); refine box_event ?hg (N := 2) ?hd (cs := #[.int .i64 a0_0, .int .i64 a0_1]) (t := 32) ?hr ?_; (case hd => rfl); (case hg => rfl); (case hr => first | (go_simp; done) | (go_simp; rfl)); intro gb317 hg w30 hbox hb; have BK317 := Aside0.mk (hbox); have GW317 := bg hg HB; have GJ317 := gi GW317; have GE317 := GW317; replace HB := bs HB hb; clear hb hbox hg) | ((with_reducible refine gate_dst (N := 3) rfl ?_); (try (refine gate_guard (by rfl) ?_; dsimp only)); refine box_event ?hg (N := 3) ?hd (cs := #[.int .i64 a1_0, .string a1_1, .slice A1_2 l1_2.length c1_2]) (t := 34) ?hr ?_; (case hd => rfl); (case hg => rfl); (case hr => first | (go_simp; done) | (go_simp; rfl)); intro gb318 hg w31 hbox hb; have BK318 := Aside0.mk (hbox); have GW318 := bg hg HB; have GJ318 := gi GW318; have GE318 := GW318; replace HB := bs HB hb; have NB317_318 := b1 BK317 hg; have NI317_318 := ni NB317_318; have NB318_317 := b2 BK317 hg; have NI318_317 := ni NB318_317; replace BK317 := bk BK317 hb; clear hb hbox hg))
              replace BK317 := Aside0.mk (blk_drew BK317.out)
              replace BK318 := Aside0.mk (blk_drew BK318.out)
              replace HB := Aside0.mk (below_drew1 HB.out)
              refine start_ (n := 39) (S := fun w' => w'.cell? ⟨gb317, 0, none⟩ = some (.int .i64 a0_0) ∧ w'.cell? ⟨gb317, 1, none⟩ = some (.int .i64 a0_1) ∧ w'.cell? ⟨gb318, 0, none⟩ = some (.int .i64 a1_0) ∧ w'.cell? ⟨gb318, 1, none⟩ = some (.string a1_1) ∧ w'.cell? ⟨gb318, 2, none⟩ = some (.slice A1_2 l1_2.length c1_2)) (ds := []) #[false, false, false, false, false, false, false, false, false, false, false, false, false, false, false, false, false, false, false, false, false, false, false, false, false, false, false, false, false, false, false, false, false, false, false, false, false, false, false] (by kernel_rfl) rfl rfl ⟨bc0 BK317.out, bc1 BK317.out, bc0 BK318.out, bc1 BK318.out, bc2 BK318.out⟩ (fun hHeld => ?_); refine with_tabW impl_PartOk.tab1 impl_PartOk.bits1 (fun HT_ HW_ => ?_)
              generalize w31.drew = w32 at BK317 BK318 HB hHeld ⊢
              refine tA 0 (some 5) (bz 39 1) HT_ HW_ hHeld ?_
              refine oA 1 (some 6) (bz 39 3) HT_ (fun K hK => ?_)
              refine gA Tryd.func76 #[.agg #[.int .i64 a0_0, .int .i64 a0_1]] ?_
              with_reducible refine (impl_ConfOk.calls a0_0 a0_1 true _ A3.out).mono ?_
              rintro e w33 ⟨rfl, hb⟩
              refine ⟨_, rfl, ?_⟩
              replace BK317 := bk BK317 hb
              replace BK318 := bk BK318 hb
              replace HB := bs HB hb
              (try clear hb)
              (try clear hb2)
              (try clear hk)
              (try clear hi)
              refine hK.out _ _ ⟨bc0 BK317.out, bc1 BK317.out, bc0 BK318.out, bc1 BK318.out, bc2 BK318.out⟩ (fun hHeld => ?_)
              clear hK K
              refine nA (some 6) ?_
              refine pA 2 (some 7) (bz 39 7) HT_ ?_
              refine pA 3 (some 8) (bz 39 15) HT_ ?_
              refine tA 4 (some 9) (bz 39 31) HT_ HW_ hHeld ?_
              refine oA 5 (some 10) (bz 39 63) HT_ (fun K hK => ?_)
              refine gA Tryd.func77 #[.int .i64 a1_0, .int .i64 1, .int .i64 60] ?_
              with_reducible refine (impl_within.calls a1_0 1 60 true _ A5.out).mono ?_
              rintro e w' ⟨rfl, ⟨nd, rfl⟩⟩
              refine ⟨_, rfl, ?_⟩
              refine hK.out _ _ ⟨bc0 BK317.out, bc1 BK317.out, bc0 BK318.out, bc1 BK318.out, bc2 BK318.out⟩ (fun hHeld => ?_)
              clear hK K
              refine nA (some 10) ?_
              refine pA 6 (some 11) (bz 39 127) HT_ ?_
              refine pA 7 (some 12) (bz 39 255) HT_ ?_
              refine pA 8 (some 13) (bz 39 511) HT_ ?_
              refine tA 9 (some 14) (bz 39 1023) HT_ HW_ hHeld ?_
              refine pA 10 (some 15) (bz 39 2047) HT_ ?_
              refine pA 11 (some 16) (bz 39 4095) HT_ ?_
              refine pA 12 (some 17) (bz 39 0x1fff) HT_ ?_
              refine tA 13 (some 18) (bz 39 0x3fff) HT_ HW_ hHeld ?_
              refine oA 14 (some 19) (bz 39 0x7fff) HT_ (fun K hK => ?_)
              refine gA Tryd.func78 #[.string a1_1] ?_
              with_reducible refine (impl_NameOk.calls k a1_1 true _ A18.out).mono ?_
              rintro e w34 ⟨rfl, hb⟩
              refine ⟨_, rfl, ?_⟩
              replace BK317 := bk BK317 hb
              replace BK318 := bk BK318 hb
              replace HB := bs HB hb
              (try clear hb)
              (try clear hb2)
              (try clear hk)
              (try clear hi)
              refine hK.out _ _ ⟨bc0 BK317.out, bc1 BK317.out, bc0 BK318.out, bc1 BK318.out, bc2 BK318.out⟩ (fun hHeld => ?_)
              clear hK K
              refine nA (some 19) ?_
              refine pA 15 (some 20) (bz 39 0xffff) HT_ ?_
              refine pA 16 (some 21) (bz 39 0x1ffff) HT_ ?_
              refine pA 19 (some 24) (bz 39 0x9ffff) HT_ ?_
              refine tA 17 (some 22) (bz 39 0xbffff) HT_ HW_ hHeld ?_
              refine tA 20 (some 25) (bz 39 0x1bffff) HT_ HW_ hHeld ?_
              refine oA 18 (some 23) (bz 39 0x1fffff) HT_ (fun K hK => ?_)
              refine gA Tryd.func79 #[.string a1_1] ?_
              with_reducible refine (impl_ViewOf.calls k a1_1 t323 _ A20.out).mono ?_
              rintro e w35 ⟨rfl, hb⟩
              refine ⟨_, rfl, ?_⟩
              replace BK317 := bk BK317 hb
              replace BK318 := bk BK318 hb
              replace HB := bs HB hb
              (try clear hb)
              (try clear hb2)
              (try clear hk)
              (try clear hi)
              refine hK.out _ _ ⟨bc0 BK317.out, bc1 BK317.out, bc0 BK318.out, bc1 BK318.out, bc2 BK318.out⟩ (fun hHeld => ?_)
              clear hK K
              refine nA (some 23) ?_
              refine pA 21 (some 26) (bz 39 0x3fffff) HT_ ?_
              refine pA 22 (some 27) (bz 39 0x7fffff) HT_ ?_
              refine pA 23 (some 28) (bz 39 0xffffff) HT_ ?_
              refine pA 24 (some 29) (bz 39 0x1ffffff) HT_ ?_
              refine pA 25 (some 30) (bz 39 0x3ffffff) HT_ ?_
              refine pA 26 (some 31) (bz 39 0x7ffffff) HT_ ?_
              refine pA 28 (some 33) (bz 39 0x17ffffff) HT_ ?_
              refine tA 27 (some 32) (bz 39 0x1fffffff) HT_ HW_ hHeld ?_
              refine tA 29 (some 34) (bz 39 0x3fffffff) HT_ HW_ hHeld ?_
              refine oA 30 (some 35) (bz 39 0x7fffffff) HT_ (fun K hK => ?_)
              refine gA Tryd.func80 #[.int .i64 a0_0, .slice A1_2 l1_2.length c1_2] ?_
              with_reducible refine (impl_SetOk.calls k a0_0 _ _ l1_2 false _ ?side1 ?side2 A22.out).mono ?_
              (case side1 => exact ch HR1_2 HB)
              (case side2 => exact HC1_2.out)
              rintro e w' ⟨rfl, ⟨nd, rfl⟩⟩
              refine ⟨_, rfl, ?_⟩
              refine hK.out _ _ ⟨bc0 BK317.out, bc1 BK317.out, bc0 BK318.out, bc1 BK318.out, bc2 BK318.out⟩ (fun hHeld => ?_)
              clear hK K
              refine nA (some 35) ?_
              refine pA 31 (some 36) (bz 39 0xffffffff) HT_ ?_
              refine pA 32 (some 37) (bz 39 0x1ffffffff) HT_ ?_
              refine pU 33 (some 38) (bz 39 0x3ffffffff) HT_ ?_
              refine pU 34 (some 39) (bz 39 0x7ffffffff) HT_ ?_
              refine pU 35 (some 40) (bz 39 0xfffffffff) HT_ ?_
              refine pU 36 (some 41) (bz 39 0x1fffffffff) HT_ ?_
              refine pA 37 (some 42) (bz 39 0x3fffffffff) HT_ ?_
              refine pA 38 (some 4) (bz 39 0x7fffffffff) HT_ ?_
              refine done_ (done_of HT_.out (by kernel_rfl)) ?_
              try go_wp2
              go_ret
              exact ⟨y0_4, bI HB.out⟩
          · rw [if_neg c21] at H
            have c21b0 : (t323 == a1_0) = false := beq_eq_false_iff_ne.mpr c21
            have c21b1 : (t323 != a1_0) = true := bne_iff_ne.mpr c21
            obtain rfl := Option.some.inj H
            go_enter Tryd.func21, Tryd.ntmps21
            try go_wp2_with (first | ((with_reducible refine gate_dst (N := 2) rfl ?_); (try (refine gate_guard (by rfl) ?_; dsimp only)); refine box_event ?hg (N := 2) ?hd (cs := #[.int .i64 a0_0, .int .i64 a0_1]) (t := 32) ?hr ?_; (case hd => rfl); (case hg => rfl); (case hr => first | (go_simp; done) | (go_simp; rfl)); intro gb317 hg w36 hbox hb; have BK317 := Aside0.mk (hbox); have GW317 := bg hg HB; have GJ317 := gi GW317; have GE317 := GW317; replace HB := bs HB hb; clear hb hbox hg) | ((with_reducible refine gate_dst (N := 3) rfl ?_); (try (refine gate_guard (by rfl) ?_; dsimp only)); refine box_event ?hg (N := 3) ?hd (cs := #[.int .i64 a1_0, .string a1_1, .slice A1_2 l1_2.length c1_2]) (t := 34) ?hr ?_; (case hd => rfl); (case hg => rfl); (case hr => first | (go_simp; done) | (go_simp; rfl)); intro gb318 hg w37 hbox hb; have BK318 := Aside0.mk (hbox); have GW318 := bg hg HB; have GJ318 := gi GW318; have GE318 := GW318; replace HB := bs HB hb; have NB317_318 := b1 BK317 hg; have NI317_318 := ni NB317_318; have NB318_317 := b2 BK317 hg; have NI318_317 := ni NB318_317; replace BK317 := bk BK317 hb; clear hb hbox hg))
            replace BK317 := Aside0.mk (blk_drew BK317.out)
            replace BK318 := Aside0.mk (blk_drew BK318.out)
            replace HB := Aside0.mk (below_drew1 HB.out)
            refine start_ (n := 39) (S := fun w' => w'.cell? ⟨gb317, 0, none⟩ = some (.int .i64 a0_0) ∧ w'.cell? ⟨gb317, 1, none⟩ = some (.int .i64 a0_1) ∧ w'.cell? ⟨gb318, 0, none⟩ = some (.int .i64 a1_0) ∧ w'.cell? ⟨gb318, 1, none⟩ = some (.string a1_1) ∧ w'.cell? ⟨gb318, 2, none⟩ = some (.slice A1_2 l1_2.length c1_2)) (ds := []) #[false, false, false, false, false, false, false, false, false, false, false, false, false, false, false, false, false, false, false, false, false, false, false, false, false, false, false, false, false, false, false, false, false, false, false, false, false, false, false] (by kernel_rfl) rfl rfl ⟨bc0 BK317.out, bc1 BK317.out, bc0 BK318.out, bc1 BK318.out, bc2 BK318.out⟩ (fun hHeld => ?_); refine with_tabW impl_PartOk.tab1 impl_PartOk.bits1 (fun HT_ HW_ => ?_)
            generalize w37.drew = w38 at BK317 BK318 HB hHeld ⊢
            refine tA 0 (some 5) (bz 39 1) HT_ HW_ hHeld ?_
            refine oA 1 (some 6) (bz 39 3) HT_ (fun K hK => ?_)
            refine gA Tryd.func76 #[.agg #[.int .i64 a0_0, .int .i64 a0_1]] ?_
            with_reducible refine (impl_ConfOk.calls a0_0 a0_1 true _ A3.out).mono ?_
            rintro e w39 ⟨rfl, hb⟩
            refine ⟨_, rfl, ?_⟩
            replace BK317 := bk BK317 hb
            replace BK318 := bk BK318 hb
            replace HB := bs HB hb
            (try clear hb)
            (try clear hb2)
            (try clear hk)
            (try clear hi)
            refine hK.out _ _ ⟨bc0 BK317.out, bc1 BK317.out, bc0 BK318.out, bc1 BK318.out, bc2 BK318.out⟩ (fun hHeld => ?_)
            clear hK K
            refine nA (some 6) ?_
            refine pA 2 (some 7) (bz 39 7) HT_ ?_
            refine pA 3 (some 8) (bz 39 15) HT_ ?_
            refine tA 4 (some 9) (bz 39 31) HT_ HW_ hHeld ?_
            refine oA 5 (some 10) (bz 39 63) HT_ (fun K hK => ?_)
            refine gA Tryd.func77 #[.int .i64 a1_0, .int .i64 1, .int .i64 60] ?_
            with_reducible refine (impl_within.calls a1_0 1 60 true _ A5.out).mono ?_
            rintro e w' ⟨rfl, ⟨nd, rfl⟩⟩
            refine ⟨_, rfl, ?_⟩
            refine hK.out _ _ ⟨bc0 BK317.out, bc1 BK317.out, bc0 BK318.out, bc1 BK318.out, bc2 BK318.out⟩ (fun hHeld => ?_)
            clear hK K
            refine nA (some 10) ?_
            refine pA 6 (some 11) (bz 39 127) HT_ ?_
            refine pA 7 (some 12) (bz 39 255) HT_ ?_
            refine pA 8 (some 13) (bz 39 511) HT_ ?_
            refine tA 9 (some 14) (bz 39 1023) HT_ HW_ hHeld ?_
            refine pA 10 (some 15) (bz 39 2047) HT_ ?_
            refine pA 11 (some 16) (bz 39 4095) HT_ ?_
            refine pA 12 (some 17) (bz 39 0x1fff) HT_ ?_
            refine tA 13 (some 18) (bz 39 0x3fff) HT_ HW_ hHeld ?_
            refine oA 14 (some 19) (bz 39 0x7fff) HT_ (fun K hK => ?_)
            refine gA Tryd.func78 #[.string a1_1] ?_
            with_reducible refine (impl_NameOk.calls k a1_1 true _ A18.out).mono ?_
            rintro e w40 ⟨rfl, hb⟩
            refine ⟨_, rfl, ?_⟩
            replace BK317 := bk BK317 hb
            replace BK318 := bk BK318 hb
            replace HB := bs HB hb
            (try clear hb)
            (try clear hb2)
            (try clear hk)
            (try clear hi)
            refine hK.out _ _ ⟨bc0 BK317.out, bc1 BK317.out, bc0 BK318.out, bc1 BK318.out, bc2 BK318.out⟩ (fun hHeld => ?_)
            clear hK K
            refine nA (some 19) ?_
            refine pA 15 (some 20) (bz 39 0xffff) HT_ ?_
            refine pA 16 (some 21) (bz 39 0x1ffff) HT_ ?_
            refine pA 19 (some 24) (bz 39 0x9ffff) HT_ ?_
            refine tA 17 (some 22) (bz 39 0xbffff) HT_ HW_ hHeld ?_
            refine tA 20 (some 25) (bz 39 0x1bffff) HT_ HW_ hHeld ?_
            refine oA 18 (some 23) (bz 39 0x1fffff) HT_ (fun K hK => ?_)
            refine gA Tryd.func79 #[.string a1_1] ?_
            with_reducible refine (impl_ViewOf.calls k a1_1 t323 _ A20.out).mono ?_
            rintro e w41 ⟨rfl, hb⟩
            refine ⟨_, rfl, ?_⟩
            replace BK317 := bk BK317 hb
            replace BK318 := bk BK318 hb
            replace HB := bs HB hb
            (try clear hb)
            (try clear hb2)
            (try clear hk)
            (try clear hi)
            refine hK.out _ _ ⟨bc0 BK317.out, bc1 BK317.out, bc0 BK318.out, bc1 BK318.out, bc2 BK318.out⟩ (fun hHeld => ?_)
            clear hK K
            refine nA (some 23) ?_
            refine pA 21 (some 26) (bz 39 0x3fffff) HT_ ?_
            refine pA 22 (some 27) (bz 39 0x7fffff) HT_ ?_
            refine pA 23 (some 28) (bz 39 0xffffff) HT_ ?_
            refine pA 24 (some 29) (bz 39 0x1ffffff) HT_ ?_
            refine pA 25 (some 30) (bz 39 0x3ffffff) HT_ ?_
            refine pU 26 (some 31) (bz 39 0x7ffffff) HT_ ?_
            refine pU 27 (some 32) (bz 39 0xfffffff) HT_ ?_
            refine pU 28 (some 33) (bz 39 0x1fffffff) HT_ ?_
            refine pU 29 (some 34) (bz 39 0x3fffffff) HT_ ?_
            refine pU 30 (some 35) (bz 39 0x7fffffff) HT_ ?_
            refine pA 31 (some 36) (bz 39 0xffffffff) HT_ ?_
            refine pA 32 (some 37) (bz 39 0x1ffffffff) HT_ ?_
            refine pU 33 (some 38) (bz 39 0x3ffffffff) HT_ ?_
            refine pU 34 (some 39) (bz 39 0x7ffffffff) HT_ ?_
            refine pU 35 (some 40) (bz 39 0xfffffffff) HT_ ?_
            refine pU 36 (some 41) (bz 39 0x1fffffffff) HT_ ?_
            refine pA 37 (some 42) (bz 39 0x3fffffffff) HT_ ?_
            refine pA 38 (some 4) (bz 39 0x7fffffffff) HT_ ?_
            refine done_ (done_of HT_.out (by kernel_rfl)) ?_
            try go_wp2
            go_ret
            exact ⟨y0_4, bI HB.out⟩
        · replace c19 := Bool.eq_false_iff.mpr c19
          subst c19
          rw [if_neg (show ¬ (false = true) by decide)] at H
          obtain rfl := Option.some.inj H
          go_enter Tryd.func21, Tryd.ntmps21
          try go_wp2_with (first | ((with_reducible refine gate_dst (N := 2) rfl ?_); (try (refine gate_guard (by rfl) ?_; dsimp only)); refine box_event ?hg (N := 2) ?hd (cs := #[.int .i64 a0_0, .int .i64 a0_1]) (t := 32) ?hr ?_; (case hd => rfl); (case hg => rfl); (case hr => first | (go_simp; done) | (go_simp; rfl)); intro gb317 hg w42 hbox hb; have BK317 := Aside0.mk (hbox); have GW317 := bg hg HB; have GJ317 := gi GW317; have GE317 := GW317; replace HB := bs HB hb; clear hb hbox hg) | ((with_reducible refine gate_dst (N := 3) rfl ?_); (try (refine gate_guard (by rfl) ?_; dsimp only)); refine box_event ?hg (N := 3) ?hd (cs := #[.int .i64 a1_0, .string a1_1, .slice A1_2 l1_2.length c1_2]) (t := 34) ?hr ?_; (case hd => rfl); (case hg => rfl); (case hr => first | (go_simp; done) | (go_simp; rfl)); intro gb318 hg w43 hbox hb; have BK318 := Aside0.mk (hbox); have GW318 := bg hg HB; have GJ318 := gi GW318; have GE318 := GW318; replace HB := bs HB hb; have NB317_318 := b1 BK317 hg; have NI317_318 := ni NB317_318; have NB318_317 := b2 BK317 hg; have NI318_317 := ni NB318_317; replace BK317 := bk BK317 hb; clear hb hbox hg))
          replace BK317 := Aside0.mk (blk_drew BK317.out)
          replace BK318 := Aside0.mk (blk_drew BK318.out)
          replace HB := Aside0.mk (below_drew1 HB.out)
          refine start_ (n := 39) (S := fun w' => w'.cell? ⟨gb317, 0, none⟩ = some (.int .i64 a0_0) ∧ w'.cell? ⟨gb317, 1, none⟩ = some (.int .i64 a0_1) ∧ w'.cell? ⟨gb318, 0, none⟩ = some (.int .i64 a1_0) ∧ w'.cell? ⟨gb318, 1, none⟩ = some (.string a1_1) ∧ w'.cell? ⟨gb318, 2, none⟩ = some (.slice A1_2 l1_2.length c1_2)) (ds := []) #[false, false, false, false, false, false, false, false, false, false, false, false, false, false, false, false, false, false, false, false, false, false, false, false, false, false, false, false, false, false, false, false, false, false, false, false, false, false, false] (by kernel_rfl) rfl rfl ⟨bc0 BK317.out, bc1 BK317.out, bc0 BK318.out, bc1 BK318.out, bc2 BK318.out⟩ (fun hHeld => ?_); refine with_tabW impl_PartOk.tab1 impl_PartOk.bits1 (fun HT_ HW_ => ?_)
          generalize w43.drew = w44 at BK317 BK318 HB hHeld ⊢
          refine tA 0 (some 5) (bz 39 1) HT_ HW_ hHeld ?_
          refine oA 1 (some 6) (bz 39 3) HT_ (fun K hK => ?_)
          refine gA Tryd.func76 #[.agg #[.int .i64 a0_0, .int .i64 a0_1]] ?_
          with_reducible refine (impl_ConfOk.calls a0_0 a0_1 true _ A3.out).mono ?_
          rintro e w45 ⟨rfl, hb⟩
          refine ⟨_, rfl, ?_⟩
          replace BK317 := bk BK317 hb
          replace BK318 := bk BK318 hb
          replace HB := bs HB hb
          (try clear hb)
          (try clear hb2)
          (try clear hk)
          (try clear hi)
          refine hK.out _ _ ⟨bc0 BK317.out, bc1 BK317.out, bc0 BK318.out, bc1 BK318.out, bc2 BK318.out⟩ (fun hHeld => ?_)
          clear hK K
          refine nA (some 6) ?_
          refine pA 2 (some 7) (bz 39 7) HT_ ?_
          refine pA 3 (some 8) (bz 39 15) HT_ ?_
          refine tA 4 (some 9) (bz 39 31) HT_ HW_ hHeld ?_
          refine oA 5 (some 10) (bz 39 63) HT_ (fun K hK => ?_)
          refine gA Tryd.func77 #[.int .i64 a1_0, .int .i64 1, .int .i64 60] ?_
          with_reducible refine (impl_within.calls a1_0 1 60 true _ A5.out).mono ?_
          rintro e w' ⟨rfl, ⟨nd, rfl⟩⟩
          refine ⟨_, rfl, ?_⟩
          refine hK.out _ _ ⟨bc0 BK317.out, bc1 BK317.out, bc0 BK318.out, bc1 BK318.out, bc2 BK318.out⟩ (fun hHeld => ?_)
          clear hK K
          refine nA (some 10) ?_
          refine pA 6 (some 11) (bz 39 127) HT_ ?_
          refine pA 7 (some 12) (bz 39 255) HT_ ?_
          refine pA 8 (some 13) (bz 39 511) HT_ ?_
          refine tA 9 (some 14) (bz 39 1023) HT_ HW_ hHeld ?_
          refine pA 10 (some 15) (bz 39 2047) HT_ ?_
          refine pA 11 (some 16) (bz 39 4095) HT_ ?_
          refine pA 12 (some 17) (bz 39 0x1fff) HT_ ?_
          refine tA 13 (some 18) (bz 39 0x3fff) HT_ HW_ hHeld ?_
          refine oA 14 (some 19) (bz 39 0x7fff) HT_ (fun K hK => ?_)
          refine gA Tryd.func78 #[.string a1_1] ?_
          with_reducible refine (impl_NameOk.calls k a1_1 false _ A18.out).mono ?_
          rintro e w46 ⟨rfl, hb⟩
          refine ⟨_, rfl, ?_⟩
          replace BK317 := bk BK317 hb
          replace BK318 := bk BK318 hb
          replace HB := bs HB hb
          (try clear hb)
          (try clear hb2)
          (try clear hk)
          (try clear hi)
          refine hK.out _ _ ⟨bc0 BK317.out, bc1 BK317.out, bc0 BK318.out, bc1 BK318.out, bc2 BK318.out⟩ (fun hHeld => ?_)
          clear hK K
          refine nA (some 19) ?_
          refine pA 15 (some 20) (bz 39 0xffff) HT_ ?_
          refine pU 16 (some 21) (bz 39 0x1ffff) HT_ ?_
          refine pU 17 (some 22) (bz 39 0x3ffff) HT_ ?_
          refine pU 18 (some 23) (bz 39 0x7ffff) HT_ ?_
          refine pU 19 (some 24) (bz 39 0xfffff) HT_ ?_
          refine pU 20 (some 25) (bz 39 0x1fffff) HT_ ?_
          refine pU 21 (some 26) (bz 39 0x3fffff) HT_ ?_
          refine pA 22 (some 27) (bz 39 0x7fffff) HT_ ?_
          refine pA 23 (some 28) (bz 39 0xffffff) HT_ ?_
          refine pA 24 (some 29) (bz 39 0x1ffffff) HT_ ?_
          refine pA 25 (some 30) (bz 39 0x3ffffff) HT_ ?_
          refine pU 26 (some 31) (bz 39 0x7ffffff) HT_ ?_
          refine pU 27 (some 32) (bz 39 0xfffffff) HT_ ?_
          refine pU 28 (some 33) (bz 39 0x1fffffff) HT_ ?_
          refine pU 29 (some 34) (bz 39 0x3fffffff) HT_ ?_
          refine pU 30 (some 35) (bz 39 0x7fffffff) HT_ ?_
          refine pA 31 (some 36) (bz 39 0xffffffff) HT_ ?_
          refine pA 32 (some 37) (bz 39 0x1ffffffff) HT_ ?_
          refine pU 33 (some 38) (bz 39 0x3ffffffff) HT_ ?_
          refine pU 34 (some 39) (bz 39 0x7ffffffff) HT_ ?_
          refine pU 35 (some 40) (bz 39 0xfffffffff) HT_ ?_
          refine pU 36 (some 41) (bz 39 0x1fffffffff) HT_ ?_
          refine pA 37 (some 42) (bz 39 0x3fffffffff) HT_ ?_
          refine pA 38 (some 4) (bz 39 0x7fffffffff) HT_ ?_
          refine done_ (done_of HT_.out (by kernel_rfl)) ?_
          try go_wp2
          go_ret
          exact ⟨y0_4, bI HB.out⟩
    · replace c6 := Bool.eq_false_iff.mpr c6
      subst c6
      rw [if_neg (show ¬ (false = true) by decide)] at H
      obtain rfl := Option.some.inj H
      go_enter Tryd.func21, Tryd.ntmps21
      try go_wp2_with (first | ((with_reducible refine gate_dst (N := 2) rfl ?_); (try (refine gate_guard (by rfl) ?_; dsimp only)); refine box_event ?hg (N := 2) ?hd (cs := #[.int .i64 a0_0, .int .i64 a0_1]) (t := 32) ?hr ?_; (case hd => rfl); (case hg => rfl); (case hr => first | (go_simp; done) | (go_simp; rfl)); intro gb317 hg w47 hbox hb; have BK317 := Aside0.mk (hbox); have GW317 := bg hg HB; have GJ317 := gi GW317; have GE317 := GW317; replace HB := bs HB hb; clear hb hbox hg) | ((with_reducible refine gate_dst (N := 3) rfl ?_); (try (refine gate_guard (by rfl) ?_; dsimp only)); refine box_event ?hg (N := 3) ?hd (cs := #[.int .i64 a1_0, .string a1_1, .slice A1_2 l1_2.length c1_2]) (t := 34) ?hr ?_; (case hd => rfl); (case hg => rfl); (case hr => first | (go_simp; done) | (go_simp; rfl)); intro gb318 hg w48 hbox hb; have BK318 := Aside0.mk (hbox); have GW318 := bg hg HB; have GJ318 := gi GW318; have GE318 := GW318; replace HB := bs HB hb; have NB317_318 := b1 BK317 hg; have NI317_318 := ni NB317_318; have NB318_317 := b2 BK317 hg; have NI318_317 := ni NB318_317; replace BK317 := bk BK317 hb; clear hb hbox hg))
      replace BK317 := Aside0.mk (blk_drew BK317.out)
      replace BK318 := Aside0.mk (blk_drew BK318.out)
      replace HB := Aside0.mk (below_drew1 HB.out)
      refine start_ (n := 39) (S := fun w' => w'.cell? ⟨gb317, 0, none⟩ = some (.int .i64 a0_0) ∧ w'.cell? ⟨gb317, 1, none⟩ = some (.int .i64 a0_1) ∧ w'.cell? ⟨gb318, 0, none⟩ = some (.int .i64 a1_0) ∧ w'.cell? ⟨gb318, 1, none⟩ = some (.string a1_1) ∧ w'.cell? ⟨gb318, 2, none⟩ = some (.slice A1_2 l1_2.length c1_2)) (ds := []) #[false, false, false, false, false, false, false, false, false, false, false, false, false, false, false, false, false, false, false, false, false, false, false, false, false, false, false, false, false, false, false, false, false, false, false, false, false, false, false] (by kernel_rfl) rfl rfl ⟨bc0 BK317.out, bc1 BK317.out, bc0 BK318.out, bc1 BK318.out, bc2 BK318.out⟩ (fun hHeld => ?_); refine with_tabW impl_PartOk.tab1 impl_PartOk.bits1 (fun HT_ HW_ => ?_)
      generalize w48.drew = w49 at BK317 BK318 HB hHeld ⊢
      refine tA 0 (some 5) (bz 39 1) HT_ HW_ hHeld ?_
      refine oA 1 (some 6) (bz 39 3) HT_ (fun K hK => ?_)
      refine gA Tryd.func76 #[.agg #[.int .i64 a0_0, .int .i64 a0_1]] ?_
      with_reducible refine (impl_ConfOk.calls a0_0 a0_1 true _ A3.out).mono ?_
      rintro e w50 ⟨rfl, hb⟩
      refine ⟨_, rfl, ?_⟩
      replace BK317 := bk BK317 hb
      replace BK318 := bk BK318 hb
      replace HB := bs HB hb
      (try clear hb)
      (try clear hb2)
      (try clear hk)
      (try clear hi)
      refine hK.out _ _ ⟨bc0 BK317.out, bc1 BK317.out, bc0 BK318.out, bc1 BK318.out, bc2 BK318.out⟩ (fun hHeld => ?_)
      clear hK K
      refine nA (some 6) ?_
      refine pA 2 (some 7) (bz 39 7) HT_ ?_
      refine pA 3 (some 8) (bz 39 15) HT_ ?_
      refine tA 4 (some 9) (bz 39 31) HT_ HW_ hHeld ?_
      refine oA 5 (some 10) (bz 39 63) HT_ (fun K hK => ?_)
      refine gA Tryd.func77 #[.int .i64 a1_0, .int .i64 1, .int .i64 60] ?_
      with_reducible refine (impl_within.calls a1_0 1 60 false _ A5.out).mono ?_
      rintro e w' ⟨rfl, ⟨nd, rfl⟩⟩
      refine ⟨_, rfl, ?_⟩
      refine hK.out _ _ ⟨bc0 BK317.out, bc1 BK317.out, bc0 BK318.out, bc1 BK318.out, bc2 BK318.out⟩ (fun hHeld => ?_)
      clear hK K
      refine nA (some 10) ?_
      refine pA 6 (some 11) (bz 39 127) HT_ ?_
      refine pA 7 (some 12) (bz 39 255) HT_ ?_
      refine pU 8 (some 13) (bz 39 511) HT_ ?_
      refine pU 9 (some 14) (bz 39 1023) HT_ ?_
      refine pU 10 (some 15) (bz 39 2047) HT_ ?_
      refine pU 11 (some 16) (bz 39 4095) HT_ ?_
      refine pU 12 (some 17) (bz 39 0x1fff) HT_ ?_
      refine pU 13 (some 18) (bz 39 0x3fff) HT_ ?_
      refine pU 14 (some 19) (bz 39 0x7fff) HT_ ?_
      refine pU 15 (some 20) (bz 39 0xffff) HT_ ?_
      refine pU 16 (some 21) (bz 39 0x1ffff) HT_ ?_
      refine pU 17 (some 22) (bz 39 0x3ffff) HT_ ?_
      refine pU 18 (some 23) (bz 39 0x7ffff) HT_ ?_
      refine pU 19 (some 24) (bz 39 0xfffff) HT_ ?_
      refine pU 20 (some 25) (bz 39 0x1fffff) HT_ ?_
      refine pU 21 (some 26) (bz 39 0x3fffff) HT_ ?_
      refine pU 22 (some 27) (bz 39 0x7fffff) HT_ ?_
      refine pU 23 (some 28) (bz 39 0xffffff) HT_ ?_
      refine pA 24 (some 29) (bz 39 0x1ffffff) HT_ ?_
      refine pA 25 (some 30) (bz 39 0x3ffffff) HT_ ?_
      refine pU 26 (some 31) (bz 39 0x7ffffff) HT_ ?_
      refine pU 27 (some 32) (bz 39 0xfffffff) HT_ ?_
      refine pU 28 (some 33) (bz 39 0x1fffffff) HT_ ?_
      refine pU 29 (some 34) (bz 39 0x3fffffff) HT_ ?_
      refine pU 30 (some 35) (bz 39 0x7fffffff) HT_ ?_
      refine pA 31 (some 36) (bz 39 0xffffffff) HT_ ?_
      refine pA 32 (some 37) (bz 39 0x1ffffffff) HT_ ?_
      refine pU 33 (some 38) (bz 39 0x3ffffffff) HT_ ?_
      refine pU 34 (some 39) (bz 39 0x7ffffffff) HT_ ?_
      refine pU 35 (some 40) (bz 39 0xfffffffff) HT_ ?_
      refine pU 36 (some 41) (bz 39 0x1fffffffff) HT_ ?_
      refine pA 37 (some 42) (bz 39 0x3fffffffff) HT_ ?_
      refine pA 38 (some 4) (bz 39 0x7fffffffff) HT_ ?_
      refine done_ (done_of HT_.out (by kernel_rfl)) ?_
      try go_wp2
      go_ret
      exact ⟨y0_4, bI HB.out⟩
  · replace c4 := Bool.eq_false_iff.mpr c4
    subst c4
    rw [if_neg (show ¬ (false = true) by decide)] at H
    obtain rfl := Option.some.inj H
    go_enter Tryd.func21, Tryd.ntmps21
    try go_wp2_with (first | ((with_reducible refine gate_dst (N := 2) rfl ?_); (try (refine gate_guard (by rfl) ?_; dsimp only)); refine box_event ?hg (N := 2) ?hd (cs := #[.int .i64 a0_0, .int .i64 a0_1]) (t := 32) ?hr ?_; (case hd => rfl); (case hg => rfl); (case hr => first | (go_simp; done) | (go_simp; rfl)); intro gb317 hg w51 hbox hb; have BK317 := Aside0.mk (hbox); have GW317 := bg hg HB; have GJ317 := gi GW317; have GE317 := GW317; replace HB := bs HB hb; clear hb hbox hg) | ((with_reducible refine gate_dst (N := 3) rfl ?_); (try (refine gate_guard (by rfl) ?_; dsimp only)); refine box_event ?hg (N := 3) ?hd (cs := #[.int .i64 a1_0, .string a1_1, .slice A1_2 l1_2.length c1_2]) (t := 34) ?hr ?_; (case hd => rfl); (case hg => rfl); (case hr => first | (go_simp; done) | (go_simp; rfl)); intro gb318 hg w52 hbox hb; have BK318 := Aside0.mk (hbox); have GW318 := bg hg HB; have GJ318 := gi GW318; have GE318 := GW318; replace HB := bs HB hb; have NB317_318 := b1 BK317 hg; have NI317_318 := ni NB317_318; have NB318_317 := b2 BK317 hg; have NI318_317 := ni NB318_317; replace BK317 := bk BK317 hb; clear hb hbox hg))
    replace BK317 := Aside0.mk (blk_drew BK317.out)
    replace BK318 := Aside0.mk (blk_drew BK318.out)
    replace HB := Aside0.mk (below_drew1 HB.out)
    refine start_ (n := 39) (S := fun w' => w'.cell? ⟨gb317, 0, none⟩ = some (.int .i64 a0_0) ∧ w'.cell? ⟨gb317, 1, none⟩ = some (.int .i64 a0_1)) (ds := []) #[false, false, false, false, false, false, false, false, false, false, false, false, false, false, false, false, false, false, false, false, false, false, false, false, false, false, false, false, false, false, false, false, false, false, false, false, false, false, false] (by kernel_rfl) rfl rfl ⟨bc0 BK317.out, bc1 BK317.out⟩ (fun hHeld => ?_); refine with_tabW impl_PartOk.tab1 impl_PartOk.bits1 (fun HT_ HW_ => ?_)
    generalize w52.drew = w53 at BK317 BK318 HB hHeld ⊢
    refine tA 0 (some 5) (bz 39 1) HT_ HW_ hHeld ?_
    refine oA 1 (some 6) (bz 39 3) HT_ (fun K hK => ?_)
    refine gA Tryd.func76 #[.agg #[.int .i64 a0_0, .int .i64 a0_1]] ?_
    with_reducible refine (impl_ConfOk.calls a0_0 a0_1 false _ A3.out).mono ?_
    rintro e w54 ⟨rfl, hb⟩
    refine ⟨_, rfl, ?_⟩
    replace BK317 := bk BK317 hb
    replace BK318 := bk BK318 hb
    replace HB := bs HB hb
    (try clear hb)
    (try clear hb2)
    (try clear hk)
    (try clear hi)
    refine hK.out _ _ ⟨bc0 BK317.out, bc1 BK317.out⟩ (fun hHeld => ?_)
    clear hK K
    refine nA (some 6) ?_
    refine pA 2 (some 7) (bz 39 7) HT_ ?_
    refine pU 3 (some 8) (bz 39 15) HT_ ?_
    refine pU 4 (some 9) (bz 39 31) HT_ ?_
    refine pU 5 (some 10) (bz 39 63) HT_ ?_
    refine pA 6 (some 11) (bz 39 127) HT_ ?_
    refine pA 7 (some 12) (bz 39 255) HT_ ?_
    refine pU 8 (some 13) (bz 39 511) HT_ ?_
    refine pU 9 (some 14) (bz 39 1023) HT_ ?_
    refine pU 10 (some 15) (bz 39 2047) HT_ ?_
    refine pU 11 (some 16) (bz 39 4095) HT_ ?_
    refine pU 12 (some 17) (bz 39 0x1fff) HT_ ?_
    refine pU 13 (some 18) (bz 39 0x3fff) HT_ ?_
    refine pU 14 (some 19) (bz 39 0x7fff) HT_ ?_
    refine pU 15 (some 20) (bz 39 0xffff) HT_ ?_
    refine pU 16 (some 21) (bz 39 0x1ffff) HT_ ?_
    refine pU 17 (some 22) (bz 39 0x3ffff) HT_ ?_
    refine pU 18 (some 23) (bz 39 0x7ffff) HT_ ?_
    refine pU 19 (some 24) (bz 39 0xfffff) HT_ ?_
    refine pU 20 (some 25) (bz 39 0x1fffff) HT_ ?_
    refine pU 21 (some 26) (bz 39 0x3fffff) HT_ ?_
    refine pU 22 (some 27) (bz 39 0x7fffff) HT_ ?_
    refine pU 23 (some 28) (bz 39 0xffffff) HT_ ?_
    refine pA 24 (some 29) (bz 39 0x1ffffff) HT_ ?_
    refine pA 25 (some 30) (bz 39 0x3ffffff) HT_ ?_
    refine pU 26 (some 31) (bz 39 0x7ffffff) HT_ ?_
    refine pU 27 (some 32) (bz 39 0xfffffff) HT_ ?_
    refine pU 28 (some 33) (bz 39 0x1fffffff) HT_ ?_
    refine pU 29 (some 34) (bz 39 0x3fffffff) HT_ ?_
    refine pU 30 (some 35) (bz 39 0x7fffffff) HT_ ?_
    refine pA 31 (some 36) (bz 39 0xffffffff) HT_ ?_
    refine pA 32 (some 37) (bz 39 0x1ffffffff) HT_ ?_
    refine pU 33 (some 38) (bz 39 0x3ffffffff) HT_ ?_
    refine pU 34 (some 39) (bz 39 0x7ffffffff) HT_ ?_
    refine pU 35 (some 40) (bz 39 0xfffffffff) HT_ ?_
    refine pU 36 (some 41) (bz 39 0x1fffffffff) HT_ ?_
    refine pA 37 (some 42) (bz 39 0x3fffffffff) HT_ ?_
    refine pA 38 (some 4) (bz 39 0x7fffffffff) HT_ ?_
    refine done_ (done_of HT_.out (by kernel_rfl)) ?_
    try go_wp2
    go_ret
    exact ⟨y0_4, bI HB.out⟩

end Go.Proofs.YtcmldmlmhpfjhaaDoor.PFnExactTableOk
