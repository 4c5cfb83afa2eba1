-- By a program of this session, out of the translation (the print of the kit, with turns of its own). Lean checks it.
import Derived.Test.YtcmldmlmhpfjhaaDoorPFnExactTableOkx0
import Derived.Test.YtcmldmlmhpfjhaaDoorPFnExactTableOkx1
import Derived.Test.YtcmldmlmhpfjhaaDoorPFnExactTableOkx3
namespace Go.Proofs.YtcmldmlmhpfjhaaDoor.PFnExactTableOk
open Go.RowKit Go.Proofs.YtcmldmlmhpfjhaaDoorW.PrintWords Go.Proofs.YtcmldmlmhpfjhaaDoorW.PrintLast Go.Proofs.YtcmldmlmhpfjhaaDoorW.PrintMore
attribute [local go_sem] max2_int min2_int max_two min_two max_three min_three max_four min_four   -- for this text's walks alone
set_option linter.unusedVariables false
set_option linter.unusedSimpArgs false

/-! ### spec_PartOk: function 18 -/
def spec_PartOk.j0 : Nat → Bool → Int → ByteArray → List Int → Option (Bool)
  | 0, _, _, _, _ => none
  | k + 1, x27, x215000, x215001, x215002 => if x27 = true then (some false) else (if x215001.toList = ([] : List UInt8) then (some true) else ((spec_NameOk.f k x215001).bind fun t218 => (if t218 = true then ((spec_ViewOf.f k x215001).bind fun t219 => (some (t219 == x215000))) else (some false))))
def spec_PartOk.f (k : Nat) (a0_0 : Int) (a0_1 : Int) (a1_0 : Int) (a1_1 : ByteArray) (l1_2 : List Int) : Option (Bool) := (spec_ConfOk.f a0_0 a0_1).bind fun t215 => (if t215 = true then ((spec_l1In.f a1_0 1 60).bind fun t216 => (if t216 = true then ((spec_SetOk.f k a0_0 l1_2).bind fun t217 => (if t217 = true then (spec_PartOk.j0 k ((l1_2.length : Int) == 0) a1_0 a1_1 l1_2) else (spec_PartOk.j0 k true a1_0 a1_1 l1_2))) else (spec_PartOk.j0 k true a1_0 a1_1 l1_2))) else (spec_PartOk.j0 k true a1_0 a1_1 l1_2))
theorem spec_PartOk.mono_l : ∀ k, (∀ y0 y1 y2 y3, LeO (spec_PartOk.j0 k y0 y1 y2 y3) (spec_PartOk.j0 (k + 1) y0 y1 y2 y3))
  | 0 => fun _ _ _ _ r h => by simp [spec_PartOk.j0] at h
  | k + 1 => by
    have ih0 := spec_PartOk.mono_l k
    · intro y0 y1 y2 y3
      unfold spec_PartOk.j0
      repeat' first
      | (with_reducible exact ih0 _ _ _ _)
      | (with_reducible exact spec_NameOk.mono _ _)
      | (with_reducible exact spec_SetOk.mono _ _ _)
      | (with_reducible exact spec_ViewOf.mono _ _)
      | (with_reducible exact LeO.refl _)
      | (with_reducible exact LeO.none _)
      | (with_reducible refine LeO.ite ?_ ?_)
      | (with_reducible refine LeO.bind ?_ (fun _ => ?_))
      | exact ih0 _ _ _ _
      | exact spec_NameOk.mono _ _
      | exact spec_SetOk.mono _ _ _
      | exact spec_ViewOf.mono _ _
      | exact LeO.none _
      | refine LeO.ite ?_ ?_
      | refine LeO.bind ?_ (fun _ => ?_)
theorem spec_PartOk.mono : ∀ a0 a1 a2 a3 a4 k, LeO (spec_PartOk.f k a0 a1 a2 a3 a4) (spec_PartOk.f (k + 1) a0 a1 a2 a3 a4) := by
  intro a0 a1 a2 a3 a4 k
  have ih0 := spec_PartOk.mono_l k
  unfold spec_PartOk.f
  repeat' first
      | (with_reducible exact ih0 _ _ _ _)
      | (with_reducible exact spec_NameOk.mono _ _)
      | (with_reducible exact spec_SetOk.mono _ _ _)
      | (with_reducible exact spec_ViewOf.mono _ _)
      | (with_reducible exact LeO.refl _)
      | (with_reducible exact LeO.none _)
      | (with_reducible refine LeO.ite ?_ ?_)
      | (with_reducible refine LeO.bind ?_ (fun _ => ?_))
      | exact ih0 _ _ _ _
      | exact spec_NameOk.mono _ _
      | exact spec_SetOk.mono _ _ _
      | exact spec_ViewOf.mono _ _
      | exact LeO.none _
      | refine LeO.ite ?_ ?_
      | refine LeO.bind ?_ (fun _ => ?_)
def spec_PartOk.T3 : Bool × List (List Nat × List Nat) := (true, [([], []), ([0], [0]), ([1], [1]), ([2], [2]), ([3], [3]), ([4, 3], [3, 4]), ([5, 3, 3], [3, 5]), ([6, 6, 3], [3, 6]), ([7], [7]), ([8, 7], [7, 8]), ([9, 7, 7], [7, 9]), ([7], [7]), ([11, 7], [7, 11]), ([10, 12, 7], [7, 10, 12]), ([7, 13, 3], [3, 7, 13]), ([3, 14], [3, 14]), ([15, 10, 0, 1, 2, 3, 4, 5, 6, 7, 8, 9, 10, 11, 12, 13, 14, 15], [15])])
def spec_PartOk.B3 : List Nat := [0, 1, 3, 7, 15, 31, 63, 127, 255, 511, 1023, 255, 2303, 8191, 16383, 32767, 65535]
theorem spec_PartOk.tab3 : rtab .any (opsOf Tryd.f18 3) = spec_PartOk.T3 := by kernel_rfl
theorem spec_PartOk.bits3 : waitsOk spec_PartOk.T3.2 spec_PartOk.B3 = true := by kernel_rfl
set_option maxHeartbeats 8000000 in
set_option maxRecDepth 100000 in
theorem spec_PartOk.calls (k : Nat) (a0_0 : Int) (a0_1 : Int) (a1_0 : Int) (a1_1 : ByteArray) (A1_2 : Option Addr) (c1_2 : Nat) (l1_2 : List Int) (r : Bool) (w : World) (hr1_2 : Kd.C (Kd.int .i64) w A1_2 l1_2.length l1_2) (hc1_2 : l1_2.length ≤ c1_2) (h : spec_PartOk.f k a0_0 a0_1 a1_0 a1_1 l1_2 = some r) :
    Calls Tryd.prog 18 #[.agg #[.int .i64 a0_0, .int .i64 a0_1], .agg #[.int .i64 a1_0, .string a1_1, .slice A1_2 l1_2.length c1_2]] w fun e w' => e = .returned (.bool r) ∧ Below w.heap.size w w' := by
  have hu32 := Tryd.underlying32
  have hu34 := Tryd.underlying34
  have HR1_2 := Aside0.mk hr1_2
  have HC1_2 := Aside0.mk hc1_2
  clear hr1_2 hc1_2
  have HB := Aside0.mk (Below.refl w.heap.size w)
  have H : ((spec_ConfOk.f a0_0 a0_1).bind fun t215 => (if t215 = true then ((spec_l1In.f a1_0 1 60).bind fun t216 => (if t216 = true then ((spec_SetOk.f k a0_0 l1_2).bind fun t217 => (if t217 = true then (spec_PartOk.j0 k ((l1_2.length : Int) == 0) a1_0 a1_1 l1_2) else (spec_PartOk.j0 k true a1_0 a1_1 l1_2))) else (spec_PartOk.j0 k true a1_0 a1_1 l1_2))) else (spec_PartOk.j0 k true a1_0 a1_1 l1_2))) = some r := h
  clear h
  have HC3 := Aside0.mk H
  clear H
  go_enter Tryd.func18, Tryd.ntmps18
  go_upto_region 1 with (first | ((with_reducible refine gate_dst (N := 2) rfl ?_); (try (refine gate_guard (by rfl) ?_; dsimp only)); refine box_event ?hg (N := 2) ?hd (cs := #[.int .i64 a0_0, .int .i64 a0_1]) (t := 32) ?hr ?_; (case hd => rfl); (case hg => rfl); (case hr => first | (go_simp; done) | (go_simp; rfl)); intro gb213 hg w4 hbox hb; have BK213 := Aside0.mk (hbox); have GW213 := bg hg HB; have GJ213 := gi GW213; have GE213 := GW213; replace HB := bs HB hb; clear hb hbox hg) | ((with_reducible refine gate_dst (N := 3) rfl ?_); (try (refine gate_guard (by rfl) ?_; dsimp only)); refine box_event ?hg (N := 3) ?hd (cs := #[.int .i64 a1_0, .string a1_1, .slice A1_2 l1_2.length c1_2]) (t := 34) ?hr ?_; (case hd => rfl); (case hg => rfl); (case hr => first | (go_simp; done) | (go_simp; rfl)); intro gb214 hg w5 hbox hb; have BK214 := Aside0.mk (hbox); have GW214 := bg hg HB; have GJ214 := gi GW214; have GE214 := GW214; replace HB := bs HB hb; have NB213_214 := b1 BK213 hg; have NI213_214 := ni NB213_214; have NB214_213 := b2 BK213 hg; have NI214_213 := ni NB214_213; replace BK213 := bk BK213 hb; clear hb hbox hg))
  (try simp only [Act.put, List.setIfInBounds_toArray, List.set_cons_zero, List.set_cons_succ])
  go_cut [27] (fun v27 wc => ∃ (kq : Nat) (x27_2 : Bool), v27 = .bool x27_2 ∧ Aside0 (spec_PartOk.j0 kq x27_2 a1_0 a1_1 l1_2 = some r) ∧ Aside0 (kq ≤ k) ∧ Aside0 (wc.heap[gb213]? = some (.cells #[.int .i64 a0_0, .int .i64 a0_1] 32 (0, 0))) ∧ Aside0 (wc.heap[gb214]? = some (.cells #[.int .i64 a1_0, .string a1_1, (.slice A1_2 l1_2.length c1_2)] 34 (0, 0))) ∧ Aside0 (Below w.heap.size w wc))
  case first =>
    have H := HC3.out
    clear HC3
    obtain ⟨t215, A60, H⟩ := Option.bind_eq_some_iff.mp H
    try dsimp only at H
    have A6 := Aside0.mk A60
    clear A60
    by_cases c7 : t215 = true
    · subst c7
      rw [if_pos rfl] at H
      obtain ⟨t216, A80, H⟩ := Option.bind_eq_some_iff.mp H
      try dsimp only at H
      have A8 := Aside0.mk A80
      clear A80
      by_cases c9 : t216 = true
      · subst c9
        rw [if_pos rfl] at H
        obtain ⟨t217, A100, H⟩ := Option.bind_eq_some_iff.mp H
        try dsimp only at H
        have A10 := Aside0.mk A100
        clear A100
        by_cases c11 : t217 = true
        · subst c11
          rw [if_pos rfl] at H
          have H' := Aside0.mk H
          clear H
          have hnb12 := NB213_214.out
          have hnc12 := NB214_213.out
          have hcz13_0 := bc0 BK213.out
          have hcz13_1 := bc1 BK213.out
          have hfz13_0 := blk_frozen BK213.out 0
          have hfz13_1 := blk_frozen BK213.out 1
          go_wp2_with (first | ((with_reducible refine gate_callee (f := 70) rfl ?_); refine gB (some 6) Tryd.func70 #[.agg #[.int .i64 a0_0, .int .i64 a0_1]] ?_; (with_reducible refine (spec_ConfOk.calls a0_0 a0_1 true _ A6.out).mono ?_); rintro e w14 ⟨rfl, hb⟩; refine ⟨_, rfl, ?_⟩; replace BK213 := bk BK213 hb; replace BK214 := bk BK214 hb; replace HB := bs HB hb; (try clear hb); (try clear hb2); (try clear hk); (try clear hi); obtain ⟨hcz15_0, hcz15_1, hcz15_2, hfz15_0, hfz15_1, hfz15_2⟩ := cs3 BK214) | (go_at_call 71; (with_reducible refine (spec_l1In.calls a1_0 1 60 true _ A8.out).mono ?_); rintro e w' ⟨rfl, ⟨nd, rfl⟩⟩; obtain ⟨hcz16_0, hcz16_1, hfz16_0, hfz16_1⟩ := cs2 BK213) | (go_at_call 72; (with_reducible refine (spec_SetOk.calls k a0_0 _ _ l1_2 true _ ?side1 ?side2 A10.out).mono ?_); (case side1 => exact (Kd.C_below HR1_2.out (bI HB.out))); (case side2 => exact HC1_2.out); rintro e w' ⟨rfl, ⟨nd, rfl⟩⟩))
          go_meet
          case rel => exact ⟨_, (((l1_2.length : Int) == 0)), y0_8, H', ⟨y0_9⟩, ⟨gI BK213.out⟩, ⟨gI BK214.out⟩, ⟨bI HB.out⟩⟩
        · replace c11 := Bool.eq_false_iff.mpr c11
          subst c11
          rw [if_neg (show ¬ (false = true) by decide)] at H
          have H' := Aside0.mk H
          clear H
          have hnb17 := NB213_214.out
          have hnc17 := NB214_213.out
          have hcz18_0 := bc0 BK213.out
          have hcz18_1 := bc1 BK213.out
          have hfz18_0 := blk_frozen BK213.out 0
          have hfz18_1 := blk_frozen BK213.out 1
          go_wp2_with (first | ((with_reducible refine gate_callee (f := 70) rfl ?_); refine gB (some 6) Tryd.func70 #[.agg #[.int .i64 a0_0, .int .i64 a0_1]] ?_; (with_reducible refine (spec_ConfOk.calls a0_0 a0_1 true _ A6.out).mono ?_); rintro e w19 ⟨rfl, hb⟩; refine ⟨_, rfl, ?_⟩; replace BK213 := bk BK213 hb; replace BK214 := bk BK214 hb; replace HB := bs HB hb; (try clear hb); (try clear hb2); (try clear hk); (try clear hi); obtain ⟨hcz20_0, hcz20_1, hcz20_2, hfz20_0, hfz20_1, hfz20_2⟩ := cs3 BK214) | (go_at_call 71; (with_reducible refine (spec_l1In.calls a1_0 1 60 true _ A8.out).mono ?_); rintro e w' ⟨rfl, ⟨nd, rfl⟩⟩; obtain ⟨hcz21_0, hcz21_1, hfz21_0, hfz21_1⟩ := cs2 BK213) | (go_at_call 72; (with_reducible refine (spec_SetOk.calls k a0_0 _ _ l1_2 false _ ?side1 ?side2 A10.out).mono ?_); (case side1 => exact (Kd.C_below HR1_2.out (bI HB.out))); (case side2 => exact HC1_2.out); rintro e w' ⟨rfl, ⟨nd, rfl⟩⟩))
          go_meet
          case rel => exact ⟨_, (true), y0_8, H', ⟨y0_9⟩, ⟨gI BK213.out⟩, ⟨gI BK214.out⟩, ⟨bI HB.out⟩⟩
      · replace c9 := Bool.eq_false_iff.mpr c9
        subst c9
        rw [if_neg (show ¬ (false = true) by decide)] at H
        have H' := Aside0.mk H
        clear H
        have hnb22 := NB213_214.out
        have hnc22 := NB214_213.out
        have hcz23_0 := bc0 BK213.out
        have hcz23_1 := bc1 BK213.out
        have hfz23_0 := blk_frozen BK213.out 0
        have hfz23_1 := blk_frozen BK213.out 1
        go_wp2_with (first | ((with_reducible refine gate_callee (f := 70) rfl ?_); refine gB (some 6) Tryd.func70 #[.agg #[.int .i64 a0_0, .int .i64 a0_1]] ?_; (with_reducible refine (spec_ConfOk.calls a0_0 a0_1 true _ A6.out).mono ?_); rintro e w24 ⟨rfl, hb⟩; refine ⟨_, rfl, ?_⟩; replace BK213 := bk BK213 hb; replace BK214 := bk BK214 hb; replace HB := bs HB hb; (try clear hb); (try clear hb2); (try clear hk); (try clear hi); obtain ⟨hcz25_0, hcz25_1, hcz25_2, hfz25_0, hfz25_1, hfz25_2⟩ := cs3 BK214) | (go_at_call 71; (with_reducible refine (spec_l1In.calls a1_0 1 60 false _ A8.out).mono ?_); rintro e w' ⟨rfl, ⟨nd, rfl⟩⟩))
        go_meet
        case rel => exact ⟨_, (true), y0_8, H', ⟨y0_9⟩, ⟨gI BK213.out⟩, ⟨gI BK214.out⟩, ⟨bI HB.out⟩⟩
    · replace c7 := Bool.eq_false_iff.mpr c7
      subst c7
      rw [if_neg (show ¬ (false = true) by decide)] at H
      have H' := Aside0.mk H
      clear H
      have hnb26 := NB213_214.out
      have hnc26 := NB214_213.out
      have hcz27_0 := bc0 BK213.out
      have hcz27_1 := bc1 BK213.out
      have hfz27_0 := blk_frozen BK213.out 0
      have hfz27_1 := blk_frozen BK213.out 1
      go_wp2_with (first | ((with_reducible refine gate_callee (f := 70) rfl ?_); refine gB (some 6) Tryd.func70 #[.agg #[.int .i64 a0_0, .int .i64 a0_1]] ?_; (with_reducible refine (spec_ConfOk.calls a0_0 a0_1 false _ A6.out).mono ?_); rintro e w28 ⟨rfl, hb⟩; refine ⟨_, rfl, ?_⟩; replace BK213 := bk BK213 hb; replace BK214 := bk BK214 hb; replace HB := bs HB hb; (try clear hb); (try clear hb2); (try clear hk); (try clear hi)))
      go_meet
      case rel => exact ⟨_, (true), y0_8, H', ⟨y0_9⟩, ⟨gI BK213.out⟩, ⟨gI BK214.out⟩, ⟨bI HB.out⟩⟩
  case rest =>
    clear HC3
    try clear c1
    try clear c2
    try clear p2
    try clear c7
    try clear c9
    try clear c11
    try clear c12
    try clear c17
    try clear c18
    try clear c22
    try clear c26
    try clear hcz13_0
    try clear hcz13_1
    try clear hcz15_0
    try clear hcz15_1
    try clear hcz15_2
    try clear hcz16_0
    try clear hcz16_1
    try clear hcz18_0
    try clear hcz18_1
    try clear hcz20_0
    try clear hcz20_1
    try clear hcz20_2
    try clear hcz21_0
    try clear hcz21_1
    try clear hcz23_0
    try clear hcz23_1
    try clear hcz25_0
    try clear hcz25_1
    try clear hcz25_2
    try clear hcz27_0
    try clear hcz27_1
    try clear hfz13_0
    try clear hfz13_1
    try clear hfz15_0
    try clear hfz15_1
    try clear hfz15_2
    try clear hfz16_0
    try clear hfz16_1
    try clear hfz18_0
    try clear hfz18_1
    try clear hfz20_0
    try clear hfz20_1
    try clear hfz20_2
    try clear hfz21_0
    try clear hfz21_1
    try clear hfz23_0
    try clear hfz23_1
    try clear hfz25_0
    try clear hfz25_1
    try clear hfz25_2
    try clear hfz27_0
    try clear hfz27_1
    obtain ⟨kq, x27_2, rfl, HA, HJ2, BK213, BK214, HB⟩ := hcut
    cases kq with
    | zero => exact absurd HA.out (by simp [spec_PartOk.j0])
    | succ kj2 =>
      have H := HA.out
      clear HA
      simp only [spec_PartOk.j0] at H
      by_cases c29 : x27_2 = true
      · subst c29
        rw [if_pos rfl] at H
        obtain rfl := Option.some.inj H
        go_wp2
        go_ret
        exact ⟨y0_4, bI HB.out⟩
      · replace c29 := Bool.eq_false_iff.mpr c29
        subst c29
        rw [if_neg (show ¬ (false = true) by decide)] at H
        by_cases c30 : a1_1.toList = ([] : List UInt8)
        · rw [if_pos c30] at H
          have c30b0 : (a1_1.toList == ([] : List UInt8)) = true := beq_iff_eq.mpr c30
          have c30b1 : (a1_1.toList != ([] : List UInt8)) = false := bne_eq_false_iff_eq.mpr c30
          clear c30
          obtain rfl := Option.some.inj H
          try go_wp2
          replace BK213 := Aside0.mk (blk_drew BK213.out)
          replace BK214 := Aside0.mk (blk_drew BK214.out)
          replace HB := Aside0.mk (below_drew1 HB.out)
          refine start_ (n := 17) (S := fun w' => w'.cell? ⟨gb214, 0, none⟩ = some (.int .i64 a1_0) ∧ w'.cell? ⟨gb214, 1, none⟩ = some (.string a1_1) ∧ w'.cell? ⟨gb214, 2, none⟩ = some (.slice A1_2 l1_2.length c1_2)) (ds := []) #[false, false, false, false, false, false, false, false, false, false, false, false, false, false, false, false, false] (by kernel_rfl) rfl rfl ⟨bc0 BK214.out, bc1 BK214.out, bc2 BK214.out⟩ (fun hHeld => ?_); refine with_tabW spec_PartOk.tab3 spec_PartOk.bits3 (fun HT_ HW_ => ?_)
          generalize wc.drew = w31 at BK213 BK214 HB hHeld ⊢
          refine pA 0 (some 28) (bz 17 1) HT_ ?_
          refine tA 1 (some 29) (bz 17 3) HT_ HW_ hHeld ?_
          refine pA 2 (some 30) (bz 17 7) HT_ ?_
          refine pA 3 (some 31) (bz 17 15) HT_ ?_
          refine pU 4 (some 32) (bz 17 31) HT_ ?_
          refine pU 5 (some 33) (bz 17 63) HT_ ?_
          refine pU 6 (some 34) (bz 17 127) HT_ ?_
          refine pU 7 (some 35) (bz 17 255) HT_ ?_
          refine pU 8 (some 36) (bz 17 511) HT_ ?_
          refine pU 9 (some 37) (bz 17 1023) HT_ ?_
          refine pU 10 (some 38) (bz 17 2047) HT_ ?_
          refine pU 11 (some 39) (bz 17 4095) HT_ ?_
          refine pU 12 (some 40) (bz 17 0x1fff) HT_ ?_
          refine pU 13 (some 41) (bz 17 0x3fff) HT_ ?_
          refine pU 14 (some 42) (bz 17 0x7fff) HT_ ?_
          refine pA 15 (some 43) (bz 17 0xffff) HT_ ?_
          refine pA 16 (some 4) (bz 17 0x1ffff) HT_ ?_
          refine done_ (done_of HT_.out (by kernel_rfl)) ?_
          try go_wp2
          go_ret
          exact ⟨y0_4, bI HB.out⟩
        · rw [if_neg c30] at H
          have c30b0 : (a1_1.toList == ([] : List UInt8)) = false := beq_eq_false_iff_ne.mpr c30
          have c30b1 : (a1_1.toList != ([] : List UInt8)) = true := bne_iff_ne.mpr c30
          obtain ⟨t218, A320, H⟩ := Option.bind_eq_some_iff.mp H
          try dsimp only at H
          have A32 := Aside0.mk A320
          clear A320
          by_cases c33 : t218 = true
          · subst c33
            rw [if_pos rfl] at H
            obtain ⟨t219, A340, H⟩ := Option.bind_eq_some_iff.mp H
            try dsimp only at H
            have A34 := Aside0.mk A340
            clear A340
            obtain rfl := Option.some.inj H
            try go_wp2
            replace BK213 := Aside0.mk (blk_drew BK213.out)
            replace BK214 := Aside0.mk (blk_drew BK214.out)
            replace HB := Aside0.mk (below_drew1 HB.out)
            refine start_ (n := 17) (S := fun w' => w'.cell? ⟨gb214, 0, none⟩ = some (.int .i64 a1_0) ∧ w'.cell? ⟨gb214, 1, none⟩ = some (.string a1_1) ∧ w'.cell? ⟨gb214, 2, none⟩ = some (.slice A1_2 l1_2.length c1_2)) (ds := []) #[false, false, false, false, false, false, false, false, false, false, false, false, false, false, false, false, false] (by kernel_rfl) rfl rfl ⟨bc0 BK214.out, bc1 BK214.out, bc2 BK214.out⟩ (fun hHeld => ?_); refine with_tabW spec_PartOk.tab3 spec_PartOk.bits3 (fun HT_ HW_ => ?_)
            generalize wc.drew = w35 at BK213 BK214 HB hHeld ⊢
            refine pA 0 (some 28) (bz 17 1) HT_ ?_
            refine tA 1 (some 29) (bz 17 3) HT_ HW_ hHeld ?_
            refine pA 2 (some 30) (bz 17 7) HT_ ?_
            refine pA 3 (some 31) (bz 17 15) HT_ ?_
            refine pA 4 (some 32) (bz 17 31) HT_ ?_
            refine tA 5 (some 33) (bz 17 63) HT_ HW_ hHeld ?_
            refine oA 6 (some 34) (bz 17 127) HT_ (fun K hK => ?_)
            refine gA Tryd.func73 #[.string a1_1] ?_
            with_reducible refine (spec_NameOk.calls kj2 a1_1 true _ A32.out).mono ?_
            rintro e w36 ⟨rfl, hb⟩
            refine ⟨_, rfl, ?_⟩
            replace BK213 := bk BK213 hb
            replace BK214 := bk BK214 hb
            replace HB := bs HB hb
            (try clear hb)
            (try clear hb2)
            (try clear hk)
            (try clear hi)
            refine hK.out _ _ ⟨bc0 BK214.out, bc1 BK214.out, bc2 BK214.out⟩ (fun hHeld => ?_)
            clear hK K
            refine nA (some 34) ?_
            refine pA 7 (some 35) (bz 17 255) HT_ ?_
            refine pA 8 (some 36) (bz 17 511) HT_ ?_
            refine pA 11 (some 39) (bz 17 2559) HT_ ?_
            refine tA 9 (some 37) (bz 17 3071) HT_ HW_ hHeld ?_
            refine tA 12 (some 40) (bz 17 0x1bff) HT_ HW_ hHeld ?_
            refine oA 10 (some 38) (bz 17 0x1fff) HT_ (fun K hK => ?_)
            refine gA Tryd.func74 #[.string a1_1] ?_
            with_reducible refine (spec_ViewOf.calls kj2 a1_1 t219 _ A34.out).mono ?_
            rintro e w37 ⟨rfl, hb⟩
            refine ⟨_, rfl, ?_⟩
            replace BK213 := bk BK213 hb
            replace BK214 := bk BK214 hb
            replace HB := bs HB hb
            (try clear hb)
            (try clear hb2)
            (try clear hk)
            (try clear hi)
            refine hK.out _ _ ⟨bc0 BK214.out, bc1 BK214.out, bc2 BK214.out⟩ (fun hHeld => ?_)
            clear hK K
            refine nA (some 38) ?_
            refine pA 13 (some 41) (bz 17 0x3fff) HT_ ?_
            refine pA 14 (some 42) (bz 17 0x7fff) HT_ ?_
            refine pA 15 (some 43) (bz 17 0xffff) HT_ ?_
            refine pA 16 (some 4) (bz 17 0x1ffff) HT_ ?_
            refine done_ (done_of HT_.out (by kernel_rfl)) ?_
            try go_wp2
            go_ret
            exact ⟨y0_4, bI HB.out⟩
          · replace c33 := Bool.eq_false_iff.mpr c33
            subst c33
            rw [if_neg (show ¬ (false = true) by decide)] at H
            obtain rfl := Option.some.inj H
            try go_wp2
            replace BK213 := Aside0.mk (blk_drew BK213.out)
            replace BK214 := Aside0.mk (blk_drew BK214.out)
            replace HB := Aside0.mk (below_drew1 HB.out)
            refine start_ (n := 17) (S := fun w' => w'.cell? ⟨gb214, 0, none⟩ = some (.int .i64 a1_0) ∧ w'.cell? ⟨gb214, 1, none⟩ = some (.string a1_1) ∧ w'.cell? ⟨gb214, 2, none⟩ = some (.slice A1_2 l1_2.length c1_2)) (ds := []) #[false, false, false, false, false, false, false, false, false, false, false, false, false, false, false, false, false] (by kernel_rfl) rfl rfl ⟨bc0 BK214.out, bc1 BK214.out, bc2 BK214.out⟩ (fun hHeld => ?_); refine with_tabW spec_PartOk.tab3 spec_PartOk.bits3 (fun HT_ HW_ => ?_)
            generalize wc.drew = w38 at BK213 BK214 HB hHeld ⊢
            refine pA 0 (some 28) (bz 17 1) HT_ ?_
            refine tA 1 (some 29) (bz 17 3) HT_ HW_ hHeld ?_
            refine pA 2 (some 30) (bz 17 7) HT_ ?_
            refine pA 3 (some 31) (bz 17 15) HT_ ?_
            refine pA 4 (some 32) (bz 17 31) HT_ ?_
            refine tA 5 (some 33) (bz 17 63) HT_ HW_ hHeld ?_
            refine oA 6 (some 34) (bz 17 127) HT_ (fun K hK => ?_)
            refine gA Tryd.func73 #[.string a1_1] ?_
            with_reducible refine (spec_NameOk.calls kj2 a1_1 false _ A32.out).mono ?_
            rintro e w39 ⟨rfl, hb⟩
            refine ⟨_, rfl, ?_⟩
            replace BK213 := bk BK213 hb
            replace BK214 := bk BK214 hb
            replace HB := bs HB hb
            (try clear hb)
            (try clear hb2)
            (try clear hk)
            (try clear hi)
            refine hK.out _ _ ⟨bc0 BK214.out, bc1 BK214.out, bc2 BK214.out⟩ (fun hHeld => ?_)
            clear hK K
            refine nA (some 34) ?_
            refine pA 7 (some 35) (bz 17 255) HT_ ?_
            refine pU 8 (some 36) (bz 17 511) HT_ ?_
            refine pU 9 (some 37) (bz 17 1023) HT_ ?_
            refine pU 10 (some 38) (bz 17 2047) HT_ ?_
            refine pU 11 (some 39) (bz 17 4095) HT_ ?_
            refine pU 12 (some 40) (bz 17 0x1fff) HT_ ?_
            refine pU 13 (some 41) (bz 17 0x3fff) HT_ ?_
            refine pA 14 (some 42) (bz 17 0x7fff) HT_ ?_
            refine pA 15 (some 43) (bz 17 0xffff) HT_ ?_
            refine pA 16 (some 4) (bz 17 0x1ffff) HT_ ?_
            refine done_ (done_of HT_.out (by kernel_rfl)) ?_
            try go_wp2
            go_ret
            exact ⟨y0_4, bI HB.out⟩

/-! ### spec_l10Before: function 84 -/
def spec_l10Before.f (a0_0 : Int) (a0_1 : ByteArray) (l0_2 : List Int) (a1_0 : Int) (a1_1 : ByteArray) (l1_2 : List Int) : Option (Bool) := if a0_0 < a1_0 then (some true) else (if a0_0 = a1_0 then (some (Op.bytesLess a0_1.toList a1_1.toList)) else (some false))
set_option maxHeartbeats 8000000 in
set_option maxRecDepth 100000 in
theorem spec_l10Before.calls (a0_0 : Int) (a0_1 : ByteArray) (A0_2 : Option Addr) (c0_2 : Nat) (l0_2 : List Int) (a1_0 : Int) (a1_1 : ByteArray) (A1_2 : Option Addr) (c1_2 : Nat) (l1_2 : List Int) (r : Bool) (w : World) (hr0_2 : Kd.C (Kd.int .i64) w A0_2 l0_2.length l0_2) (hc0_2 : l0_2.length ≤ c0_2) (hr1_2 : Kd.C (Kd.int .i64) w A1_2 l1_2.length l1_2) (hc1_2 : l1_2.length ≤ c1_2) (h : spec_l10Before.f a0_0 a0_1 l0_2 a1_0 a1_1 l1_2 = some r) :
    Calls Tryd.prog 84 #[.agg #[.int .i64 a0_0, .string a0_1, .slice A0_2 l0_2.length c0_2], .agg #[.int .i64 a1_0, .string a1_1, .slice A1_2 l1_2.length c1_2]] w fun e w' => e = .returned (.bool r) ∧ Below w.heap.size w w' := by
  have hu34 := Tryd.underlying34
  have HR0_2 := Aside0.mk hr0_2
  have HC0_2 := Aside0.mk hc0_2
  clear hr0_2 hc0_2
  have HR1_2 := Aside0.mk hr1_2
  have HC1_2 := Aside0.mk hc1_2
  clear hr1_2 hc1_2
  have HB := Aside0.mk (Below.refl w.heap.size w)
  have H : (if a0_0 < a1_0 then (some true) else (if a0_0 = a1_0 then (some (Op.bytesLess a0_1.toList a1_1.toList)) else (some false))) = some r := h
  clear h
  by_cases c3 : a0_0 < a1_0
  · rw [if_pos c3] at H
    have c3b0 : decide (a0_0 < a1_0) = true := decide_eq_true c3
    clear c3
    obtain rfl := Option.some.inj H
    go_enter Tryd.func84, Tryd.ntmps84
    go_wp2_with (first | ((with_reducible refine gd 2 ?_); refine bA 2 #[.int .i64 a0_0, .string a0_1, .slice A0_2 l0_2.length c0_2] 34 ?_; intro gb220 hg w4 hbox hb; have BK220 := Aside0.mk (hbox); have GW220 := bg hg HB; have GJ220 := gi GW220; have GE220 := GW220; replace HB := bs HB hb; clear hb hbox hg) | ((with_reducible refine gd 3 ?_); refine bA 3 #[.int .i64 a1_0, .string a1_1, .slice A1_2 l1_2.length c1_2] 34 ?_; intro gb221 hg w5 hbox hb; have BK221 := Aside0.mk (hbox); have GW221 := bg hg HB; have GJ221 := gi GW221; have GE221 := GW221; replace HB := bs HB hb; have NB220_221 := b1 BK220 hg; have NI220_221 := ni NB220_221; have NB221_220 := b2 BK220 hg; have NI221_220 := ni NB221_220; replace BK220 := bk BK220 hb; clear hb hbox hg; have hnb6 := NB220_221.out; have hnc6 := NB221_220.out; obtain ⟨hcz7_0, hcz7_1, hcz7_2, hfz7_0, hfz7_1, hfz7_2⟩ := cs3 BK220; obtain ⟨hcz8_0, hcz8_1, hcz8_2, hfz8_0, hfz8_1, hfz8_2⟩ := cs3 BK221))
    go_ret
    exact ⟨y0_4, bI HB.out⟩
  · rw [if_neg c3] at H
    have c3b0 : decide (a0_0 < a1_0) = false := decide_eq_false c3
    clear c3
    by_cases c9 : a0_0 = a1_0
    · rw [if_pos c9] at H
      have c9b0 : (a0_0 == a1_0) = true := beq_iff_eq.mpr c9
      have c9b1 : (a0_0 != a1_0) = false := bne_eq_false_iff_eq.mpr c9
      clear c9
      obtain rfl := Option.some.inj H
      go_enter Tryd.func84, Tryd.ntmps84
      go_wp2_with (first | ((with_reducible refine gd 2 ?_); refine bA 2 #[.int .i64 a0_0, .string a0_1, .slice A0_2 l0_2.length c0_2] 34 ?_; intro gb220 hg w10 hbox hb; have BK220 := Aside0.mk (hbox); have GW220 := bg hg HB; have GJ220 := gi GW220; have GE220 := GW220; replace HB := bs HB hb; clear hb hbox hg) | ((with_reducible refine gd 3 ?_); refine bA 3 #[.int .i64 a1_0, .string a1_1, .slice A1_2 l1_2.length c1_2] 34 ?_; intro gb221 hg w11 hbox hb; have BK221 := Aside0.mk (hbox); have GW221 := bg hg HB; have GJ221 := gi GW221; have GE221 := GW221; replace HB := bs HB hb; have NB220_221 := b1 BK220 hg; have NI220_221 := ni NB220_221; have NB221_220 := b2 BK220 hg; have NI221_220 := ni NB221_220; replace BK220 := bk BK220 hb; clear hb hbox hg; have hnb12 := NB220_221.out; have hnc12 := NB221_220.out; obtain ⟨hcz13_0, hcz13_1, hcz13_2, hfz13_0, hfz13_1, hfz13_2⟩ := cs3 BK220; obtain ⟨hcz14_0, hcz14_1, hcz14_2, hfz14_0, hfz14_1, hfz14_2⟩ := cs3 BK221))
      go_ret
      exact ⟨y0_4, bI HB.out⟩
    · rw [if_neg c9] at H
      have c9b0 : (a0_0 == a1_0) = false := beq_eq_false_iff_ne.mpr c9
      have c9b1 : (a0_0 != a1_0) = true := bne_iff_ne.mpr c9
      obtain rfl := Option.some.inj H
      go_enter Tryd.func84, Tryd.ntmps84
      go_wp2_with (first | ((with_reducible refine gd 2 ?_); refine bA 2 #[.int .i64 a0_0, .string a0_1, .slice A0_2 l0_2.length c0_2] 34 ?_; intro gb220 hg w15 hbox hb; have BK220 := Aside0.mk (hbox); have GW220 := bg hg HB; have GJ220 := gi GW220; have GE220 := GW220; replace HB := bs HB hb; clear hb hbox hg) | ((with_reducible refine gd 3 ?_); refine bA 3 #[.int .i64 a1_0, .string a1_1, .slice A1_2 l1_2.length c1_2] 34 ?_; intro gb221 hg w16 hbox hb; have BK221 := Aside0.mk (hbox); have GW221 := bg hg HB; have GJ221 := gi GW221; have GE221 := GW221; replace HB := bs HB hb; have NB220_221 := b1 BK220 hg; have NI220_221 := ni NB220_221; have NB221_220 := b2 BK220 hg; have NI221_220 := ni NB221_220; replace BK220 := bk BK220 hb; clear hb hbox hg; have hnb17 := NB220_221.out; have hnc17 := NB221_220.out; obtain ⟨hcz18_0, hcz18_1, hcz18_2, hfz18_0, hfz18_1, hfz18_2⟩ := cs3 BK220; obtain ⟨hcz19_0, hcz19_1, hcz19_2, hfz19_0, hfz19_1, hfz19_2⟩ := cs3 BK221))
      go_ret
      exact ⟨y0_4, bI HB.out⟩

end Go.Proofs.YtcmldmlmhpfjhaaDoor.PFnExactTableOk
