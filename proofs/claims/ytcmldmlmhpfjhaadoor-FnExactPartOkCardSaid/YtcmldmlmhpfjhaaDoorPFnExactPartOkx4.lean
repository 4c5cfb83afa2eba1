-- By a program of this session, out of the translation (the print of the kit, with turns of its own). Lean checks it.
import Derived.Test.YtcmldmlmhpfjhaaDoorPFnExactPartOkx0
import Derived.Test.YtcmldmlmhpfjhaaDoorPFnExactPartOkx1
import Derived.Test.YtcmldmlmhpfjhaaDoorPFnExactPartOkx3
namespace Go.Proofs.YtcmldmlmhpfjhaaDoor.PFnExactPartOk
open Go.RowKit Go.Proofs.YtcmldmlmhpfjhaaDoorW.PrintWords Go.Proofs.YtcmldmlmhpfjhaaDoorW.PrintLast Go.Proofs.YtcmldmlmhpfjhaaDoorW.PrintMore
attribute [local go_sem] max2_int min2_int max_two min_two max_three min_three max_four min_four   -- for this text's walks alone
set_option linter.unusedVariables false
set_option linter.unusedSimpArgs false

/-! ### spec_PartOk: function 18 -/
def spec_PartOk.j0 : Nat → Bool → Int → ByteArray → List Int → Option (Bool)
  | 0, _, _, _, _ => none
  | k + 1, x27, x210000, x210001, x210002 => if x27 = true then (some false) else (if x210001.toList = ([] : List UInt8) then (some true) else ((spec_NameOk.f k x210001).bind fun t213 => (if t213 = true then ((spec_ViewOf.f k x210001).bind fun t214 => (some (t214 == x210000))) else (some false))))
def spec_PartOk.f (k : Nat) (a0_0 : Int) (a0_1 : Int) (a1_0 : Int) (a1_1 : ByteArray) (l1_2 : List Int) : Option (Bool) := (spec_ConfOk.f a0_0 a0_1).bind fun t210 => (if t210 = true then ((spec_l1In.f a1_0 1 60).bind fun t211 => (if t211 = true then ((spec_SetOk.f k a0_0 l1_2).bind fun t212 => (if t212 = true then (spec_PartOk.j0 k ((l1_2.length : Int) == 0) a1_0 a1_1 l1_2) else (spec_PartOk.j0 k true a1_0 a1_1 l1_2))) else (spec_PartOk.j0 k true a1_0 a1_1 l1_2))) else (spec_PartOk.j0 k true a1_0 a1_1 l1_2))
theorem spec_PartOk.mono_l : ∀ k, (∀ y0 y1 y2 y3, LeO (spec_PartOk.j0 k y0 y1 y2 y3) (spec_PartOk.j0 (k + 1) y0 y1 y2 y3))
  | 0 => fun _ _ _ _ r h => by simp [spec_PartOk.j0] at h
  | k + 1 => by
    have ih0 := spec_PartOk.mono_l k
    · intro y0 y1 y2 y3
      unfold spec_PartOk.j0
      repeat' first
      | (with_reducible exact ih0 _ _ _ _)
      | (with_reducible exact spec_NameOk.mono _ _)
      | (with_reducible exact spec_SetOk.mono _ _ _)
      | (with_reducible exact spec_ViewOf.mono _ _)
      | (with_reducible exact LeO.refl _)
      | (with_reducible exact LeO.none _)
      | (with_reducible refine LeO.ite ?_ ?_)
      | (with_reducible refine LeO.bind ?_ (fun _ => ?_))
      | exact ih0 _ _ _ _
      | exact spec_NameOk.mono _ _
      | exact spec_SetOk.mono _ _ _
      | exact spec_ViewOf.mono _ _
      | exact LeO.none _
      | refine LeO.ite ?_ ?_
      | refine LeO.bind ?_ (fun _ => ?_)
theorem spec_PartOk.mono : ∀ a0 a1 a2 a3 a4 k, LeO (spec_PartOk.f k a0 a1 a2 a3 a4) (spec_PartOk.f (k + 1) a0 a1 a2 a3 a4) := by
  intro a0 a1 a2 a3 a4 k
  have ih0 := spec_PartOk.mono_l k
  unfold spec_PartOk.f
  repeat' first
      | (with_reducible exact ih0 _ _ _ _)
      | (with_reducible exact spec_NameOk.mono _ _)
      | (with_reducible exact spec_SetOk.mono _ _ _)
      | (with_reducible exact spec_ViewOf.mono _ _)
      | (with_reducible exact LeO.refl _)
      | (with_reducible exact LeO.none _)
      | (with_reducible refine LeO.ite ?_ ?_)
      | (with_reducible refine LeO.bind ?_ (fun _ => ?_))
      | exact ih0 _ _ _ _
      | exact spec_NameOk.mono _ _
      | exact spec_SetOk.mono _ _ _
      | exact spec_ViewOf.mono _ _
      | exact LeO.none _
      | refine LeO.ite ?_ ?_
      | refine LeO.bind ?_ (fun _ => ?_)
def spec_PartOk.T3 : Bool × List (List Nat × List Nat) := (true, [([], []), ([0], [0]), ([1], [1]), ([2], [2]), ([3], [3]), ([4, 3], [3, 4]), ([5, 3, 3], [3, 5]), ([6, 6, 3], [3, 6]), ([7], [7]), ([8, 7], [7, 8]), ([9, 7, 7], [7, 9]), ([7], [7]), ([11, 7], [7, 11]), ([10, 12, 7], [7, 10, 12]), ([7, 13, 3], [3, 7, 13]), ([3, 14], [3, 14]), ([15, 10, 0, 1, 2, 3, 4, 5, 6, 7, 8, 9, 10, 11, 12, 13, 14, 15], [15])])
def spec_PartOk.B3 : List Nat := [0, 1, 3, 7, 15, 31, 63, 127, 255, 511, 1023, 255, 2303, 8191, 16383, 32767, 65535]
theorem spec_PartOk.tab3 : rtab .any (opsOf Tryd.f18 3) = spec_PartOk.T3 := by kernel_rfl
theorem spec_PartOk.bits3 : waitsOk spec_PartOk.T3.2 spec_PartOk.B3 = true := by kernel_rfl
set_option maxHeartbeats 8000000 in
set_option maxRecDepth 100000 in
theorem spec_PartOk.calls (k : Nat) (a0_0 : Int) (a0_1 : Int) (a1_0 : Int) (a1_1 : ByteArray) (A1_2 : Option Addr) (c1_2 : Nat) (l1_2 : List Int) (r : Bool) (w : World) (hr1_2 : Kd.C (Kd.int .i64) w A1_2 l1_2.length l1_2) (hc1_2 : l1_2.length ≤ c1_2) (h : spec_PartOk.f k a0_0 a0_1 a1_0 a1_1 l1_2 = some r) :
    Calls Tryd.prog 18 #[.agg #[.int .i64 a0_0, .int .i64 a0_1], .agg #[.int .i64 a1_0, .string a1_1, .slice A1_2 l1_2.length c1_2]] w fun e w' => e = .returned (.bool r) ∧ Below w.heap.size w w' := by
  have hu32 := Tryd.underlying32
  have hu34 := Tryd.underlying34
  have HR1_2 := Aside0.mk hr1_2
  have HC1_2 := Aside0.mk hc1_2
  clear hr1_2 hc1_2
  have HB := Aside0.mk (Below.refl w.heap.size w)
  have H : ((spec_ConfOk.f a0_0 a0_1).bind fun t210 => (if t210 = true then ((spec_l1In.f a1_0 1 60).bind fun t211 => (if t211 = true then ((spec_SetOk.f k a0_0 l1_2).bind fun t212 => (if t212 = true then (spec_PartOk.j0 k ((l1_2.length : Int) == 0) a1_0 a1_1 l1_2) else (spec_PartOk.j0 k true a1_0 a1_1 l1_2))) else (spec_PartOk.j0 k true a1_0 a1_1 l1_2))) else (spec_PartOk.j0 k true a1_0 a1_1 l1_2))) = some r := h
  clear h
  have HC3 := Aside0.mk H
  clear H
  go_enter Tryd.func18, Tryd.ntmps18
  go_upto_region 1 with (first | ((with_reducible refine gate_dst (N := 2) rfl ?_); (try (refine gate_guard (by rfl) ?_; dsimp only)); refine box_event ?hg (N := 2) ?hd (cs := #[.int .i64 a0_0, .int .i64 a0_1]) (t := 32) ?hr ?_; (case hd => rfl); (case hg => rfl); (case hr => first | (go_simp; done) | (go_simp; rfl)); intro gb208 hg w4 hbox hb; have BK208 := Aside0.mk (hbox); have GW208 := bg hg HB; have GJ208 := gi GW208; have GE208 := GW208; replace HB := bs HB hb; clear hb hbox hg) | ((with_reducible refine gate_dst (N := 3) rfl ?_); (try (refine gate_guard (by rfl) ?_; dsimp only)); refine box_event ?hg (N := 3) ?hd (cs := #[.int .i64 a1_0, .string a1_1, .slice A1_2 l1_2.length c1_2]) (t := 34) ?hr ?_; (case hd => rfl); (case hg => rfl); (case hr => first | (go_simp; done) | (go_simp; rfl)); intro gb209 hg w5 hbox hb; have BK209 := Aside0.mk (hbox); have GW209 := bg hg HB; have GJ209 := gi GW209; have GE209 := GW209; replace HB := bs HB hb; have NB208_209 := b1 BK208 hg; have NI208_209 := ni NB208_209; have NB209_208 := b2 BK208 hg; have NI209_208 := ni NB209_208; replace BK208 := bk BK208 hb; clear hb hbox hg))
  (try simp only [Act.put, List.setIfInBounds_toArray, List.set_cons_zero, List.set_cons_succ])
  go_cut [27] (fun v27 wc => ∃ (kq : Nat) (x27_2 : Bool), v27 = .bool x27_2 ∧ Aside0 (spec_PartOk.j0 kq x27_2 a1_0 a1_1 l1_2 = some r) ∧ Aside0 (kq ≤ k) ∧ Aside0 (wc.heap[gb208]? = some (.cells #[.int .i64 a0_0, .int .i64 a0_1] 32 (0, 0))) ∧ Aside0 (wc.heap[gb209]? = some (.cells #[.int .i64 a1_0, .string a1_1, (.slice A1_2 l1_2.length c1_2)] 34 (0, 0))) ∧ Aside0 (Below w.heap.size w wc))
  case first =>
    have H := HC3.out
    clear HC3
    obtain ⟨t210, A60, H⟩ := Option.bind_eq_some_iff.mp H
    try dsimp only at H
    have A6 := Aside0.mk A60
    clear A60
    by_cases c7 : t210 = true
    · subst c7
      rw [if_pos rfl] at H
      obtain ⟨t211, A80, H⟩ := Option.bind_eq_some_iff.mp H
      try dsimp only at H
      have A8 := Aside0.mk A80
      clear A80
      by_cases c9 : t211 = true
      · subst c9
        rw [if_pos rfl] at H
        obtain ⟨t212, A100, H⟩ := Option.bind_eq_some_iff.mp H
        try dsimp only at H
        have A10 := Aside0.mk A100
        clear A100
        by_cases c11 : t212 = true
        · subst c11
          rw [if_pos rfl] at H
          have H' := Aside0.mk H
          clear H
          have hnb12 := NB208_209.out
          have hnc12 := NB209_208.out
          have hcz13_0 := bc0 BK208.out
          have hcz13_1 := bc1 BK208.out
          have hfz13_0 := blk_frozen BK208.out 0
          have hfz13_1 := blk_frozen BK208.out 1
          go_wp2_with (first | ((with_reducible refine gate_callee (f := 70) rfl ?_); refine gB (some 6) Tryd.func70 #[.agg #[.int .i64 a0_0, .int .i64 a0_1]] ?_; (with_reducible refine (spec_ConfOk.calls a0_0 a0_1 true _ A6.out).mono ?_); rintro e w14 ⟨rfl, hb⟩; refine ⟨_, rfl, ?_⟩; replace BK208 := bk BK208 hb; replace BK209 := bk BK209 hb; replace HB := bs HB hb; (try clear hb); (try clear hb2); (try clear hk); (try clear hi); obtain ⟨hcz15_0, hcz15_1, hcz15_2, hfz15_0, hfz15_1, hfz15_2⟩ := cs3 BK209) | (go_at_call 71; (with_reducible refine (spec_l1In.calls a1_0 1 60 true _ A8.out).mono ?_); rintro e w' ⟨rfl, ⟨nd, rfl⟩⟩; obtain ⟨hcz16_0, hcz16_1, hfz16_0, hfz16_1⟩ := cs2 BK208) | (go_at_call 72; (with_reducible refine (spec_SetOk.calls k a0_0 _ _ l1_2 true _ ?side1 ?side2 A10.out).mono ?_); (case side1 => exact (Kd.C_below HR1_2.out (bI HB.out))); (case side2 => exact HC1_2.out); rintro e w' ⟨rfl, ⟨nd, rfl⟩⟩))
          go_meet
          case rel => exact ⟨_, (((l1_2.length : Int) == 0)), y0_7, H', ⟨y0_8⟩, ⟨gI BK208.out⟩, ⟨gI BK209.out⟩, ⟨bI HB.out⟩⟩
        · replace c11 := Bool.eq_false_iff.mpr c11
          subst c11
          rw [if_neg (show ¬ (false = true) by decide)] at H
          have H' := Aside0.mk H
          clear H
          have hnb17 := NB208_209.out
          have hnc17 := NB209_208.out
          have hcz18_0 := bc0 BK208.out
          have hcz18_1 := bc1 BK208.out
          have hfz18_0 := blk_frozen BK208.out 0
          have hfz18_1 := blk_frozen BK208.out 1
          go_wp2_with (first | ((with_reducible refine gate_callee (f := 70) rfl ?_); refine gB (some 6) Tryd.func70 #[.agg #[.int .i64 a0_0, .int .i64 a0_1]] ?_; (with_reducible refine (spec_ConfOk.calls a0_0 a0_1 true _ A6.out).mono ?_); rintro e w19 ⟨rfl, hb⟩; refine ⟨_, rfl, ?_⟩; replace BK208 := bk BK208 hb; replace BK209 := bk BK209 hb; replace HB := bs HB hb; (try clear hb); (try clear hb2); (try clear hk); (try clear hi); obtain ⟨hcz20_0, hcz20_1, hcz20_2, hfz20_0, hfz20_1, hfz20_2⟩ := cs3 BK209) | (go_at_call 71; (with_reducible refine (spec_l1In.calls a1_0 1 60 true _ A8.out).mono ?_); rintro e w' ⟨rfl, ⟨nd, rfl⟩⟩; obtain ⟨hcz21_0, hcz21_1, hfz21_0, hfz21_1⟩ := cs2 BK208) | (go_at_call 72; (with_reducible refine (spec_SetOk.calls k a0_0 _ _ l1_2 false _ ?side1 ?side2 A10.out).mono ?_); (case side1 => exact (Kd.C_below HR1_2.out (bI HB.out))); (case side2 => exact HC1_2.out); rintro e w' ⟨rfl, ⟨nd, rfl⟩⟩))
          go_meet
          case rel => exact ⟨_, (true), y0_7, H', ⟨y0_8⟩, ⟨gI BK208.out⟩, ⟨gI BK209.out⟩, ⟨bI HB.out⟩⟩
      · replace c9 := Bool.eq_false_iff.mpr c9
        subst c9
        rw [if_neg (show ¬ (false = true) by decide)] at H
        have H' := Aside0.mk H
        clear H
        have hnb22 := NB208_209.out
        have hnc22 := NB209_208.out
        have hcz23_0 := bc0 BK208.out
        have hcz23_1 := bc1 BK208.out
        have hfz23_0 := blk_frozen BK208.out 0
        have hfz23_1 := blk_frozen BK208.out 1
        go_wp2_with (first | ((with_reducible refine gate_callee (f := 70) rfl ?_); refine gB (some 6) Tryd.func70 #[.agg #[.int .i64 a0_0, .int .i64 a0_1]] ?_; (with_reducible refine (spec_ConfOk.calls a0_0 a0_1 true _ A6.out).mono ?_); rintro e w24 ⟨rfl, hb⟩; refine ⟨_, rfl, ?_⟩; replace BK208 := bk BK208 hb; replace BK209 := bk BK209 hb; replace HB := bs HB hb; (try clear hb); (try clear hb2); (try clear hk); (try clear hi); obtain ⟨hcz25_0, hcz25_1, hcz25_2, hfz25_0, hfz25_1, hfz25_2⟩ := cs3 BK209) | (go_at_call 71; (with_reducible refine (spec_l1In.calls a1_0 1 60 false _ A8.out).mono ?_); rintro e w' ⟨rfl, ⟨nd, rfl⟩⟩))
        go_meet
        case rel => exact ⟨_, (true), y0_7, H', ⟨y0_8⟩, ⟨gI BK208.out⟩, ⟨gI BK209.out⟩, ⟨bI HB.out⟩⟩
    · replace c7 := Bool.eq_false_iff.mpr c7
      subst c7
      rw [if_neg (show ¬ (false = true) by decide)] at H
      have H' := Aside0.mk H
      clear H
      have hnb26 := NB208_209.out
      have hnc26 := NB209_208.out
      have hcz27_0 := bc0 BK208.out
      have hcz27_1 := bc1 BK208.out
      have hfz27_0 := blk_frozen BK208.out 0
      have hfz27_1 := blk_frozen BK208.out 1
      go_wp2_with (first | ((with_reducible refine gate_callee (f := 70) rfl ?_); refine gB (some 6) Tryd.func70 #[.agg #[.int .i64 a0_0, .int .i64 a0_1]] ?_; (with_reducible refine (spec_ConfOk.calls a0_0 a0_1 false _ A6.out).mono ?_); rintro e w28 ⟨rfl, hb⟩; refine ⟨_, rfl, ?_⟩; replace BK208 := bk BK208 hb; replace BK209 := bk BK209 hb; replace HB := bs HB hb; (try clear hb); (try clear hb2); (try clear hk); (try clear hi)))
      go_meet
      case rel => exact ⟨_, (true), y0_7, H', ⟨y0_8⟩, ⟨gI BK208.out⟩, ⟨gI BK209.out⟩, ⟨bI HB.out⟩⟩
  case rest =>
    clear HC3
    try clear c1
    try clear c2
    try clear p2
    try clear c7
    try clear c9
    try clear c11
    try clear c12
    try clear c17
    try clear c18
    try clear c22
    try clear c26
    try clear hcz13_0
    try clear hcz13_1
    try clear hcz15_0
    try clear hcz15_1
    try clear hcz15_2
    try clear hcz16_0
    try clear hcz16_1
    try clear hcz18_0
    try clear hcz18_1
    try clear hcz20_0
    try clear hcz20_1
    try clear hcz20_2
    try clear hcz21_0
    try clear hcz21_1
    try clear hcz23_0
    try clear hcz23_1
    try clear hcz25_0
    try clear hcz25_1
    try clear hcz25_2
    try clear hcz27_0
    try clear hcz27_1
    try clear hfz13_0
    try clear hfz13_1
    try clear hfz15_0
    try clear hfz15_1
    try clear hfz15_2
    try clear hfz16_0
    try clear hfz16_1
    try clear hfz18_0
    try clear hfz18_1
    try clear hfz20_0
    try clear hfz20_1
    try clear hfz20_2
    try clear hfz21_0
    try clear hfz21_1
    try clear hfz23_0
    try clear hfz23_1
    try clear hfz25_0
    try clear hfz25_1
    try clear hfz25_2
    try clear hfz27_0
    try clear hfz27_1
    obtain ⟨kq, x27_2, rfl, HA, HJ2, BK208, BK209, HB⟩ := hcut
    cases kq with
    | zero => exact absurd HA.out (by simp [spec_PartOk.j0])
    | succ kj2 =>
      have H := HA.out
      clear HA
      simp only [spec_PartOk.j0] at H
      by_cases c29 : x27_2 = true
      · subst c29
        rw [if_pos rfl] at H
        obtain rfl := Option.some.inj H
        go_wp2
        go_ret
        exact ⟨y0_4, bI HB.out⟩
      · replace c29 := Bool.eq_false_iff.mpr c29
        subst c29
        rw [if_neg (show ¬ (false = true) by decide)] at H
        by_cases c30 : a1_1.toList = ([] : List UInt8)
        · rw [if_pos c30] at H
          have c30b0 : (a1_1.toList == ([] : List UInt8)) = true := beq_iff_eq.mpr c30
          have c30b1 : (a1_1.toList != ([] : List UInt8)) = false := bne_eq_false_iff_eq.mpr c30
          clear c30
          obtain rfl := Option.some.inj H
          try go_wp2
          replace BK208 := Aside0.mk (blk_drew BK208.out)
          replace BK209 := Aside0.mk (blk_drew BK209.out)
          replace HB := Aside0.mk (below_drew1 HB.out)
          refine start_ (n := 17) (S := fun w' => w'.cell? ⟨gb209, 0, none⟩ = some (.int .i64 a1_0) ∧ w'.cell? ⟨gb209, 1, none⟩ = some (.string a1_1) ∧ w'.cell? ⟨gb209, 2, none⟩ = some (.slice A1_2 l1_2.length c1_2)) (ds := []) #[false, false, false, false, false, false, false, false, false, false, false, false, false, false, false, false, false] (by kernel_rfl) rfl rfl ⟨bc0 BK209.out, bc1 BK209.out, bc2 BK209.out⟩ (fun hHeld => ?_); refine with_tabW spec_PartOk.tab3 spec_PartOk.bits3 (fun HT_ HW_ => ?_)
          generalize wc.drew = w31 at BK208 BK209 HB hHeld ⊢
          refine pA 0 (some 28) (bz 17 1) HT_ ?_
          refine tA 1 (some 29) (bz 17 3) HT_ HW_ hHeld ?_
          refine pA 2 (some 30) (bz 17 7) HT_ ?_
          refine pA 3 (some 31) (bz 17 15) HT_ ?_
          refine pU 4 (some 32) (bz 17 31) HT_ ?_
          refine pU 5 (some 33) (bz 17 63) HT_ ?_
          refine pU 6 (some 34) (bz 17 127) HT_ ?_
          refine pU 7 (some 35) (bz 17 255) HT_ ?_
          refine pU 8 (some 36) (bz 17 511) HT_ ?_
          refine pU 9 (some 37) (bz 17 1023) HT_ ?_
          refine pU 10 (some 38) (bz 17 2047) HT_ ?_
          refine pU 11 (some 39) (bz 17 4095) HT_ ?_
          refine pU 12 (some 40) (bz 17 0x1fff) HT_ ?_
          refine pU 13 (some 41) (bz 17 0x3fff) HT_ ?_
          refine pU 14 (some 42) (bz 17 0x7fff) HT_ ?_
          refine pA 15 (some 43) (bz 17 0xffff) HT_ ?_
          refine pA 16 (some 4) (bz 17 0x1ffff) HT_ ?_
          refine done_ (done_of HT_.out (by kernel_rfl)) ?_
          try go_wp2
          go_ret
          exact ⟨y0_4, bI HB.out⟩
        · rw [if_neg c30] at H
          have c30b0 : (a1_1.toList == ([] : List UInt8)) = false := beq_eq_false_iff_ne.mpr c30
          have c30b1 : (a1_1.toList != ([] : List UInt8)) = true := bne_iff_ne.mpr c30
          obtain ⟨t213, A320, H⟩ := Option.bind_eq_some_iff.mp H
          try dsimp only at H
          have A32 := Aside0.mk A320
          clear A320
          by_cases c33 : t213 = true
          · subst c33
            rw [if_pos rfl] at H
            obtain ⟨t214, A340, H⟩ := Option.bind_eq_some_iff.mp H
            try dsimp only at H
            have A34 := Aside0.mk A340
            clear A340
            obtain rfl := Option.some.inj H
            try go_wp2
            replace BK208 := Aside0.mk (blk_drew BK208.out)
            replace BK209 := Aside0.mk (blk_drew BK209.out)
            replace HB := Aside0.mk (below_drew1 HB.out)
            refine start_ (n := 17) (S := fun w' => w'.cell? ⟨gb209, 0, none⟩ = some (.int .i64 a1_0) ∧ w'.cell? ⟨gb209, 1, none⟩ = some (.string a1_1) ∧ w'.cell? ⟨gb209, 2, none⟩ = some (.slice A1_2 l1_2.length c1_2)) (ds := []) #[false, false, false, false, false, false, false, false, false, false, false, false, false, false, false, false, false] (by kernel_rfl) rfl rfl ⟨bc0 BK209.out, bc1 BK209.out, bc2 BK209.out⟩ (fun hHeld => ?_); refine with_tabW spec_PartOk.tab3 spec_PartOk.bits3 (fun HT_ HW_ => ?_)
            generalize wc.drew = w35 at BK208 BK209 HB hHeld ⊢
            refine pA 0 (some 28) (bz 17 1) HT_ ?_
            refine tA 1 (some 29) (bz 17 3) HT_ HW_ hHeld ?_
            refine pA 2 (some 30) (bz 17 7) HT_ ?_
            refine pA 3 (some 31) (bz 17 15) HT_ ?_
            refine pA 4 (some 32) (bz 17 31) HT_ ?_
            refine tA 5 (some 33) (bz 17 63) HT_ HW_ hHeld ?_
            refine oA 6 (some 34) (bz 17 127) HT_ (fun K hK => ?_)
            refine gA Tryd.func73 #[.string a1_1] ?_
            with_reducible refine (spec_NameOk.calls kj2 a1_1 true _ A32.out).mono ?_
            rintro e w36 ⟨rfl, hb⟩
            refine ⟨_, rfl, ?_⟩
            replace BK208 := bk BK208 hb
            replace BK209 := bk BK209 hb
            replace HB := bs HB hb
            (try clear hb)
            (try clear hb2)
            (try clear hk)
            (try clear hi)
            refine hK.out _ _ ⟨bc0 BK209.out, bc1 BK209.out, bc2 BK209.out⟩ (fun hHeld => ?_)
            clear hK K
            refine nA (some 34) ?_
            refine pA 7 (some 35) (bz 17 255) HT_ ?_
            refine pA 8 (some 36) (bz 17 511) HT_ ?_
            refine pA 11 (some 39) (bz 17 2559) HT_ ?_
            refine tA 9 (some 37) (bz 17 3071) HT_ HW_ hHeld ?_
            refine tA 12 (some 40) (bz 17 0x1bff) HT_ HW_ hHeld ?_
            refine oA 10 (some 38) (bz 17 0x1fff) HT_ (fun K hK => ?_)
            refine gA Tryd.func74 #[.string a1_1] ?_
            with_reducible refine (spec_ViewOf.calls kj2 a1_1 t214 _ A34.out).mono ?_
            rintro e w37 ⟨rfl, hb⟩
            refine ⟨_, rfl, ?_⟩
            replace BK208 := bk BK208 hb
            replace BK209 := bk BK209 hb
            replace HB := bs HB hb
            (try clear hb)
            (try clear hb2)
            (try clear hk)
            (try clear hi)
            refine hK.out _ _ ⟨bc0 BK209.out, bc1 BK209.out, bc2 BK209.out⟩ (fun hHeld => ?_)
            clear hK K
            refine nA (some 38) ?_
            refine pA 13 (some 41) (bz 17 0x3fff) HT_ ?_
            refine pA 14 (some 42) (bz 17 0x7fff) HT_ ?_
            refine pA 15 (some 43) (bz 17 0xffff) HT_ ?_
            refine pA 16 (some 4) (bz 17 0x1ffff) HT_ ?_
            refine done_ (done_of HT_.out (by kernel_rfl)) ?_
            try go_wp2
            go_ret
            exact ⟨y0_4, bI HB.out⟩
          · replace c33 := Bool.eq_false_iff.mpr c33
            subst c33
            rw [if_neg (show ¬ (false = true) by decide)] at H
            obtain rfl := Option.some.inj H
            try go_wp2
            replace BK208 := Aside0.mk (blk_drew BK208.out)
            replace BK209 := Aside0.mk (blk_drew BK209.out)
            replace HB := Aside0.mk (below_drew1 HB.out)
            refine start_ (n := 17) (S := fun w' => w'.cell? ⟨gb209, 0, none⟩ = some (.int .i64 a1_0) ∧ w'.cell? ⟨gb209, 1, none⟩ = some (.string a1_1) ∧ w'.cell? ⟨gb209, 2, none⟩ = some (.slice A1_2 l1_2.length c1_2)) (ds := []) #[false, false, false, false, false, false, false, false, false, false, false, false, false, false, false, false, false] (by kernel_rfl) rfl rfl ⟨bc0 BK209.out, bc1 BK209.out, bc2 BK209.out⟩ (fun hHeld => ?_); refine with_tabW spec_PartOk.tab3 spec_PartOk.bits3 (fun HT_ HW_ => ?_)
            generalize wc.drew = w38 at BK208 BK209 HB hHeld ⊢
            refine pA 0 (some 28) (bz 17 1) HT_ ?_
            refine tA 1 (some 29) (bz 17 3) HT_ HW_ hHeld ?_
            refine pA 2 (some 30) (bz 17 7) HT_ ?_
            refine pA 3 (some 31) (bz 17 15) HT_ ?_
            refine pA 4 (some 32) (bz 17 31) HT_ ?_
            refine tA 5 (some 33) (bz 17 63) HT_ HW_ hHeld ?_
            refine oA 6 (some 34) (bz 17 127) HT_ (fun K hK => ?_)
            refine gA Tryd.func73 #[.string a1_1] ?_
            with_reducible refine (spec_NameOk.calls kj2 a1_1 false _ A32.out).mono ?_
            rintro e w39 ⟨rfl, hb⟩
            refine ⟨_, rfl, ?_⟩
            replace BK208 := bk BK208 hb
            replace BK209 := bk BK209 hb
            replace HB := bs HB hb
            (try clear hb)
            (try clear hb2)
            (try clear hk)
            (try clear hi)
            refine hK.out _ _ ⟨bc0 BK209.out, bc1 BK209.out, bc2 BK209.out⟩ (fun hHeld => ?_)
            clear hK K
            refine nA (some 34) ?_
            refine pA 7 (some 35) (bz 17 255) HT_ ?_
            refine pU 8 (some 36) (bz 17 511) HT_ ?_
            refine pU 9 (some 37) (bz 17 1023) HT_ ?_
            refine pU 10 (some 38) (bz 17 2047) HT_ ?_
            refine pU 11 (some 39) (bz 17 4095) HT_ ?_
            refine pU 12 (some 40) (bz 17 0x1fff) HT_ ?_
            refine pU 13 (some 41) (bz 17 0x3fff) HT_ ?_
            refine pA 14 (some 42) (bz 17 0x7fff) HT_ ?_
            refine pA 15 (some 43) (bz 17 0xffff) HT_ ?_
            refine pA 16 (some 4) (bz 17 0x1ffff) HT_ ?_
            refine done_ (done_of HT_.out (by kernel_rfl)) ?_
            try go_wp2
            go_ret
            exact ⟨y0_4, bI HB.out⟩

/-! ### laws_toConf: function 19 -/
def laws_toConf.f (a0_0 : Int) (a0_1 : Int) : Option (Int × Int) := some (a0_0, a0_1)
set_option maxHeartbeats 8000000 in
set_option maxRecDepth 100000 in
theorem laws_toConf.calls (a0_0 : Int) (a0_1 : Int) (r1 : Int) (r2 : Int) (w : World) (h : laws_toConf.f a0_0 a0_1 = some (r1, r2)) :
    Calls Tryd.prog 19 #[.agg #[.int .i64 a0_0, .int .i64 a0_1]] w fun e w' => e = .returned (.agg #[.int .i64 r1, .int .i64 r2]) ∧ Below w.heap.size w w' := by
  have hu26 := Tryd.underlying26
  have hu32 := Tryd.underlying32
  have HB := Aside0.mk (Below.refl w.heap.size w)
  have H : (some (a0_0, a0_1)) = some (r1, r2) := h
  clear h
  simp only [Option.some.injEq, Prod.mk.injEq] at H
  obtain ⟨rfl, rfl⟩ := H
  go_enter Tryd.func19, Tryd.ntmps19
  go_wp2_with (first | ((with_reducible refine gd 1 ?_); refine bA 1 #[.int .i64 a0_0, .int .i64 a0_1] 26 ?_; intro gb215 hg w2 hbox hb; have BK215 := Aside0.mk (hbox); have GW215 := bg hg HB; have GJ215 := gi GW215; have GE215 := GW215; replace HB := bs HB hb; clear hb hbox hg) | ((with_reducible refine gd 2 ?_); refine bA 2 #[.int .i64 0, .int .i64 0] 32 ?_; intro gb216 hg w3 hbox hb; have BK216 := Aside0.mk (hbox); have GW216 := bg hg HB; have GJ216 := gi GW216; have GE216 := GW216; replace HB := bs HB hb; have NB215_216 := b1 BK215 hg; have NI215_216 := ni NB215_216; have NB216_215 := b2 BK215 hg; have NI216_215 := ni NB216_215; replace BK215 := bk BK215 hb; clear hb hbox hg) | ((with_reducible refine gd 3 ?_); refine bA 3 #[.int .i64 0, .int .i64 0] 32 ?_; intro gb217 hg w4 hbox hb; have BK217 := Aside0.mk (hbox); have GW217 := bg hg HB; have GJ217 := gi GW217; have GE217 := GW217; replace HB := bs HB hb; have NB215_217 := b1 BK215 hg; have NI215_217 := ni NB215_217; have NB217_215 := b2 BK215 hg; have NI217_215 := ni NB217_215; replace BK215 := bk BK215 hb; have NB216_217 := b1 BK216 hg; have NI216_217 := ni NB216_217; have NB217_216 := b2 BK216 hg; have NI217_216 := ni NB217_216; replace BK216 := bk BK216 hb; clear hb hbox hg; have hnb5 := NB215_216.out; have hnc5 := NB216_215.out; have hnb6 := NB215_217.out; have hnc6 := NB217_215.out; obtain ⟨hcz7_0, hcz7_1, hfz7_0, hfz7_1⟩ := cs2 BK215; have hnb8 := NB217_216.out; have hnc8 := NB216_217.out; obtain ⟨hcz9_0, hcz9_1, hfz9_0, hfz9_1⟩ := cs2 BK217; obtain ⟨hcz10_0, hcz10_1, hfz10_0, hfz10_1⟩ := cs2 BK216))
  refine bodyPost_ret (results_cell_row rfl _ _ gb216 32 #[.int .i64 a0_0, .int .i64 a0_1] (0, 0) _ rfl (pI BK216) Tryd.underlying32 rfl (by kernel_rfl)) rfl ?_
  exact ⟨y0_4, bI HB.out⟩

/-! ### laws_toIntS: function 75 -/
def laws_toIntS.l0 : Nat → List Int → List Int → Int → Option (List Int)
  | 0, _, _, _ => none
  | k + 1, x0, x3, x4 => if x4 < (x0.length : Int) then (if 0 ≤ x4 then (if x4 < (x3.length : Int) then (laws_toIntS.l0 k x0 (x3.set (x4 : Int).toNat (rd x0 x4)) (wrap64 (x4 + 1))) else (none)) else (none)) else (some x3)
def laws_toIntS.f (k : Nat) (l0 : List Int) : Option (List Int) := if 0 ≤ (l0.length : Int) then (if ((l0.length : Int) : Int).toNat ≤ 35184372088832 then (laws_toIntS.l0 k l0 (List.replicate ((l0.length : Int) : Int).toNat 0) 0) else (none)) else (none)
theorem laws_toIntS.mono_l : ∀ k, (∀ y0 y1 y2, LeO (laws_toIntS.l0 k y0 y1 y2) (laws_toIntS.l0 (k + 1) y0 y1 y2))
  | 0 => fun _ _ _ r h => by simp [laws_toIntS.l0] at h
  | k + 1 => by
    have ih0 := laws_toIntS.mono_l k
    · intro y0 y1 y2
      unfold laws_toIntS.l0
      repeat' first
      | (with_reducible exact ih0 _ _ _)
      | (with_reducible exact LeO.refl _)
      | (with_reducible exact LeO.none _)
      | (with_reducible refine LeO.ite ?_ ?_)
      | (with_reducible refine LeO.bind ?_ (fun _ => ?_))
      | exact ih0 _ _ _
      | exact LeO.none _
      | refine LeO.ite ?_ ?_
      | refine LeO.bind ?_ (fun _ => ?_)
theorem laws_toIntS.mono : ∀ a0 k, LeO (laws_toIntS.f k a0) (laws_toIntS.f (k + 1) a0) := by
  intro a0 k
  have ih0 := laws_toIntS.mono_l k
  unfold laws_toIntS.f
  repeat' first
      | (with_reducible exact ih0 _ _ _)
      | (with_reducible exact LeO.refl _)
      | (with_reducible exact LeO.none _)
      | (with_reducible refine LeO.ite ?_ ?_)
      | (with_reducible refine LeO.bind ?_ (fun _ => ?_))
      | exact ih0 _ _ _
      | exact LeO.none _
      | refine LeO.ite ?_ ?_
      | refine LeO.bind ?_ (fun _ => ?_)
set_option maxHeartbeats 8000000 in
set_option maxRecDepth 100000 in
theorem laws_toIntS.calls (k : Nat) (A0 : Option Addr) (c0 : Nat) (l0 : List Int) (r : List Int) (w : World) (hr0 : Kd.C (Kd.int .i64) w A0 l0.length l0) (hc0 : l0.length ≤ c0) (h : laws_toIntS.f k l0 = some r) :
    Calls Tryd.prog 75 #[.slice A0 l0.length c0] w fun e w' => ∃ v0_ : Value, e = .returned (v0_) ∧ Kd.R (Kd.int .i64) 3 w' w.heap.size (fun _ => True) v0_ r ∧ Below w.heap.size w w' := by
  have HR0 := Aside0.mk hr0
  have HC0 := Aside0.mk hc0
  clear hr0 hc0
  have HB := Aside0.mk (Below.refl w.heap.size w)
  have H : (if 0 ≤ (l0.length : Int) then (if ((l0.length : Int) : Int).toNat ≤ 35184372088832 then (laws_toIntS.l0 k l0 (List.replicate ((l0.length : Int) : Int).toNat 0) 0) else (none)) else (none)) = some r := h
  clear h
  by_cases c2 : 0 ≤ (l0.length : Int)
  · rw [if_pos c2] at H
    have c2b0 := eq_true c2
    have c2b1 : decide (0 ≤ (l0.length : Int)) = true := decide_eq_true c2
    clear c2
    by_cases c3 : ((l0.length : Int) : Int).toNat ≤ 35184372088832
    rotate_left
    · rw [if_neg c3] at H
      exact absurd H (by simp)
    rw [if_pos c3] at H
    have c3b0 := eq_true c3
    have c3b1 : decide (((l0.length : Int) : Int).toNat ≤ 35184372088832) = true := decide_eq_true c3
    clear c3
    obtain ⟨y218, hy218⟩ : ∃ y_ : List Int, y_ = (List.replicate ((l0.length : Int) : Int).toNat 0) := ⟨_, rfl⟩
    replace H : (laws_toIntS.l0 k l0 y218 0) = some r := by first | (rw [hy218]; with_reducible exact H) | (have H2_ := (Option.bind_some _ _).symm.trans H; rw [hy218]; with_reducible exact H2_) | (have H2_ := (Option.bind_some _ _).symm.trans H; with_reducible exact H2_) | with_reducible exact H | (rw [hy218]; exact H) | exact H
    have Ny218 := Aside0.mk hy218
    clear hy218
    have H' := Aside0.mk H
    clear H
    go_enter Tryd.func75, Tryd.ntmps75
    go_wp2_with (first | ((with_reducible refine gate_dst (N := 7) rfl ?_); refine Kd.R_make (Kd.int .i64) _ 3 rfl (N := 7) rfl 27 _ _ rfl (l0.length : Int) rfl rfl Tryd.underlying27 (.int .i64 0) 8 info3 rfl (by decide) (by omega) 0 (ok := fun _ => True) (okp := fun _ => True) rfl (fun _ hk => hk) trivial (of_decide_eq_true y0_6) (Nat.le_trans (Nat.mul_le_mul_right _ (of_decide_eq_true y0_6 : (l0.length : Int).toNat ≤ 35184372088832)) (by omega)) (Below.refl _ _) (Nat.le_refl _) ?_; intro v219 w4 ho5 hb hg_ hnew_; clear hg_ hnew_; (first | rw [← Ny218.out] at ho5 | (simp only [Int.reduceToNat] at ho5; rw [← Ny218.out] at ho5)); have HO220 := Aside0.mk (Kd.R_lower ho5 (below_size (bI HB.out))); replace HB := bs HB hb; clear hb ho5))
    go_loopg [4] k (fun kq v4 w' => ∃ (x3_1 : List Int) (x4_1 : Int), v4 = .int .i64 x4_1 ∧ Aside0 (laws_toIntS.l0 kq l0 x3_1 x4_1 = some r) ∧ Aside0 (kq ≤ k) ∧ Aside0 (Kd.R (Kd.int .i64) 3 w' w.heap.size (fun _ => True) v219 x3_1) ∧ Aside0 (Below w.heap.size w w'))
    case atStart => exact ⟨(y218), (0), y0_7, H', ⟨Nat.le_refl _⟩, ⟨by (with_reducible repeat (first | apply Kd.R_alloc | apply Kd.R_drewN | apply Kd.R_drew)); exact HO220.out⟩, ⟨bI HB.out⟩⟩
    case round =>
      clear H'
      try clear c2
      try clear c2b0
      try clear c2b1
      try clear p2
      try clear c3
      try clear c3b0
      try clear c3b1
      obtain ⟨x3_1, x4_1, rfl, HA, HK1, HO_3, HB⟩ := hrel
      cases gk with
      | zero => exact absurd HA.out (by simp [laws_toIntS.l0])
      | succ k1 =>
        have H := HA.out
        clear HA
        simp only [laws_toIntS.l0] at H
        by_cases c6 : x4_1 < (l0.length : Int)
        · rw [if_pos c6] at H
          have c6b0 : decide (x4_1 < (l0.length : Int)) = true := decide_eq_true c6
          clear c6
          by_cases c7 : 0 ≤ x4_1
          rotate_left
          · rw [if_neg c7] at H
            exact absurd H (by simp)
          rw [if_pos c7] at H
          have c7b0 : decide (0 ≤ x4_1) = true := decide_eq_true c7
          clear c7
          by_cases c8 : x4_1 < (x3_1.length : Int)
          rotate_left
          · rw [if_neg c8] at H
            exact absurd H (by simp)
          rw [if_pos c8] at H
          have c8b0 : decide (x4_1 < (x3_1.length : Int)) = true := decide_eq_true c8
          clear c8
          obtain ⟨y222, hy222⟩ : ∃ y_ : List Int, y_ = (x3_1.set (x4_1 : Int).toNat (rd l0 x4_1)) := ⟨_, rfl⟩
          replace H : (laws_toIntS.l0 k1 l0 y222 (wrap64 (x4_1 + 1))) = some r := by first | (rw [hy222]; with_reducible exact H) | (have H2_ := (Option.bind_some _ _).symm.trans H; rw [hy222]; with_reducible exact H2_) | (have H2_ := (Option.bind_some _ _).symm.trans H; with_reducible exact H2_) | with_reducible exact H | (rw [hy222]; exact H) | exact H
          have Ny222 := Aside0.mk hy222
          clear hy222
          have H' := Aside0.mk H
          clear H
          have p221 : 0 ≤ (x4_1 : Int) := of_decide_eq_true y0_6
          have q221 : x4_1 < (l0.length : Int) := of_decide_eq_true y0_6
          obtain ⟨ad221, e221, hx221_0⟩ := Kd.at_int HR0.out x4_1 p221 q221
          cases e221
          replace hx221_0 := bx HB hx221_0
          replace p221 := eq_true p221
          replace q221 := eq_true q221
          have p9 : 0 ≤ (x4_1 : Int) := of_decide_eq_true y0_6
          have q9 : (x4_1 : Int) < ((x3_1.length : Int) : Int) := of_decide_eq_true y0_6
          obtain ⟨go9, co9, eo9, gb9, gl9, cl9, HG9⟩ := Kd.R_form HO_3.out (by omega)
          (first | cases eo9 | (injection eo9 with ea_ en_ ec_; (first | subst ea_ | (injection ea_ with ea_; subst ea_)); subst ec_; clear en_))
          have GB9 := Aside0.mk gb9
          have GG9 := Aside0.mk HG9
          clear gb9 gl9 HG9
          obtain ⟨hx9_0, hf9_0⟩ := Kd.R_celln 0 HO_3.out (x4_1 : Int) p9 q9
          replace p9 := eq_true p9
          replace q9 := eq_true q9
          have HP10 := Kd.R_putg HO_3.out (x4_1 : Int) (rd l0 x4_1)
          go_wp2_with (first | ((with_reducible refine gate_store (t := 3) (p := 20) rfl ?_); refine store_event (t := 3) (p := 20) (v := ?vo_w11) (w1 := (wr.setCell ⟨go9, (x4_1 : Int).toNat, none⟩ (.int .i64 (rd l0 x4_1)))) ?hg ?ho ?hn ?hr ?_; (case ho => rfl); (case hg => rfl); (case hn => rfl); (case hr => first | (go_simp; done) | (go_simp; rfl)); intro w11 hw; have hg : wr.grownBy w11 (some go9) := (by rw [hw]; exact HP10.2); have hp_ : Kd.R (Kd.int .i64) 3 w11 w.heap.size (fun _ => True) (.slice (some ⟨go9, 0, none⟩) x3_1.length co9) y222 := (by rw [hw, Ny222.out]; exact HP10.1); clear HP10; replace HO_3 := Aside0.mk (hp_); replace HB := Aside0.mk ((by rw [hw]; exact below_set (HB.out) GB9.out : Below w.heap.size w w11)); clear hg hw hp_))
          go_roundg k1
          case measure => have := HK1.out; omega
          case rel => exact ⟨(y222), (wrap64 (x4_1 + 1)), y0_7, H', ⟨y0_11⟩, ⟨by (with_reducible repeat (first | apply Kd.R_alloc | apply Kd.R_drewN | apply Kd.R_drew)); exact HO_3.out⟩, ⟨bI HB.out⟩⟩
        · rw [if_neg c6] at H
          have c6b0 : decide (x4_1 < (l0.length : Int)) = false := decide_eq_false c6
          clear c6
          obtain rfl := Option.some.inj H
          go_wp2
          go_ret
          exact ⟨_, y0_4, by (with_reducible repeat (first | apply Kd.R_alloc | apply Kd.R_drewN | apply Kd.R_drew)); exact HO_3.out, bI HB.out⟩
  · rw [if_neg c2] at H
    exact absurd H (by simp)

end Go.Proofs.YtcmldmlmhpfjhaaDoor.PFnExactPartOk
