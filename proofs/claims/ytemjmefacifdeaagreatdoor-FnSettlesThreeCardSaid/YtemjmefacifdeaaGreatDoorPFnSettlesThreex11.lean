-- By a program of this session, out of the translation (the print of the kit, with turns of its own). Lean checks it.
import Derived.Test.YtemjmefacifdeaaGreatDoorPFnSettlesThreex0
import Derived.Test.YtemjmefacifdeaaGreatDoorPFnSettlesThreex9
import Derived.Test.YtemjmefacifdeaaGreatDoorPFnSettlesThreex10
namespace Go.Proofs.YtemjmefacifdeaaGreatDoor.PFnSettlesThree
open Go.RowKit Go.Proofs.YtemjmefacifdeaaGreatDoorW.PrintWords Go.Proofs.YtemjmefacifdeaaGreatDoorW.PrintLast Go.Proofs.YtemjmefacifdeaaGreatDoorW.PrintMore
attribute [local go_sem] max2_int min2_int max_two min_two max_three min_three max_four min_four   -- for this text's walks alone
set_option linter.unusedVariables false
set_option linter.unusedSimpArgs false

/-! ### impl_QcOk: function 48 -/
def impl_QcOk.f (k : Nat) (a0_0 : Int) (a0_1 : Int) (a1_0 : Int) (a1_1 : ByteArray) (l1_2 : List Int) : Option (Bool) := (impl_ConfOk.f a0_0 a0_1).bind fun t371 => (if t371 = true then ((impl_QcFirst.f).bind fun bt372 => ((impl_QcSame.f k a1_0 a1_1 l1_2 bt372.1 bt372.2.1 bt372.2.2).bind fun t377 => (if t377 = true then (some true) else (if a1_0 ≥ 1 then ((impl_NameOk.f k a1_1).bind fun t378 => (if t378 = true then ((impl_ViewOf.f k a1_1).bind fun t379 => (if a1_0 = t379 then ((impl_SetOk.f k a0_0 l1_2).bind fun t380 => (if t380 = true then ((impl_Quorum.f a0_0 a0_1).bind fun t381 => (some (decide ((l1_2.length : Int) ≥ t381)))) else (some false))) else (some false))) else (some false))) else (some false))))) else (some false))
theorem impl_QcOk.mono : ∀ a0 a1 a2 a3 a4 k, LeO (impl_QcOk.f k a0 a1 a2 a3 a4) (impl_QcOk.f (k + 1) a0 a1 a2 a3 a4) := by
 intro a0 a1 a2 a3 a4 k
 unfold impl_QcOk.f
 repeat' first | (with_reducible exact impl_NameOk.mono _ _) | (with_reducible exact impl_QcSame.mono _ _ _ _ _ _ _) | (with_reducible exact impl_SetOk.mono _ _ _) | (with_reducible exact impl_ViewOf.mono _ _) | (with_reducible exact LeO.refl _) | (with_reducible exact LeO.none _) | (with_reducible refine LeO.ite ?_ ?_) | (with_reducible refine LeO.bind ?_ (fun _ => ?_))
def impl_QcOk.T3 : Bool × List (List Nat × List Nat) := (true, [([], []), ([], []), ([0, 1, 1], [0, 1]), ([2, 2], [2]), ([3], [3]), ([4, 3], [3, 4]), ([5, 3], [3, 5]), ([6, 3, 3], [3, 6]), ([7], [7]), ([8, 7], [7, 8]), ([9, 7, 7], [7, 9]), ([7, 10, 3], [3, 7, 10]), ([11, 10, 3], [3, 11]), ([12], [12]), ([13, 12], [12, 13]), ([12], [12]), ([15, 12], [12, 15]), ([16, 12, 12], [12, 16]), ([14, 17, 12], [12, 14, 17]), ([12, 18, 3], [3, 12, 18]), ([19, 17, 3], [3, 19]), ([20], [20]), ([21, 20], [20, 21]), ([20], [20]), ([23, 20], [20, 23]), ([22, 24, 20, 20], [20, 22, 24]), ([20, 25, 3], [3, 20, 25]), ([26, 25, 3], [3, 26]), ([27], [27]), ([28, 27], [27, 28]), ([29, 27], [27, 29]), ([27], [27]), ([31, 27, 27], [27, 31]), ([30, 32, 27], [27, 30, 32]), ([27, 33, 3], [3, 27, 33]), ([3, 34], [3, 34]), ([35, 32, 0, 1, 2, 3, 4, 5, 6, 7, 8, 9, 10, 11, 12, 13, 14, 15, 16, 17, 18, 19, 20, 21, 22, 23, 24, 25, 26, 27, 28, 29, 30, 31, 32, 33, 34, 35], [35])])
def impl_QcOk.B3 : List Nat := [0, 0, 3, 7, 15, 31, 63, 127, 255, 511, 1023, 2047, 4095, 8191, 16383, 8191, 40959, 106495, 262143, 524287, 1048575, 2097151, 4194303, 2097151, 10485759, 33554431, 67108863, 134217727, 268435455, 536870911, 1073741823, 268435455, 2415919103, 8589934591, 17179869183, 34359738367, 68719476735]
theorem impl_QcOk.tab3 : rtab .any (opsOf Tryz.f48 3) = impl_QcOk.T3 := by kernel_rfl
theorem impl_QcOk.bits3 : waitsOk impl_QcOk.T3.2 impl_QcOk.B3 = true := by kernel_rfl
set_option maxHeartbeats 8000000 in
set_option maxRecDepth 100000 in
theorem impl_QcOk.calls (k : Nat) (a0_0 : Int) (a0_1 : Int) (a1_0 : Int) (a1_1 : ByteArray) (A1_2 : Option Addr) (c1_2 : Nat) (l1_2 : List Int) (r : Bool) (w : World) (hr1_2 : Kd.C (Kd.int .i64) w A1_2 l1_2.length l1_2) (hc1_2 : l1_2.length ≤ c1_2) (h : impl_QcOk.f k a0_0 a0_1 a1_0 a1_1 l1_2 = some r) (hG : Glob w := by exact gG HG HB) :
  Calls Tryz.prog 48 #[.agg #[.int .i64 a0_0, .int .i64 a0_1], .agg #[.int .i64 a1_0, .string a1_1, .slice A1_2 l1_2.length c1_2]] w fun e w' => e = .returned (.bool r) ∧ Below w.heap.size w w' := by
 have HG := Aside0.mk hG; clear hG; have hu38 := Tryz.underlying38; have hu33 := Tryz.underlying33; have HR1_2 := Aside0.mk hr1_2; have HC1_2 := Aside0.mk hc1_2; clear hr1_2 hc1_2; have HB := Aside0.mk (Below.refl w.heap.size w)
 have H : ((impl_ConfOk.f a0_0 a0_1).bind fun t371 => (if t371 = true then ((impl_QcFirst.f).bind fun bt372 => ((impl_QcSame.f k a1_0 a1_1 l1_2 bt372.1 bt372.2.1 bt372.2.2).bind fun t377 => (if t377 = true then (some true) else (if a1_0 ≥ 1 then ((impl_NameOk.f k a1_1).bind fun t378 => (if t378 = true then ((impl_ViewOf.f k a1_1).bind fun t379 => (if a1_0 = t379 then ((impl_SetOk.f k a0_0 l1_2).bind fun t380 => (if t380 = true then ((impl_Quorum.f a0_0 a0_1).bind fun t381 => (some (decide ((l1_2.length : Int) ≥ t381)))) else (some false))) else (some false))) else (some false))) else (some false))))) else (some false))) = some r := h
 clear h; obtain ⟨t371, A30, H⟩ := Option.bind_eq_some_iff.mp H
 try dsimp only at H
 have A3 := Aside0.mk A30; clear A30
 by_cases c4 : t371 = true
 ·
  subst c4
  rw [if_pos rfl] at H
  obtain ⟨⟨t372, t373, t374⟩, A50, H⟩ := Option.bind_eq_some_iff.mp H
  try dsimp only at H
  have A5 := Aside0.mk A50; clear A50; obtain ⟨t377, A60, H⟩ := Option.bind_eq_some_iff.mp H
  try dsimp only at H
  have A6 := Aside0.mk A60; clear A60
  by_cases c7 : t377 = true
  ·
   subst c7
   rw [if_pos rfl] at H
   obtain rfl := Option.some.inj H
   go_enter Tryz.func48, Tryz.ntmps48
   try go_wp2_with (first | ((with_reducible refine gate_dst (N := 2) rfl ?_); (try (refine gate_guard (by rfl) ?_; dsimp only)); refine box_event ?hg (N := 2) ?hd (cs := #[.int .i64 a0_0, .int .i64 a0_1]) (t := 38) ?hr ?_; (case hd => rfl); (case hg => rfl); (case hr => first | (go_simp; done) | (go_simp; rfl)); intro gb369 hg w8 hbox hb; have BK369 := Aside0.mk (hbox); have GW369 := bg hg HB; have GJ369 := gi GW369; have GE369 := GW369; replace HB := bs HB hb; clear hb hbox hg) | ((with_reducible refine gate_dst (N := 3) rfl ?_); (try (refine gate_guard (by rfl) ?_; dsimp only)); refine box_event ?hg (N := 3) ?hd (cs := #[.int .i64 a1_0, .string a1_1, .slice A1_2 l1_2.length c1_2]) (t := 33) ?hr ?_; (case hd => rfl); (case hg => rfl); (case hr => first | (go_simp; done) | (go_simp; rfl)); intro gb370 hg w9 hbox hb; have BK370 := Aside0.mk (hbox); have GW370 := bg hg HB; have GJ370 := gi GW370; have GE370 := GW370; replace HB := bs HB hb; have NB369_370 := b1 BK369 hg; have NI369_370 := ni NB369_370; have NB370_369 := b2 BK369 hg; have NI370_369 := ni NB370_369; replace BK369 := bk BK369 hb; clear hb hbox hg; have hnb10 := NB369_370.out; have hnc10 := NB370_369.out; obtain ⟨hcz11_0, hcz11_1, hfz11_0, hfz11_1⟩ := cs2 BK369) | ((with_reducible refine gate_callee (f := 54) rfl ?_); refine gB (some 6) Tryz.func54 #[.agg #[.int .i64 a0_0, .int .i64 a0_1]] ?_; (with_reducible refine (impl_ConfOk.calls a0_0 a0_1 true _ A3.out).mono ?_); rintro e w12 ⟨rfl, hb⟩; refine ⟨_, rfl, ?_⟩; replace BK369 := bk BK369 hb; replace BK370 := bk BK370 hb; replace HB := bs HB hb; (try clear hb); (try clear hb2); (try clear hk); (try clear hi)))
   replace BK369 := Aside0.mk (blk_drew BK369.out); replace BK370 := Aside0.mk (blk_drew BK370.out); replace HB := Aside0.mk (below_drew1 HB.out)
   refine start_ (n := 37) (S := fun w' => w'.cell? ⟨gb370, 0, none⟩ = some (.int .i64 a1_0) ∧ w'.cell? ⟨gb370, 1, none⟩ = some (.string a1_1) ∧ w'.cell? ⟨gb370, 2, none⟩ = some (.slice A1_2 l1_2.length c1_2)) (ds := []) #[false, false, false, false, false, false, false, false, false, false, false, false, false, false, false, false, false, false, false, false, false, false, false, false, false, false, false, false, false, false, false, false, false, false, false, false, false] (by kernel_rfl) rfl rfl ⟨bc0 BK370.out, bc1 BK370.out, bc2 BK370.out⟩ (fun hHeld => ?_); refine with_tabW impl_QcOk.tab3 impl_QcOk.bits3 (fun HT_ HW_ => ?_)
   generalize w12.drew = w13 at BK369 BK370 HB hHeld ⊢
   refine tA 0 (some 8) (bz 37 1) HT_ HW_ hHeld ?_
   refine oA 1 (some 9) (bz 37 3) HT_ (fun K hK => ?_)
   refine gA Tryz.func39 #[] ?_
   with_reducible refine (impl_QcFirst.calls  t372 t373 t374 _ A5.out).mono ?_
   rintro e w14 ⟨v375, rfl, ho0, hb⟩
   refine ⟨_, rfl, ?_⟩
   have HO376 := Aside0.mk (Kd.R_lower ho0 (below_size (bI HB.out))); replace BK369 := bk BK369 hb; replace BK370 := bk BK370 hb; replace HB := bs HB hb
   (try clear hb)
   (try clear hb2)
   (try clear hk)
   (try clear hi)
   (try clear ho0)
   obtain ⟨Ao15, co15, eo15⟩ := Kd.R_slice HO376.out
   (first | subst eo15 | (injection eo15 with f1_ f2_ f3_; have f4_ := f1_.symm; have f5_ := f3_.symm; clear f1_ f2_ f3_; subst f4_; subst f5_))
   refine hK.out _ _ ⟨bc0 BK370.out, bc1 BK370.out, bc2 BK370.out⟩ (fun hHeld => ?_)
   clear hK K
   refine nA (some 9) ?_
   refine oA 2 (some 10) (bz 37 7) HT_ (fun K hK => ?_)
   refine gA Tryz.func57 #[.agg #[.int .i64 a1_0, .string a1_1, .slice A1_2 l1_2.length c1_2], .agg #[.int .i64 t372, .string t373, .slice Ao15 t374.length co15]] ?_
   with_reducible refine (impl_QcSame.calls k a1_0 a1_1 _ _ l1_2 t372 t373 _ _ t374 true _ ?side1 ?side2 ?side3 ?side4 A6.out).mono ?_
   (case side1 => exact ch HR1_2 HB)
   (case side2 => exact HC1_2.out)
   (case side3 => repeat (first | exact (Kd.R_reads' HO376.out).2.2 | (with_reducible refine Kd.C_alloc ?_ _) | (with_reducible refine Kd.C_drewN ?_ _) | (with_reducible refine Kd.C_drew ?_)))
   (case side4 => exact (Kd.R_reads' HO376.out).2.1)
   rintro e w16 ⟨rfl, hb⟩
   refine ⟨_, rfl, ?_⟩
   replace HO376 := rb HO376 hb; replace BK369 := bk BK369 hb; replace BK370 := bk BK370 hb; replace HB := bs HB hb
   (try clear hb)
   (try clear hb2)
   (try clear hk)
   (try clear hi)
   refine hK.out _ _ ⟨bc0 BK370.out, bc1 BK370.out, bc2 BK370.out⟩ (fun hHeld => ?_)
   clear hK K
   refine nA (some 10) ?_
   refine pA 3 (some 11) (bz 37 15) HT_ ?_
   refine pU 4 (some 12) (bz 37 31) HT_ ?_
   refine pU 5 (some 13) (bz 37 63) HT_ ?_
   refine pU 6 (some 14) (bz 37 127) HT_ ?_
   refine pU 7 (some 15) (bz 37 255) HT_ ?_
   refine pU 8 (some 16) (bz 37 511) HT_ ?_
   refine pU 9 (some 17) (bz 37 1023) HT_ ?_
   refine pU 10 (some 18) (bz 37 2047) HT_ ?_
   refine pU 11 (some 19) (bz 37 4095) HT_ ?_
   refine pU 12 (some 20) (bz 37 0x1fff) HT_ ?_
   refine pU 13 (some 21) (bz 37 0x3fff) HT_ ?_
   refine pU 14 (some 22) (bz 37 0x7fff) HT_ ?_
   refine pU 15 (some 23) (bz 37 0xffff) HT_ ?_
   refine pU 16 (some 24) (bz 37 0x1ffff) HT_ ?_
   refine pU 17 (some 25) (bz 37 0x3ffff) HT_ ?_
   refine pU 18 (some 26) (bz 37 0x7ffff) HT_ ?_
   refine pU 19 (some 27) (bz 37 0xfffff) HT_ ?_
   refine pU 20 (some 28) (bz 37 0x1fffff) HT_ ?_
   refine pU 21 (some 29) (bz 37 0x3fffff) HT_ ?_
   refine pU 22 (some 30) (bz 37 0x7fffff) HT_ ?_
   refine pU 23 (some 31) (bz 37 0xffffff) HT_ ?_
   refine pU 24 (some 32) (bz 37 0x1ffffff) HT_ ?_
   refine pU 25 (some 33) (bz 37 0x3ffffff) HT_ ?_
   refine pU 26 (some 34) (bz 37 0x7ffffff) HT_ ?_
   refine pU 27 (some 35) (bz 37 0xfffffff) HT_ ?_
   refine pU 28 (some 36) (bz 37 0x1fffffff) HT_ ?_
   refine pU 29 (some 37) (bz 37 0x3fffffff) HT_ ?_
   refine pU 30 (some 38) (bz 37 0x7fffffff) HT_ ?_
   refine pU 31 (some 39) (bz 37 0xffffffff) HT_ ?_
   refine pU 32 (some 40) (bz 37 0x1ffffffff) HT_ ?_
   refine pU 33 (some 41) (bz 37 0x3ffffffff) HT_ ?_
   refine pU 34 (some 42) (bz 37 0x7ffffffff) HT_ ?_
   refine pA 35 (some 43) (bz 37 0xfffffffff) HT_ ?_
   refine pA 36 (some 4) (bz 37 0x1fffffffff) HT_ ?_
   refine done_ (done_of HT_.out (by kernel_rfl)) ?_
   try go_wp2
   go_ret
   exact ⟨y0_6, bI HB.out⟩
  replace c7 := Bool.eq_false_iff.mpr c7; subst c7
  rw [if_neg (show ¬ (false = true) by decide)] at H
  by_cases c17 : a1_0 ≥ 1
  ·
   rw [if_pos c17] at H
   have c17b0 : decide (1 ≤ a1_0) = true := decide_eq_true c17; clear c17; obtain ⟨t378, A180, H⟩ := Option.bind_eq_some_iff.mp H
   try dsimp only at H
   have A18 := Aside0.mk A180; clear A180
   by_cases c19 : t378 = true
   ·
    subst c19
    rw [if_pos rfl] at H
    obtain ⟨t379, A200, H⟩ := Option.bind_eq_some_iff.mp H
    try dsimp only at H
    have A20 := Aside0.mk A200; clear A200
    by_cases c21 : a1_0 = t379
    ·
     rw [if_pos c21] at H
     have c21b0 : (a1_0 == t379) = true := beq_iff_eq.mpr c21; have c21b1 : (a1_0 != t379) = false := bne_eq_false_iff_eq.mpr c21; clear c21; obtain ⟨t380, A220, H⟩ := Option.bind_eq_some_iff.mp H
     try dsimp only at H
     have A22 := Aside0.mk A220; clear A220
     by_cases c23 : t380 = true
     ·
      subst c23
      rw [if_pos rfl] at H
      obtain ⟨t381, A240, H⟩ := Option.bind_eq_some_iff.mp H
      try dsimp only at H
      have A24 := Aside0.mk A240; clear A240; obtain rfl := Option.some.inj H
      go_enter Tryz.func48, Tryz.ntmps48
      try go_wp2_with (first | ((with_reducible refine gate_dst (N := 2) rfl ?_); (try (refine gate_guard (by rfl) ?_; dsimp only)); refine box_event ?hg (N := 2) ?hd (cs := #[.int .i64 a0_0, .int .i64 a0_1]) (t := 38) ?hr ?_; (case hd => rfl); (case hg => rfl); (case hr => first | (go_simp; done) | (go_simp; rfl)); intro gb369 hg w25 hbox hb; have BK369 := Aside0.mk (hbox); have GW369 := bg hg HB; have GJ369 := gi GW369; have GE369 := GW369; replace HB := bs HB hb; clear hb hbox hg) | ((with_reducible refine gate_dst (N := 3) rfl ?_); (try (refine gate_guard (by rfl) ?_; dsimp only)); refine box_event ?hg (N := 3) ?hd (cs := #[.int .i64 a1_0, .string a1_1, .slice A1_2 l1_2.length c1_2]) (t := 33) ?hr ?_; (case hd => rfl); (case hg => rfl); (case hr => first | (go_simp; done) | (go_simp; rfl)); intro gb370 hg w26 hbox hb; have BK370 := Aside0.mk (hbox); have GW370 := bg hg HB; have GJ370 := gi GW370; have GE370 := GW370; replace HB := bs HB hb; have NB369_370 := b1 BK369 hg; have NI369_370 := ni NB369_370; have NB370_369 := b2 BK369 hg; have NI370_369 := ni NB370_369; replace BK369 := bk BK369 hb; clear hb hbox hg; have hnb27 := NB369_370.out; have hnc27 := NB370_369.out; obtain ⟨hcz28_0, hcz28_1, hfz28_0, hfz28_1⟩ := cs2 BK369) | ((with_reducible refine gate_callee (f := 54) rfl ?_); refine gB (some 6) Tryz.func54 #[.agg #[.int .i64 a0_0, .int .i64 a0_1]] ?_; (with_reducible refine (impl_ConfOk.calls a0_0 a0_1 true _ A3.out).mono ?_); rintro e w29 ⟨rfl, hb⟩; refine ⟨_, rfl, ?_⟩; replace BK369 := bk BK369 hb; replace BK370 := bk BK370 hb; replace HB := bs HB hb; (try clear hb); (try clear hb2); (try clear hk); (try clear hi)))
      replace BK369 := Aside0.mk (blk_drew BK369.out); replace BK370 := Aside0.mk (blk_drew BK370.out); replace HB := Aside0.mk (below_drew1 HB.out)
      refine start_ (n := 37) (S := fun w' => w'.cell? ⟨gb370, 0, none⟩ = some (.int .i64 a1_0) ∧ w'.cell? ⟨gb370, 1, none⟩ = some (.string a1_1) ∧ w'.cell? ⟨gb370, 2, none⟩ = some (.slice A1_2 l1_2.length c1_2) ∧ w'.cell? ⟨gb369, 0, none⟩ = some (.int .i64 a0_0) ∧ w'.cell? ⟨gb369, 1, none⟩ = some (.int .i64 a0_1)) (ds := []) #[false, false, false, false, false, false, false, false, false, false, false, false, false, false, false, false, false, false, false, false, false, false, false, false, false, false, false, false, false, false, false, false, false, false, false, false, false] (by kernel_rfl) rfl rfl ⟨bc0 BK370.out, bc1 BK370.out, bc2 BK370.out, bc0 BK369.out, bc1 BK369.out⟩ (fun hHeld => ?_); refine with_tabW impl_QcOk.tab3 impl_QcOk.bits3 (fun HT_ HW_ => ?_)
      generalize w29.drew = w30 at BK369 BK370 HB hHeld ⊢
      refine tA 0 (some 8) (bz 37 1) HT_ HW_ hHeld ?_
      refine oA 1 (some 9) (bz 37 3) HT_ (fun K hK => ?_)
      refine gA Tryz.func39 #[] ?_
      with_reducible refine (impl_QcFirst.calls  t372 t373 t374 _ A5.out).mono ?_
      rintro e w31 ⟨v375, rfl, ho0, hb⟩
      refine ⟨_, rfl, ?_⟩
      have HO376 := Aside0.mk (Kd.R_lower ho0 (below_size (bI HB.out))); replace BK369 := bk BK369 hb; replace BK370 := bk BK370 hb; replace HB := bs HB hb
      (try clear hb)
      (try clear hb2)
      (try clear hk)
      (try clear hi)
      (try clear ho0)
      obtain ⟨Ao32, co32, eo32⟩ := Kd.R_slice HO376.out
      (first | subst eo32 | (injection eo32 with f1_ f2_ f3_; have f4_ := f1_.symm; have f5_ := f3_.symm; clear f1_ f2_ f3_; subst f4_; subst f5_))
      refine hK.out _ _ ⟨bc0 BK370.out, bc1 BK370.out, bc2 BK370.out, bc0 BK369.out, bc1 BK369.out⟩ (fun hHeld => ?_)
      clear hK K
      refine nA (some 9) ?_
      refine oA 2 (some 10) (bz 37 7) HT_ (fun K hK => ?_)
      refine gA Tryz.func57 #[.agg #[.int .i64 a1_0, .string a1_1, .slice A1_2 l1_2.length c1_2], .agg #[.int .i64 t372, .string t373, .slice Ao32 t374.length co32]] ?_
      with_reducible refine (impl_QcSame.calls k a1_0 a1_1 _ _ l1_2 t372 t373 _ _ t374 false _ ?side1 ?side2 ?side3 ?side4 A6.out).mono ?_
      (case side1 => exact ch HR1_2 HB)
      (case side2 => exact HC1_2.out)
      (case side3 => repeat (first | exact (Kd.R_reads' HO376.out).2.2 | (with_reducible refine Kd.C_alloc ?_ _) | (with_reducible refine Kd.C_drewN ?_ _) | (with_reducible refine Kd.C_drew ?_)))
      (case side4 => exact (Kd.R_reads' HO376.out).2.1)
      rintro e w33 ⟨rfl, hb⟩
      refine ⟨_, rfl, ?_⟩
      replace HO376 := rb HO376 hb; replace BK369 := bk BK369 hb; replace BK370 := bk BK370 hb; replace HB := bs HB hb
      (try clear hb)
      (try clear hb2)
      (try clear hk)
      (try clear hi)
      refine hK.out _ _ ⟨bc0 BK370.out, bc1 BK370.out, bc2 BK370.out, bc0 BK369.out, bc1 BK369.out⟩ (fun hHeld => ?_)
      clear hK K
      refine nA (some 10) ?_
      refine pA 3 (some 11) (bz 37 15) HT_ ?_
      refine pA 4 (some 12) (bz 37 31) HT_ ?_
      refine tA 5 (some 13) (bz 37 63) HT_ HW_ hHeld ?_
      refine pA 6 (some 14) (bz 37 127) HT_ ?_
      refine pA 7 (some 15) (bz 37 255) HT_ ?_
      refine pA 8 (some 16) (bz 37 511) HT_ ?_
      refine tA 9 (some 17) (bz 37 1023) HT_ HW_ hHeld ?_
      refine oA 10 (some 18) (bz 37 2047) HT_ (fun K hK => ?_)
      refine gA Tryz.func95 #[.string a1_1] ?_
      with_reducible refine (impl_NameOk.calls k a1_1 true _ A18.out).mono ?_
      rintro e w34 ⟨rfl, hb⟩
      refine ⟨_, rfl, ?_⟩
      replace HO376 := rb HO376 hb; replace BK369 := bk BK369 hb; replace BK370 := bk BK370 hb; replace HB := bs HB hb
      (try clear hb)
      (try clear hb2)
      (try clear hk)
      (try clear hi)
      refine hK.out _ _ ⟨bc0 BK370.out, bc1 BK370.out, bc2 BK370.out, bc0 BK369.out, bc1 BK369.out⟩ (fun hHeld => ?_)
      clear hK K
      refine nA (some 18) ?_
      refine pA 11 (some 19) (bz 37 4095) HT_ ?_
      refine pA 12 (some 20) (bz 37 0x1fff) HT_ ?_
      refine pA 13 (some 21) (bz 37 0x3fff) HT_ ?_
      refine pA 15 (some 23) (bz 37 0xbfff) HT_ ?_
      refine tA 14 (some 22) (bz 37 0xffff) HT_ HW_ hHeld ?_
      refine tA 16 (some 24) (bz 37 0x1ffff) HT_ HW_ hHeld ?_
      refine oA 17 (some 25) (bz 37 0x3ffff) HT_ (fun K hK => ?_)
      refine gA Tryz.func44 #[.string a1_1] ?_
      with_reducible refine (impl_ViewOf.calls k a1_1 t379 _ A20.out).mono ?_
      rintro e w35 ⟨rfl, hb⟩
      refine ⟨_, rfl, ?_⟩
      replace HO376 := rb HO376 hb; replace BK369 := bk BK369 hb; replace BK370 := bk BK370 hb; replace HB := bs HB hb
      (try clear hb)
      (try clear hb2)
      (try clear hk)
      (try clear hi)
      refine hK.out _ _ ⟨bc0 BK370.out, bc1 BK370.out, bc2 BK370.out, bc0 BK369.out, bc1 BK369.out⟩ (fun hHeld => ?_)
      clear hK K
      refine nA (some 25) ?_
      refine pA 18 (some 26) (bz 37 0x7ffff) HT_ ?_
      refine pA 19 (some 27) (bz 37 0xfffff) HT_ ?_
      refine pA 20 (some 28) (bz 37 0x1fffff) HT_ ?_
      refine pA 21 (some 29) (bz 37 0x3fffff) HT_ ?_
      refine pA 23 (some 31) (bz 37 0xbfffff) HT_ ?_
      refine tA 22 (some 30) (bz 37 0xffffff) HT_ HW_ hHeld ?_
      refine tA 24 (some 32) (bz 37 0x1ffffff) HT_ HW_ hHeld ?_
      refine oA 25 (some 33) (bz 37 0x3ffffff) HT_ (fun K hK => ?_)
      refine gA Tryz.func96 #[.int .i64 a0_0, .slice A1_2 l1_2.length c1_2] ?_
      with_reducible refine (impl_SetOk.calls k a0_0 _ _ l1_2 true _ ?side1 ?side2 A22.out).mono ?_
      (case side1 => exact ch HR1_2 HB)
      (case side2 => exact HC1_2.out)
      rintro e w' ⟨rfl, ⟨nd, rfl⟩⟩
      refine ⟨_, rfl, ?_⟩
      refine hK.out _ _ ⟨bc0 BK370.out, bc1 BK370.out, bc2 BK370.out, bc0 BK369.out, bc1 BK369.out⟩ (fun hHeld => ?_)
      clear hK K
      refine nA (some 33) ?_
      refine pA 26 (some 34) (bz 37 0x7ffffff) HT_ ?_
      refine pA 27 (some 35) (bz 37 0xfffffff) HT_ ?_
      refine pA 28 (some 36) (bz 37 0x1fffffff) HT_ ?_
      refine tA 29 (some 37) (bz 37 0x3fffffff) HT_ HW_ hHeld ?_
      refine pA 30 (some 38) (bz 37 0x7fffffff) HT_ ?_
      refine tA 31 (some 39) (bz 37 0xffffffff) HT_ HW_ hHeld ?_
      refine oA 32 (some 40) (bz 37 0x1ffffffff) HT_ (fun K hK => ?_)
      refine gA Tryz.func52 #[.agg #[.int .i64 a0_0, .int .i64 a0_1]] ?_
      with_reducible refine (impl_Quorum.calls a0_0 a0_1 t381 _ A24.out).mono ?_
      rintro e w36 ⟨rfl, hb⟩
      refine ⟨_, rfl, ?_⟩
      replace HO376 := rb HO376 hb; replace BK369 := bk BK369 hb; replace BK370 := bk BK370 hb; replace HB := bs HB hb
      (try clear hb)
      (try clear hb2)
      (try clear hk)
      (try clear hi)
      refine hK.out _ _ ⟨bc0 BK370.out, bc1 BK370.out, bc2 BK370.out, bc0 BK369.out, bc1 BK369.out⟩ (fun hHeld => ?_)
      clear hK K
      refine nA (some 40) ?_
      refine pA 33 (some 41) (bz 37 0x3ffffffff) HT_ ?_
      refine pA 34 (some 42) (bz 37 0x7ffffffff) HT_ ?_
      refine pA 35 (some 43) (bz 37 0xfffffffff) HT_ ?_
      refine pA 36 (some 4) (bz 37 0x1fffffffff) HT_ ?_
      refine done_ (done_of HT_.out (by kernel_rfl)) ?_
      try go_wp2
      go_ret
      exact ⟨y0_6, bI HB.out⟩
     replace c23 := Bool.eq_false_iff.mpr c23; subst c23
     rw [if_neg (show ¬ (false = true) by decide)] at H
     obtain rfl := Option.some.inj H
     go_enter Tryz.func48, Tryz.ntmps48
     try go_wp2_with (first | ((with_reducible refine gate_dst (N := 2) rfl ?_); (try (refine gate_guard (by rfl) ?_; dsimp only)); refine box_event ?hg (N := 2) ?hd (cs := #[.int .i64 a0_0, .int .i64 a0_1]) (t := 38) ?hr ?_; (case hd => rfl); (case hg => rfl); (case hr => first | (go_simp; done) | (go_simp; rfl)); intro gb369 hg w37 hbox hb; have BK369 := Aside0.mk (hbox); have GW369 := bg hg HB; have GJ369 := gi GW369; have GE369 := GW369; replace HB := bs HB hb; clear hb hbox hg) | ((with_reducible refine gate_dst (N := 3) rfl ?_); (try (refine gate_guard (by rfl) ?_; dsimp only)); refine box_event ?hg (N := 3) ?hd (cs := #[.int .i64 a1_0, .string a1_1, .slice A1_2 l1_2.length c1_2]) (t := 33) ?hr ?_; (case hd => rfl); (case hg => rfl); (case hr => first | (go_simp; done) | (go_simp; rfl)); intro gb370 hg w38 hbox hb; have BK370 := Aside0.mk (hbox); have GW370 := bg hg HB; have GJ370 := gi GW370; have GE370 := GW370; replace HB := bs HB hb; have NB369_370 := b1 BK369 hg; have NI369_370 := ni NB369_370; have NB370_369 := b2 BK369 hg; have NI370_369 := ni NB370_369; replace BK369 := bk BK369 hb; clear hb hbox hg; have hnb39 := NB369_370.out; have hnc39 := NB370_369.out; obtain ⟨hcz40_0, hcz40_1, hfz40_0, hfz40_1⟩ := cs2 BK369) | ((with_reducible refine gate_callee (f := 54) rfl ?_); refine gB (some 6) Tryz.func54 #[.agg #[.int .i64 a0_0, .int .i64 a0_1]] ?_; (with_reducible refine (impl_ConfOk.calls a0_0 a0_1 true _ A3.out).mono ?_); rintro e w41 ⟨rfl, hb⟩; refine ⟨_, rfl, ?_⟩; replace BK369 := bk BK369 hb; replace BK370 := bk BK370 hb; replace HB := bs HB hb; (try clear hb); (try clear hb2); (try clear hk); (try clear hi)))
     replace BK369 := Aside0.mk (blk_drew BK369.out); replace BK370 := Aside0.mk (blk_drew BK370.out); replace HB := Aside0.mk (below_drew1 HB.out)
     refine start_ (n := 37) (S := fun w' => w'.cell? ⟨gb370, 0, none⟩ = some (.int .i64 a1_0) ∧ w'.cell? ⟨gb370, 1, none⟩ = some (.string a1_1) ∧ w'.cell? ⟨gb370, 2, none⟩ = some (.slice A1_2 l1_2.length c1_2) ∧ w'.cell? ⟨gb369, 0, none⟩ = some (.int .i64 a0_0) ∧ w'.cell? ⟨gb369, 1, none⟩ = some (.int .i64 a0_1)) (ds := []) #[false, false, false, false, false, false, false, false, false, false, false, false, false, false, false, false, false, false, false, false, false, false, false, false, false, false, false, false, false, false, false, false, false, false, false, false, false] (by kernel_rfl) rfl rfl ⟨bc0 BK370.out, bc1 BK370.out, bc2 BK370.out, bc0 BK369.out, bc1 BK369.out⟩ (fun hHeld => ?_); refine with_tabW impl_QcOk.tab3 impl_QcOk.bits3 (fun HT_ HW_ => ?_)
     generalize w41.drew = w42 at BK369 BK370 HB hHeld ⊢
     refine tA 0 (some 8) (bz 37 1) HT_ HW_ hHeld ?_
     refine oA 1 (some 9) (bz 37 3) HT_ (fun K hK => ?_)
     refine gA Tryz.func39 #[] ?_
     with_reducible refine (impl_QcFirst.calls  t372 t373 t374 _ A5.out).mono ?_
     rintro e w43 ⟨v375, rfl, ho0, hb⟩
     refine ⟨_, rfl, ?_⟩
     have HO376 := Aside0.mk (Kd.R_lower ho0 (below_size (bI HB.out))); replace BK369 := bk BK369 hb; replace BK370 := bk BK370 hb; replace HB := bs HB hb
     (try clear hb)
     (try clear hb2)
     (try clear hk)
     (try clear hi)
     (try clear ho0)
     obtain ⟨Ao44, co44, eo44⟩ := Kd.R_slice HO376.out
     (first | subst eo44 | (injection eo44 with f1_ f2_ f3_; have f4_ := f1_.symm; have f5_ := f3_.symm; clear f1_ f2_ f3_; subst f4_; subst f5_))
     refine hK.out _ _ ⟨bc0 BK370.out, bc1 BK370.out, bc2 BK370.out, bc0 BK369.out, bc1 BK369.out⟩ (fun hHeld => ?_)
     clear hK K
     refine nA (some 9) ?_
     refine oA 2 (some 10) (bz 37 7) HT_ (fun K hK => ?_)
     refine gA Tryz.func57 #[.agg #[.int .i64 a1_0, .string a1_1, .slice A1_2 l1_2.length c1_2], .agg #[.int .i64 t372, .string t373, .slice Ao44 t374.length co44]] ?_
     with_reducible refine (impl_QcSame.calls k a1_0 a1_1 _ _ l1_2 t372 t373 _ _ t374 false _ ?side1 ?side2 ?side3 ?side4 A6.out).mono ?_
     (case side1 => exact ch HR1_2 HB)
     (case side2 => exact HC1_2.out)
     (case side3 => repeat (first | exact (Kd.R_reads' HO376.out).2.2 | (with_reducible refine Kd.C_alloc ?_ _) | (with_reducible refine Kd.C_drewN ?_ _) | (with_reducible refine Kd.C_drew ?_)))
     (case side4 => exact (Kd.R_reads' HO376.out).2.1)
     rintro e w45 ⟨rfl, hb⟩
     refine ⟨_, rfl, ?_⟩
     replace HO376 := rb HO376 hb; replace BK369 := bk BK369 hb; replace BK370 := bk BK370 hb; replace HB := bs HB hb
     (try clear hb)
     (try clear hb2)
     (try clear hk)
     (try clear hi)
     refine hK.out _ _ ⟨bc0 BK370.out, bc1 BK370.out, bc2 BK370.out, bc0 BK369.out, bc1 BK369.out⟩ (fun hHeld => ?_)
     clear hK K
     refine nA (some 10) ?_
     refine pA 3 (some 11) (bz 37 15) HT_ ?_
     refine pA 4 (some 12) (bz 37 31) HT_ ?_
     refine tA 5 (some 13) (bz 37 63) HT_ HW_ hHeld ?_
     refine pA 6 (some 14) (bz 37 127) HT_ ?_
     refine pA 7 (some 15) (bz 37 255) HT_ ?_
     refine pA 8 (some 16) (bz 37 511) HT_ ?_
     refine tA 9 (some 17) (bz 37 1023) HT_ HW_ hHeld ?_
     refine oA 10 (some 18) (bz 37 2047) HT_ (fun K hK => ?_)
     refine gA Tryz.func95 #[.string a1_1] ?_
     with_reducible refine (impl_NameOk.calls k a1_1 true _ A18.out).mono ?_
     rintro e w46 ⟨rfl, hb⟩
     refine ⟨_, rfl, ?_⟩
     replace HO376 := rb HO376 hb; replace BK369 := bk BK369 hb; replace BK370 := bk BK370 hb; replace HB := bs HB hb
     (try clear hb)
     (try clear hb2)
     (try clear hk)
     (try clear hi)
     refine hK.out _ _ ⟨bc0 BK370.out, bc1 BK370.out, bc2 BK370.out, bc0 BK369.out, bc1 BK369.out⟩ (fun hHeld => ?_)
     clear hK K
     refine nA (some 18) ?_
     refine pA 11 (some 19) (bz 37 4095) HT_ ?_
     refine pA 12 (some 20) (bz 37 0x1fff) HT_ ?_
     refine pA 13 (some 21) (bz 37 0x3fff) HT_ ?_
     refine pA 15 (some 23) (bz 37 0xbfff) HT_ ?_
     refine tA 14 (some 22) (bz 37 0xffff) HT_ HW_ hHeld ?_
     refine tA 16 (some 24) (bz 37 0x1ffff) HT_ HW_ hHeld ?_
     refine oA 17 (some 25) (bz 37 0x3ffff) HT_ (fun K hK => ?_)
     refine gA Tryz.func44 #[.string a1_1] ?_
     with_reducible refine (impl_ViewOf.calls k a1_1 t379 _ A20.out).mono ?_
     rintro e w47 ⟨rfl, hb⟩
     refine ⟨_, rfl, ?_⟩
     replace HO376 := rb HO376 hb; replace BK369 := bk BK369 hb; replace BK370 := bk BK370 hb; replace HB := bs HB hb
     (try clear hb)
     (try clear hb2)
     (try clear hk)
     (try clear hi)
     refine hK.out _ _ ⟨bc0 BK370.out, bc1 BK370.out, bc2 BK370.out, bc0 BK369.out, bc1 BK369.out⟩ (fun hHeld => ?_)
     clear hK K
     refine nA (some 25) ?_
     refine pA 18 (some 26) (bz 37 0x7ffff) HT_ ?_
     refine pA 19 (some 27) (bz 37 0xfffff) HT_ ?_
     refine pA 20 (some 28) (bz 37 0x1fffff) HT_ ?_
     refine pA 21 (some 29) (bz 37 0x3fffff) HT_ ?_
     refine pA 23 (some 31) (bz 37 0xbfffff) HT_ ?_
     refine tA 22 (some 30) (bz 37 0xffffff) HT_ HW_ hHeld ?_
     refine tA 24 (some 32) (bz 37 0x1ffffff) HT_ HW_ hHeld ?_
     refine oA 25 (some 33) (bz 37 0x3ffffff) HT_ (fun K hK => ?_)
     refine gA Tryz.func96 #[.int .i64 a0_0, .slice A1_2 l1_2.length c1_2] ?_
     with_reducible refine (impl_SetOk.calls k a0_0 _ _ l1_2 false _ ?side1 ?side2 A22.out).mono ?_
     (case side1 => exact ch HR1_2 HB)
     (case side2 => exact HC1_2.out)
     rintro e w' ⟨rfl, ⟨nd, rfl⟩⟩
     refine ⟨_, rfl, ?_⟩
     refine hK.out _ _ ⟨bc0 BK370.out, bc1 BK370.out, bc2 BK370.out, bc0 BK369.out, bc1 BK369.out⟩ (fun hHeld => ?_)
     clear hK K
     refine nA (some 33) ?_
     refine pA 26 (some 34) (bz 37 0x7ffffff) HT_ ?_
     refine pA 27 (some 35) (bz 37 0xfffffff) HT_ ?_
     refine pU 28 (some 36) (bz 37 0x1fffffff) HT_ ?_
     refine pU 29 (some 37) (bz 37 0x3fffffff) HT_ ?_
     refine pU 30 (some 38) (bz 37 0x7fffffff) HT_ ?_
     refine pU 31 (some 39) (bz 37 0xffffffff) HT_ ?_
     refine pU 32 (some 40) (bz 37 0x1ffffffff) HT_ ?_
     refine pU 33 (some 41) (bz 37 0x3ffffffff) HT_ ?_
     refine pA 34 (some 42) (bz 37 0x7ffffffff) HT_ ?_
     refine pA 35 (some 43) (bz 37 0xfffffffff) HT_ ?_
     refine pA 36 (some 4) (bz 37 0x1fffffffff) HT_ ?_
     refine done_ (done_of HT_.out (by kernel_rfl)) ?_
     try go_wp2
     go_ret
     exact ⟨y0_6, bI HB.out⟩
    rw [if_neg c21] at H
    have c21b0 : (a1_0 == t379) = false := beq_eq_false_iff_ne.mpr c21; have c21b1 : (a1_0 != t379) = true := bne_iff_ne.mpr c21; obtain rfl := Option.some.inj H
    go_enter Tryz.func48, Tryz.ntmps48
    try go_wp2_with (first | ((with_reducible refine gate_dst (N := 2) rfl ?_); (try (refine gate_guard (by rfl) ?_; dsimp only)); refine box_event ?hg (N := 2) ?hd (cs := #[.int .i64 a0_0, .int .i64 a0_1]) (t := 38) ?hr ?_; (case hd => rfl); (case hg => rfl); (case hr => first | (go_simp; done) | (go_simp; rfl)); intro gb369 hg w48 hbox hb; have BK369 := Aside0.mk (hbox); have GW369 := bg hg HB; have GJ369 := gi GW369; have GE369 := GW369; replace HB := bs HB hb; clear hb hbox hg) | ((with_reducible refine gate_dst (N := 3) rfl ?_); (try (refine gate_guard (by rfl) ?_; dsimp only)); refine box_event ?hg (N := 3) ?hd (cs := #[.int .i64 a1_0, .string a1_1, .slice A1_2 l1_2.length c1_2]) (t := 33) ?hr ?_; (case hd => rfl); (case hg => rfl); (case hr => first | (go_simp; done) | (go_simp; rfl)); intro gb370 hg w49 hbox hb; have BK370 := Aside0.mk (hbox); have GW370 := bg hg HB; have GJ370 := gi GW370; have GE370 := GW370; replace HB := bs HB hb; have NB369_370 := b1 BK369 hg; have NI369_370 := ni NB369_370; have NB370_369 := b2 BK369 hg; have NI370_369 := ni NB370_369; replace BK369 := bk BK369 hb; clear hb hbox hg; have hnb50 := NB369_370.out; have hnc50 := NB370_369.out; obtain ⟨hcz51_0, hcz51_1, hfz51_0, hfz51_1⟩ := cs2 BK369) | ((with_reducible refine gate_callee (f := 54) rfl ?_); refine gB (some 6) Tryz.func54 #[.agg #[.int .i64 a0_0, .int .i64 a0_1]] ?_; (with_reducible refine (impl_ConfOk.calls a0_0 a0_1 true _ A3.out).mono ?_); rintro e w52 ⟨rfl, hb⟩; refine ⟨_, rfl, ?_⟩; replace BK369 := bk BK369 hb; replace BK370 := bk BK370 hb; replace HB := bs HB hb; (try clear hb); (try clear hb2); (try clear hk); (try clear hi)))
    replace BK369 := Aside0.mk (blk_drew BK369.out); replace BK370 := Aside0.mk (blk_drew BK370.out); replace HB := Aside0.mk (below_drew1 HB.out)
    refine start_ (n := 37) (S := fun w' => w'.cell? ⟨gb370, 0, none⟩ = some (.int .i64 a1_0) ∧ w'.cell? ⟨gb370, 1, none⟩ = some (.string a1_1) ∧ w'.cell? ⟨gb370, 2, none⟩ = some (.slice A1_2 l1_2.length c1_2)) (ds := []) #[false, false, false, false, false, false, false, false, false, false, false, false, false, false, false, false, false, false, false, false, false, false, false, false, false, false, false, false, false, false, false, false, false, false, false, false, false] (by kernel_rfl) rfl rfl ⟨bc0 BK370.out, bc1 BK370.out, bc2 BK370.out⟩ (fun hHeld => ?_); refine with_tabW impl_QcOk.tab3 impl_QcOk.bits3 (fun HT_ HW_ => ?_)
    generalize w52.drew = w53 at BK369 BK370 HB hHeld ⊢
    refine tA 0 (some 8) (bz 37 1) HT_ HW_ hHeld ?_
    refine oA 1 (some 9) (bz 37 3) HT_ (fun K hK => ?_)
    refine gA Tryz.func39 #[] ?_
    with_reducible refine (impl_QcFirst.calls  t372 t373 t374 _ A5.out).mono ?_
    rintro e w54 ⟨v375, rfl, ho0, hb⟩
    refine ⟨_, rfl, ?_⟩
    have HO376 := Aside0.mk (Kd.R_lower ho0 (below_size (bI HB.out))); replace BK369 := bk BK369 hb; replace BK370 := bk BK370 hb; replace HB := bs HB hb
    (try clear hb)
    (try clear hb2)
    (try clear hk)
    (try clear hi)
    (try clear ho0)
    obtain ⟨Ao55, co55, eo55⟩ := Kd.R_slice HO376.out
    (first | subst eo55 | (injection eo55 with f1_ f2_ f3_; have f4_ := f1_.symm; have f5_ := f3_.symm; clear f1_ f2_ f3_; subst f4_; subst f5_))
    refine hK.out _ _ ⟨bc0 BK370.out, bc1 BK370.out, bc2 BK370.out⟩ (fun hHeld => ?_)
    clear hK K
    refine nA (some 9) ?_
    refine oA 2 (some 10) (bz 37 7) HT_ (fun K hK => ?_)
    refine gA Tryz.func57 #[.agg #[.int .i64 a1_0, .string a1_1, .slice A1_2 l1_2.length c1_2], .agg #[.int .i64 t372, .string t373, .slice Ao55 t374.length co55]] ?_
    with_reducible refine (impl_QcSame.calls k a1_0 a1_1 _ _ l1_2 t372 t373 _ _ t374 false _ ?side1 ?side2 ?side3 ?side4 A6.out).mono ?_
    (case side1 => exact ch HR1_2 HB)
    (case side2 => exact HC1_2.out)
    (case side3 => repeat (first | exact (Kd.R_reads' HO376.out).2.2 | (with_reducible refine Kd.C_alloc ?_ _) | (with_reducible refine Kd.C_drewN ?_ _) | (with_reducible refine Kd.C_drew ?_)))
    (case side4 => exact (Kd.R_reads' HO376.out).2.1)
    rintro e w56 ⟨rfl, hb⟩
    refine ⟨_, rfl, ?_⟩
    replace HO376 := rb HO376 hb; replace BK369 := bk BK369 hb; replace BK370 := bk BK370 hb; replace HB := bs HB hb
    (try clear hb)
    (try clear hb2)
    (try clear hk)
    (try clear hi)
    refine hK.out _ _ ⟨bc0 BK370.out, bc1 BK370.out, bc2 BK370.out⟩ (fun hHeld => ?_)
    clear hK K
    refine nA (some 10) ?_
    refine pA 3 (some 11) (bz 37 15) HT_ ?_
    refine pA 4 (some 12) (bz 37 31) HT_ ?_
    refine tA 5 (some 13) (bz 37 63) HT_ HW_ hHeld ?_
    refine pA 6 (some 14) (bz 37 127) HT_ ?_
    refine pA 7 (some 15) (bz 37 255) HT_ ?_
    refine pA 8 (some 16) (bz 37 511) HT_ ?_
    refine tA 9 (some 17) (bz 37 1023) HT_ HW_ hHeld ?_
    refine oA 10 (some 18) (bz 37 2047) HT_ (fun K hK => ?_)
    refine gA Tryz.func95 #[.string a1_1] ?_
    with_reducible refine (impl_NameOk.calls k a1_1 true _ A18.out).mono ?_
    rintro e w57 ⟨rfl, hb⟩
    refine ⟨_, rfl, ?_⟩
    replace HO376 := rb HO376 hb; replace BK369 := bk BK369 hb; replace BK370 := bk BK370 hb; replace HB := bs HB hb
    (try clear hb)
    (try clear hb2)
    (try clear hk)
    (try clear hi)
    refine hK.out _ _ ⟨bc0 BK370.out, bc1 BK370.out, bc2 BK370.out⟩ (fun hHeld => ?_)
    clear hK K
    refine nA (some 18) ?_
    refine pA 11 (some 19) (bz 37 4095) HT_ ?_
    refine pA 12 (some 20) (bz 37 0x1fff) HT_ ?_
    refine pA 13 (some 21) (bz 37 0x3fff) HT_ ?_
    refine pA 15 (some 23) (bz 37 0xbfff) HT_ ?_
    refine tA 14 (some 22) (bz 37 0xffff) HT_ HW_ hHeld ?_
    refine tA 16 (some 24) (bz 37 0x1ffff) HT_ HW_ hHeld ?_
    refine oA 17 (some 25) (bz 37 0x3ffff) HT_ (fun K hK => ?_)
    refine gA Tryz.func44 #[.string a1_1] ?_
    with_reducible refine (impl_ViewOf.calls k a1_1 t379 _ A20.out).mono ?_
    rintro e w58 ⟨rfl, hb⟩
    refine ⟨_, rfl, ?_⟩
    replace HO376 := rb HO376 hb; replace BK369 := bk BK369 hb; replace BK370 := bk BK370 hb; replace HB := bs HB hb
    (try clear hb)
    (try clear hb2)
    (try clear hk)
    (try clear hi)
    refine hK.out _ _ ⟨bc0 BK370.out, bc1 BK370.out, bc2 BK370.out⟩ (fun hHeld => ?_)
    clear hK K
    refine nA (some 25) ?_
    refine pA 18 (some 26) (bz 37 0x7ffff) HT_ ?_
    refine pA 19 (some 27) (bz 37 0xfffff) HT_ ?_
    refine pA 20 (some 28) (bz 37 0x1fffff) HT_ ?_
    refine pU 21 (some 29) (bz 37 0x3fffff) HT_ ?_
    refine pU 22 (some 30) (bz 37 0x7fffff) HT_ ?_
    refine pU 23 (some 31) (bz 37 0xffffff) HT_ ?_
    refine pU 24 (some 32) (bz 37 0x1ffffff) HT_ ?_
    refine pU 25 (some 33) (bz 37 0x3ffffff) HT_ ?_
    refine pA 26 (some 34) (bz 37 0x7ffffff) HT_ ?_
    refine pA 27 (some 35) (bz 37 0xfffffff) HT_ ?_
    refine pU 28 (some 36) (bz 37 0x1fffffff) HT_ ?_
    refine pU 29 (some 37) (bz 37 0x3fffffff) HT_ ?_
    refine pU 30 (some 38) (bz 37 0x7fffffff) HT_ ?_
    refine pU 31 (some 39) (bz 37 0xffffffff) HT_ ?_
    refine pU 32 (some 40) (bz 37 0x1ffffffff) HT_ ?_
    refine pU 33 (some 41) (bz 37 0x3ffffffff) HT_ ?_
    refine pA 34 (some 42) (bz 37 0x7ffffffff) HT_ ?_
    refine pA 35 (some 43) (bz 37 0xfffffffff) HT_ ?_
    refine pA 36 (some 4) (bz 37 0x1fffffffff) HT_ ?_
    refine done_ (done_of HT_.out (by kernel_rfl)) ?_
    try go_wp2
    go_ret
    exact ⟨y0_6, bI HB.out⟩
   replace c19 := Bool.eq_false_iff.mpr c19; subst c19
   rw [if_neg (show ¬ (false = true) by decide)] at H
   obtain rfl := Option.some.inj H
   go_enter Tryz.func48, Tryz.ntmps48
   try go_wp2_with (first | ((with_reducible refine gate_dst (N := 2) rfl ?_); (try (refine gate_guard (by rfl) ?_; dsimp only)); refine box_event ?hg (N := 2) ?hd (cs := #[.int .i64 a0_0, .int .i64 a0_1]) (t := 38) ?hr ?_; (case hd => rfl); (case hg => rfl); (case hr => first | (go_simp; done) | (go_simp; rfl)); intro gb369 hg w59 hbox hb; have BK369 := Aside0.mk (hbox); have GW369 := bg hg HB; have GJ369 := gi GW369; have GE369 := GW369; replace HB := bs HB hb; clear hb hbox hg) | ((with_reducible refine gate_dst (N := 3) rfl ?_); (try (refine gate_guard (by rfl) ?_; dsimp only)); refine box_event ?hg (N := 3) ?hd (cs := #[.int .i64 a1_0, .string a1_1, .slice A1_2 l1_2.length c1_2]) (t := 33) ?hr ?_; (case hd => rfl); (case hg => rfl); (case hr => first | (go_simp; done) | (go_simp; rfl)); intro gb370 hg w60 hbox hb; have BK370 := Aside0.mk (hbox); have GW370 := bg hg HB; have GJ370 := gi GW370; have GE370 := GW370; replace HB := bs HB hb; have NB369_370 := b1 BK369 hg; have NI369_370 := ni NB369_370; have NB370_369 := b2 BK369 hg; have NI370_369 := ni NB370_369; replace BK369 := bk BK369 hb; clear hb hbox hg; have hnb61 := NB369_370.out; have hnc61 := NB370_369.out; obtain ⟨hcz62_0, hcz62_1, hfz62_0, hfz62_1⟩ := cs2 BK369) | ((with_reducible refine gate_callee (f := 54) rfl ?_); refine gB (some 6) Tryz.func54 #[.agg #[.int .i64 a0_0, .int .i64 a0_1]] ?_; (with_reducible refine (impl_ConfOk.calls a0_0 a0_1 true _ A3.out).mono ?_); rintro e w63 ⟨rfl, hb⟩; refine ⟨_, rfl, ?_⟩; replace BK369 := bk BK369 hb; replace BK370 := bk BK370 hb; replace HB := bs HB hb; (try clear hb); (try clear hb2); (try clear hk); (try clear hi)))
   replace BK369 := Aside0.mk (blk_drew BK369.out); replace BK370 := Aside0.mk (blk_drew BK370.out); replace HB := Aside0.mk (below_drew1 HB.out)
   refine start_ (n := 37) (S := fun w' => w'.cell? ⟨gb370, 0, none⟩ = some (.int .i64 a1_0) ∧ w'.cell? ⟨gb370, 1, none⟩ = some (.string a1_1) ∧ w'.cell? ⟨gb370, 2, none⟩ = some (.slice A1_2 l1_2.length c1_2)) (ds := []) #[false, false, false, false, false, false, false, false, false, false, false, false, false, false, false, false, false, false, false, false, false, false, false, false, false, false, false, false, false, false, false, false, false, false, false, false, false] (by kernel_rfl) rfl rfl ⟨bc0 BK370.out, bc1 BK370.out, bc2 BK370.out⟩ (fun hHeld => ?_); refine with_tabW impl_QcOk.tab3 impl_QcOk.bits3 (fun HT_ HW_ => ?_)
   generalize w63.drew = w64 at BK369 BK370 HB hHeld ⊢
   refine tA 0 (some 8) (bz 37 1) HT_ HW_ hHeld ?_
   refine oA 1 (some 9) (bz 37 3) HT_ (fun K hK => ?_)
   refine gA Tryz.func39 #[] ?_
   with_reducible refine (impl_QcFirst.calls  t372 t373 t374 _ A5.out).mono ?_
   rintro e w65 ⟨v375, rfl, ho0, hb⟩
   refine ⟨_, rfl, ?_⟩
   have HO376 := Aside0.mk (Kd.R_lower ho0 (below_size (bI HB.out))); replace BK369 := bk BK369 hb; replace BK370 := bk BK370 hb; replace HB := bs HB hb
   (try clear hb)
   (try clear hb2)
   (try clear hk)
   (try clear hi)
   (try clear ho0)
   obtain ⟨Ao66, co66, eo66⟩ := Kd.R_slice HO376.out
   (first | subst eo66 | (injection eo66 with f1_ f2_ f3_; have f4_ := f1_.symm; have f5_ := f3_.symm; clear f1_ f2_ f3_; subst f4_; subst f5_))
   refine hK.out _ _ ⟨bc0 BK370.out, bc1 BK370.out, bc2 BK370.out⟩ (fun hHeld => ?_)
   clear hK K
   refine nA (some 9) ?_
   refine oA 2 (some 10) (bz 37 7) HT_ (fun K hK => ?_)
   refine gA Tryz.func57 #[.agg #[.int .i64 a1_0, .string a1_1, .slice A1_2 l1_2.length c1_2], .agg #[.int .i64 t372, .string t373, .slice Ao66 t374.length co66]] ?_
   with_reducible refine (impl_QcSame.calls k a1_0 a1_1 _ _ l1_2 t372 t373 _ _ t374 false _ ?side1 ?side2 ?side3 ?side4 A6.out).mono ?_
   (case side1 => exact ch HR1_2 HB)
   (case side2 => exact HC1_2.out)
   (case side3 => repeat (first | exact (Kd.R_reads' HO376.out).2.2 | (with_reducible refine Kd.C_alloc ?_ _) | (with_reducible refine Kd.C_drewN ?_ _) | (with_reducible refine Kd.C_drew ?_)))
   (case side4 => exact (Kd.R_reads' HO376.out).2.1)
   rintro e w67 ⟨rfl, hb⟩
   refine ⟨_, rfl, ?_⟩
   replace HO376 := rb HO376 hb; replace BK369 := bk BK369 hb; replace BK370 := bk BK370 hb; replace HB := bs HB hb
   (try clear hb)
   (try clear hb2)
   (try clear hk)
   (try clear hi)
   refine hK.out _ _ ⟨bc0 BK370.out, bc1 BK370.out, bc2 BK370.out⟩ (fun hHeld => ?_)
   clear hK K
   refine nA (some 10) ?_
   refine pA 3 (some 11) (bz 37 15) HT_ ?_
   refine pA 4 (some 12) (bz 37 31) HT_ ?_
   refine tA 5 (some 13) (bz 37 63) HT_ HW_ hHeld ?_
   refine pA 6 (some 14) (bz 37 127) HT_ ?_
   refine pA 7 (some 15) (bz 37 255) HT_ ?_
   refine pA 8 (some 16) (bz 37 511) HT_ ?_
   refine tA 9 (some 17) (bz 37 1023) HT_ HW_ hHeld ?_
   refine oA 10 (some 18) (bz 37 2047) HT_ (fun K hK => ?_)
   refine gA Tryz.func95 #[.string a1_1] ?_
   with_reducible refine (impl_NameOk.calls k a1_1 false _ A18.out).mono ?_
   rintro e w68 ⟨rfl, hb⟩
   refine ⟨_, rfl, ?_⟩
   replace HO376 := rb HO376 hb; replace BK369 := bk BK369 hb; replace BK370 := bk BK370 hb; replace HB := bs HB hb
   (try clear hb)
   (try clear hb2)
   (try clear hk)
   (try clear hi)
   refine hK.out _ _ ⟨bc0 BK370.out, bc1 BK370.out, bc2 BK370.out⟩ (fun hHeld => ?_)
   clear hK K
   refine nA (some 18) ?_
   refine pA 11 (some 19) (bz 37 4095) HT_ ?_
   refine pA 12 (some 20) (bz 37 0x1fff) HT_ ?_
   refine pU 13 (some 21) (bz 37 0x3fff) HT_ ?_
   refine pU 14 (some 22) (bz 37 0x7fff) HT_ ?_
   refine pU 15 (some 23) (bz 37 0xffff) HT_ ?_
   refine pU 16 (some 24) (bz 37 0x1ffff) HT_ ?_
   refine pU 17 (some 25) (bz 37 0x3ffff) HT_ ?_
   refine pU 18 (some 26) (bz 37 0x7ffff) HT_ ?_
   refine pA 19 (some 27) (bz 37 0xfffff) HT_ ?_
   refine pA 20 (some 28) (bz 37 0x1fffff) HT_ ?_
   refine pU 21 (some 29) (bz 37 0x3fffff) HT_ ?_
   refine pU 22 (some 30) (bz 37 0x7fffff) HT_ ?_
   refine pU 23 (some 31) (bz 37 0xffffff) HT_ ?_
   refine pU 24 (some 32) (bz 37 0x1ffffff) HT_ ?_
   refine pU 25 (some 33) (bz 37 0x3ffffff) HT_ ?_
   refine pA 26 (some 34) (bz 37 0x7ffffff) HT_ ?_
   refine pA 27 (some 35) (bz 37 0xfffffff) HT_ ?_
   refine pU 28 (some 36) (bz 37 0x1fffffff) HT_ ?_
   refine pU 29 (some 37) (bz 37 0x3fffffff) HT_ ?_
   refine pU 30 (some 38) (bz 37 0x7fffffff) HT_ ?_
   refine pU 31 (some 39) (bz 37 0xffffffff) HT_ ?_
   refine pU 32 (some 40) (bz 37 0x1ffffffff) HT_ ?_
   refine pU 33 (some 41) (bz 37 0x3ffffffff) HT_ ?_
   refine pA 34 (some 42) (bz 37 0x7ffffffff) HT_ ?_
   refine pA 35 (some 43) (bz 37 0xfffffffff) HT_ ?_
   refine pA 36 (some 4) (bz 37 0x1fffffffff) HT_ ?_
   refine done_ (done_of HT_.out (by kernel_rfl)) ?_
   try go_wp2
   go_ret
   exact ⟨y0_6, bI HB.out⟩
  rw [if_neg c17] at H
  have c17b0 : decide (1 ≤ a1_0) = false := decide_eq_false c17; clear c17; obtain rfl := Option.some.inj H
  go_enter Tryz.func48, Tryz.ntmps48
  try go_wp2_with (first | ((with_reducible refine gate_dst (N := 2) rfl ?_); (try (refine gate_guard (by rfl) ?_; dsimp only)); refine box_event ?hg (N := 2) ?hd (cs := #[.int .i64 a0_0, .int .i64 a0_1]) (t := 38) ?hr ?_; (case hd => rfl); (case hg => rfl); (case hr => first | (go_simp; done) | (go_simp; rfl)); intro gb369 hg w69 hbox hb; have BK369 := Aside0.mk (hbox); have GW369 := bg hg HB; have GJ369 := gi GW369; have GE369 := GW369; replace HB := bs HB hb; clear hb hbox hg) | ((with_reducible refine gate_dst (N := 3) rfl ?_); (try (refine gate_guard (by rfl) ?_; dsimp only)); refine box_event ?hg (N := 3) ?hd (cs := #[.int .i64 a1_0, .string a1_1, .slice A1_2 l1_2.length c1_2]) (t := 33) ?hr ?_; (case hd => rfl); (case hg => rfl); (case hr => first | (go_simp; done) | (go_simp; rfl)); intro gb370 hg w70 hbox hb; have BK370 := Aside0.mk (hbox); have GW370 := bg hg HB; have GJ370 := gi GW370; have GE370 := GW370; replace HB := bs HB hb; have NB369_370 := b1 BK369 hg; have NI369_370 := ni NB369_370; have NB370_369 := b2 BK369 hg; have NI370_369 := ni NB370_369; replace BK369 := bk BK369 hb; clear hb hbox hg; have hnb71 := NB369_370.out; have hnc71 := NB370_369.out; obtain ⟨hcz72_0, hcz72_1, hfz72_0, hfz72_1⟩ := cs2 BK369) | ((with_reducible refine gate_callee (f := 54) rfl ?_); refine gB (some 6) Tryz.func54 #[.agg #[.int .i64 a0_0, .int .i64 a0_1]] ?_; (with_reducible refine (impl_ConfOk.calls a0_0 a0_1 true _ A3.out).mono ?_); rintro e w73 ⟨rfl, hb⟩; refine ⟨_, rfl, ?_⟩; replace BK369 := bk BK369 hb; replace BK370 := bk BK370 hb; replace HB := bs HB hb; (try clear hb); (try clear hb2); (try clear hk); (try clear hi)))
  replace BK369 := Aside0.mk (blk_drew BK369.out); replace BK370 := Aside0.mk (blk_drew BK370.out); replace HB := Aside0.mk (below_drew1 HB.out)
  refine start_ (n := 37) (S := fun w' => w'.cell? ⟨gb370, 0, none⟩ = some (.int .i64 a1_0) ∧ w'.cell? ⟨gb370, 1, none⟩ = some (.string a1_1) ∧ w'.cell? ⟨gb370, 2, none⟩ = some (.slice A1_2 l1_2.length c1_2)) (ds := []) #[false, false, false, false, false, false, false, false, false, false, false, false, false, false, false, false, false, false, false, false, false, false, false, false, false, false, false, false, false, false, false, false, false, false, false, false, false] (by kernel_rfl) rfl rfl ⟨bc0 BK370.out, bc1 BK370.out, bc2 BK370.out⟩ (fun hHeld => ?_); refine with_tabW impl_QcOk.tab3 impl_QcOk.bits3 (fun HT_ HW_ => ?_)
  generalize w73.drew = w74 at BK369 BK370 HB hHeld ⊢
  refine tA 0 (some 8) (bz 37 1) HT_ HW_ hHeld ?_
  refine oA 1 (some 9) (bz 37 3) HT_ (fun K hK => ?_)
  refine gA Tryz.func39 #[] ?_
  with_reducible refine (impl_QcFirst.calls  t372 t373 t374 _ A5.out).mono ?_
  rintro e w75 ⟨v375, rfl, ho0, hb⟩
  refine ⟨_, rfl, ?_⟩
  have HO376 := Aside0.mk (Kd.R_lower ho0 (below_size (bI HB.out))); replace BK369 := bk BK369 hb; replace BK370 := bk BK370 hb; replace HB := bs HB hb
  (try clear hb)
  (try clear hb2)
  (try clear hk)
  (try clear hi)
  (try clear ho0)
  obtain ⟨Ao76, co76, eo76⟩ := Kd.R_slice HO376.out
  (first | subst eo76 | (injection eo76 with f1_ f2_ f3_; have f4_ := f1_.symm; have f5_ := f3_.symm; clear f1_ f2_ f3_; subst f4_; subst f5_))
  refine hK.out _ _ ⟨bc0 BK370.out, bc1 BK370.out, bc2 BK370.out⟩ (fun hHeld => ?_)
  clear hK K
  refine nA (some 9) ?_
  refine oA 2 (some 10) (bz 37 7) HT_ (fun K hK => ?_)
  refine gA Tryz.func57 #[.agg #[.int .i64 a1_0, .string a1_1, .slice A1_2 l1_2.length c1_2], .agg #[.int .i64 t372, .string t373, .slice Ao76 t374.length co76]] ?_
  with_reducible refine (impl_QcSame.calls k a1_0 a1_1 _ _ l1_2 t372 t373 _ _ t374 false _ ?side1 ?side2 ?side3 ?side4 A6.out).mono ?_
  (case side1 => exact ch HR1_2 HB)
  (case side2 => exact HC1_2.out)
  (case side3 => repeat (first | exact (Kd.R_reads' HO376.out).2.2 | (with_reducible refine Kd.C_alloc ?_ _) | (with_reducible refine Kd.C_drewN ?_ _) | (with_reducible refine Kd.C_drew ?_)))
  (case side4 => exact (Kd.R_reads' HO376.out).2.1)
  rintro e w77 ⟨rfl, hb⟩
  refine ⟨_, rfl, ?_⟩
  replace HO376 := rb HO376 hb; replace BK369 := bk BK369 hb; replace BK370 := bk BK370 hb; replace HB := bs HB hb
  (try clear hb)
  (try clear hb2)
  (try clear hk)
  (try clear hi)
  refine hK.out _ _ ⟨bc0 BK370.out, bc1 BK370.out, bc2 BK370.out⟩ (fun hHeld => ?_)
  clear hK K
  refine nA (some 10) ?_
  refine pA 3 (some 11) (bz 37 15) HT_ ?_
  refine pA 4 (some 12) (bz 37 31) HT_ ?_
  refine tA 5 (some 13) (bz 37 63) HT_ HW_ hHeld ?_
  refine pA 6 (some 14) (bz 37 127) HT_ ?_
  refine pA 7 (some 15) (bz 37 255) HT_ ?_
  refine pU 8 (some 16) (bz 37 511) HT_ ?_
  refine pU 9 (some 17) (bz 37 1023) HT_ ?_
  refine pU 10 (some 18) (bz 37 2047) HT_ ?_
  refine pA 11 (some 19) (bz 37 4095) HT_ ?_
  refine pA 12 (some 20) (bz 37 0x1fff) HT_ ?_
  refine pU 13 (some 21) (bz 37 0x3fff) HT_ ?_
  refine pU 14 (some 22) (bz 37 0x7fff) HT_ ?_
  refine pU 15 (some 23) (bz 37 0xffff) HT_ ?_
  refine pU 16 (some 24) (bz 37 0x1ffff) HT_ ?_
  refine pU 17 (some 25) (bz 37 0x3ffff) HT_ ?_
  refine pU 18 (some 26) (bz 37 0x7ffff) HT_ ?_
  refine pA 19 (some 27) (bz 37 0xfffff) HT_ ?_
  refine pA 20 (some 28) (bz 37 0x1fffff) HT_ ?_
  refine pU 21 (some 29) (bz 37 0x3fffff) HT_ ?_
  refine pU 22 (some 30) (bz 37 0x7fffff) HT_ ?_
  refine pU 23 (some 31) (bz 37 0xffffff) HT_ ?_
  refine pU 24 (some 32) (bz 37 0x1ffffff) HT_ ?_
  refine pU 25 (some 33) (bz 37 0x3ffffff) HT_ ?_
  refine pA 26 (some 34) (bz 37 0x7ffffff) HT_ ?_
  refine pA 27 (some 35) (bz 37 0xfffffff) HT_ ?_
  refine pU 28 (some 36) (bz 37 0x1fffffff) HT_ ?_
  refine pU 29 (some 37) (bz 37 0x3fffffff) HT_ ?_
  refine pU 30 (some 38) (bz 37 0x7fffffff) HT_ ?_
  refine pU 31 (some 39) (bz 37 0xffffffff) HT_ ?_
  refine pU 32 (some 40) (bz 37 0x1ffffffff) HT_ ?_
  refine pU 33 (some 41) (bz 37 0x3ffffffff) HT_ ?_
  refine pA 34 (some 42) (bz 37 0x7ffffffff) HT_ ?_
  refine pA 35 (some 43) (bz 37 0xfffffffff) HT_ ?_
  refine pA 36 (some 4) (bz 37 0x1fffffffff) HT_ ?_
  refine done_ (done_of HT_.out (by kernel_rfl)) ?_
  try go_wp2
  go_ret
  exact ⟨y0_6, bI HB.out⟩
 replace c4 := Bool.eq_false_iff.mpr c4; subst c4
 rw [if_neg (show ¬ (false = true) by decide)] at H
 obtain rfl := Option.some.inj H
 go_enter Tryz.func48, Tryz.ntmps48
 go_wp2_with (first | ((with_reducible refine gate_dst (N := 2) rfl ?_); (try (refine gate_guard (by rfl) ?_; dsimp only)); refine box_event ?hg (N := 2) ?hd (cs := #[.int .i64 a0_0, .int .i64 a0_1]) (t := 38) ?hr ?_; (case hd => rfl); (case hg => rfl); (case hr => first | (go_simp; done) | (go_simp; rfl)); intro gb369 hg w78 hbox hb; have BK369 := Aside0.mk (hbox); have GW369 := bg hg HB; have GJ369 := gi GW369; have GE369 := GW369; replace HB := bs HB hb; clear hb hbox hg) | ((with_reducible refine gate_dst (N := 3) rfl ?_); (try (refine gate_guard (by rfl) ?_; dsimp only)); refine box_event ?hg (N := 3) ?hd (cs := #[.int .i64 a1_0, .string a1_1, .slice A1_2 l1_2.length c1_2]) (t := 33) ?hr ?_; (case hd => rfl); (case hg => rfl); (case hr => first | (go_simp; done) | (go_simp; rfl)); intro gb370 hg w79 hbox hb; have BK370 := Aside0.mk (hbox); have GW370 := bg hg HB; have GJ370 := gi GW370; have GE370 := GW370; replace HB := bs HB hb; have NB369_370 := b1 BK369 hg; have NI369_370 := ni NB369_370; have NB370_369 := b2 BK369 hg; have NI370_369 := ni NB370_369; replace BK369 := bk BK369 hb; clear hb hbox hg; have hnb80 := NB369_370.out; have hnc80 := NB370_369.out; obtain ⟨hcz81_0, hcz81_1, hfz81_0, hfz81_1⟩ := cs2 BK369) | ((with_reducible refine gate_callee (f := 54) rfl ?_); refine gB (some 6) Tryz.func54 #[.agg #[.int .i64 a0_0, .int .i64 a0_1]] ?_; (with_reducible refine (impl_ConfOk.calls a0_0 a0_1 false _ A3.out).mono ?_); rintro e w82 ⟨rfl, hb⟩; refine ⟨_, rfl, ?_⟩; replace BK369 := bk BK369 hb; replace BK370 := bk BK370 hb; replace HB := bs HB hb; (try clear hb); (try clear hb2); (try clear hk); (try clear hi)))
 go_ret
 exact ⟨y0_6, bI HB.out⟩

end Go.Proofs.YtemjmefacifdeaaGreatDoor.PFnSettlesThree
