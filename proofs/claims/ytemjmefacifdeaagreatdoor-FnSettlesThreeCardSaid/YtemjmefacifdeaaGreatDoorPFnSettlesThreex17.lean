-- By a program of this session, out of the translation (the print of the kit, with turns of its own). Lean checks it.
import Derived.Test.YtemjmefacifdeaaGreatDoorPFnSettlesThreex0
import Derived.Test.YtemjmefacifdeaaGreatDoorPFnSettlesThreex9
import Derived.Test.YtemjmefacifdeaaGreatDoorPFnSettlesThreex12
import Derived.Test.YtemjmefacifdeaaGreatDoorPFnSettlesThreex15
import Derived.Test.YtemjmefacifdeaaGreatDoorPFnSettlesThreex16
namespace Go.Proofs.YtemjmefacifdeaaGreatDoor.PFnSettlesThree
open Go.RowKit Go.Proofs.YtemjmefacifdeaaGreatDoorW.PrintWords Go.Proofs.YtemjmefacifdeaaGreatDoorW.PrintLast Go.Proofs.YtemjmefacifdeaaGreatDoorW.PrintMore
attribute [local go_sem] max2_int min2_int max_two min_two max_three min_three max_four min_four   -- for this text's walks alone
set_option linter.unusedVariables false
set_option linter.unusedSimpArgs false

/-! ### impl_BlockNew: function 32 -/
def impl_BlockNew.f (k : Nat) (a0_0 : Int) (a0_1 : Int) (a1_0 : Int) (a1_1 : ByteArray) (l1_2 : List Int) (a2 : Int) (l3 : List (S99)) : Option (ByteArray × Int × ByteArray × List Int × Bool) := (impl_NameOf.f k a1_1 a2 l3).bind fun t480 => ((impl_copyQc.f a1_0 a1_1 l1_2).bind fun bt481 => ((impl_BlockOk.f k a0_0 a0_1 t480 bt481.1 bt481.2.1 bt481.2.2).bind fun t487 => (if t487 = true then ((impl_ViewOf.f k t480).bind fun t488 => (if t488 = a2 then (some (t480, bt481.1, bt481.2.1, bt481.2.2, true)) else (some ((⟨#[]⟩ : ByteArray), 0, (⟨#[]⟩ : ByteArray), ([] : List Int), false)))) else (some ((⟨#[]⟩ : ByteArray), 0, (⟨#[]⟩ : ByteArray), ([] : List Int), false)))))
theorem impl_BlockNew.mono : ∀ a0 a1 a2 a3 a4 a5 a6 k, LeO (impl_BlockNew.f k a0 a1 a2 a3 a4 a5 a6) (impl_BlockNew.f (k + 1) a0 a1 a2 a3 a4 a5 a6) := by
 intro a0 a1 a2 a3 a4 a5 a6 k
 unfold impl_BlockNew.f
 repeat' first | (with_reducible exact impl_BlockOk.mono _ _ _ _ _ _ _) | (with_reducible exact impl_NameOf.mono _ _ _ _) | (with_reducible exact impl_ViewOf.mono _ _) | (with_reducible exact LeO.refl _) | (with_reducible exact LeO.none _) | (with_reducible refine LeO.ite ?_ ?_) | (with_reducible refine LeO.bind ?_ (fun _ => ?_))
def impl_BlockNew.T1 : Bool × List (List Nat × List Nat) := (true, [([], []), ([0], [0]), ([], []), ([], []), ([1, 2, 3], [1, 2, 3]), ([], []), ([5, 4], [5]), ([4, 6], [4, 6]), ([], []), ([8, 7, 6, 0, 1, 2, 3, 4, 5, 6, 7, 8], [7, 8])])
def impl_BlockNew.B1 : List Nat := [0, 1, 0, 0, 15, 0, 63, 127, 0, 511]
theorem impl_BlockNew.tab1 : rtab .any (opsOf Tryz.f32 1) = impl_BlockNew.T1 := by kernel_rfl
theorem impl_BlockNew.bits1 : waitsOk impl_BlockNew.T1.2 impl_BlockNew.B1 = true := by kernel_rfl
set_option maxHeartbeats 8000000 in
set_option maxRecDepth 100000 in
theorem impl_BlockNew.calls (k : Nat) (a0_0 : Int) (a0_1 : Int) (a1_0 : Int) (a1_1 : ByteArray) (A1_2 : Option Addr) (c1_2 : Nat) (l1_2 : List Int) (a2 : Int) (A3 : Option Addr) (c3 : Nat) (l3 : List (S99)) (r1 : ByteArray) (r2 : Int) (r3 : ByteArray) (r4 : List Int) (r5 : Bool) (w : World) (hr1_2 : Kd.C (Kd.int .i64) w A1_2 l1_2.length l1_2) (hc1_2 : l1_2.length ≤ c1_2) (hr3 : Kd.C k99 w A3 l3.length l3) (hc3 : l3.length ≤ c3) (h : impl_BlockNew.f k a0_0 a0_1 a1_0 a1_1 l1_2 a2 l3 = some (r1, r2, r3, r4, r5)) (hG : Glob w := by exact gG HG HB) :
  Calls Tryz.prog 32 #[.agg #[.int .i64 a0_0, .int .i64 a0_1], .agg #[.int .i64 a1_0, .string a1_1, .slice A1_2 l1_2.length c1_2], .int .i64 a2, .slice A3 l3.length c3] w fun e w' => ∃ v3_ : Value, e = .returned (.tuple #[.agg #[.string r1, .int .i64 r2, .string r3, v3_], .bool r5]) ∧ Kd.R (Kd.int .i64) 3 w' w.heap.size (fun _ => True) v3_ r4 ∧ Below w.heap.size w w' := by
 have HG := Aside0.mk hG; clear hG; have hu38 := Tryz.underlying38; have hu33 := Tryz.underlying33; have hu42 := Tryz.underlying42; have HR1_2 := Aside0.mk hr1_2; have HC1_2 := Aside0.mk hc1_2; clear hr1_2 hc1_2; have HR3 := Aside0.mk hr3; have HC3 := Aside0.mk hc3; clear hr3 hc3; have HB := Aside0.mk (Below.refl w.heap.size w)
 have H : ((impl_NameOf.f k a1_1 a2 l3).bind fun t480 => ((impl_copyQc.f a1_0 a1_1 l1_2).bind fun bt481 => ((impl_BlockOk.f k a0_0 a0_1 t480 bt481.1 bt481.2.1 bt481.2.2).bind fun t487 => (if t487 = true then ((impl_ViewOf.f k t480).bind fun t488 => (if t488 = a2 then (some (t480, bt481.1, bt481.2.1, bt481.2.2, true)) else (some ((⟨#[]⟩ : ByteArray), 0, (⟨#[]⟩ : ByteArray), ([] : List Int), false)))) else (some ((⟨#[]⟩ : ByteArray), 0, (⟨#[]⟩ : ByteArray), ([] : List Int), false)))))) = some (r1, r2, r3, r4, r5) := h
 clear h; obtain ⟨t480, A50, H⟩ := Option.bind_eq_some_iff.mp H
 try dsimp only at H
 have A5 := Aside0.mk A50; clear A50; obtain ⟨⟨t481, t482, t483⟩, A60, H⟩ := Option.bind_eq_some_iff.mp H
 try dsimp only at H
 have A6 := Aside0.mk A60; clear A60; obtain ⟨t487, A70, H⟩ := Option.bind_eq_some_iff.mp H
 try dsimp only at H
 have A7 := Aside0.mk A70; clear A70
 by_cases c8 : t487 = true
 ·
  subst c8
  rw [if_pos rfl] at H
  obtain ⟨t488, A90, H⟩ := Option.bind_eq_some_iff.mp H
  try dsimp only at H
  have A9 := Aside0.mk A90; clear A90
  by_cases c10 : t488 = a2
  ·
   rw [if_pos c10] at H
   have c10b0 : (t488 == a2) = true := beq_iff_eq.mpr c10; have c10b1 : (t488 != a2) = false := bne_eq_false_iff_eq.mpr c10; clear c10
   simp only [Option.some.injEq, Prod.mk.injEq] at H
   obtain ⟨rfl, rfl, rfl, rfl, rfl⟩ := H
   go_enter Tryz.func32, Tryz.ntmps32
   try go_wp2_with (first | ((with_reducible refine gd 4 ?_); refine bA 4 #[.int .i64 a0_0, .int .i64 a0_1] 38 ?_; intro gb477 hg w11 hbox hb; have BK477 := Aside0.mk (hbox); have GW477 := bg hg HB; have GJ477 := gi GW477; have GE477 := GW477; replace HB := bs HB hb; clear hb hbox hg) | ((with_reducible refine gd 5 ?_); refine bA 5 #[.int .i64 a1_0, .string a1_1, .slice A1_2 l1_2.length c1_2] 33 ?_; intro gb478 hg w12 hbox hb; have BK478 := Aside0.mk (hbox); have GW478 := bg hg HB; have GJ478 := gi GW478; have GE478 := GW478; replace HB := bs HB hb; have NB477_478 := b1 BK477 hg; have NI477_478 := ni NB477_478; have NB478_477 := b2 BK477 hg; have NI478_477 := ni NB478_477; replace BK477 := bk BK477 hb; clear hb hbox hg) | ((with_reducible refine gd 8 ?_); refine bA 8 #[.string (⟨#[]⟩ : ByteArray), .int .i64 0, .string (⟨#[]⟩ : ByteArray), .slice none 0 0] 42 ?_; intro gb479 hg w13 hbox hb; have BK479 := Aside0.mk (hbox); have GW479 := bg hg HB; have GJ479 := gi GW479; have GE479 := GW479; replace HB := bs HB hb; have NB477_479 := b1 BK477 hg; have NI477_479 := ni NB477_479; have NB479_477 := b2 BK477 hg; have NI479_477 := ni NB479_477; replace BK477 := bk BK477 hb; have NB478_479 := b1 BK478 hg; have NI478_479 := ni NB478_479; have NB479_478 := b2 BK478 hg; have NI479_478 := ni NB479_478; replace BK478 := bk BK478 hb; clear hb hbox hg))
   replace BK477 := Aside0.mk (blk_drew BK477.out); replace BK478 := Aside0.mk (blk_drew BK478.out); replace BK479 := Aside0.mk (blk_drew BK479.out); replace HB := Aside0.mk (below_drew1 HB.out)
   refine start_ (n := 10) (S := fun w' => w'.cell? ⟨gb478, 0, none⟩ = some (.int .i64 a1_0) ∧ w'.cell? ⟨gb478, 1, none⟩ = some (.string a1_1) ∧ w'.cell? ⟨gb478, 2, none⟩ = some (.slice A1_2 l1_2.length c1_2)) (ds := []) #[false, false, false, false, false, false, false, false, false, false] (by kernel_rfl) rfl rfl ⟨bc0 BK478.out, bc1 BK478.out, bc2 BK478.out⟩ (fun hHeld => ?_); refine with_tabW impl_BlockNew.tab1 impl_BlockNew.bits1 (fun HT_ HW_ => ?_)
   generalize w13.drew = w14 at BK477 BK478 BK479 HB hHeld ⊢
   refine pA 0 (some 11) (bz 10 1) HT_ ?_
   refine pA 2 (some 13) (bz 10 5) HT_ ?_
   refine pA 3 (some 14) (bz 10 13) HT_ ?_
   refine tA 1 (some 12) (bz 10 15) HT_ HW_ hHeld ?_
   refine tA 5 (some 16) (bz 10 47) HT_ HW_ hHeld ?_
   refine join_ (σ := Value × Nat) 1 #[true, true, true, true, true, true, true, true, true, false] (fun s_ => [(15, .string t480), (17, .agg #[.int .i64 t481, .string t482, s_.1]), (10, .pointer (some ⟨s_.2, 0, none⟩)), (18, .agg #[.string t480, .int .i64 t481, .string t482, s_.1])]) (fun s_ w' => (w'.cell? ⟨gb478, 0, none⟩ = some (.int .i64 a1_0) ∧ w'.cell? ⟨gb478, 1, none⟩ = some (.string a1_1) ∧ w'.cell? ⟨gb478, 2, none⟩ = some (.slice A1_2 l1_2.length c1_2)) ∧ (Kd.R (Kd.int .i64) 3 w' w.heap.size (fun _ => True) s_.1 t483) ∧ (w'.heap[gb477]? = some (.cells #[.int .i64 a0_0, .int .i64 a0_1] 38 (0, 0))) ∧ (w'.heap[gb478]? = some (.cells #[.int .i64 a1_0, .string a1_1, .slice A1_2 l1_2.length c1_2] 33 (0, 0))) ∧ (w'.heap[gb479]? = some (.cells #[.string (⟨#[]⟩ : ByteArray), .int .i64 0, .string (⟨#[]⟩ : ByteArray), .slice none 0 0] 42 (0, 0))) ∧ (w'.heap[s_.2]? = some (.cells #[.string (⟨#[]⟩ : ByteArray), .int .i64 0, .string (⟨#[]⟩ : ByteArray), .slice none 0 0] 42 (0, 0))) ∧ (w.heap.size ≤ s_.2) ∧ (w.heap.size ≤ s_.2) ∧ (gb477 ≠ s_.2) ∧ (s_.2 ≠ gb477) ∧ (gb478 ≠ s_.2) ∧ (s_.2 ≠ gb478) ∧ (gb479 ≠ s_.2) ∧ (s_.2 ≠ gb479) ∧ (Below w.heap.size w w')) ?_ ?_
   rotate_left
   ·
    intro hCont
    refine two_ (i := 4) (j := 8) (Ni := some 15) (Nj := some 10) #[true, true, true, true, true, true, false, false, false, false] #[true, true, true, true, false, true, false, false, true, false] rfl rfl rfl rfl (two_of HT_.out (by kernel_rfl)) (by decide) (by decide) (fun K hK => ?_) (fun K hK => ?_)
    ·
     skip
     refine gA Tryz.func82 #[.string a1_1, .int .i64 a2, .slice A3 l3.length c3] ?_
     with_reducible refine (impl_NameOf.calls k a1_1 a2 _ _ l3 t480 _ ?side1 ?side2 A5.out).mono ?_
     (case side1 => exact ch HR3 HB)
     (case side2 => exact HC3.out)
     rintro e w15 ⟨rfl, hb⟩
     refine ⟨_, rfl, ?_⟩
     replace BK477 := bk BK477 hb; replace BK478 := bk BK478 hb; replace BK479 := bk BK479 hb; replace HB := bs HB hb
     (try clear hb)
     (try clear hb2)
     (try clear hk)
     (try clear hi)
     refine hK.out _ _ ⟨bc0 BK478.out, bc1 BK478.out, bc2 BK478.out⟩ (fun hHeld => ?_)
     clear hK K
     refine nA (some 15) ?_
     refine two_ (i := 6) (j := 8) (Ni := some 17) (Nj := some 10) #[true, true, true, true, true, true, true, false, false, false] #[true, true, true, true, true, true, false, false, true, false] rfl rfl rfl rfl (two_of HT_.out (by kernel_rfl)) (by decide) (by decide) (fun K hK => ?_) (fun K hK => ?_)
     ·
      skip
      refine gA Tryz.func83 #[.agg #[.int .i64 a1_0, .string a1_1, .slice A1_2 l1_2.length c1_2]] ?_
      with_reducible refine (impl_copyQc.calls a1_0 a1_1 _ _ l1_2 t481 t482 t483 _ ?side1 ?side2 A6.out).mono ?_
      (case side1 => exact ch HR1_2 HB)
      (case side2 => exact HC1_2.out)
      rintro e w16 ⟨v484, rfl, ho0, hb⟩
      refine ⟨_, rfl, ?_⟩
      have HO485 := Aside0.mk (Kd.R_lower ho0 (below_size (bI HB.out))); replace BK477 := bk BK477 hb; replace BK478 := bk BK478 hb; replace BK479 := bk BK479 hb; replace HB := bs HB hb
      (try clear hb)
      (try clear hb2)
      (try clear hk)
      (try clear hi)
      (try clear ho0)
      obtain ⟨Ao17, co17, eo17⟩ := Kd.R_slice HO485.out
      (first | subst eo17 | (injection eo17 with f1_ f2_ f3_; have f4_ := f1_.symm; have f5_ := f3_.symm; clear f1_ f2_ f3_; subst f4_; subst f5_))
      refine hK.out _ _ ⟨bc0 BK478.out, bc1 BK478.out, bc2 BK478.out⟩ (fun hHeld => ?_)
      clear hK K
      refine nA (some 17) ?_
      refine pA 7 (some 18) (bz 10 255) HT_ ?_
      refine oA 8 (some 10) (bz 10 511) HT_ (fun K hK => ?_)
      refine box_step ?hg (N := 10) ?hd (cs := #[.string (⟨#[]⟩ : ByteArray), .int .i64 0, .string (⟨#[]⟩ : ByteArray), .slice none 0 0]) (t := 42) ?hr ?_; (case hd => rfl); (case hg => rfl); (case hr => first | (go_simp; done) | (go_simp; rfl))
      intro gb486 hg w18 hbox hb
      replace HO485 := rb HO485 hb; have BK486 := Aside0.mk (hbox); have GW486 := bg hg HB; have GJ486 := gi GW486; have GE486 := bg hg HB; have GI486 := gi GE486; replace HB := bs HB hb; have NB477_486 := b1 BK477 hg; have NI477_486 := ni NB477_486; have NB486_477 := b2 BK477 hg; have NI486_477 := ni NB486_477; replace BK477 := bk BK477 hb; have NB478_486 := b1 BK478 hg; have NI478_486 := ni NB478_486; have NB486_478 := b2 BK478 hg; have NI486_478 := ni NB486_478; replace BK478 := bk BK478 hb; have NB479_486 := b1 BK479 hg; have NI479_486 := ni NB479_486; have NB486_479 := b2 BK479 hg; have NI486_479 := ni NB486_479; replace BK479 := bk BK479 hb; clear hb hbox hg
      refine hK.out _ _ ⟨bc0 BK478.out, bc1 BK478.out, bc2 BK478.out⟩ (fun hHeld => ?_)
      clear hK K
      refine nA (some 10) ?_
      exact norm_ y0_5 (hCont (.slice Ao17 t483.length co17, gb486) _ ⟨hHeld, (rI HO485.out), (kI BK477.out), (kI BK478.out), (kI BK479.out), (kI BK486.out), GW486.out, GE486.out, NB477_486.out, NB486_477.out, NB478_486.out, NB486_478.out, NB479_486.out, NB486_479.out, (bI HB.out)⟩)
     skip
     refine box_step ?hg (N := 10) ?hd (cs := #[.string (⟨#[]⟩ : ByteArray), .int .i64 0, .string (⟨#[]⟩ : ByteArray), .slice none 0 0]) (t := 42) ?hr ?_; (case hd => rfl); (case hg => rfl); (case hr => first | (go_simp; done) | (go_simp; rfl))
     intro gb486 hg w16 hbox hb
     have BK486 := Aside0.mk (hbox); have GW486 := bg hg HB; have GJ486 := gi GW486; have GE486 := bg hg HB; have GI486 := gi GE486; replace HB := bs HB hb; have NB477_486 := b1 BK477 hg; have NI477_486 := ni NB477_486; have NB486_477 := b2 BK477 hg; have NI486_477 := ni NB486_477; replace BK477 := bk BK477 hb; have NB478_486 := b1 BK478 hg; have NI478_486 := ni NB478_486; have NB486_478 := b2 BK478 hg; have NI486_478 := ni NB486_478; replace BK478 := bk BK478 hb; have NB479_486 := b1 BK479 hg; have NI479_486 := ni NB479_486; have NB486_479 := b2 BK479 hg; have NI486_479 := ni NB486_479; replace BK479 := bk BK479 hb; clear hb hbox hg
     refine hK.out _ _ ⟨bc0 BK478.out, bc1 BK478.out, bc2 BK478.out⟩ (fun hHeld => ?_)
     clear hK K
     refine nA (some 10) ?_
     refine oA 6 (some 17) (bz 10 383) HT_ (fun K hK => ?_)
     refine gA Tryz.func83 #[.agg #[.int .i64 a1_0, .string a1_1, .slice A1_2 l1_2.length c1_2]] ?_
     with_reducible refine (impl_copyQc.calls a1_0 a1_1 _ _ l1_2 t481 t482 t483 _ ?side1 ?side2 A6.out).mono ?_
     (case side1 => exact ch HR1_2 HB)
     (case side2 => exact HC1_2.out)
     rintro e w17 ⟨v484, rfl, ho0, hb⟩
     refine ⟨_, rfl, ?_⟩
     have HO485 := Aside0.mk (Kd.R_lower ho0 (below_size (bI HB.out))); replace BK477 := bk BK477 hb; replace BK478 := bk BK478 hb; replace BK479 := bk BK479 hb; replace BK486 := bk BK486 hb; replace HB := bs HB hb
     (try clear hb)
     (try clear hb2)
     (try clear hk)
     (try clear hi)
     (try clear ho0)
     obtain ⟨Ao18, co18, eo18⟩ := Kd.R_slice HO485.out
     (first | subst eo18 | (injection eo18 with f1_ f2_ f3_; have f4_ := f1_.symm; have f5_ := f3_.symm; clear f1_ f2_ f3_; subst f4_; subst f5_))
     refine hK.out _ _ ⟨bc0 BK478.out, bc1 BK478.out, bc2 BK478.out⟩ (fun hHeld => ?_)
     clear hK K
     refine nA (some 17) ?_
     refine pA 7 (some 18) (bz 10 511) HT_ ?_
     exact norm_ y0_5 (hCont (.slice Ao18 t483.length co18, gb486) _ ⟨hHeld, (rI HO485.out), (kI BK477.out), (kI BK478.out), (kI BK479.out), (kI BK486.out), GW486.out, GE486.out, NB477_486.out, NB486_477.out, NB478_486.out, NB486_478.out, NB479_486.out, NB486_479.out, (bI HB.out)⟩)
    skip
    refine box_step ?hg (N := 10) ?hd (cs := #[.string (⟨#[]⟩ : ByteArray), .int .i64 0, .string (⟨#[]⟩ : ByteArray), .slice none 0 0]) (t := 42) ?hr ?_; (case hd => rfl); (case hg => rfl); (case hr => first | (go_simp; done) | (go_simp; rfl))
    intro gb486 hg w15 hbox hb
    have BK486 := Aside0.mk (hbox); have GW486 := bg hg HB; have GJ486 := gi GW486; have GE486 := bg hg HB; have GI486 := gi GE486; replace HB := bs HB hb; have NB477_486 := b1 BK477 hg; have NI477_486 := ni NB477_486; have NB486_477 := b2 BK477 hg; have NI486_477 := ni NB486_477; replace BK477 := bk BK477 hb; have NB478_486 := b1 BK478 hg; have NI478_486 := ni NB478_486; have NB486_478 := b2 BK478 hg; have NI486_478 := ni NB486_478; replace BK478 := bk BK478 hb; have NB479_486 := b1 BK479 hg; have NI479_486 := ni NB479_486; have NB486_479 := b2 BK479 hg; have NI486_479 := ni NB486_479; replace BK479 := bk BK479 hb; clear hb hbox hg
    refine hK.out _ _ ⟨bc0 BK478.out, bc1 BK478.out, bc2 BK478.out⟩ (fun hHeld => ?_)
    clear hK K
    refine nA (some 10) ?_
    refine oA 4 (some 15) (bz 10 319) HT_ (fun K hK => ?_)
    refine gA Tryz.func82 #[.string a1_1, .int .i64 a2, .slice A3 l3.length c3] ?_
    with_reducible refine (impl_NameOf.calls k a1_1 a2 _ _ l3 t480 _ ?side1 ?side2 A5.out).mono ?_
    (case side1 => exact ch HR3 HB)
    (case side2 => exact HC3.out)
    rintro e w16 ⟨rfl, hb⟩
    refine ⟨_, rfl, ?_⟩
    replace BK477 := bk BK477 hb; replace BK478 := bk BK478 hb; replace BK479 := bk BK479 hb; replace BK486 := bk BK486 hb; replace HB := bs HB hb
    (try clear hb)
    (try clear hb2)
    (try clear hk)
    (try clear hi)
    refine hK.out _ _ ⟨bc0 BK478.out, bc1 BK478.out, bc2 BK478.out⟩ (fun hHeld => ?_)
    clear hK K
    refine nA (some 15) ?_
    refine oA 6 (some 17) (bz 10 383) HT_ (fun K hK => ?_)
    refine gA Tryz.func83 #[.agg #[.int .i64 a1_0, .string a1_1, .slice A1_2 l1_2.length c1_2]] ?_
    with_reducible refine (impl_copyQc.calls a1_0 a1_1 _ _ l1_2 t481 t482 t483 _ ?side1 ?side2 A6.out).mono ?_
    (case side1 => exact ch HR1_2 HB)
    (case side2 => exact HC1_2.out)
    rintro e w17 ⟨v484, rfl, ho0, hb⟩
    refine ⟨_, rfl, ?_⟩
    have HO485 := Aside0.mk (Kd.R_lower ho0 (below_size (bI HB.out))); replace BK477 := bk BK477 hb; replace BK478 := bk BK478 hb; replace BK479 := bk BK479 hb; replace BK486 := bk BK486 hb; replace HB := bs HB hb
    (try clear hb)
    (try clear hb2)
    (try clear hk)
    (try clear hi)
    (try clear ho0)
    obtain ⟨Ao18, co18, eo18⟩ := Kd.R_slice HO485.out
    (first | subst eo18 | (injection eo18 with f1_ f2_ f3_; have f4_ := f1_.symm; have f5_ := f3_.symm; clear f1_ f2_ f3_; subst f4_; subst f5_))
    refine hK.out _ _ ⟨bc0 BK478.out, bc1 BK478.out, bc2 BK478.out⟩ (fun hHeld => ?_)
    clear hK K
    refine nA (some 17) ?_
    refine pA 7 (some 18) (bz 10 511) HT_ ?_
    exact norm_ y0_5 (hCont (.slice Ao18 t483.length co18, gb486) _ ⟨hHeld, (rI HO485.out), (kI BK477.out), (kI BK478.out), (kI BK479.out), (kI BK486.out), GW486.out, GE486.out, NB477_486.out, NB486_477.out, NB478_486.out, NB486_478.out, NB479_486.out, NB486_479.out, (bI HB.out)⟩)
   rintro ⟨v484, gb486⟩ w19 ⟨hS_, h0_, h1_, h2_, h3_, h4_, h5_, h6_, h7_, h8_, h9_, h10_, h11_, h12_, h13_⟩
   try dsimp only at h0_ h1_ h2_ h3_ h4_ h5_ h6_ h7_ h8_ h9_ h10_ h11_ h12_ h13_
   have n0_ := Aside0.mk h0_; have n1_ := Aside0.mk h1_; have n2_ := Aside0.mk h2_; have n3_ := Aside0.mk h3_; have n4_ := Aside0.mk h4_; have n5_ := Aside0.mk h5_; have n6_ := Aside0.mk h6_; have n7_ := Aside0.mk h7_; have n8_ := Aside0.mk h8_; have n9_ := Aside0.mk h9_; have n10_ := Aside0.mk h10_; have n11_ := Aside0.mk h11_; have n12_ := Aside0.mk h12_; have n13_ := Aside0.mk h13_; clear BK477; clear BK478; clear BK479; clear HB; clear h0_ h1_ h2_ h3_ h4_ h5_ h6_ h7_ h8_ h9_ h10_ h11_ h12_ h13_; have HO485 := n0_; have BK477 := n1_; have BK478 := n2_; have BK479 := n3_; have BK486 := n4_; have GW486 := n5_; have GJ486 := gi GW486; have GE486 := n6_; have GI486 := gi GE486; have NB477_486 := n7_; have NI477_486 := ni NB477_486; have NB486_477 := n8_; have NI486_477 := ni NB486_477; have NB478_486 := n9_; have NI478_486 := ni NB478_486; have NB486_478 := n10_; have NI486_478 := ni NB486_478; have NB479_486 := n11_; have NI479_486 := ni NB479_486; have NB486_479 := n12_; have NI486_479 := ni NB486_479; have HB := n13_; clear n0_ n1_ n2_ n3_ n4_ n5_ n6_ n7_ n8_ n9_ n10_ n11_ n12_ n13_; have hHeld : w19.cell? ⟨gb478, 0, none⟩ = some (.int .i64 a1_0) ∧ w19.cell? ⟨gb478, 1, none⟩ = some (.string a1_1) ∧ w19.cell? ⟨gb478, 2, none⟩ = some (.slice A1_2 l1_2.length c1_2) := hS_; obtain ⟨Ao20, co20, eo20⟩ := Kd.R_slice HO485.out
   (first | subst eo20 | (injection eo20 with f1_ f2_ f3_; have f4_ := f1_.symm; have f5_ := f3_.symm; clear f1_ f2_ f3_; subst f4_; subst f5_))
   refine norm_ (a' := ?_) ?_ ?_
   rotate_left
   ·
    simp only [putAll, Act.put, List.setIfInBounds_toArray, List.set_cons_zero, List.set_cons_succ]
    rfl
   refine oA 9 none (bz 10 1023) HT_ (fun K hK => ?_)
   have hs21 : w19.cell? ⟨gb486, 0, none⟩ = some (.string (⟨#[]⟩ : ByteArray)) := bc0 BK486.out; have hfs21 := blk_frozen BK486.out 0; have hns21_0 := NB477_486.out; have hns21_1 := NB478_486.out; have hns21_2 := NB479_486.out; have hms21_0 := NB486_477.out; have hms21_1 := NB486_478.out; have hms21_2 := NB486_479.out; have hs22 : w19.cell? ⟨gb486, 1, none⟩ = some (.int .i64 0) := bc1 BK486.out; have hfs22 := blk_frozen BK486.out 1; have hns22_0 := NB477_486.out; have hns22_1 := NB478_486.out; have hns22_2 := NB479_486.out; have hms22_0 := NB486_477.out; have hms22_1 := NB486_478.out; have hms22_2 := NB486_479.out; have hs23 : w19.cell? ⟨gb486, 2, none⟩ = some (.string (⟨#[]⟩ : ByteArray)) := bc2 BK486.out; have hfs23 := blk_frozen BK486.out 2; have hns23_0 := NB477_486.out; have hns23_1 := NB478_486.out; have hns23_2 := NB479_486.out; have hms23_0 := NB486_477.out; have hms23_1 := NB486_478.out; have hms23_2 := NB486_479.out; have hs24 : w19.cell? ⟨gb486, 3, none⟩ = some (.slice none 0 0) := bc3 BK486.out; have hfs24 := blk_frozen BK486.out 3; have hns24_0 := NB477_486.out; have hns24_1 := NB478_486.out; have hns24_2 := NB479_486.out; have hms24_0 := NB486_477.out; have hms24_1 := NB486_478.out; have hms24_2 := NB486_479.out
   refine skip_ (w1 := ?_) (by rfl) rfl ?_ ?_
   rotate_left
   ·
    go_simp
    rfl
   refine hK.out _ _ ⟨((cell_far (p := ⟨gb486, _, none⟩) NB478_486.out _).trans (((cell_far (p := ⟨gb486, _, none⟩) NB478_486.out _).trans (((cell_far (p := ⟨gb486, _, none⟩) NB478_486.out _).trans (((cell_far (p := ⟨gb486, _, none⟩) NB478_486.out _).trans (hHeld.1)))))))), ((cell_far (p := ⟨gb486, _, none⟩) NB478_486.out _).trans (((cell_far (p := ⟨gb486, _, none⟩) NB478_486.out _).trans (((cell_far (p := ⟨gb486, _, none⟩) NB478_486.out _).trans (((cell_far (p := ⟨gb486, _, none⟩) NB478_486.out _).trans (hHeld.2.1)))))))), ((cell_far (p := ⟨gb486, _, none⟩) NB478_486.out _).trans (((cell_far (p := ⟨gb486, _, none⟩) NB478_486.out _).trans (((cell_far (p := ⟨gb486, _, none⟩) NB478_486.out _).trans (((cell_far (p := ⟨gb486, _, none⟩) NB478_486.out _).trans (hHeld.2.2))))))))⟩ (fun hHeld => ?_)
   clear hK K
   refine done_ (done_of HT_.out (by kernel_rfl)) ?_
   have hnb25 := NB477_478.out; have hnc25 := NB478_477.out; have hnb26 := NB477_479.out; have hnc26 := NB479_477.out; have hnb27 := NB477_486.out; have hnc27 := NB486_477.out; have hcz28_0 := bc0 BK477.out; have hcz28_1 := bc1 BK477.out; have hfz28_0 := blk_frozen BK477.out 0; have hfz28_1 := blk_frozen BK477.out 1; have hnb29 := NB486_478.out; have hnc29 := NB478_486.out; have hnb30 := NB486_479.out; have hnc30 := NB479_486.out; have hcz31_0 := bc0 BK486.out; have hcz31_1 := bc1 BK486.out; have hcz31_2 := bc2 BK486.out; have hcz31_3 := bc3 BK486.out; have hfz31_0 := blk_frozen BK486.out 0; have hfz31_1 := blk_frozen BK486.out 1; have hfz31_2 := blk_frozen BK486.out 2; have hfz31_3 := blk_frozen BK486.out 3
   try go_wp2_with (first | ((with_reducible refine gate_callee (f := 84) rfl ?_); refine gB (some 21) Tryz.func84 #[.agg #[.int .i64 a0_0, .int .i64 a0_1], .agg #[.string t480, .int .i64 t481, .string t482, .slice Ao20 t483.length co20]] ?_; (with_reducible refine (impl_BlockOk.calls k a0_0 a0_1 t480 t481 t482 _ _ t483 true _ ?side1 ?side2 A7.out).mono ?_); (case side1 => refine (Kd.R_reads' (e := 3) (base := w.heap.size) (ok := fun k_ => True) (n := t483.length) (c := co20) ?_).2.2; exact (rI (Kd.R_mono (Kd.R_far (p := ⟨gb486, 3, none⟩) (Kd.R_far (p := ⟨gb486, 2, none⟩) (Kd.R_far (p := ⟨gb486, 1, none⟩) (Kd.R_far (p := ⟨gb486, 0, none⟩) (Kd.R_types HO485.out BK486.out (by decide)) (fun _ hk => hk.2) (.string t480)) (fun _ hk => hk.2) (.int .i64 t481)) (fun _ hk => hk.2) (.string t482)) (fun _ hk => hk.2) (.slice Ao20 t483.length co20)) (fun _ h_ => h_.1)))); (case side2 => exact (Kd.R_reads' HO485.out).2.1); rintro e w32 ⟨rfl, hb⟩; refine ⟨_, rfl, ?_⟩; replace HO485 := Aside0.mk (Kd.R_below (rI (Kd.R_mono (Kd.R_far (p := ⟨gb486, 3, none⟩) (Kd.R_far (p := ⟨gb486, 2, none⟩) (Kd.R_far (p := ⟨gb486, 1, none⟩) (Kd.R_far (p := ⟨gb486, 0, none⟩) (Kd.R_types HO485.out BK486.out (by decide)) (fun _ hk => hk.2) (.string t480)) (fun _ hk => hk.2) (.int .i64 t481)) (fun _ hk => hk.2) (.string t482)) (fun _ hk => hk.2) (.slice Ao20 t483.length co20)) (fun _ h_ => h_.1))) hb); replace BK477 := Aside0.mk (blk_below (g := gb477) (o := .cells #[.int .i64 a0_0, .int .i64 a0_1] 38 (0, 0)) (gI BK477.out) hb); replace BK478 := Aside0.mk (blk_below (g := gb478) (o := .cells #[.int .i64 a1_0, .string a1_1, .slice A1_2 l1_2.length c1_2] 33 (0, 0)) (gI BK478.out) hb); replace BK479 := Aside0.mk (blk_below (g := gb479) (o := .cells #[.string (⟨#[]⟩ : ByteArray), .int .i64 0, .string (⟨#[]⟩ : ByteArray), .slice none 0 0] 42 (0, 0)) (gI BK479.out) hb); replace BK486 := bp BK486 hb #[.string t480, .int .i64 t481, .string t482, .slice Ao20 t483.length co20]; replace HB := bs HB hb; (try clear hb); (try clear hb2); (try clear hk); (try clear hi); obtain ⟨hcz33_0, hcz33_1, hcz33_2, hcz33_3, hfz33_0, hfz33_1, hfz33_2, hfz33_3⟩ := cs4 BK486) | (go_at_call 44; (with_reducible refine (impl_ViewOf.calls k t480 t488 _ A9.out).mono ?_); rintro e w34 ⟨rfl, hb⟩; replace HO485 := rb HO485 hb; replace BK477 := bk BK477 hb; replace BK478 := bk BK478 hb; replace BK479 := bk BK479 hb; replace BK486 := bk BK486 hb; replace HB := bs HB hb; (try clear hb); (try clear hb2); (try clear hk); (try clear hi); obtain ⟨hcz35_0, hcz35_1, hcz35_2, hcz35_3, hfz35_0, hfz35_1, hfz35_2, hfz35_3⟩ := cs4 BK486; have hnb36 := NB479_478.out; have hnc36 := NB478_479.out; obtain ⟨hcz37_0, hcz37_1, hcz37_2, hcz37_3, hfz37_0, hfz37_1, hfz37_2, hfz37_3⟩ := cs4 BK479))
   refine bodyPost_ret (results_ct rfl _ _ gb479 42 #[.string t480, .int .i64 t481, .string t482, .slice Ao20 t483.length co20] (0, 0) _ rfl (pI BK479) Tryz.underlying42 rfl (by kernel_rfl)) rfl ?_
   exact ⟨_, y0_6, by (with_reducible repeat (first | apply Kd.R_alloc | apply Kd.R_drewN | apply Kd.R_drew)); exact Kd.R_mono (Kd.R_far (p := ⟨gb479, 3, none⟩) (Kd.R_far (p := ⟨gb479, 2, none⟩) (Kd.R_far (p := ⟨gb479, 1, none⟩) (Kd.R_far (p := ⟨gb479, 0, none⟩) (Kd.R_types HO485.out BK479.out (by decide)) (fun _ hk => hk.2) (.string t480)) (fun _ hk => hk.2) (.int .i64 t481)) (fun _ hk => hk.2) (.string t482)) (fun _ hk => hk.2) (.slice Ao20 t483.length co20)) (fun _ hk => trivial), bI HB.out⟩
  rw [if_neg c10] at H
  have c10b0 : (t488 == a2) = false := beq_eq_false_iff_ne.mpr c10; have c10b1 : (t488 != a2) = true := bne_iff_ne.mpr c10
  simp only [Option.some.injEq, Prod.mk.injEq] at H
  obtain ⟨rfl, rfl, rfl, rfl, rfl⟩ := H
  go_enter Tryz.func32, Tryz.ntmps32
  try go_wp2_with (first | ((with_reducible refine gd 4 ?_); refine bA 4 #[.int .i64 a0_0, .int .i64 a0_1] 38 ?_; intro gb477 hg w38 hbox hb; have BK477 := Aside0.mk (hbox); have GW477 := bg hg HB; have GJ477 := gi GW477; have GE477 := GW477; replace HB := bs HB hb; clear hb hbox hg) | ((with_reducible refine gd 5 ?_); refine bA 5 #[.int .i64 a1_0, .string a1_1, .slice A1_2 l1_2.length c1_2] 33 ?_; intro gb478 hg w39 hbox hb; have BK478 := Aside0.mk (hbox); have GW478 := bg hg HB; have GJ478 := gi GW478; have GE478 := GW478; replace HB := bs HB hb; have NB477_478 := b1 BK477 hg; have NI477_478 := ni NB477_478; have NB478_477 := b2 BK477 hg; have NI478_477 := ni NB478_477; replace BK477 := bk BK477 hb; clear hb hbox hg) | ((with_reducible refine gd 8 ?_); refine bA 8 #[.string (⟨#[]⟩ : ByteArray), .int .i64 0, .string (⟨#[]⟩ : ByteArray), .slice none 0 0] 42 ?_; intro gb479 hg w40 hbox hb; have BK479 := Aside0.mk (hbox); have GW479 := bg hg HB; have GJ479 := gi GW479; have GE479 := GW479; replace HB := bs HB hb; have NB477_479 := b1 BK477 hg; have NI477_479 := ni NB477_479; have NB479_477 := b2 BK477 hg; have NI479_477 := ni NB479_477; replace BK477 := bk BK477 hb; have NB478_479 := b1 BK478 hg; have NI478_479 := ni NB478_479; have NB479_478 := b2 BK478 hg; have NI479_478 := ni NB479_478; replace BK478 := bk BK478 hb; clear hb hbox hg))
  replace BK477 := Aside0.mk (blk_drew BK477.out); replace BK478 := Aside0.mk (blk_drew BK478.out); replace BK479 := Aside0.mk (blk_drew BK479.out); replace HB := Aside0.mk (below_drew1 HB.out)
  refine start_ (n := 10) (S := fun w' => w'.cell? ⟨gb478, 0, none⟩ = some (.int .i64 a1_0) ∧ w'.cell? ⟨gb478, 1, none⟩ = some (.string a1_1) ∧ w'.cell? ⟨gb478, 2, none⟩ = some (.slice A1_2 l1_2.length c1_2)) (ds := []) #[false, false, false, false, false, false, false, false, false, false] (by kernel_rfl) rfl rfl ⟨bc0 BK478.out, bc1 BK478.out, bc2 BK478.out⟩ (fun hHeld => ?_); refine with_tabW impl_BlockNew.tab1 impl_BlockNew.bits1 (fun HT_ HW_ => ?_)
  generalize w40.drew = w41 at BK477 BK478 BK479 HB hHeld ⊢
  refine pA 0 (some 11) (bz 10 1) HT_ ?_
  refine pA 2 (some 13) (bz 10 5) HT_ ?_
  refine pA 3 (some 14) (bz 10 13) HT_ ?_
  refine tA 1 (some 12) (bz 10 15) HT_ HW_ hHeld ?_
  refine tA 5 (some 16) (bz 10 47) HT_ HW_ hHeld ?_
  refine join_ (σ := Value × Nat) 1 #[true, true, true, true, true, true, true, true, true, false] (fun s_ => [(15, .string t480), (17, .agg #[.int .i64 t481, .string t482, s_.1]), (10, .pointer (some ⟨s_.2, 0, none⟩)), (18, .agg #[.string t480, .int .i64 t481, .string t482, s_.1])]) (fun s_ w' => (w'.cell? ⟨gb478, 0, none⟩ = some (.int .i64 a1_0) ∧ w'.cell? ⟨gb478, 1, none⟩ = some (.string a1_1) ∧ w'.cell? ⟨gb478, 2, none⟩ = some (.slice A1_2 l1_2.length c1_2)) ∧ (Kd.R (Kd.int .i64) 3 w' w.heap.size (fun _ => True) s_.1 t483) ∧ (w'.heap[gb477]? = some (.cells #[.int .i64 a0_0, .int .i64 a0_1] 38 (0, 0))) ∧ (w'.heap[gb478]? = some (.cells #[.int .i64 a1_0, .string a1_1, .slice A1_2 l1_2.length c1_2] 33 (0, 0))) ∧ (w'.heap[gb479]? = some (.cells #[.string (⟨#[]⟩ : ByteArray), .int .i64 0, .string (⟨#[]⟩ : ByteArray), .slice none 0 0] 42 (0, 0))) ∧ (w'.heap[s_.2]? = some (.cells #[.string (⟨#[]⟩ : ByteArray), .int .i64 0, .string (⟨#[]⟩ : ByteArray), .slice none 0 0] 42 (0, 0))) ∧ (w.heap.size ≤ s_.2) ∧ (w.heap.size ≤ s_.2) ∧ (gb477 ≠ s_.2) ∧ (s_.2 ≠ gb477) ∧ (gb478 ≠ s_.2) ∧ (s_.2 ≠ gb478) ∧ (gb479 ≠ s_.2) ∧ (s_.2 ≠ gb479) ∧ (Below w.heap.size w w')) ?_ ?_
  rotate_left
  ·
   intro hCont
   refine two_ (i := 4) (j := 8) (Ni := some 15) (Nj := some 10) #[true, true, true, true, true, true, false, false, false, false] #[true, true, true, true, false, true, false, false, true, false] rfl rfl rfl rfl (two_of HT_.out (by kernel_rfl)) (by decide) (by decide) (fun K hK => ?_) (fun K hK => ?_)
   ·
    skip
    refine gA Tryz.func82 #[.string a1_1, .int .i64 a2, .slice A3 l3.length c3] ?_
    with_reducible refine (impl_NameOf.calls k a1_1 a2 _ _ l3 t480 _ ?side1 ?side2 A5.out).mono ?_
    (case side1 => exact ch HR3 HB)
    (case side2 => exact HC3.out)
    rintro e w42 ⟨rfl, hb⟩
    refine ⟨_, rfl, ?_⟩
    replace BK477 := bk BK477 hb; replace BK478 := bk BK478 hb; replace BK479 := bk BK479 hb; replace HB := bs HB hb
    (try clear hb)
    (try clear hb2)
    (try clear hk)
    (try clear hi)
    refine hK.out _ _ ⟨bc0 BK478.out, bc1 BK478.out, bc2 BK478.out⟩ (fun hHeld => ?_)
    clear hK K
    refine nA (some 15) ?_
    refine two_ (i := 6) (j := 8) (Ni := some 17) (Nj := some 10) #[true, true, true, true, true, true, true, false, false, false] #[true, true, true, true, true, true, false, false, true, false] rfl rfl rfl rfl (two_of HT_.out (by kernel_rfl)) (by decide) (by decide) (fun K hK => ?_) (fun K hK => ?_)
    ·
     skip
     refine gA Tryz.func83 #[.agg #[.int .i64 a1_0, .string a1_1, .slice A1_2 l1_2.length c1_2]] ?_
     with_reducible refine (impl_copyQc.calls a1_0 a1_1 _ _ l1_2 t481 t482 t483 _ ?side1 ?side2 A6.out).mono ?_
     (case side1 => exact ch HR1_2 HB)
     (case side2 => exact HC1_2.out)
     rintro e w43 ⟨v484, rfl, ho0, hb⟩
     refine ⟨_, rfl, ?_⟩
     have HO485 := Aside0.mk (Kd.R_lower ho0 (below_size (bI HB.out))); replace BK477 := bk BK477 hb; replace BK478 := bk BK478 hb; replace BK479 := bk BK479 hb; replace HB := bs HB hb
     (try clear hb)
     (try clear hb2)
     (try clear hk)
     (try clear hi)
     (try clear ho0)
     obtain ⟨Ao44, co44, eo44⟩ := Kd.R_slice HO485.out
     (first | subst eo44 | (injection eo44 with f1_ f2_ f3_; have f4_ := f1_.symm; have f5_ := f3_.symm; clear f1_ f2_ f3_; subst f4_; subst f5_))
     refine hK.out _ _ ⟨bc0 BK478.out, bc1 BK478.out, bc2 BK478.out⟩ (fun hHeld => ?_)
     clear hK K
     refine nA (some 17) ?_
     refine pA 7 (some 18) (bz 10 255) HT_ ?_
     refine oA 8 (some 10) (bz 10 511) HT_ (fun K hK => ?_)
     refine box_step ?hg (N := 10) ?hd (cs := #[.string (⟨#[]⟩ : ByteArray), .int .i64 0, .string (⟨#[]⟩ : ByteArray), .slice none 0 0]) (t := 42) ?hr ?_; (case hd => rfl); (case hg => rfl); (case hr => first | (go_simp; done) | (go_simp; rfl))
     intro gb486 hg w45 hbox hb
     replace HO485 := rb HO485 hb; have BK486 := Aside0.mk (hbox); have GW486 := bg hg HB; have GJ486 := gi GW486; have GE486 := bg hg HB; have GI486 := gi GE486; replace HB := bs HB hb; have NB477_486 := b1 BK477 hg; have NI477_486 := ni NB477_486; have NB486_477 := b2 BK477 hg; have NI486_477 := ni NB486_477; replace BK477 := bk BK477 hb; have NB478_486 := b1 BK478 hg; have NI478_486 := ni NB478_486; have NB486_478 := b2 BK478 hg; have NI486_478 := ni NB486_478; replace BK478 := bk BK478 hb; have NB479_486 := b1 BK479 hg; have NI479_486 := ni NB479_486; have NB486_479 := b2 BK479 hg; have NI486_479 := ni NB486_479; replace BK479 := bk BK479 hb; clear hb hbox hg
     refine hK.out _ _ ⟨bc0 BK478.out, bc1 BK478.out, bc2 BK478.out⟩ (fun hHeld => ?_)
     clear hK K
     refine nA (some 10) ?_
     exact norm_ y0_5 (hCont (.slice Ao44 t483.length co44, gb486) _ ⟨hHeld, (rI HO485.out), (kI BK477.out), (kI BK478.out), (kI BK479.out), (kI BK486.out), GW486.out, GE486.out, NB477_486.out, NB486_477.out, NB478_486.out, NB486_478.out, NB479_486.out, NB486_479.out, (bI HB.out)⟩)
    skip
    refine box_step ?hg (N := 10) ?hd (cs := #[.string (⟨#[]⟩ : ByteArray), .int .i64 0, .string (⟨#[]⟩ : ByteArray), .slice none 0 0]) (t := 42) ?hr ?_; (case hd => rfl); (case hg => rfl); (case hr => first | (go_simp; done) | (go_simp; rfl))
    intro gb486 hg w43 hbox hb
    have BK486 := Aside0.mk (hbox); have GW486 := bg hg HB; have GJ486 := gi GW486; have GE486 := bg hg HB; have GI486 := gi GE486; replace HB := bs HB hb; have NB477_486 := b1 BK477 hg; have NI477_486 := ni NB477_486; have NB486_477 := b2 BK477 hg; have NI486_477 := ni NB486_477; replace BK477 := bk BK477 hb; have NB478_486 := b1 BK478 hg; have NI478_486 := ni NB478_486; have NB486_478 := b2 BK478 hg; have NI486_478 := ni NB486_478; replace BK478 := bk BK478 hb; have NB479_486 := b1 BK479 hg; have NI479_486 := ni NB479_486; have NB486_479 := b2 BK479 hg; have NI486_479 := ni NB486_479; replace BK479 := bk BK479 hb; clear hb hbox hg
    refine hK.out _ _ ⟨bc0 BK478.out, bc1 BK478.out, bc2 BK478.out⟩ (fun hHeld => ?_)
    clear hK K
    refine nA (some 10) ?_
    refine oA 6 (some 17) (bz 10 383) HT_ (fun K hK => ?_)
    refine gA Tryz.func83 #[.agg #[.int .i64 a1_0, .string a1_1, .slice A1_2 l1_2.length c1_2]] ?_
    with_reducible refine (impl_copyQc.calls a1_0 a1_1 _ _ l1_2 t481 t482 t483 _ ?side1 ?side2 A6.out).mono ?_
    (case side1 => exact ch HR1_2 HB)
    (case side2 => exact HC1_2.out)
    rintro e w44 ⟨v484, rfl, ho0, hb⟩
    refine ⟨_, rfl, ?_⟩
    have HO485 := Aside0.mk (Kd.R_lower ho0 (below_size (bI HB.out))); replace BK477 := bk BK477 hb; replace BK478 := bk BK478 hb; replace BK479 := bk BK479 hb; replace BK486 := bk BK486 hb; replace HB := bs HB hb
    (try clear hb)
    (try clear hb2)
    (try clear hk)
    (try clear hi)
    (try clear ho0)
    obtain ⟨Ao45, co45, eo45⟩ := Kd.R_slice HO485.out
    (first | subst eo45 | (injection eo45 with f1_ f2_ f3_; have f4_ := f1_.symm; have f5_ := f3_.symm; clear f1_ f2_ f3_; subst f4_; subst f5_))
    refine hK.out _ _ ⟨bc0 BK478.out, bc1 BK478.out, bc2 BK478.out⟩ (fun hHeld => ?_)
    clear hK K
    refine nA (some 17) ?_
    refine pA 7 (some 18) (bz 10 511) HT_ ?_
    exact norm_ y0_5 (hCont (.slice Ao45 t483.length co45, gb486) _ ⟨hHeld, (rI HO485.out), (kI BK477.out), (kI BK478.out), (kI BK479.out), (kI BK486.out), GW486.out, GE486.out, NB477_486.out, NB486_477.out, NB478_486.out, NB486_478.out, NB479_486.out, NB486_479.out, (bI HB.out)⟩)
   skip
   refine box_step ?hg (N := 10) ?hd (cs := #[.string (⟨#[]⟩ : ByteArray), .int .i64 0, .string (⟨#[]⟩ : ByteArray), .slice none 0 0]) (t := 42) ?hr ?_; (case hd => rfl); (case hg => rfl); (case hr => first | (go_simp; done) | (go_simp; rfl))
   intro gb486 hg w42 hbox hb
   have BK486 := Aside0.mk (hbox); have GW486 := bg hg HB; have GJ486 := gi GW486; have GE486 := bg hg HB; have GI486 := gi GE486; replace HB := bs HB hb; have NB477_486 := b1 BK477 hg; have NI477_486 := ni NB477_486; have NB486_477 := b2 BK477 hg; have NI486_477 := ni NB486_477; replace BK477 := bk BK477 hb; have NB478_486 := b1 BK478 hg; have NI478_486 := ni NB478_486; have NB486_478 := b2 BK478 hg; have NI486_478 := ni NB486_478; replace BK478 := bk BK478 hb; have NB479_486 := b1 BK479 hg; have NI479_486 := ni NB479_486; have NB486_479 := b2 BK479 hg; have NI486_479 := ni NB486_479; replace BK479 := bk BK479 hb; clear hb hbox hg
   refine hK.out _ _ ⟨bc0 BK478.out, bc1 BK478.out, bc2 BK478.out⟩ (fun hHeld => ?_)
   clear hK K
   refine nA (some 10) ?_
   refine oA 4 (some 15) (bz 10 319) HT_ (fun K hK => ?_)
   refine gA Tryz.func82 #[.string a1_1, .int .i64 a2, .slice A3 l3.length c3] ?_
   with_reducible refine (impl_NameOf.calls k a1_1 a2 _ _ l3 t480 _ ?side1 ?side2 A5.out).mono ?_
   (case side1 => exact ch HR3 HB)
   (case side2 => exact HC3.out)
   rintro e w43 ⟨rfl, hb⟩
   refine ⟨_, rfl, ?_⟩
   replace BK477 := bk BK477 hb; replace BK478 := bk BK478 hb; replace BK479 := bk BK479 hb; replace BK486 := bk BK486 hb; replace HB := bs HB hb
   (try clear hb)
   (try clear hb2)
   (try clear hk)
   (try clear hi)
   refine hK.out _ _ ⟨bc0 BK478.out, bc1 BK478.out, bc2 BK478.out⟩ (fun hHeld => ?_)
   clear hK K
   refine nA (some 15) ?_
   refine oA 6 (some 17) (bz 10 383) HT_ (fun K hK => ?_)
   refine gA Tryz.func83 #[.agg #[.int .i64 a1_0, .string a1_1, .slice A1_2 l1_2.length c1_2]] ?_
   with_reducible refine (impl_copyQc.calls a1_0 a1_1 _ _ l1_2 t481 t482 t483 _ ?side1 ?side2 A6.out).mono ?_
   (case side1 => exact ch HR1_2 HB)
   (case side2 => exact HC1_2.out)
   rintro e w44 ⟨v484, rfl, ho0, hb⟩
   refine ⟨_, rfl, ?_⟩
   have HO485 := Aside0.mk (Kd.R_lower ho0 (below_size (bI HB.out))); replace BK477 := bk BK477 hb; replace BK478 := bk BK478 hb; replace BK479 := bk BK479 hb; replace BK486 := bk BK486 hb; replace HB := bs HB hb
   (try clear hb)
   (try clear hb2)
   (try clear hk)
   (try clear hi)
   (try clear ho0)
   obtain ⟨Ao45, co45, eo45⟩ := Kd.R_slice HO485.out
   (first | subst eo45 | (injection eo45 with f1_ f2_ f3_; have f4_ := f1_.symm; have f5_ := f3_.symm; clear f1_ f2_ f3_; subst f4_; subst f5_))
   refine hK.out _ _ ⟨bc0 BK478.out, bc1 BK478.out, bc2 BK478.out⟩ (fun hHeld => ?_)
   clear hK K
   refine nA (some 17) ?_
   refine pA 7 (some 18) (bz 10 511) HT_ ?_
   exact norm_ y0_5 (hCont (.slice Ao45 t483.length co45, gb486) _ ⟨hHeld, (rI HO485.out), (kI BK477.out), (kI BK478.out), (kI BK479.out), (kI BK486.out), GW486.out, GE486.out, NB477_486.out, NB486_477.out, NB478_486.out, NB486_478.out, NB479_486.out, NB486_479.out, (bI HB.out)⟩)
  rintro ⟨v484, gb486⟩ w46 ⟨hS_, h0_, h1_, h2_, h3_, h4_, h5_, h6_, h7_, h8_, h9_, h10_, h11_, h12_, h13_⟩
  try dsimp only at h0_ h1_ h2_ h3_ h4_ h5_ h6_ h7_ h8_ h9_ h10_ h11_ h12_ h13_
  have n0_ := Aside0.mk h0_; have n1_ := Aside0.mk h1_; have n2_ := Aside0.mk h2_; have n3_ := Aside0.mk h3_; have n4_ := Aside0.mk h4_; have n5_ := Aside0.mk h5_; have n6_ := Aside0.mk h6_; have n7_ := Aside0.mk h7_; have n8_ := Aside0.mk h8_; have n9_ := Aside0.mk h9_; have n10_ := Aside0.mk h10_; have n11_ := Aside0.mk h11_; have n12_ := Aside0.mk h12_; have n13_ := Aside0.mk h13_; clear BK477; clear BK478; clear BK479; clear HB; clear h0_ h1_ h2_ h3_ h4_ h5_ h6_ h7_ h8_ h9_ h10_ h11_ h12_ h13_; have HO485 := n0_; have BK477 := n1_; have BK478 := n2_; have BK479 := n3_; have BK486 := n4_; have GW486 := n5_; have GJ486 := gi GW486; have GE486 := n6_; have GI486 := gi GE486; have NB477_486 := n7_; have NI477_486 := ni NB477_486; have NB486_477 := n8_; have NI486_477 := ni NB486_477; have NB478_486 := n9_; have NI478_486 := ni NB478_486; have NB486_478 := n10_; have NI486_478 := ni NB486_478; have NB479_486 := n11_; have NI479_486 := ni NB479_486; have NB486_479 := n12_; have NI486_479 := ni NB486_479; have HB := n13_; clear n0_ n1_ n2_ n3_ n4_ n5_ n6_ n7_ n8_ n9_ n10_ n11_ n12_ n13_; have hHeld : w46.cell? ⟨gb478, 0, none⟩ = some (.int .i64 a1_0) ∧ w46.cell? ⟨gb478, 1, none⟩ = some (.string a1_1) ∧ w46.cell? ⟨gb478, 2, none⟩ = some (.slice A1_2 l1_2.length c1_2) := hS_; obtain ⟨Ao47, co47, eo47⟩ := Kd.R_slice HO485.out
  (first | subst eo47 | (injection eo47 with f1_ f2_ f3_; have f4_ := f1_.symm; have f5_ := f3_.symm; clear f1_ f2_ f3_; subst f4_; subst f5_))
  refine norm_ (a' := ?_) ?_ ?_
  rotate_left
  ·
   simp only [putAll, Act.put, List.setIfInBounds_toArray, List.set_cons_zero, List.set_cons_succ]
   rfl
  refine oA 9 none (bz 10 1023) HT_ (fun K hK => ?_)
  have hs48 : w46.cell? ⟨gb486, 0, none⟩ = some (.string (⟨#[]⟩ : ByteArray)) := bc0 BK486.out; have hfs48 := blk_frozen BK486.out 0; have hns48_0 := NB477_486.out; have hns48_1 := NB478_486.out; have hns48_2 := NB479_486.out; have hms48_0 := NB486_477.out; have hms48_1 := NB486_478.out; have hms48_2 := NB486_479.out; have hs49 : w46.cell? ⟨gb486, 1, none⟩ = some (.int .i64 0) := bc1 BK486.out; have hfs49 := blk_frozen BK486.out 1; have hns49_0 := NB477_486.out; have hns49_1 := NB478_486.out; have hns49_2 := NB479_486.out; have hms49_0 := NB486_477.out; have hms49_1 := NB486_478.out; have hms49_2 := NB486_479.out; have hs50 : w46.cell? ⟨gb486, 2, none⟩ = some (.string (⟨#[]⟩ : ByteArray)) := bc2 BK486.out; have hfs50 := blk_frozen BK486.out 2; have hns50_0 := NB477_486.out; have hns50_1 := NB478_486.out; have hns50_2 := NB479_486.out; have hms50_0 := NB486_477.out; have hms50_1 := NB486_478.out; have hms50_2 := NB486_479.out; have hs51 : w46.cell? ⟨gb486, 3, none⟩ = some (.slice none 0 0) := bc3 BK486.out; have hfs51 := blk_frozen BK486.out 3; have hns51_0 := NB477_486.out; have hns51_1 := NB478_486.out; have hns51_2 := NB479_486.out; have hms51_0 := NB486_477.out; have hms51_1 := NB486_478.out; have hms51_2 := NB486_479.out
  refine skip_ (w1 := ?_) (by rfl) rfl ?_ ?_
  rotate_left
  ·
   go_simp
   rfl
  refine hK.out _ _ ⟨((cell_far (p := ⟨gb486, _, none⟩) NB478_486.out _).trans (((cell_far (p := ⟨gb486, _, none⟩) NB478_486.out _).trans (((cell_far (p := ⟨gb486, _, none⟩) NB478_486.out _).trans (((cell_far (p := ⟨gb486, _, none⟩) NB478_486.out _).trans (hHeld.1)))))))), ((cell_far (p := ⟨gb486, _, none⟩) NB478_486.out _).trans (((cell_far (p := ⟨gb486, _, none⟩) NB478_486.out _).trans (((cell_far (p := ⟨gb486, _, none⟩) NB478_486.out _).trans (((cell_far (p := ⟨gb486, _, none⟩) NB478_486.out _).trans (hHeld.2.1)))))))), ((cell_far (p := ⟨gb486, _, none⟩) NB478_486.out _).trans (((cell_far (p := ⟨gb486, _, none⟩) NB478_486.out _).trans (((cell_far (p := ⟨gb486, _, none⟩) NB478_486.out _).trans (((cell_far (p := ⟨gb486, _, none⟩) NB478_486.out _).trans (hHeld.2.2))))))))⟩ (fun hHeld => ?_)
  clear hK K
  refine done_ (done_of HT_.out (by kernel_rfl)) ?_
  have hnb52 := NB477_478.out; have hnc52 := NB478_477.out; have hnb53 := NB477_479.out; have hnc53 := NB479_477.out; have hnb54 := NB477_486.out; have hnc54 := NB486_477.out; have hcz55_0 := bc0 BK477.out; have hcz55_1 := bc1 BK477.out; have hfz55_0 := blk_frozen BK477.out 0; have hfz55_1 := blk_frozen BK477.out 1; have hnb56 := NB486_478.out; have hnc56 := NB478_486.out; have hnb57 := NB486_479.out; have hnc57 := NB479_486.out; have hcz58_0 := bc0 BK486.out; have hcz58_1 := bc1 BK486.out; have hcz58_2 := bc2 BK486.out; have hcz58_3 := bc3 BK486.out; have hfz58_0 := blk_frozen BK486.out 0; have hfz58_1 := blk_frozen BK486.out 1; have hfz58_2 := blk_frozen BK486.out 2; have hfz58_3 := blk_frozen BK486.out 3
  try go_wp2_with (first | ((with_reducible refine gate_callee (f := 84) rfl ?_); refine gB (some 21) Tryz.func84 #[.agg #[.int .i64 a0_0, .int .i64 a0_1], .agg #[.string t480, .int .i64 t481, .string t482, .slice Ao47 t483.length co47]] ?_; (with_reducible refine (impl_BlockOk.calls k a0_0 a0_1 t480 t481 t482 _ _ t483 true _ ?side1 ?side2 A7.out).mono ?_); (case side1 => refine (Kd.R_reads' (e := 3) (base := w.heap.size) (ok := fun k_ => True) (n := t483.length) (c := co47) ?_).2.2; exact (rI (Kd.R_mono (Kd.R_far (p := ⟨gb486, 3, none⟩) (Kd.R_far (p := ⟨gb486, 2, none⟩) (Kd.R_far (p := ⟨gb486, 1, none⟩) (Kd.R_far (p := ⟨gb486, 0, none⟩) (Kd.R_types HO485.out BK486.out (by decide)) (fun _ hk => hk.2) (.string t480)) (fun _ hk => hk.2) (.int .i64 t481)) (fun _ hk => hk.2) (.string t482)) (fun _ hk => hk.2) (.slice Ao47 t483.length co47)) (fun _ h_ => h_.1)))); (case side2 => exact (Kd.R_reads' HO485.out).2.1); rintro e w59 ⟨rfl, hb⟩; refine ⟨_, rfl, ?_⟩; replace HO485 := Aside0.mk (Kd.R_below (rI (Kd.R_mono (Kd.R_far (p := ⟨gb486, 3, none⟩) (Kd.R_far (p := ⟨gb486, 2, none⟩) (Kd.R_far (p := ⟨gb486, 1, none⟩) (Kd.R_far (p := ⟨gb486, 0, none⟩) (Kd.R_types HO485.out BK486.out (by decide)) (fun _ hk => hk.2) (.string t480)) (fun _ hk => hk.2) (.int .i64 t481)) (fun _ hk => hk.2) (.string t482)) (fun _ hk => hk.2) (.slice Ao47 t483.length co47)) (fun _ h_ => h_.1))) hb); replace BK477 := Aside0.mk (blk_below (g := gb477) (o := .cells #[.int .i64 a0_0, .int .i64 a0_1] 38 (0, 0)) (gI BK477.out) hb); replace BK478 := Aside0.mk (blk_below (g := gb478) (o := .cells #[.int .i64 a1_0, .string a1_1, .slice A1_2 l1_2.length c1_2] 33 (0, 0)) (gI BK478.out) hb); replace BK479 := Aside0.mk (blk_below (g := gb479) (o := .cells #[.string (⟨#[]⟩ : ByteArray), .int .i64 0, .string (⟨#[]⟩ : ByteArray), .slice none 0 0] 42 (0, 0)) (gI BK479.out) hb); replace BK486 := bp BK486 hb #[.string t480, .int .i64 t481, .string t482, .slice Ao47 t483.length co47]; replace HB := bs HB hb; (try clear hb); (try clear hb2); (try clear hk); (try clear hi); obtain ⟨hcz60_0, hcz60_1, hcz60_2, hcz60_3, hfz60_0, hfz60_1, hfz60_2, hfz60_3⟩ := cs4 BK486) | (go_at_call 44; (with_reducible refine (impl_ViewOf.calls k t480 t488 _ A9.out).mono ?_); rintro e w61 ⟨rfl, hb⟩; replace HO485 := rb HO485 hb; replace BK477 := bk BK477 hb; replace BK478 := bk BK478 hb; replace BK479 := bk BK479 hb; replace BK486 := bk BK486 hb; replace HB := bs HB hb; (try clear hb); (try clear hb2); (try clear hk); (try clear hi); have hnb62 := NB479_478.out; have hnc62 := NB478_479.out; obtain ⟨hcz63_0, hcz63_1, hcz63_2, hcz63_3, hfz63_0, hfz63_1, hfz63_2, hfz63_3⟩ := cs4 BK479))
  refine bodyPost_ret (results_ct rfl _ _ gb479 42 #[.string (⟨#[]⟩ : ByteArray), .int .i64 0, .string (⟨#[]⟩ : ByteArray), .slice none 0 0] (0, 0) _ rfl (pI BK479) Tryz.underlying42 rfl (by kernel_rfl)) rfl ?_
  exact ⟨_, y0_6, y0_1, bI HB.out⟩
 replace c8 := Bool.eq_false_iff.mpr c8; subst c8
 rw [if_neg (show ¬ (false = true) by decide)] at H
 simp only [Option.some.injEq, Prod.mk.injEq] at H
 obtain ⟨rfl, rfl, rfl, rfl, rfl⟩ := H
 go_enter Tryz.func32, Tryz.ntmps32
 try go_wp2_with (first | ((with_reducible refine gd 4 ?_); refine bA 4 #[.int .i64 a0_0, .int .i64 a0_1] 38 ?_; intro gb477 hg w64 hbox hb; have BK477 := Aside0.mk (hbox); have GW477 := bg hg HB; have GJ477 := gi GW477; have GE477 := GW477; replace HB := bs HB hb; clear hb hbox hg) | ((with_reducible refine gd 5 ?_); refine bA 5 #[.int .i64 a1_0, .string a1_1, .slice A1_2 l1_2.length c1_2] 33 ?_; intro gb478 hg w65 hbox hb; have BK478 := Aside0.mk (hbox); have GW478 := bg hg HB; have GJ478 := gi GW478; have GE478 := GW478; replace HB := bs HB hb; have NB477_478 := b1 BK477 hg; have NI477_478 := ni NB477_478; have NB478_477 := b2 BK477 hg; have NI478_477 := ni NB478_477; replace BK477 := bk BK477 hb; clear hb hbox hg) | ((with_reducible refine gd 8 ?_); refine bA 8 #[.string (⟨#[]⟩ : ByteArray), .int .i64 0, .string (⟨#[]⟩ : ByteArray), .slice none 0 0] 42 ?_; intro gb479 hg w66 hbox hb; have BK479 := Aside0.mk (hbox); have GW479 := bg hg HB; have GJ479 := gi GW479; have GE479 := GW479; replace HB := bs HB hb; have NB477_479 := b1 BK477 hg; have NI477_479 := ni NB477_479; have NB479_477 := b2 BK477 hg; have NI479_477 := ni NB479_477; replace BK477 := bk BK477 hb; have NB478_479 := b1 BK478 hg; have NI478_479 := ni NB478_479; have NB479_478 := b2 BK478 hg; have NI479_478 := ni NB479_478; replace BK478 := bk BK478 hb; clear hb hbox hg))
 replace BK477 := Aside0.mk (blk_drew BK477.out); replace BK478 := Aside0.mk (blk_drew BK478.out); replace BK479 := Aside0.mk (blk_drew BK479.out); replace HB := Aside0.mk (below_drew1 HB.out)
 refine start_ (n := 10) (S := fun w' => w'.cell? ⟨gb478, 0, none⟩ = some (.int .i64 a1_0) ∧ w'.cell? ⟨gb478, 1, none⟩ = some (.string a1_1) ∧ w'.cell? ⟨gb478, 2, none⟩ = some (.slice A1_2 l1_2.length c1_2)) (ds := []) #[false, false, false, false, false, false, false, false, false, false] (by kernel_rfl) rfl rfl ⟨bc0 BK478.out, bc1 BK478.out, bc2 BK478.out⟩ (fun hHeld => ?_); refine with_tabW impl_BlockNew.tab1 impl_BlockNew.bits1 (fun HT_ HW_ => ?_)
 generalize w66.drew = w67 at BK477 BK478 BK479 HB hHeld ⊢
 refine pA 0 (some 11) (bz 10 1) HT_ ?_
 refine pA 2 (some 13) (bz 10 5) HT_ ?_
 refine pA 3 (some 14) (bz 10 13) HT_ ?_
 refine tA 1 (some 12) (bz 10 15) HT_ HW_ hHeld ?_
 refine tA 5 (some 16) (bz 10 47) HT_ HW_ hHeld ?_
 refine join_ (σ := Value × Nat) 1 #[true, true, true, true, true, true, true, true, true, false] (fun s_ => [(15, .string t480), (17, .agg #[.int .i64 t481, .string t482, s_.1]), (10, .pointer (some ⟨s_.2, 0, none⟩)), (18, .agg #[.string t480, .int .i64 t481, .string t482, s_.1])]) (fun s_ w' => (w'.cell? ⟨gb478, 0, none⟩ = some (.int .i64 a1_0) ∧ w'.cell? ⟨gb478, 1, none⟩ = some (.string a1_1) ∧ w'.cell? ⟨gb478, 2, none⟩ = some (.slice A1_2 l1_2.length c1_2)) ∧ (Kd.R (Kd.int .i64) 3 w' w.heap.size (fun _ => True) s_.1 t483) ∧ (w'.heap[gb477]? = some (.cells #[.int .i64 a0_0, .int .i64 a0_1] 38 (0, 0))) ∧ (w'.heap[gb478]? = some (.cells #[.int .i64 a1_0, .string a1_1, .slice A1_2 l1_2.length c1_2] 33 (0, 0))) ∧ (w'.heap[gb479]? = some (.cells #[.string (⟨#[]⟩ : ByteArray), .int .i64 0, .string (⟨#[]⟩ : ByteArray), .slice none 0 0] 42 (0, 0))) ∧ (w'.heap[s_.2]? = some (.cells #[.string (⟨#[]⟩ : ByteArray), .int .i64 0, .string (⟨#[]⟩ : ByteArray), .slice none 0 0] 42 (0, 0))) ∧ (w.heap.size ≤ s_.2) ∧ (w.heap.size ≤ s_.2) ∧ (gb477 ≠ s_.2) ∧ (s_.2 ≠ gb477) ∧ (gb478 ≠ s_.2) ∧ (s_.2 ≠ gb478) ∧ (gb479 ≠ s_.2) ∧ (s_.2 ≠ gb479) ∧ (Below w.heap.size w w')) ?_ ?_
 rotate_left
 ·
  intro hCont
  refine two_ (i := 4) (j := 8) (Ni := some 15) (Nj := some 10) #[true, true, true, true, true, true, false, false, false, false] #[true, true, true, true, false, true, false, false, true, false] rfl rfl rfl rfl (two_of HT_.out (by kernel_rfl)) (by decide) (by decide) (fun K hK => ?_) (fun K hK => ?_)
  ·
   skip
   refine gA Tryz.func82 #[.string a1_1, .int .i64 a2, .slice A3 l3.length c3] ?_
   with_reducible refine (impl_NameOf.calls k a1_1 a2 _ _ l3 t480 _ ?side1 ?side2 A5.out).mono ?_
   (case side1 => exact ch HR3 HB)
   (case side2 => exact HC3.out)
   rintro e w68 ⟨rfl, hb⟩
   refine ⟨_, rfl, ?_⟩
   replace BK477 := bk BK477 hb; replace BK478 := bk BK478 hb; replace BK479 := bk BK479 hb; replace HB := bs HB hb
   (try clear hb)
   (try clear hb2)
   (try clear hk)
   (try clear hi)
   refine hK.out _ _ ⟨bc0 BK478.out, bc1 BK478.out, bc2 BK478.out⟩ (fun hHeld => ?_)
   clear hK K
   refine nA (some 15) ?_
   refine two_ (i := 6) (j := 8) (Ni := some 17) (Nj := some 10) #[true, true, true, true, true, true, true, false, false, false] #[true, true, true, true, true, true, false, false, true, false] rfl rfl rfl rfl (two_of HT_.out (by kernel_rfl)) (by decide) (by decide) (fun K hK => ?_) (fun K hK => ?_)
   ·
    skip
    refine gA Tryz.func83 #[.agg #[.int .i64 a1_0, .string a1_1, .slice A1_2 l1_2.length c1_2]] ?_
    with_reducible refine (impl_copyQc.calls a1_0 a1_1 _ _ l1_2 t481 t482 t483 _ ?side1 ?side2 A6.out).mono ?_
    (case side1 => exact ch HR1_2 HB)
    (case side2 => exact HC1_2.out)
    rintro e w69 ⟨v484, rfl, ho0, hb⟩
    refine ⟨_, rfl, ?_⟩
    have HO485 := Aside0.mk (Kd.R_lower ho0 (below_size (bI HB.out))); replace BK477 := bk BK477 hb; replace BK478 := bk BK478 hb; replace BK479 := bk BK479 hb; replace HB := bs HB hb
    (try clear hb)
    (try clear hb2)
    (try clear hk)
    (try clear hi)
    (try clear ho0)
    obtain ⟨Ao70, co70, eo70⟩ := Kd.R_slice HO485.out
    (first | subst eo70 | (injection eo70 with f1_ f2_ f3_; have f4_ := f1_.symm; have f5_ := f3_.symm; clear f1_ f2_ f3_; subst f4_; subst f5_))
    refine hK.out _ _ ⟨bc0 BK478.out, bc1 BK478.out, bc2 BK478.out⟩ (fun hHeld => ?_)
    clear hK K
    refine nA (some 17) ?_
    refine pA 7 (some 18) (bz 10 255) HT_ ?_
    refine oA 8 (some 10) (bz 10 511) HT_ (fun K hK => ?_)
    refine box_step ?hg (N := 10) ?hd (cs := #[.string (⟨#[]⟩ : ByteArray), .int .i64 0, .string (⟨#[]⟩ : ByteArray), .slice none 0 0]) (t := 42) ?hr ?_; (case hd => rfl); (case hg => rfl); (case hr => first | (go_simp; done) | (go_simp; rfl))
    intro gb486 hg w71 hbox hb
    replace HO485 := rb HO485 hb; have BK486 := Aside0.mk (hbox); have GW486 := bg hg HB; have GJ486 := gi GW486; have GE486 := bg hg HB; have GI486 := gi GE486; replace HB := bs HB hb; have NB477_486 := b1 BK477 hg; have NI477_486 := ni NB477_486; have NB486_477 := b2 BK477 hg; have NI486_477 := ni NB486_477; replace BK477 := bk BK477 hb; have NB478_486 := b1 BK478 hg; have NI478_486 := ni NB478_486; have NB486_478 := b2 BK478 hg; have NI486_478 := ni NB486_478; replace BK478 := bk BK478 hb; have NB479_486 := b1 BK479 hg; have NI479_486 := ni NB479_486; have NB486_479 := b2 BK479 hg; have NI486_479 := ni NB486_479; replace BK479 := bk BK479 hb; clear hb hbox hg
    refine hK.out _ _ ⟨bc0 BK478.out, bc1 BK478.out, bc2 BK478.out⟩ (fun hHeld => ?_)
    clear hK K
    refine nA (some 10) ?_
    exact norm_ y0_5 (hCont (.slice Ao70 t483.length co70, gb486) _ ⟨hHeld, (rI HO485.out), (kI BK477.out), (kI BK478.out), (kI BK479.out), (kI BK486.out), GW486.out, GE486.out, NB477_486.out, NB486_477.out, NB478_486.out, NB486_478.out, NB479_486.out, NB486_479.out, (bI HB.out)⟩)
   skip
   refine box_step ?hg (N := 10) ?hd (cs := #[.string (⟨#[]⟩ : ByteArray), .int .i64 0, .string (⟨#[]⟩ : ByteArray), .slice none 0 0]) (t := 42) ?hr ?_; (case hd => rfl); (case hg => rfl); (case hr => first | (go_simp; done) | (go_simp; rfl))
   intro gb486 hg w69 hbox hb
   have BK486 := Aside0.mk (hbox); have GW486 := bg hg HB; have GJ486 := gi GW486; have GE486 := bg hg HB; have GI486 := gi GE486; replace HB := bs HB hb; have NB477_486 := b1 BK477 hg; have NI477_486 := ni NB477_486; have NB486_477 := b2 BK477 hg; have NI486_477 := ni NB486_477; replace BK477 := bk BK477 hb; have NB478_486 := b1 BK478 hg; have NI478_486 := ni NB478_486; have NB486_478 := b2 BK478 hg; have NI486_478 := ni NB486_478; replace BK478 := bk BK478 hb; have NB479_486 := b1 BK479 hg; have NI479_486 := ni NB479_486; have NB486_479 := b2 BK479 hg; have NI486_479 := ni NB486_479; replace BK479 := bk BK479 hb; clear hb hbox hg
   refine hK.out _ _ ⟨bc0 BK478.out, bc1 BK478.out, bc2 BK478.out⟩ (fun hHeld => ?_)
   clear hK K
   refine nA (some 10) ?_
   refine oA 6 (some 17) (bz 10 383) HT_ (fun K hK => ?_)
   refine gA Tryz.func83 #[.agg #[.int .i64 a1_0, .string a1_1, .slice A1_2 l1_2.length c1_2]] ?_
   with_reducible refine (impl_copyQc.calls a1_0 a1_1 _ _ l1_2 t481 t482 t483 _ ?side1 ?side2 A6.out).mono ?_
   (case side1 => exact ch HR1_2 HB)
   (case side2 => exact HC1_2.out)
   rintro e w70 ⟨v484, rfl, ho0, hb⟩
   refine ⟨_, rfl, ?_⟩
   have HO485 := Aside0.mk (Kd.R_lower ho0 (below_size (bI HB.out))); replace BK477 := bk BK477 hb; replace BK478 := bk BK478 hb; replace BK479 := bk BK479 hb; replace BK486 := bk BK486 hb; replace HB := bs HB hb
   (try clear hb)
   (try clear hb2)
   (try clear hk)
   (try clear hi)
   (try clear ho0)
   obtain ⟨Ao71, co71, eo71⟩ := Kd.R_slice HO485.out
   (first | subst eo71 | (injection eo71 with f1_ f2_ f3_; have f4_ := f1_.symm; have f5_ := f3_.symm; clear f1_ f2_ f3_; subst f4_; subst f5_))
   refine hK.out _ _ ⟨bc0 BK478.out, bc1 BK478.out, bc2 BK478.out⟩ (fun hHeld => ?_)
   clear hK K
   refine nA (some 17) ?_
   refine pA 7 (some 18) (bz 10 511) HT_ ?_
   exact norm_ y0_5 (hCont (.slice Ao71 t483.length co71, gb486) _ ⟨hHeld, (rI HO485.out), (kI BK477.out), (kI BK478.out), (kI BK479.out), (kI BK486.out), GW486.out, GE486.out, NB477_486.out, NB486_477.out, NB478_486.out, NB486_478.out, NB479_486.out, NB486_479.out, (bI HB.out)⟩)
  skip
  refine box_step ?hg (N := 10) ?hd (cs := #[.string (⟨#[]⟩ : ByteArray), .int .i64 0, .string (⟨#[]⟩ : ByteArray), .slice none 0 0]) (t := 42) ?hr ?_; (case hd => rfl); (case hg => rfl); (case hr => first | (go_simp; done) | (go_simp; rfl))
  intro gb486 hg w68 hbox hb
  have BK486 := Aside0.mk (hbox); have GW486 := bg hg HB; have GJ486 := gi GW486; have GE486 := bg hg HB; have GI486 := gi GE486; replace HB := bs HB hb; have NB477_486 := b1 BK477 hg; have NI477_486 := ni NB477_486; have NB486_477 := b2 BK477 hg; have NI486_477 := ni NB486_477; replace BK477 := bk BK477 hb; have NB478_486 := b1 BK478 hg; have NI478_486 := ni NB478_486; have NB486_478 := b2 BK478 hg; have NI486_478 := ni NB486_478; replace BK478 := bk BK478 hb; have NB479_486 := b1 BK479 hg; have NI479_486 := ni NB479_486; have NB486_479 := b2 BK479 hg; have NI486_479 := ni NB486_479; replace BK479 := bk BK479 hb; clear hb hbox hg
  refine hK.out _ _ ⟨bc0 BK478.out, bc1 BK478.out, bc2 BK478.out⟩ (fun hHeld => ?_)
  clear hK K
  refine nA (some 10) ?_
  refine oA 4 (some 15) (bz 10 319) HT_ (fun K hK => ?_)
  refine gA Tryz.func82 #[.string a1_1, .int .i64 a2, .slice A3 l3.length c3] ?_
  with_reducible refine (impl_NameOf.calls k a1_1 a2 _ _ l3 t480 _ ?side1 ?side2 A5.out).mono ?_
  (case side1 => exact ch HR3 HB)
  (case side2 => exact HC3.out)
  rintro e w69 ⟨rfl, hb⟩
  refine ⟨_, rfl, ?_⟩
  replace BK477 := bk BK477 hb; replace BK478 := bk BK478 hb; replace BK479 := bk BK479 hb; replace BK486 := bk BK486 hb; replace HB := bs HB hb
  (try clear hb)
  (try clear hb2)
  (try clear hk)
  (try clear hi)
  refine hK.out _ _ ⟨bc0 BK478.out, bc1 BK478.out, bc2 BK478.out⟩ (fun hHeld => ?_)
  clear hK K
  refine nA (some 15) ?_
  refine oA 6 (some 17) (bz 10 383) HT_ (fun K hK => ?_)
  refine gA Tryz.func83 #[.agg #[.int .i64 a1_0, .string a1_1, .slice A1_2 l1_2.length c1_2]] ?_
  with_reducible refine (impl_copyQc.calls a1_0 a1_1 _ _ l1_2 t481 t482 t483 _ ?side1 ?side2 A6.out).mono ?_
  (case side1 => exact ch HR1_2 HB)
  (case side2 => exact HC1_2.out)
  rintro e w70 ⟨v484, rfl, ho0, hb⟩
  refine ⟨_, rfl, ?_⟩
  have HO485 := Aside0.mk (Kd.R_lower ho0 (below_size (bI HB.out))); replace BK477 := bk BK477 hb; replace BK478 := bk BK478 hb; replace BK479 := bk BK479 hb; replace BK486 := bk BK486 hb; replace HB := bs HB hb
  (try clear hb)
  (try clear hb2)
  (try clear hk)
  (try clear hi)
  (try clear ho0)
  obtain ⟨Ao71, co71, eo71⟩ := Kd.R_slice HO485.out
  (first | subst eo71 | (injection eo71 with f1_ f2_ f3_; have f4_ := f1_.symm; have f5_ := f3_.symm; clear f1_ f2_ f3_; subst f4_; subst f5_))
  refine hK.out _ _ ⟨bc0 BK478.out, bc1 BK478.out, bc2 BK478.out⟩ (fun hHeld => ?_)
  clear hK K
  refine nA (some 17) ?_
  refine pA 7 (some 18) (bz 10 511) HT_ ?_
  exact norm_ y0_5 (hCont (.slice Ao71 t483.length co71, gb486) _ ⟨hHeld, (rI HO485.out), (kI BK477.out), (kI BK478.out), (kI BK479.out), (kI BK486.out), GW486.out, GE486.out, NB477_486.out, NB486_477.out, NB478_486.out, NB486_478.out, NB479_486.out, NB486_479.out, (bI HB.out)⟩)
 rintro ⟨v484, gb486⟩ w72 ⟨hS_, h0_, h1_, h2_, h3_, h4_, h5_, h6_, h7_, h8_, h9_, h10_, h11_, h12_, h13_⟩
 try dsimp only at h0_ h1_ h2_ h3_ h4_ h5_ h6_ h7_ h8_ h9_ h10_ h11_ h12_ h13_
 have n0_ := Aside0.mk h0_; have n1_ := Aside0.mk h1_; have n2_ := Aside0.mk h2_; have n3_ := Aside0.mk h3_; have n4_ := Aside0.mk h4_; have n5_ := Aside0.mk h5_; have n6_ := Aside0.mk h6_; have n7_ := Aside0.mk h7_; have n8_ := Aside0.mk h8_; have n9_ := Aside0.mk h9_; have n10_ := Aside0.mk h10_; have n11_ := Aside0.mk h11_; have n12_ := Aside0.mk h12_; have n13_ := Aside0.mk h13_; clear BK477; clear BK478; clear BK479; clear HB; clear h0_ h1_ h2_ h3_ h4_ h5_ h6_ h7_ h8_ h9_ h10_ h11_ h12_ h13_; have HO485 := n0_; have BK477 := n1_; have BK478 := n2_; have BK479 := n3_; have BK486 := n4_; have GW486 := n5_; have GJ486 := gi GW486; have GE486 := n6_; have GI486 := gi GE486; have NB477_486 := n7_; have NI477_486 := ni NB477_486; have NB486_477 := n8_; have NI486_477 := ni NB486_477; have NB478_486 := n9_; have NI478_486 := ni NB478_486; have NB486_478 := n10_; have NI486_478 := ni NB486_478; have NB479_486 := n11_; have NI479_486 := ni NB479_486; have NB486_479 := n12_; have NI486_479 := ni NB486_479; have HB := n13_; clear n0_ n1_ n2_ n3_ n4_ n5_ n6_ n7_ n8_ n9_ n10_ n11_ n12_ n13_; have hHeld : w72.cell? ⟨gb478, 0, none⟩ = some (.int .i64 a1_0) ∧ w72.cell? ⟨gb478, 1, none⟩ = some (.string a1_1) ∧ w72.cell? ⟨gb478, 2, none⟩ = some (.slice A1_2 l1_2.length c1_2) := hS_; obtain ⟨Ao73, co73, eo73⟩ := Kd.R_slice HO485.out
 (first | subst eo73 | (injection eo73 with f1_ f2_ f3_; have f4_ := f1_.symm; have f5_ := f3_.symm; clear f1_ f2_ f3_; subst f4_; subst f5_))
 refine norm_ (a' := ?_) ?_ ?_
 rotate_left
 ·
  simp only [putAll, Act.put, List.setIfInBounds_toArray, List.set_cons_zero, List.set_cons_succ]
  rfl
 refine oA 9 none (bz 10 1023) HT_ (fun K hK => ?_)
 have hs74 : w72.cell? ⟨gb486, 0, none⟩ = some (.string (⟨#[]⟩ : ByteArray)) := bc0 BK486.out; have hfs74 := blk_frozen BK486.out 0; have hns74_0 := NB477_486.out; have hns74_1 := NB478_486.out; have hns74_2 := NB479_486.out; have hms74_0 := NB486_477.out; have hms74_1 := NB486_478.out; have hms74_2 := NB486_479.out; have hs75 : w72.cell? ⟨gb486, 1, none⟩ = some (.int .i64 0) := bc1 BK486.out; have hfs75 := blk_frozen BK486.out 1; have hns75_0 := NB477_486.out; have hns75_1 := NB478_486.out; have hns75_2 := NB479_486.out; have hms75_0 := NB486_477.out; have hms75_1 := NB486_478.out; have hms75_2 := NB486_479.out; have hs76 : w72.cell? ⟨gb486, 2, none⟩ = some (.string (⟨#[]⟩ : ByteArray)) := bc2 BK486.out; have hfs76 := blk_frozen BK486.out 2; have hns76_0 := NB477_486.out; have hns76_1 := NB478_486.out; have hns76_2 := NB479_486.out; have hms76_0 := NB486_477.out; have hms76_1 := NB486_478.out; have hms76_2 := NB486_479.out; have hs77 : w72.cell? ⟨gb486, 3, none⟩ = some (.slice none 0 0) := bc3 BK486.out; have hfs77 := blk_frozen BK486.out 3; have hns77_0 := NB477_486.out; have hns77_1 := NB478_486.out; have hns77_2 := NB479_486.out; have hms77_0 := NB486_477.out; have hms77_1 := NB486_478.out; have hms77_2 := NB486_479.out
 refine skip_ (w1 := ?_) (by rfl) rfl ?_ ?_
 rotate_left
 ·
  go_simp
  rfl
 refine hK.out _ _ ⟨((cell_far (p := ⟨gb486, _, none⟩) NB478_486.out _).trans (((cell_far (p := ⟨gb486, _, none⟩) NB478_486.out _).trans (((cell_far (p := ⟨gb486, _, none⟩) NB478_486.out _).trans (((cell_far (p := ⟨gb486, _, none⟩) NB478_486.out _).trans (hHeld.1)))))))), ((cell_far (p := ⟨gb486, _, none⟩) NB478_486.out _).trans (((cell_far (p := ⟨gb486, _, none⟩) NB478_486.out _).trans (((cell_far (p := ⟨gb486, _, none⟩) NB478_486.out _).trans (((cell_far (p := ⟨gb486, _, none⟩) NB478_486.out _).trans (hHeld.2.1)))))))), ((cell_far (p := ⟨gb486, _, none⟩) NB478_486.out _).trans (((cell_far (p := ⟨gb486, _, none⟩) NB478_486.out _).trans (((cell_far (p := ⟨gb486, _, none⟩) NB478_486.out _).trans (((cell_far (p := ⟨gb486, _, none⟩) NB478_486.out _).trans (hHeld.2.2))))))))⟩ (fun hHeld => ?_)
 clear hK K
 refine done_ (done_of HT_.out (by kernel_rfl)) ?_
 have hnb78 := NB477_478.out; have hnc78 := NB478_477.out; have hnb79 := NB477_479.out; have hnc79 := NB479_477.out; have hnb80 := NB477_486.out; have hnc80 := NB486_477.out; have hcz81_0 := bc0 BK477.out; have hcz81_1 := bc1 BK477.out; have hfz81_0 := blk_frozen BK477.out 0; have hfz81_1 := blk_frozen BK477.out 1; have hnb82 := NB486_478.out; have hnc82 := NB478_486.out; have hnb83 := NB486_479.out; have hnc83 := NB479_486.out; have hcz84_0 := bc0 BK486.out; have hcz84_1 := bc1 BK486.out; have hcz84_2 := bc2 BK486.out; have hcz84_3 := bc3 BK486.out; have hfz84_0 := blk_frozen BK486.out 0; have hfz84_1 := blk_frozen BK486.out 1; have hfz84_2 := blk_frozen BK486.out 2; have hfz84_3 := blk_frozen BK486.out 3
 try go_wp2_with (first | ((with_reducible refine gate_callee (f := 84) rfl ?_); refine gB (some 21) Tryz.func84 #[.agg #[.int .i64 a0_0, .int .i64 a0_1], .agg #[.string t480, .int .i64 t481, .string t482, .slice Ao73 t483.length co73]] ?_; (with_reducible refine (impl_BlockOk.calls k a0_0 a0_1 t480 t481 t482 _ _ t483 false _ ?side1 ?side2 A7.out).mono ?_); (case side1 => refine (Kd.R_reads' (e := 3) (base := w.heap.size) (ok := fun k_ => True) (n := t483.length) (c := co73) ?_).2.2; exact (rI (Kd.R_mono (Kd.R_far (p := ⟨gb486, 3, none⟩) (Kd.R_far (p := ⟨gb486, 2, none⟩) (Kd.R_far (p := ⟨gb486, 1, none⟩) (Kd.R_far (p := ⟨gb486, 0, none⟩) (Kd.R_types HO485.out BK486.out (by decide)) (fun _ hk => hk.2) (.string t480)) (fun _ hk => hk.2) (.int .i64 t481)) (fun _ hk => hk.2) (.string t482)) (fun _ hk => hk.2) (.slice Ao73 t483.length co73)) (fun _ h_ => h_.1)))); (case side2 => exact (Kd.R_reads' HO485.out).2.1); rintro e w85 ⟨rfl, hb⟩; refine ⟨_, rfl, ?_⟩; replace HO485 := Aside0.mk (Kd.R_below (rI (Kd.R_mono (Kd.R_far (p := ⟨gb486, 3, none⟩) (Kd.R_far (p := ⟨gb486, 2, none⟩) (Kd.R_far (p := ⟨gb486, 1, none⟩) (Kd.R_far (p := ⟨gb486, 0, none⟩) (Kd.R_types HO485.out BK486.out (by decide)) (fun _ hk => hk.2) (.string t480)) (fun _ hk => hk.2) (.int .i64 t481)) (fun _ hk => hk.2) (.string t482)) (fun _ hk => hk.2) (.slice Ao73 t483.length co73)) (fun _ h_ => h_.1))) hb); replace BK477 := Aside0.mk (blk_below (g := gb477) (o := .cells #[.int .i64 a0_0, .int .i64 a0_1] 38 (0, 0)) (gI BK477.out) hb); replace BK478 := Aside0.mk (blk_below (g := gb478) (o := .cells #[.int .i64 a1_0, .string a1_1, .slice A1_2 l1_2.length c1_2] 33 (0, 0)) (gI BK478.out) hb); replace BK479 := Aside0.mk (blk_below (g := gb479) (o := .cells #[.string (⟨#[]⟩ : ByteArray), .int .i64 0, .string (⟨#[]⟩ : ByteArray), .slice none 0 0] 42 (0, 0)) (gI BK479.out) hb); replace BK486 := bp BK486 hb #[.string t480, .int .i64 t481, .string t482, .slice Ao73 t483.length co73]; replace HB := bs HB hb; (try clear hb); (try clear hb2); (try clear hk); (try clear hi); have hnb86 := NB479_478.out; have hnc86 := NB478_479.out; obtain ⟨hcz87_0, hcz87_1, hcz87_2, hcz87_3, hfz87_0, hfz87_1, hfz87_2, hfz87_3⟩ := cs4 BK479))
 refine bodyPost_ret (results_ct rfl _ _ gb479 42 #[.string (⟨#[]⟩ : ByteArray), .int .i64 0, .string (⟨#[]⟩ : ByteArray), .slice none 0 0] (0, 0) _ rfl (pI BK479) Tryz.underlying42 rfl (by kernel_rfl)) rfl ?_
 exact ⟨_, y0_6, y0_1, bI HB.out⟩

end Go.Proofs.YtemjmefacifdeaaGreatDoor.PFnSettlesThree
