-- By a program of this session, out of the translation (the print of the kit, with turns of its own). Lean checks it.
import Derived.Test.YtemjmefacifdeaaPFnRootsTurnx0
import Derived.Test.YtemjmefacifdeaaPFnRootsTurnx1
import Derived.Test.YtemjmefacifdeaaPFnRootsTurnx2
import Derived.Test.YtemjmefacifdeaaPFnRootsTurnx3
namespace Go.Proofs.Ytemjmefacifdeaa.PFnRootsTurn
open Go.RowKit Go.Proofs.YtemjmefacifdeaaW.PrintWords Go.Proofs.YtemjmefacifdeaaW.PrintLast Go.Proofs.YtemjmefacifdeaaW.PrintMore
attribute [local go_sem] max2_int min2_int max_two min_two max_three min_three max_four min_four   -- for this text's walks alone
set_option linter.unusedVariables false
set_option linter.unusedSimpArgs false

/-! ### laws_FnRootsTurn: function 4 -/
def laws_FnRootsTurn.l0 : Nat → Int → List Int → List Int → Int → Int → Int → Option (Bool)
 | 0, _, _, _, _, _, _ => none
 | k + 1, x4, x5, x6, x7, x219000, x219001 => if x7 < x219000 then ((impl_Root.f x219000 x219001 (wrap64 (x4 + x7))).bind fun t228 => ((impl_SetAdd.f k x5 t228).bind fun t229 => ((impl_Sits.f x219000 x219001 x4 x7).bind fun t232 => ((impl_SetAdd.f k x6 t232).bind fun t233 => (laws_FnRootsTurn.l0 k x4 t229 t233 (wrap64 (x7 + 1)) x219000 x219001))))) else (if (x5.length : Int) = x219000 then (if (x6.length : Int) = x219000 then ((impl_Root.f x219000 x219001 x4).bind fun t236 => ((impl_Seat.f x219000 x219001 x4 t236).bind fun t237 => (some (t237 == 0)))) else (some false)) else (some false))
def laws_FnRootsTurn.f (k : Nat) (l0 : List Int) : Option (Bool) := (laws_big.f l0).bind fun t214 => (if t214 = true then (some true) else ((spec_DrawRoot.f k l0).bind fun bt215 => ((impl_Root.f bt215.1 bt215.2.1 bt215.2.2).bind fun t219 => ((spec_Root.f bt215.1 bt215.2.1 bt215.2.2).bind fun t220 => (if t219 = t220 then ((impl_ConfOk.f bt215.1 bt215.2.1).bind fun t221 => (if t221 = true then (if bt215.2.2 < 0 then (some true) else (if bt215.2.2 > 100 then (some true) else (laws_FnRootsTurn.l0 k bt215.2.2 (([] : List Int)) (([] : List Int)) 0 bt215.1 bt215.2.1))) else (some true))) else (some false))))))
theorem laws_FnRootsTurn.mono_l : ∀ k, (∀ y0 y1 y2 y3 y4 y5, LeO (laws_FnRootsTurn.l0 k y0 y1 y2 y3 y4 y5) (laws_FnRootsTurn.l0 (k + 1) y0 y1 y2 y3 y4 y5))
 | 0 => fun _ _ _ _ _ _ r h => by simp [laws_FnRootsTurn.l0] at h
 | k + 1 => by
  have ih0 := laws_FnRootsTurn.mono_l k
  intro y0 y1 y2 y3 y4 y5
  unfold laws_FnRootsTurn.l0
  repeat' first | (with_reducible exact ih0 _ _ _ _ _ _) | (with_reducible exact impl_SetAdd.mono _ _ _) | (with_reducible exact spec_DrawRoot.mono _ _) | (with_reducible exact LeO.refl _) | (with_reducible exact LeO.none _) | (with_reducible refine LeO.ite ?_ ?_) | (with_reducible refine LeO.bind ?_ (fun _ => ?_))
theorem laws_FnRootsTurn.mono : ∀ a0 k, LeO (laws_FnRootsTurn.f k a0) (laws_FnRootsTurn.f (k + 1) a0) := by
 intro a0 k
 have ih0 := laws_FnRootsTurn.mono_l k
 unfold laws_FnRootsTurn.f
 repeat' first | (with_reducible exact ih0 _ _ _ _ _ _) | (with_reducible exact impl_SetAdd.mono _ _ _) | (with_reducible exact spec_DrawRoot.mono _ _) | (with_reducible exact LeO.refl _) | (with_reducible exact LeO.none _) | (with_reducible refine LeO.ite ?_ ?_) | (with_reducible refine LeO.bind ?_ (fun _ => ?_))
def laws_FnRootsTurn.T15 : Bool × List (List Nat × List Nat) := (true, [([], []), ([0], [0]), ([], []), ([2], [2]), ([1, 3], [1, 3]), ([4], [4]), ([5], [5]), ([6, 5], [5, 6]), ([5], [5]), ([8, 5], [5, 8]), ([7, 9, 5], [5, 7, 9]), ([5, 10], [5, 10]), ([11, 5], [11]), ([12], [12]), ([12], [12]), ([12], [12]), ([12], [12]), ([15, 16, 12, 12], [12, 15, 16]), ([13, 14, 17, 17, 12], [12, 13, 14, 17]), ([18, 12], [12, 18]), ([12, 19], [12, 19]), ([20, 18, 0, 1, 2, 3, 4, 5, 6, 7, 8, 9, 10, 11, 12, 13, 14, 15, 16, 17, 18, 19, 20], [20])])
def laws_FnRootsTurn.B15 : List Nat := [0, 1, 0, 4, 15, 31, 63, 127, 63, 319, 1023, 2047, 4095, 8191, 8191, 8191, 8191, 106495, 262143, 524287, 1048575, 2097151]
theorem laws_FnRootsTurn.tab15 : rtab .any (opsOf Try.f4 15) = laws_FnRootsTurn.T15 := by kernel_rfl
theorem laws_FnRootsTurn.bits15 : waitsOk laws_FnRootsTurn.T15.2 laws_FnRootsTurn.B15 = true := by kernel_rfl
set_option maxHeartbeats 8000000 in
set_option maxRecDepth 100000 in
theorem laws_FnRootsTurn.calls (k : Nat) (A0 : Option Addr) (c0 : Nat) (l0 : List Int) (r : Bool) (hrt : Aside0 (r = true)) (w : World) (hr0 : Kd.C (Kd.int .u8) w A0 l0.length l0) (hc0 : l0.length ≤ c0) (h : laws_FnRootsTurn.f k l0 = some r) :
  Calls Try.prog 4 #[.slice A0 l0.length c0] w fun e w' => e = .returned (.bool r) ∧ Below w.heap.size w w' := by
 have hu36 := Try.underlying36; have HR0 := Aside0.mk hr0; have HC0 := Aside0.mk hc0; clear hr0 hc0; have HB := Aside0.mk (Below.refl w.heap.size w)
 have H : ((laws_big.f l0).bind fun t214 => (if t214 = true then (some true) else ((spec_DrawRoot.f k l0).bind fun bt215 => ((impl_Root.f bt215.1 bt215.2.1 bt215.2.2).bind fun t219 => ((spec_Root.f bt215.1 bt215.2.1 bt215.2.2).bind fun t220 => (if t219 = t220 then ((impl_ConfOk.f bt215.1 bt215.2.1).bind fun t221 => (if t221 = true then (if bt215.2.2 < 0 then (some true) else (if bt215.2.2 > 100 then (some true) else (laws_FnRootsTurn.l0 k bt215.2.2 (([] : List Int)) (([] : List Int)) 0 bt215.1 bt215.2.1))) else (some true))) else (some false))))))) = some r := h
 clear h; obtain ⟨t214, A20, H⟩ := Option.bind_eq_some_iff.mp H
 try dsimp only at H
 have A2 := Aside0.mk A20; clear A20
 by_cases c3 : t214 = true
 ·
  subst c3
  rw [if_pos rfl] at H
  obtain rfl := Option.some.inj H
  go_enter Try.func4, Try.ntmps4
  go_wp2_with (first | ((with_reducible refine gate_callee (f := 13) rfl ?_); refine gB (some 9) Try.func13 #[.slice A0 l0.length c0] ?_; (with_reducible refine (laws_big.calls _ _ l0 true _ ?side1 ?side2 A2.out).mono ?_); (case side1 => exact cI HR0.out); (case side2 => exact HC0.out); rintro e w' ⟨rfl, ⟨nd, rfl⟩⟩; refine ⟨_, rfl, ?_⟩))
  go_ret
  exact ⟨y0_10, bI HB.out⟩
 replace c3 := Bool.eq_false_iff.mpr c3; subst c3
 rw [if_neg (show ¬ (false = true) by decide)] at H
 obtain ⟨⟨t215, t216, t217⟩, A40, H⟩ := Option.bind_eq_some_iff.mp H
 try dsimp only at H
 have A4 := Aside0.mk A40; clear A40; obtain ⟨t219, A50, H⟩ := Option.bind_eq_some_iff.mp H
 try dsimp only at H
 have A5 := Aside0.mk A50; clear A50; obtain ⟨t220, A60, H⟩ := Option.bind_eq_some_iff.mp H
 try dsimp only at H
 have A6 := Aside0.mk A60; clear A60
 by_cases c7 : t219 = t220
 ·
  rw [if_pos c7] at H
  have c7b0 : (t219 == t220) = true := beq_iff_eq.mpr c7; have c7b1 : (t219 != t220) = false := bne_eq_false_iff_eq.mpr c7; clear c7; obtain ⟨t221, A80, H⟩ := Option.bind_eq_some_iff.mp H
  try dsimp only at H
  have A8 := Aside0.mk A80; clear A80
  by_cases c9 : t221 = true
  ·
   subst c9
   rw [if_pos rfl] at H
   by_cases c10 : t217 < 0
   ·
    rw [if_pos c10] at H
    have c10b0 : decide (t217 < 0) = true := decide_eq_true c10; clear c10; obtain rfl := Option.some.inj H
    go_enter Try.func4, Try.ntmps4
    try go_wp2_with (first | ((with_reducible refine gate_callee (f := 13) rfl ?_); refine gB (some 9) Try.func13 #[.slice A0 l0.length c0] ?_; (with_reducible refine (laws_big.calls _ _ l0 false _ ?side1 ?side2 A2.out).mono ?_); (case side1 => exact cI HR0.out); (case side2 => exact HC0.out); rintro e w' ⟨rfl, ⟨nd, rfl⟩⟩; refine ⟨_, rfl, ?_⟩) | ((with_reducible refine gate_callee (f := 14) rfl ?_); refine gB (some 12) Try.func14 #[.slice A0 l0.length c0] ?_; (with_reducible refine (spec_DrawRoot.calls k _ _ l0 t215 t216 t217 _ ?side1 ?side2 A4.out).mono ?_); (case side1 => exact cI HR0.out); (case side2 => exact HC0.out); rintro e w11 ⟨rfl, hb⟩; refine ⟨_, rfl, ?_⟩; replace HB := bs HB hb; (try clear hb); (try clear hb2); (try clear hk); (try clear hi)) | ((with_reducible refine gate_dst (N := 3) rfl ?_); (try (refine gate_guard (by rfl) ?_; dsimp only)); refine box_event ?hg (N := 3) ?hd (cs := #[.int .i64 0, .int .i64 0]) (t := 36) ?hr ?_; (case hd => rfl); (case hg => rfl); (case hr => first | (go_simp; done) | (go_simp; rfl)); intro gb218 hg w12 hbox hb; have BK218 := Aside0.mk (hbox); have GW218 := bg hg HB; have GJ218 := gi GW218; have GE218 := GW218; replace HB := bs HB hb; clear hb hbox hg; obtain ⟨hcz13_0, hcz13_1, hfz13_0, hfz13_1⟩ := cs2 BK218))
    have n0_ : Aside0 (((w12.setCell ⟨gb218, 0, none⟩ (.int .i64 t215)).setCell ⟨gb218, 1, none⟩ (.int .i64 t216)).heap[gb218]? = some (.cells #[.int .i64 t215, .int .i64 t216] 36 (0, 0))) := ⟨pI BK218⟩; have n1_ : Aside0 (Below w.heap.size w ((w12.setCell ⟨gb218, 0, none⟩ (.int .i64 t215)).setCell ⟨gb218, 1, none⟩ (.int .i64 t216))) := ⟨bI HB.out⟩
    (try clear BK218)
    (try clear HB)
    generalize ((w12.setCell ⟨gb218, 0, none⟩ (.int .i64 t215)).setCell ⟨gb218, 1, none⟩ (.int .i64 t216)) = w14 at n0_ n1_ ⊢
    have BK218 := n0_; have HB := n1_; clear n0_ n1_; replace BK218 := Aside0.mk (blk_drew BK218.out); replace HB := Aside0.mk (below_drew1 HB.out)
    refine start_ (n := 7) (S := fun w' => w'.cell? ⟨gb218, 0, none⟩ = some (.int .i64 t215) ∧ w'.cell? ⟨gb218, 1, none⟩ = some (.int .i64 t216)) (ds := []) #[false, false, false, false, false, false, false] (by kernel_rfl) rfl rfl ⟨bc0 BK218.out, bc1 BK218.out⟩ (fun hHeld => ?_)
    generalize w14.drew = w15 at BK218 HB hHeld ⊢
    refine pure_ (i := 1) (N := some 16) (v := ?_) (a' := ?_) #[false, true, false, false, false, false, false] rfl rfl (by kernel_rfl) (fun _ _ _ h => h) (Or.inl ⟨by rfl, ?_⟩) ?_ ?_
    rotate_left
    ·
     intro w'
     go_simp
     with_reducible rfl
    rotate_left
    ·
     simp only [Act.put, List.setIfInBounds_toArray, List.set_cons_zero, List.set_cons_succ, i64_w, i32_w]
     rfl
    refine pure_ (i := 4) (N := some 19) (v := ?_) (a' := ?_) #[false, true, false, false, true, false, false] rfl rfl (by kernel_rfl) (fun _ _ _ h => h) (Or.inl ⟨by rfl, ?_⟩) ?_ ?_
    rotate_left
    ·
     intro w'
     go_simp
     with_reducible rfl
    rotate_left
    ·
     simp only [Act.put, List.setIfInBounds_toArray, List.set_cons_zero, List.set_cons_succ, i64_w, i32_w]
     rfl
    refine take_ (i := 0) (N := some 15) (v := ?_) (a' := ?_) #[true, true, false, false, true, false, false] rfl rfl (by kernel_rfl) (fun _ _ _ h => h) (Or.inl ⟨by rfl, ?_⟩) hHeld ?_ ?_
    rotate_left
    ·
     rintro w' ⟨s0, s1⟩
     go_simp
     with_reducible rfl
    rotate_left
    ·
     simp only [Act.put, List.setIfInBounds_toArray, List.set_cons_zero, List.set_cons_succ, i64_w, i32_w]
     rfl
    refine take_ (i := 3) (N := some 18) (v := ?_) (a' := ?_) #[true, true, false, true, true, false, false] rfl rfl (by kernel_rfl) (fun _ _ _ h => h) (Or.inl ⟨by rfl, ?_⟩) hHeld ?_ ?_
    rotate_left
    ·
     rintro w' ⟨s0, s1⟩
     go_simp
     with_reducible rfl
    rotate_left
    ·
     simp only [Act.put, List.setIfInBounds_toArray, List.set_cons_zero, List.set_cons_succ, i64_w, i32_w]
     rfl
    refine one_ (i := 2) (N := some 17) #[true, true, true, true, true, false, false] rfl rfl (by kernel_rfl) (by decide) (fun K hK => ?_)
    refine gA Try.func15 #[.agg #[.int .i64 t215, .int .i64 t216], .int .i64 t217] ?_
    with_reducible refine (impl_Root.calls t215 t216 t217 t219 _ A5.out).mono ?_
    rintro e w16 ⟨rfl, hb⟩
    refine ⟨_, rfl, ?_⟩
    replace BK218 := bk BK218 hb; replace HB := bs HB hb
    (try clear hb)
    (try clear hb2)
    (try clear hk)
    (try clear hi)
    refine hK.out _ _ ⟨bc0 BK218.out, bc1 BK218.out⟩ (fun hHeld => ?_)
    clear hK K
    refine nA (some 17) ?_
    refine one_ (i := 5) (N := some 20) #[true, true, true, true, true, true, false] rfl rfl (by kernel_rfl) (by decide) (fun K hK => ?_)
    refine gA Try.func16 #[.agg #[.int .i64 t215, .int .i64 t216], .int .i64 t217] ?_
    with_reducible refine (spec_Root.calls t215 t216 t217 t220 _ A6.out).mono ?_
    rintro e w17 ⟨rfl, hb⟩
    refine ⟨_, rfl, ?_⟩
    replace BK218 := bk BK218 hb; replace HB := bs HB hb
    (try clear hb)
    (try clear hb2)
    (try clear hk)
    (try clear hi)
    refine hK.out _ _ ⟨bc0 BK218.out, bc1 BK218.out⟩ (fun hHeld => ?_)
    clear hK K
    refine nA (some 20) ?_
    refine pure_ (i := 6) (N := some 21) (v := ?_) (a' := ?_) #[true, true, true, true, true, true, true] rfl rfl (by kernel_rfl) (fun _ _ _ h => h) (Or.inl ⟨by rfl, ?_⟩) ?_ ?_
    rotate_left
    ·
     intro w'
     go_simp
     with_reducible rfl
    rotate_left
    ·
     simp only [Act.put, List.setIfInBounds_toArray, List.set_cons_zero, List.set_cons_succ, i64_w, i32_w]
     rfl
    refine done_ (by kernel_rfl) ?_
    have hcz18_0 := bc0 BK218.out; have hcz18_1 := bc1 BK218.out; have hfz18_0 := blk_frozen BK218.out 0; have hfz18_1 := blk_frozen BK218.out 1
    try go_wp2_with (first | ((with_reducible refine gate_callee (f := 17) rfl ?_); refine gB (some 23) Try.func17 #[.agg #[.int .i64 t215, .int .i64 t216]] ?_; (with_reducible refine (impl_ConfOk.calls t215 t216 true _ A8.out).mono ?_); rintro e w19 ⟨rfl, hb⟩; refine ⟨_, rfl, ?_⟩; replace BK218 := bk BK218 hb; replace HB := bs HB hb; (try clear hb); (try clear hb2); (try clear hk); (try clear hi)))
    go_ret
    exact ⟨y0_10, bI HB.out⟩
   rw [if_neg c10] at H
   have c10b0 : decide (t217 < 0) = false := decide_eq_false c10; clear c10
   by_cases c20 : t217 > 100
   ·
    rw [if_pos c20] at H
    have c20b0 : decide (100 < t217) = true := decide_eq_true c20; clear c20; obtain rfl := Option.some.inj H
    go_enter Try.func4, Try.ntmps4
    try go_wp2_with (first | ((with_reducible refine gate_callee (f := 13) rfl ?_); refine gB (some 9) Try.func13 #[.slice A0 l0.length c0] ?_; (with_reducible refine (laws_big.calls _ _ l0 false _ ?side1 ?side2 A2.out).mono ?_); (case side1 => exact cI HR0.out); (case side2 => exact HC0.out); rintro e w' ⟨rfl, ⟨nd, rfl⟩⟩; refine ⟨_, rfl, ?_⟩) | ((with_reducible refine gate_callee (f := 14) rfl ?_); refine gB (some 12) Try.func14 #[.slice A0 l0.length c0] ?_; (with_reducible refine (spec_DrawRoot.calls k _ _ l0 t215 t216 t217 _ ?side1 ?side2 A4.out).mono ?_); (case side1 => exact cI HR0.out); (case side2 => exact HC0.out); rintro e w21 ⟨rfl, hb⟩; refine ⟨_, rfl, ?_⟩; replace HB := bs HB hb; (try clear hb); (try clear hb2); (try clear hk); (try clear hi)) | ((with_reducible refine gate_dst (N := 3) rfl ?_); (try (refine gate_guard (by rfl) ?_; dsimp only)); refine box_event ?hg (N := 3) ?hd (cs := #[.int .i64 0, .int .i64 0]) (t := 36) ?hr ?_; (case hd => rfl); (case hg => rfl); (case hr => first | (go_simp; done) | (go_simp; rfl)); intro gb218 hg w22 hbox hb; have BK218 := Aside0.mk (hbox); have GW218 := bg hg HB; have GJ218 := gi GW218; have GE218 := GW218; replace HB := bs HB hb; clear hb hbox hg; obtain ⟨hcz23_0, hcz23_1, hfz23_0, hfz23_1⟩ := cs2 BK218))
    have n0_ : Aside0 (((w22.setCell ⟨gb218, 0, none⟩ (.int .i64 t215)).setCell ⟨gb218, 1, none⟩ (.int .i64 t216)).heap[gb218]? = some (.cells #[.int .i64 t215, .int .i64 t216] 36 (0, 0))) := ⟨pI BK218⟩; have n1_ : Aside0 (Below w.heap.size w ((w22.setCell ⟨gb218, 0, none⟩ (.int .i64 t215)).setCell ⟨gb218, 1, none⟩ (.int .i64 t216))) := ⟨bI HB.out⟩
    (try clear BK218)
    (try clear HB)
    generalize ((w22.setCell ⟨gb218, 0, none⟩ (.int .i64 t215)).setCell ⟨gb218, 1, none⟩ (.int .i64 t216)) = w24 at n0_ n1_ ⊢
    have BK218 := n0_; have HB := n1_; clear n0_ n1_; replace BK218 := Aside0.mk (blk_drew BK218.out); replace HB := Aside0.mk (below_drew1 HB.out)
    refine start_ (n := 7) (S := fun w' => w'.cell? ⟨gb218, 0, none⟩ = some (.int .i64 t215) ∧ w'.cell? ⟨gb218, 1, none⟩ = some (.int .i64 t216)) (ds := []) #[false, false, false, false, false, false, false] (by kernel_rfl) rfl rfl ⟨bc0 BK218.out, bc1 BK218.out⟩ (fun hHeld => ?_)
    generalize w24.drew = w25 at BK218 HB hHeld ⊢
    refine pure_ (i := 1) (N := some 16) (v := ?_) (a' := ?_) #[false, true, false, false, false, false, false] rfl rfl (by kernel_rfl) (fun _ _ _ h => h) (Or.inl ⟨by rfl, ?_⟩) ?_ ?_
    rotate_left
    ·
     intro w'
     go_simp
     with_reducible rfl
    rotate_left
    ·
     simp only [Act.put, List.setIfInBounds_toArray, List.set_cons_zero, List.set_cons_succ, i64_w, i32_w]
     rfl
    refine pure_ (i := 4) (N := some 19) (v := ?_) (a' := ?_) #[false, true, false, false, true, false, false] rfl rfl (by kernel_rfl) (fun _ _ _ h => h) (Or.inl ⟨by rfl, ?_⟩) ?_ ?_
    rotate_left
    ·
     intro w'
     go_simp
     with_reducible rfl
    rotate_left
    ·
     simp only [Act.put, List.setIfInBounds_toArray, List.set_cons_zero, List.set_cons_succ, i64_w, i32_w]
     rfl
    refine take_ (i := 0) (N := some 15) (v := ?_) (a' := ?_) #[true, true, false, false, true, false, false] rfl rfl (by kernel_rfl) (fun _ _ _ h => h) (Or.inl ⟨by rfl, ?_⟩) hHeld ?_ ?_
    rotate_left
    ·
     rintro w' ⟨s0, s1⟩
     go_simp
     with_reducible rfl
    rotate_left
    ·
     simp only [Act.put, List.setIfInBounds_toArray, List.set_cons_zero, List.set_cons_succ, i64_w, i32_w]
     rfl
    refine take_ (i := 3) (N := some 18) (v := ?_) (a' := ?_) #[true, true, false, true, true, false, false] rfl rfl (by kernel_rfl) (fun _ _ _ h => h) (Or.inl ⟨by rfl, ?_⟩) hHeld ?_ ?_
    rotate_left
    ·
     rintro w' ⟨s0, s1⟩
     go_simp
     with_reducible rfl
    rotate_left
    ·
     simp only [Act.put, List.setIfInBounds_toArray, List.set_cons_zero, List.set_cons_succ, i64_w, i32_w]
     rfl
    refine one_ (i := 2) (N := some 17) #[true, true, true, true, true, false, false] rfl rfl (by kernel_rfl) (by decide) (fun K hK => ?_)
    refine gA Try.func15 #[.agg #[.int .i64 t215, .int .i64 t216], .int .i64 t217] ?_
    with_reducible refine (impl_Root.calls t215 t216 t217 t219 _ A5.out).mono ?_
    rintro e w26 ⟨rfl, hb⟩
    refine ⟨_, rfl, ?_⟩
    replace BK218 := bk BK218 hb; replace HB := bs HB hb
    (try clear hb)
    (try clear hb2)
    (try clear hk)
    (try clear hi)
    refine hK.out _ _ ⟨bc0 BK218.out, bc1 BK218.out⟩ (fun hHeld => ?_)
    clear hK K
    refine nA (some 17) ?_
    refine one_ (i := 5) (N := some 20) #[true, true, true, true, true, true, false] rfl rfl (by kernel_rfl) (by decide) (fun K hK => ?_)
    refine gA Try.func16 #[.agg #[.int .i64 t215, .int .i64 t216], .int .i64 t217] ?_
    with_reducible refine (spec_Root.calls t215 t216 t217 t220 _ A6.out).mono ?_
    rintro e w27 ⟨rfl, hb⟩
    refine ⟨_, rfl, ?_⟩
    replace BK218 := bk BK218 hb; replace HB := bs HB hb
    (try clear hb)
    (try clear hb2)
    (try clear hk)
    (try clear hi)
    refine hK.out _ _ ⟨bc0 BK218.out, bc1 BK218.out⟩ (fun hHeld => ?_)
    clear hK K
    refine nA (some 20) ?_
    refine pure_ (i := 6) (N := some 21) (v := ?_) (a' := ?_) #[true, true, true, true, true, true, true] rfl rfl (by kernel_rfl) (fun _ _ _ h => h) (Or.inl ⟨by rfl, ?_⟩) ?_ ?_
    rotate_left
    ·
     intro w'
     go_simp
     with_reducible rfl
    rotate_left
    ·
     simp only [Act.put, List.setIfInBounds_toArray, List.set_cons_zero, List.set_cons_succ, i64_w, i32_w]
     rfl
    refine done_ (by kernel_rfl) ?_
    have hcz28_0 := bc0 BK218.out; have hcz28_1 := bc1 BK218.out; have hfz28_0 := blk_frozen BK218.out 0; have hfz28_1 := blk_frozen BK218.out 1
    try go_wp2_with (first | ((with_reducible refine gate_callee (f := 17) rfl ?_); refine gB (some 23) Try.func17 #[.agg #[.int .i64 t215, .int .i64 t216]] ?_; (with_reducible refine (impl_ConfOk.calls t215 t216 true _ A8.out).mono ?_); rintro e w29 ⟨rfl, hb⟩; refine ⟨_, rfl, ?_⟩; replace BK218 := bk BK218 hb; replace HB := bs HB hb; (try clear hb); (try clear hb2); (try clear hk); (try clear hi)))
    go_ret
    exact ⟨y0_10, bI HB.out⟩
   rw [if_neg c20] at H
   have c20b0 : decide (100 < t217) = false := decide_eq_false c20; clear c20; obtain ⟨y222, hy222⟩ : ∃ y_ : List Int, y_ = (([] : List Int)) := ⟨_, rfl⟩
   replace H : (laws_FnRootsTurn.l0 k t217 y222 (([] : List Int)) 0 t215 t216) = some r := by first | (rw [hy222]; with_reducible exact H) | (have H2_ := (Option.bind_some _ _).symm.trans H; rw [hy222]; with_reducible exact H2_) | (have H2_ := (Option.bind_some _ _).symm.trans H; with_reducible exact H2_) | with_reducible exact H | (rw [hy222]; exact H) | exact H
   have Ny222 := Aside0.mk hy222; clear hy222; obtain ⟨y225, hy225⟩ : ∃ y_ : List Int, y_ = (([] : List Int)) := ⟨_, rfl⟩
   replace H : (laws_FnRootsTurn.l0 k t217 y222 y225 0 t215 t216) = some r := by first | (rw [hy225]; with_reducible exact H) | (have H2_ := (Option.bind_some _ _).symm.trans H; rw [hy225]; with_reducible exact H2_) | (have H2_ := (Option.bind_some _ _).symm.trans H; with_reducible exact H2_) | with_reducible exact H | (rw [hy225]; exact H) | exact H
   have Ny225 := Aside0.mk hy225; clear hy225; have H' := Aside0.mk H; clear H
   go_enter Try.func4, Try.ntmps4
   try go_wp2_with (first | ((with_reducible refine gate_callee (f := 13) rfl ?_); refine gB (some 9) Try.func13 #[.slice A0 l0.length c0] ?_; (with_reducible refine (laws_big.calls _ _ l0 false _ ?side1 ?side2 A2.out).mono ?_); (case side1 => exact cI HR0.out); (case side2 => exact HC0.out); rintro e w' ⟨rfl, ⟨nd, rfl⟩⟩; refine ⟨_, rfl, ?_⟩) | ((with_reducible refine gate_callee (f := 14) rfl ?_); refine gB (some 12) Try.func14 #[.slice A0 l0.length c0] ?_; (with_reducible refine (spec_DrawRoot.calls k _ _ l0 t215 t216 t217 _ ?side1 ?side2 A4.out).mono ?_); (case side1 => exact cI HR0.out); (case side2 => exact HC0.out); rintro e w30 ⟨rfl, hb⟩; refine ⟨_, rfl, ?_⟩; replace HB := bs HB hb; (try clear hb); (try clear hb2); (try clear hk); (try clear hi)) | ((with_reducible refine gate_dst (N := 3) rfl ?_); (try (refine gate_guard (by rfl) ?_; dsimp only)); refine box_event ?hg (N := 3) ?hd (cs := #[.int .i64 0, .int .i64 0]) (t := 36) ?hr ?_; (case hd => rfl); (case hg => rfl); (case hr => first | (go_simp; done) | (go_simp; rfl)); intro gb218 hg w31 hbox hb; have BK218 := Aside0.mk (hbox); have GW218 := bg hg HB; have GJ218 := gi GW218; have GE218 := GW218; replace HB := bs HB hb; clear hb hbox hg; obtain ⟨hcz32_0, hcz32_1, hfz32_0, hfz32_1⟩ := cs2 BK218))
   have n0_ : Aside0 (((w31.setCell ⟨gb218, 0, none⟩ (.int .i64 t215)).setCell ⟨gb218, 1, none⟩ (.int .i64 t216)).heap[gb218]? = some (.cells #[.int .i64 t215, .int .i64 t216] 36 (0, 0))) := ⟨pI BK218⟩; have n1_ : Aside0 (Below w.heap.size w ((w31.setCell ⟨gb218, 0, none⟩ (.int .i64 t215)).setCell ⟨gb218, 1, none⟩ (.int .i64 t216))) := ⟨bI HB.out⟩
   (try clear BK218)
   (try clear HB)
   generalize ((w31.setCell ⟨gb218, 0, none⟩ (.int .i64 t215)).setCell ⟨gb218, 1, none⟩ (.int .i64 t216)) = w33 at n0_ n1_ ⊢
   have BK218 := n0_; have HB := n1_; clear n0_ n1_; replace BK218 := Aside0.mk (blk_drew BK218.out); replace HB := Aside0.mk (below_drew1 HB.out)
   refine start_ (n := 7) (S := fun w' => w'.cell? ⟨gb218, 0, none⟩ = some (.int .i64 t215) ∧ w'.cell? ⟨gb218, 1, none⟩ = some (.int .i64 t216)) (ds := []) #[false, false, false, false, false, false, false] (by kernel_rfl) rfl rfl ⟨bc0 BK218.out, bc1 BK218.out⟩ (fun hHeld => ?_)
   generalize w33.drew = w34 at BK218 HB hHeld ⊢
   refine pure_ (i := 1) (N := some 16) (v := ?_) (a' := ?_) #[false, true, false, false, false, false, false] rfl rfl (by kernel_rfl) (fun _ _ _ h => h) (Or.inl ⟨by rfl, ?_⟩) ?_ ?_
   rotate_left
   ·
    intro w'
    go_simp
    with_reducible rfl
   rotate_left
   ·
    simp only [Act.put, List.setIfInBounds_toArray, List.set_cons_zero, List.set_cons_succ, i64_w, i32_w]
    rfl
   refine pure_ (i := 4) (N := some 19) (v := ?_) (a' := ?_) #[false, true, false, false, true, false, false] rfl rfl (by kernel_rfl) (fun _ _ _ h => h) (Or.inl ⟨by rfl, ?_⟩) ?_ ?_
   rotate_left
   ·
    intro w'
    go_simp
    with_reducible rfl
   rotate_left
   ·
    simp only [Act.put, List.setIfInBounds_toArray, List.set_cons_zero, List.set_cons_succ, i64_w, i32_w]
    rfl
   refine take_ (i := 0) (N := some 15) (v := ?_) (a' := ?_) #[true, true, false, false, true, false, false] rfl rfl (by kernel_rfl) (fun _ _ _ h => h) (Or.inl ⟨by rfl, ?_⟩) hHeld ?_ ?_
   rotate_left
   ·
    rintro w' ⟨s0, s1⟩
    go_simp
    with_reducible rfl
   rotate_left
   ·
    simp only [Act.put, List.setIfInBounds_toArray, List.set_cons_zero, List.set_cons_succ, i64_w, i32_w]
    rfl
   refine take_ (i := 3) (N := some 18) (v := ?_) (a' := ?_) #[true, true, false, true, true, false, false] rfl rfl (by kernel_rfl) (fun _ _ _ h => h) (Or.inl ⟨by rfl, ?_⟩) hHeld ?_ ?_
   rotate_left
   ·
    rintro w' ⟨s0, s1⟩
    go_simp
    with_reducible rfl
   rotate_left
   ·
    simp only [Act.put, List.setIfInBounds_toArray, List.set_cons_zero, List.set_cons_succ, i64_w, i32_w]
    rfl
   refine one_ (i := 2) (N := some 17) #[true, true, true, true, true, false, false] rfl rfl (by kernel_rfl) (by decide) (fun K hK => ?_)
   refine gA Try.func15 #[.agg #[.int .i64 t215, .int .i64 t216], .int .i64 t217] ?_
   with_reducible refine (impl_Root.calls t215 t216 t217 t219 _ A5.out).mono ?_
   rintro e w35 ⟨rfl, hb⟩
   refine ⟨_, rfl, ?_⟩
   replace BK218 := bk BK218 hb; replace HB := bs HB hb
   (try clear hb)
   (try clear hb2)
   (try clear hk)
   (try clear hi)
   refine hK.out _ _ ⟨bc0 BK218.out, bc1 BK218.out⟩ (fun hHeld => ?_)
   clear hK K
   refine nA (some 17) ?_
   refine one_ (i := 5) (N := some 20) #[true, true, true, true, true, true, false] rfl rfl (by kernel_rfl) (by decide) (fun K hK => ?_)
   refine gA Try.func16 #[.agg #[.int .i64 t215, .int .i64 t216], .int .i64 t217] ?_
   with_reducible refine (spec_Root.calls t215 t216 t217 t220 _ A6.out).mono ?_
   rintro e w36 ⟨rfl, hb⟩
   refine ⟨_, rfl, ?_⟩
   replace BK218 := bk BK218 hb; replace HB := bs HB hb
   (try clear hb)
   (try clear hb2)
   (try clear hk)
   (try clear hi)
   refine hK.out _ _ ⟨bc0 BK218.out, bc1 BK218.out⟩ (fun hHeld => ?_)
   clear hK K
   refine nA (some 20) ?_
   refine pure_ (i := 6) (N := some 21) (v := ?_) (a' := ?_) #[true, true, true, true, true, true, true] rfl rfl (by kernel_rfl) (fun _ _ _ h => h) (Or.inl ⟨by rfl, ?_⟩) ?_ ?_
   rotate_left
   ·
    intro w'
    go_simp
    with_reducible rfl
   rotate_left
   ·
    simp only [Act.put, List.setIfInBounds_toArray, List.set_cons_zero, List.set_cons_succ, i64_w, i32_w]
    rfl
   refine done_ (by kernel_rfl) ?_
   have hcz37_0 := bc0 BK218.out; have hcz37_1 := bc1 BK218.out; have hfz37_0 := blk_frozen BK218.out 0; have hfz37_1 := blk_frozen BK218.out 1
   try go_wp2_with (first | ((with_reducible refine gate_callee (f := 17) rfl ?_); refine gB (some 23) Try.func17 #[.agg #[.int .i64 t215, .int .i64 t216]] ?_; (with_reducible refine (impl_ConfOk.calls t215 t216 true _ A8.out).mono ?_); rintro e w38 ⟨rfl, hb⟩; refine ⟨_, rfl, ?_⟩; replace BK218 := bk BK218 hb; replace HB := bs HB hb; (try clear hb); (try clear hb2); (try clear hk); (try clear hi)) | ((with_reducible refine gate_dst (N := 33) rfl ?_); (try (refine gate_guard (by rfl) ?_; dsimp only)); refine Kd.R_lit (Kd.int .i64) _ 3 ?hg (N := 33) ?hd (xs := ([] : List Int)) (inner := []) (ok := fun _ => True) (okp := fun _ => True) ?hr ?hp (fun _ hk => hk) trivial (Below.refl _ _) (Nat.le_refl _) (by simp) ?_; (case hd => rfl); (case hg => rfl); (case hr => first | (go_simp; done) | (go_simp; rfl)); (case hp => exact (Reps.none _ _)); intro v223 w39 ho40 hb hg_ hnew_; clear hg_ hnew_; (first | rw [← Ny222.out] at ho40 | (simp only [Int.reduceToNat] at ho40; rw [← Ny222.out] at ho40)); have HO224 := Aside0.mk (Kd.R_lower ho40 (below_size (bI HB.out))); replace BK218 := bk BK218 hb; replace HB := bs HB hb; clear hb ho40) | ((with_reducible refine gate_dst (N := 34) rfl ?_); (try (refine gate_guard (by rfl) ?_; dsimp only)); refine Kd.R_lit (Kd.int .i64) _ 3 ?hg (N := 34) ?hd (xs := ([] : List Int)) (inner := []) (ok := fun _ => True) (okp := fun _ => True) ?hr ?hp (fun _ hk => hk) trivial (Below.refl _ _) (Nat.le_refl _) (by simp) ?_; (case hd => rfl); (case hg => rfl); (case hr => first | (go_simp; done) | (go_simp; rfl)); (case hp => exact (Reps.none _ _)); intro v226 w41 ho42 hb hg_ hnew_; clear hg_ hnew_; (first | rw [← Ny225.out] at ho42 | (simp only [Int.reduceToNat] at ho42; rw [← Ny225.out] at ho42)); have HO227 := Aside0.mk (Kd.R_lower (Kd.R_new' ho42 (Kd.R_lt (rI HO224.out))) (below_size (bI HB.out))); replace HO224 := Aside0.mk (Kd.R_elder' (rI HO224.out) (Kd.R_base ho42) hb); replace BK218 := bk BK218 hb; replace HB := bs HB hb; clear hb ho42))
   go_loopg [5, 6, 7] k (fun kq v5 v6 v7 w' => ∃ (x5_1 : List Int) (x6_1 : List Int) (x7_1 : Int), v7 = .int .i64 x7_1 ∧ Aside0 (laws_FnRootsTurn.l0 kq t217 x5_1 x6_1 x7_1 t215 t216 = some r) ∧ Aside0 (kq ≤ k) ∧ Aside0 (Kd.R (Kd.int .i64) 3 w' w.heap.size (fun k_ => some k_ ≠ (v6 : Value).ownBlock) v5 x5_1) ∧ Aside0 (Kd.R (Kd.int .i64) 3 w' w.heap.size (fun k_ => some k_ ≠ (v5 : Value).ownBlock) v6 x6_1) ∧ Aside0 (w'.heap[gb218]? = some (.cells #[.int .i64 t215, .int .i64 t216] 36 (0, 0))) ∧ Aside0 (Below w.heap.size w w'))
   case atStart => exact ⟨(y222), (y225), (0), y0_14, H', ⟨Nat.le_refl _⟩, ⟨by (with_reducible repeat (first | apply Kd.R_alloc | apply Kd.R_drewN | apply Kd.R_drew)); exact Kd.R_mono HO224.out (fun _ hk => hk.2)⟩, ⟨by (with_reducible repeat (first | apply Kd.R_alloc | apply Kd.R_drewN | apply Kd.R_drew)); exact Kd.R_mono HO227.out (fun _ hk => hk.2)⟩, ⟨gI BK218.out⟩, ⟨bI HB.out⟩⟩
   case round =>
    clear H'
    try clear c1
    try clear c2
    try clear p2
    try clear c3
    try clear c4
    try clear c7
    try clear c7b0
    try clear c7b1
    try clear c9
    try clear c10
    try clear c10b0
    try clear c13
    try clear c14
    try clear c15
    try clear c16
    try clear c17
    try clear c20
    try clear c20b0
    try clear hcz13_0
    try clear hcz13_1
    try clear hcz18_0
    try clear hcz18_1
    try clear hcz23_0
    try clear hcz23_1
    try clear hcz28_0
    try clear hcz28_1
    try clear hcz32_0
    try clear hcz32_1
    try clear hcz37_0
    try clear hcz37_1
    try clear hfz13_0
    try clear hfz13_1
    try clear hfz18_0
    try clear hfz18_1
    try clear hfz23_0
    try clear hfz23_1
    try clear hfz28_0
    try clear hfz28_1
    try clear hfz32_0
    try clear hfz32_1
    try clear hfz37_0
    try clear hfz37_1
    obtain ⟨x5_1, x6_1, x7_1, rfl, HA, HK1, HO_5, HO_6, BK218, HB⟩ := hrel; cases gk with
    | zero => exact absurd HA.out (by simp [laws_FnRootsTurn.l0])
    | succ k1 =>
     have H := HA.out; clear HA
     simp only [laws_FnRootsTurn.l0] at H
     by_cases c43 : x7_1 < t215
     ·
      rw [if_pos c43] at H
      have c43b0 : decide (x7_1 < t215) = true := decide_eq_true c43; clear c43; obtain ⟨t228, A440, H⟩ := Option.bind_eq_some_iff.mp H
      try dsimp only at H
      have A44 := Aside0.mk A440; clear A440; obtain ⟨t229, A450, H⟩ := Option.bind_eq_some_iff.mp H
      try dsimp only at H
      have A45 := Aside0.mk A450; clear A450; obtain ⟨t232, A460, H⟩ := Option.bind_eq_some_iff.mp H
      try dsimp only at H
      have A46 := Aside0.mk A460; clear A460; obtain ⟨t233, A470, H⟩ := Option.bind_eq_some_iff.mp H
      try dsimp only at H
      have A47 := Aside0.mk A470; clear A470; have H' := Aside0.mk H; clear H; have hcz48_0 := bc0 BK218.out; have hcz48_1 := bc1 BK218.out; have hfz48_0 := blk_frozen BK218.out 0; have hfz48_1 := blk_frozen BK218.out 1
      go_wp2_with (first | ((with_reducible refine gate_callee (f := 15) rfl ?_); refine gB (some 46) Try.func15 #[.agg #[.int .i64 t215, .int .i64 t216], .int .i64 (wrap64 (t217 + x7_1))] ?_; (with_reducible refine (impl_Root.calls t215 t216 (wrap64 (t217 + x7_1)) t228 _ A44.out).mono ?_); rintro e w49 ⟨rfl, hb⟩; refine ⟨_, rfl, ?_⟩; replace HO_5 := rb HO_5 hb; replace HO_6 := rb HO_6 hb; replace BK218 := bk BK218 hb; replace HB := bs HB hb; (try clear hb); (try clear hb2); (try clear hk); (try clear hi); obtain ⟨Ao50, co50, eo50⟩ := Kd.R_slice HO_5.out; subst eo50) | ((with_reducible refine gate_callee (f := 18) rfl ?_); refine gB (some 47) Try.func18 #[.slice Ao50 x5_1.length co50, .int .i64 t228] ?_; (with_reducible refine (impl_SetAdd.calls k1 _ _ x5_1 t228 t229 _ ?side1 ?side2 A45.out).mono ?_); (case side1 => repeat (first | exact (Kd.R_reads' HO_5.out).2.2 | (with_reducible refine Kd.C_alloc ?_ _) | (with_reducible refine Kd.C_drewN ?_ _) | (with_reducible refine Kd.C_drew ?_))); (case side2 => exact (Kd.R_reads' HO_5.out).2.1); rintro e w51 ⟨v230, rfl, ho0, hb⟩; refine ⟨_, rfl, ?_⟩; have HO231 := Aside0.mk (Kd.R_lower (Kd.R_new' (Kd.R_new' ho0 (Kd.R_lt (rI HO_5.out))) (Kd.R_lt (rI HO_6.out))) (below_size (bI HB.out))); replace HO_5 := Aside0.mk (Kd.R_elder' (rI HO_5.out) (Kd.R_base ho0) hb); replace HO_6 := Aside0.mk (Kd.R_elder' (rI HO_6.out) (Kd.R_base ho0) hb); replace BK218 := bk BK218 hb; replace HB := bs HB hb; (try clear hb); obtain ⟨hcz52_0, hcz52_1, hfz52_0, hfz52_1⟩ := cs2 BK218) | ((with_reducible refine gate_callee (f := 19) rfl ?_); refine gB (some 52) Try.func19 #[.agg #[.int .i64 t215, .int .i64 t216], .int .i64 t217, .int .i64 x7_1] ?_; (with_reducible refine (impl_Sits.calls t215 t216 t217 x7_1 t232 _ A46.out).mono ?_); rintro e w53 ⟨rfl, hb⟩; refine ⟨_, rfl, ?_⟩; replace HO_5 := rb HO_5 hb; replace HO_6 := rb HO_6 hb; replace HO231 := rb HO231 hb; replace BK218 := bk BK218 hb; replace HB := bs HB hb; (try clear hb); (try clear hb2); (try clear hk); (try clear hi); obtain ⟨Ao54, co54, eo54⟩ := Kd.R_slice HO_6.out; subst eo54) | ((with_reducible refine gate_callee (f := 18) rfl ?_); refine gB (some 53) Try.func18 #[.slice Ao54 x6_1.length co54, .int .i64 t232] ?_; (with_reducible refine (impl_SetAdd.calls k1 _ _ x6_1 t232 t233 _ ?side1 ?side2 A47.out).mono ?_); (case side1 => repeat (first | exact (Kd.R_reads' HO_6.out).2.2 | (with_reducible refine Kd.C_alloc ?_ _) | (with_reducible refine Kd.C_drewN ?_ _) | (with_reducible refine Kd.C_drew ?_))); (case side2 => exact (Kd.R_reads' HO_6.out).2.1); rintro e w55 ⟨v234, rfl, ho0, hb⟩; refine ⟨_, rfl, ?_⟩; have HO235 := Aside0.mk (Kd.R_lower (Kd.R_new' (Kd.R_new' (Kd.R_new' ho0 (Kd.R_lt (rI HO_5.out))) (Kd.R_lt (rI HO_6.out))) (Kd.R_lt (rI HO231.out))) (below_size (bI HB.out))); replace HO_5 := Aside0.mk (Kd.R_elder' (rI HO_5.out) (Kd.R_base ho0) hb); replace HO_6 := Aside0.mk (Kd.R_elder' (rI HO_6.out) (Kd.R_base ho0) hb); replace HO231 := Aside0.mk (Kd.R_elder' (rI HO231.out) (Kd.R_base ho0) hb); replace BK218 := bk BK218 hb; replace HB := bs HB hb; (try clear hb)))
      go_roundg k1
      case measure => have := HK1.out; omega
      case rel => exact ⟨(t229), (t233), (wrap64 (x7_1 + 1)), y0_14, H', ⟨by have := HK1.out; omega⟩, ⟨by (with_reducible repeat (first | apply Kd.R_alloc | apply Kd.R_drewN | apply Kd.R_drew)); exact Kd.R_mono HO231.out (fun _ hk => hk.2)⟩, ⟨by (with_reducible repeat (first | apply Kd.R_alloc | apply Kd.R_drewN | apply Kd.R_drew)); exact Kd.R_mono HO235.out (fun _ hk => hk.2)⟩, ⟨gI BK218.out⟩, ⟨bI HB.out⟩⟩
     rw [if_neg c43] at H
     have c43b0 : decide (x7_1 < t215) = false := decide_eq_false c43; clear c43
     by_cases c56 : (x5_1.length : Int) = t215
     rotate_left
     ·
      rw [if_neg c56] at H
      have c56b0 : ((x5_1.length : Int) == t215) = false := beq_eq_false_iff_ne.mpr c56; have c56b1 : ((x5_1.length : Int) != t215) = true := bne_iff_ne.mpr c56
      exact absurd (hrt.out.symm.trans (Option.some.inj H).symm) (by decide)
     rw [if_pos c56] at H
     have c56b0 : ((x5_1.length : Int) == t215) = true := beq_iff_eq.mpr c56; have c56b1 : ((x5_1.length : Int) != t215) = false := bne_eq_false_iff_eq.mpr c56; clear c56
     by_cases c57 : (x6_1.length : Int) = t215
     rotate_left
     ·
      rw [if_neg c57] at H
      have c57b0 : ((x6_1.length : Int) == t215) = false := beq_eq_false_iff_ne.mpr c57; have c57b1 : ((x6_1.length : Int) != t215) = true := bne_iff_ne.mpr c57
      exact absurd (hrt.out.symm.trans (Option.some.inj H).symm) (by decide)
     rw [if_pos c57] at H
     have c57b0 : ((x6_1.length : Int) == t215) = true := beq_iff_eq.mpr c57; have c57b1 : ((x6_1.length : Int) != t215) = false := bne_eq_false_iff_eq.mpr c57; clear c57; obtain ⟨t236, A580, H⟩ := Option.bind_eq_some_iff.mp H
     try dsimp only at H
     have A58 := Aside0.mk A580; clear A580; obtain ⟨t237, A590, H⟩ := Option.bind_eq_some_iff.mp H
     try dsimp only at H
     have A59 := Aside0.mk A590; clear A590; obtain rfl := Option.some.inj H; have hcz60_0 := bc0 BK218.out; have hcz60_1 := bc1 BK218.out; have hfz60_0 := blk_frozen BK218.out 0; have hfz60_1 := blk_frozen BK218.out 1
     try go_wp2
     replace HO_5 := Aside0.mk (Kd.R_drew HO_5.out); replace HO_6 := Aside0.mk (Kd.R_drew HO_6.out); replace BK218 := Aside0.mk (blk_drew BK218.out); replace HB := Aside0.mk (below_drew1 HB.out); obtain ⟨Ao62, co62, eo62⟩ := Kd.R_slice HO_5.out
     (first | subst eo62 | (injection eo62 with f1_ f2_ f3_; have f4_ := f1_.symm; have f5_ := f3_.symm; clear f1_ f2_ f3_; subst f4_; subst f5_))
     obtain ⟨Ao63, co63, eo63⟩ := Kd.R_slice HO_6.out
     (first | subst eo63 | (injection eo63 with f1_ f2_ f3_; have f4_ := f1_.symm; have f5_ := f3_.symm; clear f1_ f2_ f3_; subst f4_; subst f5_))
     refine start_ (n := 22) (S := fun w' => w'.cell? ⟨gb218, 0, none⟩ = some (.int .i64 t215) ∧ w'.cell? ⟨gb218, 1, none⟩ = some (.int .i64 t216)) (ds := []) #[false, false, false, false, false, false, false, false, false, false, false, false, false, false, false, false, false, false, false, false, false, false] (by kernel_rfl) rfl rfl ⟨bc0 BK218.out, bc1 BK218.out⟩ (fun hHeld => ?_); refine with_tabW laws_FnRootsTurn.tab15 laws_FnRootsTurn.bits15 (fun HT_ HW_ => ?_)
     generalize wr.drew = w61 at HO_5 HO_6 BK218 HB hHeld ⊢
     refine pA 0 (some 54) (bz 22 1) HT_ ?_
     refine pA 1 (some 55) (bz 22 3) HT_ ?_
     refine pA 2 (some 56) (bz 22 7) HT_ ?_
     refine tA 3 (some 57) (bz 22 15) HT_ HW_ hHeld ?_
     refine pA 4 (some 58) (bz 22 31) HT_ ?_
     refine pA 5 (some 59) (bz 22 63) HT_ ?_
     refine pA 6 (some 60) (bz 22 127) HT_ ?_
     refine pA 7 (some 61) (bz 22 255) HT_ ?_
     refine pA 8 (some 62) (bz 22 511) HT_ ?_
     refine tA 9 (some 63) (bz 22 1023) HT_ HW_ hHeld ?_
     refine pA 10 (some 64) (bz 22 2047) HT_ ?_
     refine pA 11 (some 65) (bz 22 4095) HT_ ?_
     refine pA 12 (some 66) (bz 22 0x1fff) HT_ ?_
     refine pA 14 (some 68) (bz 22 0x5fff) HT_ ?_
     refine pA 16 (some 70) (bz 22 0x15fff) HT_ ?_
     refine tA 13 (some 67) (bz 22 0x17fff) HT_ HW_ hHeld ?_
     refine tA 15 (some 69) (bz 22 0x1ffff) HT_ HW_ hHeld ?_
     refine oA 17 (some 71) (bz 22 0x3ffff) HT_ (fun K hK => ?_)
     refine gA Try.func15 #[.agg #[.int .i64 t215, .int .i64 t216], .int .i64 t217] ?_
     with_reducible refine (impl_Root.calls t215 t216 t217 t236 _ A58.out).mono ?_
     rintro e w64 ⟨rfl, hb⟩
     refine ⟨_, rfl, ?_⟩
     replace HO_5 := rb HO_5 hb; replace HO_6 := rb HO_6 hb; replace BK218 := bk BK218 hb; replace HB := bs HB hb
     (try clear hb)
     (try clear hb2)
     (try clear hk)
     (try clear hi)
     refine hK.out _ _ ⟨bc0 BK218.out, bc1 BK218.out⟩ (fun hHeld => ?_)
     clear hK K
     refine nA (some 71) ?_
     refine oA 18 (some 72) (bz 22 0x7ffff) HT_ (fun K hK => ?_)
     refine gA Try.func20 #[.agg #[.int .i64 t215, .int .i64 t216], .int .i64 t217, .int .i64 t236] ?_
     with_reducible refine (impl_Seat.calls t215 t216 t217 t236 t237 _ A59.out).mono ?_
     rintro e w65 ⟨rfl, hb⟩
     refine ⟨_, rfl, ?_⟩
     replace HO_5 := rb HO_5 hb; replace HO_6 := rb HO_6 hb; replace BK218 := bk BK218 hb; replace HB := bs HB hb
     (try clear hb)
     (try clear hb2)
     (try clear hk)
     (try clear hi)
     refine hK.out _ _ ⟨bc0 BK218.out, bc1 BK218.out⟩ (fun hHeld => ?_)
     clear hK K
     refine nA (some 72) ?_
     refine pA 19 (some 73) (bz 22 0xfffff) HT_ ?_
     refine pA 20 (some 74) (bz 22 0x1fffff) HT_ ?_
     refine pA 21 (some 2) (bz 22 0x3fffff) HT_ ?_
     refine done_ (done_of HT_.out (by kernel_rfl)) ?_
     try go_wp2
     go_ret
     exact ⟨y0_10, bI HB.out⟩
  replace c9 := Bool.eq_false_iff.mpr c9; subst c9
  rw [if_neg (show ¬ (false = true) by decide)] at H
  obtain rfl := Option.some.inj H
  go_enter Try.func4, Try.ntmps4
  try go_wp2_with (first | ((with_reducible refine gate_callee (f := 13) rfl ?_); refine gB (some 9) Try.func13 #[.slice A0 l0.length c0] ?_; (with_reducible refine (laws_big.calls _ _ l0 false _ ?side1 ?side2 A2.out).mono ?_); (case side1 => exact cI HR0.out); (case side2 => exact HC0.out); rintro e w' ⟨rfl, ⟨nd, rfl⟩⟩; refine ⟨_, rfl, ?_⟩) | ((with_reducible refine gate_callee (f := 14) rfl ?_); refine gB (some 12) Try.func14 #[.slice A0 l0.length c0] ?_; (with_reducible refine (spec_DrawRoot.calls k _ _ l0 t215 t216 t217 _ ?side1 ?side2 A4.out).mono ?_); (case side1 => exact cI HR0.out); (case side2 => exact HC0.out); rintro e w66 ⟨rfl, hb⟩; refine ⟨_, rfl, ?_⟩; replace HB := bs HB hb; (try clear hb); (try clear hb2); (try clear hk); (try clear hi)) | ((with_reducible refine gate_dst (N := 3) rfl ?_); (try (refine gate_guard (by rfl) ?_; dsimp only)); refine box_event ?hg (N := 3) ?hd (cs := #[.int .i64 0, .int .i64 0]) (t := 36) ?hr ?_; (case hd => rfl); (case hg => rfl); (case hr => first | (go_simp; done) | (go_simp; rfl)); intro gb218 hg w67 hbox hb; have BK218 := Aside0.mk (hbox); have GW218 := bg hg HB; have GJ218 := gi GW218; have GE218 := GW218; replace HB := bs HB hb; clear hb hbox hg; obtain ⟨hcz68_0, hcz68_1, hfz68_0, hfz68_1⟩ := cs2 BK218))
  have n0_ : Aside0 (((w67.setCell ⟨gb218, 0, none⟩ (.int .i64 t215)).setCell ⟨gb218, 1, none⟩ (.int .i64 t216)).heap[gb218]? = some (.cells #[.int .i64 t215, .int .i64 t216] 36 (0, 0))) := ⟨pI BK218⟩; have n1_ : Aside0 (Below w.heap.size w ((w67.setCell ⟨gb218, 0, none⟩ (.int .i64 t215)).setCell ⟨gb218, 1, none⟩ (.int .i64 t216))) := ⟨bI HB.out⟩
  (try clear BK218)
  (try clear HB)
  generalize ((w67.setCell ⟨gb218, 0, none⟩ (.int .i64 t215)).setCell ⟨gb218, 1, none⟩ (.int .i64 t216)) = w69 at n0_ n1_ ⊢
  have BK218 := n0_; have HB := n1_; clear n0_ n1_; replace BK218 := Aside0.mk (blk_drew BK218.out); replace HB := Aside0.mk (below_drew1 HB.out)
  refine start_ (n := 7) (S := fun w' => w'.cell? ⟨gb218, 0, none⟩ = some (.int .i64 t215) ∧ w'.cell? ⟨gb218, 1, none⟩ = some (.int .i64 t216)) (ds := []) #[false, false, false, false, false, false, false] (by kernel_rfl) rfl rfl ⟨bc0 BK218.out, bc1 BK218.out⟩ (fun hHeld => ?_)
  generalize w69.drew = w70 at BK218 HB hHeld ⊢
  refine pure_ (i := 1) (N := some 16) (v := ?_) (a' := ?_) #[false, true, false, false, false, false, false] rfl rfl (by kernel_rfl) (fun _ _ _ h => h) (Or.inl ⟨by rfl, ?_⟩) ?_ ?_
  rotate_left
  ·
   intro w'
   go_simp
   with_reducible rfl
  rotate_left
  ·
   simp only [Act.put, List.setIfInBounds_toArray, List.set_cons_zero, List.set_cons_succ, i64_w, i32_w]
   rfl
  refine pure_ (i := 4) (N := some 19) (v := ?_) (a' := ?_) #[false, true, false, false, true, false, false] rfl rfl (by kernel_rfl) (fun _ _ _ h => h) (Or.inl ⟨by rfl, ?_⟩) ?_ ?_
  rotate_left
  ·
   intro w'
   go_simp
   with_reducible rfl
  rotate_left
  ·
   simp only [Act.put, List.setIfInBounds_toArray, List.set_cons_zero, List.set_cons_succ, i64_w, i32_w]
   rfl
  refine take_ (i := 0) (N := some 15) (v := ?_) (a' := ?_) #[true, true, false, false, true, false, false] rfl rfl (by kernel_rfl) (fun _ _ _ h => h) (Or.inl ⟨by rfl, ?_⟩) hHeld ?_ ?_
  rotate_left
  ·
   rintro w' ⟨s0, s1⟩
   go_simp
   with_reducible rfl
  rotate_left
  ·
   simp only [Act.put, List.setIfInBounds_toArray, List.set_cons_zero, List.set_cons_succ, i64_w, i32_w]
   rfl
  refine take_ (i := 3) (N := some 18) (v := ?_) (a' := ?_) #[true, true, false, true, true, false, false] rfl rfl (by kernel_rfl) (fun _ _ _ h => h) (Or.inl ⟨by rfl, ?_⟩) hHeld ?_ ?_
  rotate_left
  ·
   rintro w' ⟨s0, s1⟩
   go_simp
   with_reducible rfl
  rotate_left
  ·
   simp only [Act.put, List.setIfInBounds_toArray, List.set_cons_zero, List.set_cons_succ, i64_w, i32_w]
   rfl
  refine one_ (i := 2) (N := some 17) #[true, true, true, true, true, false, false] rfl rfl (by kernel_rfl) (by decide) (fun K hK => ?_)
  refine gA Try.func15 #[.agg #[.int .i64 t215, .int .i64 t216], .int .i64 t217] ?_
  with_reducible refine (impl_Root.calls t215 t216 t217 t219 _ A5.out).mono ?_
  rintro e w71 ⟨rfl, hb⟩
  refine ⟨_, rfl, ?_⟩
  replace BK218 := bk BK218 hb; replace HB := bs HB hb
  (try clear hb)
  (try clear hb2)
  (try clear hk)
  (try clear hi)
  refine hK.out _ _ ⟨bc0 BK218.out, bc1 BK218.out⟩ (fun hHeld => ?_)
  clear hK K
  refine nA (some 17) ?_
  refine one_ (i := 5) (N := some 20) #[true, true, true, true, true, true, false] rfl rfl (by kernel_rfl) (by decide) (fun K hK => ?_)
  refine gA Try.func16 #[.agg #[.int .i64 t215, .int .i64 t216], .int .i64 t217] ?_
  with_reducible refine (spec_Root.calls t215 t216 t217 t220 _ A6.out).mono ?_
  rintro e w72 ⟨rfl, hb⟩
  refine ⟨_, rfl, ?_⟩
  replace BK218 := bk BK218 hb; replace HB := bs HB hb
  (try clear hb)
  (try clear hb2)
  (try clear hk)
  (try clear hi)
  refine hK.out _ _ ⟨bc0 BK218.out, bc1 BK218.out⟩ (fun hHeld => ?_)
  clear hK K
  refine nA (some 20) ?_
  refine pure_ (i := 6) (N := some 21) (v := ?_) (a' := ?_) #[true, true, true, true, true, true, true] rfl rfl (by kernel_rfl) (fun _ _ _ h => h) (Or.inl ⟨by rfl, ?_⟩) ?_ ?_
  rotate_left
  ·
   intro w'
   go_simp
   with_reducible rfl
  rotate_left
  ·
   simp only [Act.put, List.setIfInBounds_toArray, List.set_cons_zero, List.set_cons_succ, i64_w, i32_w]
   rfl
  refine done_ (by kernel_rfl) ?_
  have hcz73_0 := bc0 BK218.out; have hcz73_1 := bc1 BK218.out; have hfz73_0 := blk_frozen BK218.out 0; have hfz73_1 := blk_frozen BK218.out 1
  try go_wp2_with (first | ((with_reducible refine gate_callee (f := 17) rfl ?_); refine gB (some 23) Try.func17 #[.agg #[.int .i64 t215, .int .i64 t216]] ?_; (with_reducible refine (impl_ConfOk.calls t215 t216 false _ A8.out).mono ?_); rintro e w74 ⟨rfl, hb⟩; refine ⟨_, rfl, ?_⟩; replace BK218 := bk BK218 hb; replace HB := bs HB hb; (try clear hb); (try clear hb2); (try clear hk); (try clear hi)))
  go_ret
  exact ⟨y0_10, bI HB.out⟩
 rw [if_neg c7] at H
 have c7b0 : (t219 == t220) = false := beq_eq_false_iff_ne.mpr c7; have c7b1 : (t219 != t220) = true := bne_iff_ne.mpr c7
 exact absurd (hrt.out.symm.trans (Option.some.inj H).symm) (by decide)


end Go.Proofs.Ytemjmefacifdeaa.PFnRootsTurn
