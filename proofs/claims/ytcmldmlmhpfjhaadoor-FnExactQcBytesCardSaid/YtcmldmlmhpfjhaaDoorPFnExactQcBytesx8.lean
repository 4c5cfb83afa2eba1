-- By a program of this session, out of the translation (the print of the kit, with turns of its own). Lean checks it.
import Derived.Test.YtcmldmlmhpfjhaaDoorPFnExactQcBytesx0
import Derived.Test.YtcmldmlmhpfjhaaDoorPFnExactQcBytesx6
import Derived.Test.YtcmldmlmhpfjhaaDoorPFnExactQcBytesx7
namespace Go.Proofs.YtcmldmlmhpfjhaaDoor.PFnExactQcBytes
open Go.RowKit Go.Proofs.YtcmldmlmhpfjhaaDoorW.PrintWords Go.Proofs.YtcmldmlmhpfjhaaDoorW.PrintLast Go.Proofs.YtcmldmlmhpfjhaaDoorW.PrintMore
attribute [local go_sem] max2_int min2_int max_two min_two max_three min_three max_four min_four   -- for this text's walks alone
set_option linter.unusedVariables false
set_option linter.unusedSimpArgs false

/-! ### impl_TxsOf: function 110 -/
def impl_TxsOf.l0 : Nat → List (S150) → List ByteArray → Int → Int → Option ((List (S150)) × Bool)
  | 0, _, _, _, _ => none
  | k + 1, x4, x12, x13, x14 => if x14 < x13 then (if 0 ≤ x14 then (if x14 < (x12.length : Int) then ((impl_TxOf.f k (rdOf ByteArray.empty x12 x14)).bind fun bt309 => (if bt309.2.2.2.2 = true then (if x4.length < 4398046511104 then (impl_TxsOf.l0 k (x4 ++ [(⟨bt309.1, bt309.2.1, bt309.2.2.1, bt309.2.2.2.1⟩ : S150)]) x12 x13 (wrap64 (x14 + 1))) else (none)) else (some (([] : List (S150)), false)))) else (none)) else (none)) else (some (x4, true))
def impl_TxsOf.f (k : Nat) (a0 : ByteArray) : Option ((List (S150)) × Bool) := if a0.toList = ([] : List UInt8) then (some (([] : List (S150)), true)) else ((impl_Split.f a0 44).bind fun t305 => (impl_TxsOf.l0 k ([] : List (S150)) t305 (t305.length : Int) 0))
theorem impl_TxsOf.mono_l : ∀ k, (∀ y0 y1 y2 y3, LeO (impl_TxsOf.l0 k y0 y1 y2 y3) (impl_TxsOf.l0 (k + 1) y0 y1 y2 y3))
  | 0 => fun _ _ _ _ r h => by simp [impl_TxsOf.l0] at h
  | k + 1 => by
    have ih0 := impl_TxsOf.mono_l k
    · intro y0 y1 y2 y3
      unfold impl_TxsOf.l0
      repeat' first
      | (with_reducible exact ih0 _ _ _ _)
      | (with_reducible exact impl_TxOf.mono _ _)
      | (with_reducible exact LeO.refl _)
      | (with_reducible exact LeO.none _)
      | (with_reducible refine LeO.ite ?_ ?_)
      | (with_reducible refine LeO.bind ?_ (fun _ => ?_))
      | exact ih0 _ _ _ _
      | exact impl_TxOf.mono _ _
      | exact LeO.none _
      | refine LeO.ite ?_ ?_
      | refine LeO.bind ?_ (fun _ => ?_)
theorem impl_TxsOf.mono : ∀ a0 k, LeO (impl_TxsOf.f k a0) (impl_TxsOf.f (k + 1) a0) := by
  intro a0 k
  have ih0 := impl_TxsOf.mono_l k
  unfold impl_TxsOf.f
  repeat' first
      | (with_reducible exact ih0 _ _ _ _)
      | (with_reducible exact impl_TxOf.mono _ _)
      | (with_reducible exact LeO.refl _)
      | (with_reducible exact LeO.none _)
      | (with_reducible refine LeO.ite ?_ ?_)
      | (with_reducible refine LeO.bind ?_ (fun _ => ?_))
      | exact ih0 _ _ _ _
      | exact impl_TxOf.mono _ _
      | exact LeO.none _
      | refine LeO.ite ?_ ?_
      | refine LeO.bind ?_ (fun _ => ?_)
set_option maxHeartbeats 8000000 in
set_option maxRecDepth 100000 in
theorem impl_TxsOf.calls (k : Nat) (a0 : ByteArray) (r1 : List (S150)) (r2 : Bool) (w : World) (h : impl_TxsOf.f k a0 = some (r1, r2)) (hG : Glob w := by exact gG HG HB) :
    Calls Tryd.prog 110 #[.string a0] w fun e w' => ∃ v0_ : Value, e = .returned (.tuple #[v0_, .bool r2]) ∧ Kd.R k150 150 w' w.heap.size (fun _ => True) v0_ r1 ∧ Below w.heap.size w w' := by
  have HG := Aside0.mk hG
  clear hG
  have hu150 := Tryd.underlying150
  have HB := Aside0.mk (Below.refl w.heap.size w)
  have H : (if a0.toList = ([] : List UInt8) then (some (([] : List (S150)), true)) else ((impl_Split.f a0 44).bind fun t305 => (impl_TxsOf.l0 k ([] : List (S150)) t305 (t305.length : Int) 0))) = some (r1, r2) := h
  clear h
  by_cases c2 : a0.toList = ([] : List UInt8)
  · rw [if_pos c2] at H
    have c2b0 : (a0.toList == ([] : List UInt8)) = true := beq_iff_eq.mpr c2
    have c2b1 : (a0.toList != ([] : List UInt8)) = false := bne_eq_false_iff_eq.mpr c2
    clear c2
    simp only [Option.some.injEq, Prod.mk.injEq] at H
    obtain ⟨rfl, rfl⟩ := H
    go_enter Tryd.func110, Tryd.ntmps110
    go_wp2
    go_ret2
    exact ⟨_, y0_7, y0_0, bI HB.out⟩
  · rw [if_neg c2] at H
    have c2b0 : (a0.toList == ([] : List UInt8)) = false := beq_eq_false_iff_ne.mpr c2
    have c2b1 : (a0.toList != ([] : List UInt8)) = true := bne_iff_ne.mpr c2
    obtain ⟨t305, A30, H⟩ := Option.bind_eq_some_iff.mp H
    try dsimp only at H
    have A3 := Aside0.mk A30
    clear A30
    have H' := Aside0.mk H
    clear H
    go_enter Tryd.func110, Tryd.ntmps110
    go_wp2_with (first | ((with_reducible refine gate_callee (f := 107) rfl ?_); refine gB (some 12) Tryd.func107 #[.string a0, .int .u8 44] ?_; (with_reducible refine (impl_Split.calls a0 44 t305 _ A3.out).mono ?_); rintro e w4 ⟨v306, rfl, ho0, hb⟩; refine ⟨_, rfl, ?_⟩; have HO307 := Aside0.mk (Kd.R_lower ho0 (below_size (bI HB.out))); replace HB := bs HB hb; (try clear hb); (try clear ho0); obtain ⟨Ao5, co5, eo5⟩ := Kd.R_slice HO307.out; subst eo5))
    go_loopg [4, 14] k (fun kq v4 v14 w' => ∃ (x4_1 : List (S150)) (x14_1 : Int), v14 = .int .i64 x14_1 ∧ Aside0 (impl_TxsOf.l0 kq x4_1 t305 (t305.length : Int) x14_1 = some (r1, r2)) ∧ Aside0 (kq ≤ k) ∧ Aside0 (Kd.R k150 150 w' w.heap.size (fun _ => True) v4 x4_1) ∧ Aside0 (Kd.R Kd.string 9 w' w.heap.size (fun _ => True) (.slice Ao5 t305.length co5) t305) ∧ Aside0 (Below w.heap.size w w'))
    case atStart => exact ⟨(([] : List (S150))), (0), y0_10, H', ⟨Nat.le_refl _⟩, ⟨y0_0⟩, ⟨by (with_reducible repeat (first | apply Kd.R_alloc | apply Kd.R_drewN | apply Kd.R_drew)); exact HO307.out⟩, ⟨bI HB.out⟩⟩
    case round =>
      clear H'
      try clear c1
      try clear c2
      try clear c2b0
      try clear c2b1
      try clear p2
      obtain ⟨x4_1, x14_1, rfl, HA, HK1, HO_4, HO_12, HB⟩ := hrel
      cases gk with
      | zero => exact absurd HA.out (by simp [impl_TxsOf.l0])
      | succ k1 =>
        have H := HA.out
        clear HA
        simp only [impl_TxsOf.l0] at H
        by_cases c6 : x14_1 < (t305.length : Int)
        · rw [if_pos c6] at H
          have c6b0 : decide (x14_1 < (t305.length : Int)) = true := decide_eq_true c6
          clear c6
          by_cases c7 : 0 ≤ x14_1
          rotate_left
          · rw [if_neg c7] at H
            exact absurd H (by simp)
          rw [if_pos c7] at H
          have c7b0 : decide (0 ≤ x14_1) = true := decide_eq_true c7
          clear c7
          by_cases c8 : x14_1 < (t305.length : Int)
          rotate_left
          · rw [if_neg c8] at H
            exact absurd H (by simp)
          rw [if_pos c8] at H
          have c8b0 : decide (x14_1 < (t305.length : Int)) = true := decide_eq_true c8
          clear c8
          obtain ⟨⟨t309, t310, t311, t312, t313⟩, A90, H⟩ := Option.bind_eq_some_iff.mp H
          try dsimp only at H
          have A9 := Aside0.mk A90
          clear A90
          by_cases c10 : t313 = true
          · subst c10
            rw [if_pos rfl] at H
            by_cases c11 : x4_1.length < 4398046511104
            rotate_left
            · rw [if_neg c11] at H
              exact absurd H (by simp)
            rw [if_pos c11] at H
            have LMc11 := Aside0.mk c11
            clear c11
            obtain ⟨y315, hy315⟩ : ∃ y_ : List (S150), y_ = (x4_1 ++ [(⟨t309, t310, t311, t312⟩ : S150)]) := ⟨_, rfl⟩
            replace H : (impl_TxsOf.l0 k1 y315 t305 (t305.length : Int) (wrap64 (x14_1 + 1))) = some (r1, r2) := by first | (rw [hy315]; with_reducible exact H) | (have H2_ := (Option.bind_some _ _).symm.trans H; rw [hy315]; with_reducible exact H2_) | (have H2_ := (Option.bind_some _ _).symm.trans H; with_reducible exact H2_) | with_reducible exact H | (rw [hy315]; exact H) | exact H
            have Ny315 := Aside0.mk hy315
            clear hy315
            have H' := Aside0.mk H
            clear H
            have p308 : 0 ≤ (x14_1 : Int) := of_decide_eq_true y0_9
            have q308 : x14_1 < (t305.length : Int) := of_decide_eq_true y0_9
            obtain ⟨ad308, e308, hx308_0⟩ := Kd.at_string (Kd.R_reads' HO_12.out).2.2 x14_1 p308 q308
            cases e308
            replace p308 := eq_true p308
            replace q308 := eq_true q308
            go_wp2_with (first | ((with_reducible refine gate_callee (f := 134) rfl ?_); refine gB (some 20) Tryd.func134 #[.string (rdOf ByteArray.empty t305 x14_1)] ?_; (with_reducible refine (impl_TxOf.calls k1 (rdOf ByteArray.empty t305 x14_1) t309 t310 t311 t312 true _ A9.out).mono ?_); rintro e w12 ⟨rfl, hb⟩; refine ⟨_, rfl, ?_⟩; replace HO_4 := rb HO_4 hb; replace HO_12 := rb HO_12 hb; replace HB := bs HB hb; (try clear hb); (try clear hb2); (try clear hk); (try clear hi)) | ((with_reducible refine gd 7 ?_); refine bA 7 #[.int .i64 0, .int .i64 0, .int .i64 0, .int .i64 0] 150 ?_; intro gb314 hg w13 hbox hb; replace HO_4 := Aside0.mk (Kd.R_below (Kd.R_elderB (rI HO_4.out) gb314 (Nat.le_of_eq hg.symm)) hb); replace HO_12 := rb HO_12 hb; have BK314 := Aside0.mk (hbox); have GW314 := bg hg HB; have GJ314 := gi GW314; have GE314 := GW314; replace HB := bs HB hb; clear hb hbox hg; obtain ⟨hcz14_0, hcz14_1, hcz14_2, hcz14_3, hfz14_0, hfz14_1, hfz14_2, hfz14_3⟩ := cs4 BK314) | ((with_reducible refine gate_builtin (b := .append) (xs := #[.tmp 25, .tmp 27]) rfl ?_); at_builtin; refine Kd.R_append k150 (w0 := w) w.heap.size rfl (.tmp 25) (.tmp 27) 93 150 (.agg #[(.int .i64 0), (.int .i64 0), (.int .i64 0), (.int .i64 0)]) 32 rfl Tryd.underlying93 info150 rfl (by decide) (by omega) u4 x4_1 (⟨t309, t310, t311, t312⟩ : S150) [.int .i64 t309, .int .i64 t310, .int .i64 t311, .int .i64 t312] (fun k_ => k_ ≠ gb314) (fun _ => False) rfl (by first | (go_simp; done) | (go_simp; rfl)) ?aP (fun _ hk => hk.elim) ?aF ?aO ?aB ?aS ?aL ?_; (case aP => exact k150_mkM _ _ _ (⟨t309, t310, t311, t312⟩ : S150)); (case aB => exact (bI HB.out)); (case aF => exact (fun k_ hk => Kd.freshB (g := gb314) (o := .cells #[.int .i64 t309, .int .i64 t310, .int .i64 t311, .int .i64 t312] 150 (0, 0)) (pI BK314) k_ hk)); (case aO => exact (rI (Kd.R_mono (Kd.R_far (p := ⟨gb314, 3, none⟩) (Kd.R_far (p := ⟨gb314, 2, none⟩) (Kd.R_far (p := ⟨gb314, 1, none⟩) (Kd.R_far (p := ⟨gb314, 0, none⟩) (Kd.R_mono HO_4.out (fun k_ hk => (⟨hk, hk.2⟩ : _ ∧ k_ ≠ gb314))) (fun _ hk => hk.2) (.int .i64 t309)) (fun _ hk => hk.2) (.int .i64 t310)) (fun _ hk => hk.2) (.int .i64 t311)) (fun _ hk => hk.2) (.int .i64 t312)) (fun _ hk => hk.1.2)))); (case aS => exact (below_size (bI HB.out))); (case aL => have := LMc11.out; omega); intro v316 w15 ho hb hg hat; rw [← Ny315.out] at ho; have n0_ := Aside0.mk (Kd.R_over' (rI (Kd.R_mono (Kd.R_far (p := ⟨gb314, 3, none⟩) (Kd.R_far (p := ⟨gb314, 2, none⟩) (Kd.R_far (p := ⟨gb314, 1, none⟩) (Kd.R_far (p := ⟨gb314, 0, none⟩) (Kd.R_types HO_12.out BK314.out (by decide)) (fun _ hk => hk.2) (.int .i64 t309)) (fun _ hk => hk.2) (.int .i64 t310)) (fun _ hk => hk.2) (.int .i64 t311)) (fun _ hk => hk.2) (.int .i64 t312)) (fun _ h_ => h_.1))) (Kd.R_typed (rI (Kd.R_mono (Kd.R_far (p := ⟨gb314, 3, none⟩) (Kd.R_far (p := ⟨gb314, 2, none⟩) (Kd.R_far (p := ⟨gb314, 1, none⟩) (Kd.R_far (p := ⟨gb314, 0, none⟩) (Kd.R_mono HO_4.out (fun k_ hk => (⟨hk, hk.2⟩ : _ ∧ k_ ≠ gb314))) (fun _ hk => hk.2) (.int .i64 t309)) (fun _ hk => hk.2) (.int .i64 t310)) (fun _ hk => hk.2) (.int .i64 t311)) (fun _ hk => hk.2) (.int .i64 t312)) (fun _ h_ => h_.1)))) (by decide) hg); have n1_ := Aside0.mk (blk_grown (g := gb314) (o := .cells #[.int .i64 t309, .int .i64 t310, .int .i64 t311, .int .i64 t312] 150 (0, 0)) (pI BK314) hg (Kd.R_away HO_4.out (fun _ hk => hk.2))); have n2_ := Aside0.mk (hb); have n3_ := Aside0.mk (ho); clear HO_12; clear BK314; clear HB; clear HO_4; have HO_12 := n0_; have BK314 := n1_; have HB := n2_; have HO317 := n3_; clear n0_ n1_ n2_ n3_; clear ho hb hg hat))
            go_roundg k1
            case measure => have := HK1.out; omega
            case rel => exact ⟨(y315), (wrap64 (x14_1 + 1)), y0_10, H', ⟨y0_14⟩, ⟨by (with_reducible repeat (first | apply Kd.R_alloc | apply Kd.R_drewN | apply Kd.R_drew)); exact Kd.R_mono HO317.out (fun _ hk => trivial)⟩, ⟨by (with_reducible repeat (first | apply Kd.R_alloc | apply Kd.R_drewN | apply Kd.R_drew)); exact HO_12.out⟩, ⟨bI HB.out⟩⟩
          · replace c10 := Bool.eq_false_iff.mpr c10
            subst c10
            rw [if_neg (show ¬ (false = true) by decide)] at H
            simp only [Option.some.injEq, Prod.mk.injEq] at H
            obtain ⟨rfl, rfl⟩ := H
            have p308 : 0 ≤ (x14_1 : Int) := of_decide_eq_true y0_9
            have q308 : x14_1 < (t305.length : Int) := of_decide_eq_true y0_9
            obtain ⟨ad308, e308, hx308_0⟩ := Kd.at_string (Kd.R_reads' HO_12.out).2.2 x14_1 p308 q308
            cases e308
            replace p308 := eq_true p308
            replace q308 := eq_true q308
            go_wp2_with (first | ((with_reducible refine gate_callee (f := 134) rfl ?_); refine gB (some 20) Tryd.func134 #[.string (rdOf ByteArray.empty t305 x14_1)] ?_; (with_reducible refine (impl_TxOf.calls k1 (rdOf ByteArray.empty t305 x14_1) t309 t310 t311 t312 false _ A9.out).mono ?_); rintro e w16 ⟨rfl, hb⟩; refine ⟨_, rfl, ?_⟩; replace HO_4 := rb HO_4 hb; replace HO_12 := rb HO_12 hb; replace HB := bs HB hb; (try clear hb); (try clear hb2); (try clear hk); (try clear hi)) | ((with_reducible refine gd 7 ?_); refine bA 7 #[.int .i64 0, .int .i64 0, .int .i64 0, .int .i64 0] 150 ?_; intro gb314 hg w17 hbox hb; replace HO_4 := Aside0.mk (Kd.R_below (Kd.R_elderB (rI HO_4.out) gb314 (Nat.le_of_eq hg.symm)) hb); replace HO_12 := rb HO_12 hb; have BK314 := Aside0.mk (hbox); have GW314 := bg hg HB; have GJ314 := gi GW314; have GE314 := GW314; replace HB := bs HB hb; clear hb hbox hg; obtain ⟨hcz18_0, hcz18_1, hcz18_2, hcz18_3, hfz18_0, hfz18_1, hfz18_2, hfz18_3⟩ := cs4 BK314))
            go_ret2
            exact ⟨_, y0_7, y0_0, bI HB.out⟩
        · rw [if_neg c6] at H
          have c6b0 : decide (x14_1 < (t305.length : Int)) = false := decide_eq_false c6
          clear c6
          simp only [Option.some.injEq, Prod.mk.injEq] at H
          obtain ⟨rfl, rfl⟩ := H
          go_wp2
          go_ret2
          exact ⟨_, y0_7, by (with_reducible repeat (first | apply Kd.R_alloc | apply Kd.R_drewN | apply Kd.R_drew)); exact HO_4.out, bI HB.out⟩

/-! ### impl_Steps: function 67 -/
mutual
def impl_Steps.j0 : Nat → List ByteArray → Bool → Option ((List (S95)) × Bool)
  | 0, _, _ => none
  | k + 1, x4, x29 => if x29 = true then (some (([] : List (S95)), false)) else (if 1 ≤ (x4.length : Int) then ((some (x4.drop 1 : List ByteArray)).bind fun y322 => (impl_Steps.l0 k ([] : List (S95)) 0 y322 (y322.length : Int) 0)) else (none))
def impl_Steps.l0 : Nat → List (S95) → Int → List ByteArray → Int → Int → Option ((List (S95)) × Bool)
  | 0, _, _, _, _, _ => none
  | k + 1, x5, x6, x31, x32, x33 => if x33 < x32 then (if 0 ≤ x33 then (if x33 < (x31.length : Int) then ((strings_Cut.f (rdOf ByteArray.empty x31 x33) (⟨#[124]⟩ : ByteArray)).bind fun bt327 => ((impl_Number.f k bt327.1).bind fun bt330 => ((impl_TxsOf.f k bt327.2.1).bind fun bt332 => (if bt327.2.2 = true then (if bt330.2 = true then (if bt332.2 = true then ((impl_within.f bt330.1 (wrap64 (x6 + 1)) 60).bind fun t336 => (if t336 = true then (if (bt332.1.length : Int) > 2 then (some (([] : List (S95)), false)) else (if x5.length < 4398046511104 then (impl_Steps.l0 k (x5 ++ [(⟨bt330.1, bt332.1⟩ : S95)]) bt330.1 x31 x32 (wrap64 (x33 + 1))) else (none))) else (some (([] : List (S95)), false)))) else (some (([] : List (S95)), false))) else (some (([] : List (S95)), false))) else (some (([] : List (S95)), false)))))) else (none)) else (none)) else (some (x5, true))
end
def impl_Steps.f (k : Nat) (a0 : ByteArray) : Option ((List (S95)) × Bool) := if a0.toList = ([] : List UInt8) then (some (([] : List (S95)), true)) else ((impl_Split.f a0 47).bind fun t318 => (if 0 < (t318.length : Int) then (if (rdOf ByteArray.empty t318 0).toList = ([] : List UInt8) then (impl_Steps.j0 k t318 (decide ((wrap64 ((t318.length : Int) - 1)) > 30))) else (impl_Steps.j0 k t318 true)) else (none)))
theorem impl_Steps.mono_l : ∀ k, (∀ y0 y1, LeO (impl_Steps.j0 k y0 y1) (impl_Steps.j0 (k + 1) y0 y1)) ∧ (∀ y0 y1 y2 y3 y4, LeO (impl_Steps.l0 k y0 y1 y2 y3 y4) (impl_Steps.l0 (k + 1) y0 y1 y2 y3 y4))
  | 0 => ⟨fun _ _ r h => by simp [impl_Steps.j0] at h, fun _ _ _ _ _ r h => by simp [impl_Steps.l0] at h⟩
  | k + 1 => by
    obtain ⟨ih0, ih1⟩ := impl_Steps.mono_l k
    refine ⟨?_, ?_⟩
    · intro y0 y1
      unfold impl_Steps.j0
      repeat' first
      | (with_reducible exact ih0 _ _)
      | (with_reducible exact ih1 _ _ _ _ _)
      | (with_reducible exact impl_Number.mono _ _)
      | (with_reducible exact impl_TxsOf.mono _ _)
      | (with_reducible exact LeO.refl _)
      | (with_reducible exact LeO.none _)
      | (with_reducible refine LeO.ite ?_ ?_)
      | (with_reducible refine LeO.bind ?_ (fun _ => ?_))
      | exact ih0 _ _
      | exact ih1 _ _ _ _ _
      | exact impl_Number.mono _ _
      | exact impl_TxsOf.mono _ _
      | exact LeO.none _
      | refine LeO.ite ?_ ?_
      | refine LeO.bind ?_ (fun _ => ?_)
    · intro y0 y1 y2 y3 y4
      unfold impl_Steps.l0
      repeat' first
      | (with_reducible exact ih0 _ _)
      | (with_reducible exact ih1 _ _ _ _ _)
      | (with_reducible exact impl_Number.mono _ _)
      | (with_reducible exact impl_TxsOf.mono _ _)
      | (with_reducible exact LeO.refl _)
      | (with_reducible exact LeO.none _)
      | (with_reducible refine LeO.ite ?_ ?_)
      | (with_reducible refine LeO.bind ?_ (fun _ => ?_))
      | exact ih0 _ _
      | exact ih1 _ _ _ _ _
      | exact impl_Number.mono _ _
      | exact impl_TxsOf.mono _ _
      | exact LeO.none _
      | refine LeO.ite ?_ ?_
      | refine LeO.bind ?_ (fun _ => ?_)
theorem impl_Steps.mono : ∀ a0 k, LeO (impl_Steps.f k a0) (impl_Steps.f (k + 1) a0) := by
  intro a0 k
  obtain ⟨ih0, ih1⟩ := impl_Steps.mono_l k
  unfold impl_Steps.f
  repeat' first
      | (with_reducible exact ih0 _ _)
      | (with_reducible exact ih1 _ _ _ _ _)
      | (with_reducible exact impl_Number.mono _ _)
      | (with_reducible exact impl_TxsOf.mono _ _)
      | (with_reducible exact LeO.refl _)
      | (with_reducible exact LeO.none _)
      | (with_reducible refine LeO.ite ?_ ?_)
      | (with_reducible refine LeO.bind ?_ (fun _ => ?_))
      | exact ih0 _ _
      | exact ih1 _ _ _ _ _
      | exact impl_Number.mono _ _
      | exact impl_TxsOf.mono _ _
      | exact LeO.none _
      | refine LeO.ite ?_ ?_
      | refine LeO.bind ?_ (fun _ => ?_)
set_option maxHeartbeats 8000000 in
set_option maxRecDepth 100000 in
theorem impl_Steps.calls (k : Nat) (a0 : ByteArray) (r1 : List (S95)) (r2 : Bool) (w : World) (h : impl_Steps.f k a0 = some (r1, r2)) (hG : Glob w := by exact gG HG HB) :
    Calls Tryd.prog 67 #[.string a0] w fun e w' => ∃ v0_ : Value, e = .returned (.tuple #[v0_, .bool r2]) ∧ Kd.S k95 95 w' w.heap.size (fun _ => True) v0_ r1 ∧ Below w.heap.size w w' := by
  have HG := Aside0.mk hG
  clear hG
  have hu95 := Tryd.underlying95
  have HB := Aside0.mk (Below.refl w.heap.size w)
  have H : (if a0.toList = ([] : List UInt8) then (some (([] : List (S95)), true)) else ((impl_Split.f a0 47).bind fun t318 => (if 0 < (t318.length : Int) then (if (rdOf ByteArray.empty t318 0).toList = ([] : List UInt8) then (impl_Steps.j0 k t318 (decide ((wrap64 ((t318.length : Int) - 1)) > 30))) else (impl_Steps.j0 k t318 true)) else (none)))) = some (r1, r2) := h
  clear h
  by_cases c2 : a0.toList = ([] : List UInt8)
  · rw [if_pos c2] at H
    have c2b0 : (a0.toList == ([] : List UInt8)) = true := beq_iff_eq.mpr c2
    have c2b1 : (a0.toList != ([] : List UInt8)) = false := bne_eq_false_iff_eq.mpr c2
    clear c2
    simp only [Option.some.injEq, Prod.mk.injEq] at H
    obtain ⟨rfl, rfl⟩ := H
    go_enter Tryd.func67, Tryd.ntmps67
    go_wp2
    go_ret2
    exact ⟨_, y0_7, y0_1, bI HB.out⟩
  · rw [if_neg c2] at H
    have c2b0 : (a0.toList == ([] : List UInt8)) = false := beq_eq_false_iff_ne.mpr c2
    have c2b1 : (a0.toList != ([] : List UInt8)) = true := bne_iff_ne.mpr c2
    obtain ⟨t318, A30, H⟩ := Option.bind_eq_some_iff.mp H
    try dsimp only at H
    have A3 := Aside0.mk A30
    clear A30
    have HC4 := Aside0.mk H
    clear H
    go_enter Tryd.func67, Tryd.ntmps67
    go_upto_region 4 with (first | ((with_reducible refine gate_callee (f := 107) rfl ?_); refine gB (some 19) Tryd.func107 #[.string a0, .int .u8 47] ?_; (with_reducible refine (impl_Split.calls a0 47 t318 _ A3.out).mono ?_); rintro e w5 ⟨v319, rfl, ho0, hb⟩; refine ⟨_, rfl, ?_⟩; have HO320 := Aside0.mk (Kd.R_lower ho0 (below_size (bI HB.out))); replace HB := bs HB hb; (try clear hb); (try clear ho0)))
    (try simp only [Act.put, List.setIfInBounds_toArray, List.set_cons_zero, List.set_cons_succ])
    go_cut [29] (fun v29 wc => ∃ (kq : Nat) (x29_3 : Bool), v29 = .bool x29_3 ∧ Aside0 (impl_Steps.j0 kq t318 x29_3 = some (r1, r2)) ∧ Aside0 (kq ≤ k) ∧ Aside0 (Kd.R Kd.string 9 wc w.heap.size (fun _ => True) v319 t318) ∧ Aside0 (Below w.heap.size w wc))
    case first =>
      have H := HC4.out
      clear HC4
      by_cases c6 : 0 < (t318.length : Int)
      rotate_left
      · rw [if_neg c6] at H
        exact absurd H (by simp)
      rw [if_pos c6] at H
      have c6b0 : decide (0 < (t318.length : Int)) = true := decide_eq_true c6
      have c6b1 : decide (0 < t318.length) = true := decide_eq_true (by omega)
      clear c6
      (first | rw [c6b0] | (simp only [i64_w, i32_w]; rw [c6b0]) | skip)
      by_cases c7 : (rdOf ByteArray.empty t318 0).toList = ([] : List UInt8)
      · rw [if_pos c7] at H
        have c7b0 : ((rdOf ByteArray.empty t318 0).toList == ([] : List UInt8)) = true := beq_iff_eq.mpr c7
        have c7b1 : ((rdOf ByteArray.empty t318 0).toList != ([] : List UInt8)) = false := bne_eq_false_iff_eq.mpr c7
        clear c7
        have H' := Aside0.mk H
        clear H
        obtain ⟨Ao8, co8, eo8⟩ := Kd.R_slice HO320.out
        subst eo8
        have p321 : 0 ≤ (0 : Int) := (by omega)
        have q321 : 0 < (t318.length : Int) := of_decide_eq_true y0_9
        obtain ⟨ad321, e321, hx321_0⟩ := Kd.at_string (Kd.R_reads' HO320.out).2.2 0 p321 q321
        cases e321
        have qi321 : (0 < t318.length) = True := eq_true (by omega)
        (try rw [show ((0 : Int)).toNat = 0 from rfl] at hx321_0)
        (try rw [Addr.add_zero'] at hx321_0)
        replace p321 := eq_true p321
        replace q321 := eq_true q321
        go_wp2
        go_meet
        case rel => exact ⟨_, (decide ((wrap64 ((t318.length : Int) - 1)) > 30)), y0_10, H', ⟨y0_11⟩, ⟨by (with_reducible repeat (first | apply Kd.R_alloc | apply Kd.R_drewN | apply Kd.R_drew)); exact HO320.out⟩, ⟨bI HB.out⟩⟩
      · rw [if_neg c7] at H
        have c7b0 : ((rdOf ByteArray.empty t318 0).toList == ([] : List UInt8)) = false := beq_eq_false_iff_ne.mpr c7
        have c7b1 : ((rdOf ByteArray.empty t318 0).toList != ([] : List UInt8)) = true := bne_iff_ne.mpr c7
        have H' := Aside0.mk H
        clear H
        obtain ⟨Ao9, co9, eo9⟩ := Kd.R_slice HO320.out
        subst eo9
        have p321 : 0 ≤ (0 : Int) := (by omega)
        have q321 : 0 < (t318.length : Int) := of_decide_eq_true y0_9
        obtain ⟨ad321, e321, hx321_0⟩ := Kd.at_string (Kd.R_reads' HO320.out).2.2 0 p321 q321
        cases e321
        have qi321 : (0 < t318.length) = True := eq_true (by omega)
        (try rw [show ((0 : Int)).toNat = 0 from rfl] at hx321_0)
        (try rw [Addr.add_zero'] at hx321_0)
        replace p321 := eq_true p321
        replace q321 := eq_true q321
        go_wp2
        go_meet
        case rel => exact ⟨_, (true), y0_10, H', ⟨y0_11⟩, ⟨by (with_reducible repeat (first | apply Kd.R_alloc | apply Kd.R_drewN | apply Kd.R_drew)); exact HO320.out⟩, ⟨bI HB.out⟩⟩
    case rest =>
      clear HC4
      try clear c1
      try clear c2
      try clear c2b0
      try clear c2b1
      try clear p2
      try clear p3
      try clear q3
      try clear hx3
      try clear qi3
      try clear c6
      try clear c6b0
      try clear c6b1
      try clear p6
      try clear c7
      try clear c7b0
      try clear c7b1
      try clear hx321_0
      try clear p321
      try clear q321
      obtain ⟨kq, x29_3, rfl, HA, HJ3, HO_4, HB⟩ := hcut
      cases kq with
      | zero => exact absurd HA.out (by simp [impl_Steps.j0])
      | succ kj3 =>
        have H := HA.out
        clear HA
        simp only [impl_Steps.j0] at H
        by_cases c10 : x29_3 = true
        · subst c10
          rw [if_pos rfl] at H
          simp only [Option.some.injEq, Prod.mk.injEq] at H
          obtain ⟨rfl, rfl⟩ := H
          go_wp2
          go_ret2
          exact ⟨_, y0_7, y0_1, bI HB.out⟩
        · replace c10 := Bool.eq_false_iff.mpr c10
          subst c10
          rw [if_neg (show ¬ (false = true) by decide)] at H
          by_cases c11 : 1 ≤ (t318.length : Int)
          · rw [if_pos c11] at H
            have c11b0 := eq_true c11
            have c11b1 : decide (1 ≤ (t318.length : Int)) = true := decide_eq_true c11
            clear c11
            obtain ⟨y322, hy322⟩ : ∃ y_ : List ByteArray, y_ = (t318.drop 1) := ⟨_, rfl⟩
            replace H : (impl_Steps.l0 kj3 ([] : List (S95)) 0 y322 (y322.length : Int) 0) = some (r1, r2) := by first | (rw [hy322]; with_reducible exact H) | (have H2_ := (Option.bind_some _ _).symm.trans H; rw [hy322]; with_reducible exact H2_) | (have H2_ := (Option.bind_some _ _).symm.trans H; with_reducible exact H2_) | with_reducible exact H | (rw [hy322]; exact H) | exact H
            have Ny322 := Aside0.mk hy322
            clear hy322
            have H' := Aside0.mk H
            clear H
            obtain ⟨Ao13, co13, eo13⟩ := Kd.R_slice HO_4.out
            subst eo13
            have q12 : (1 : Int) ≤ ((t318.length : Int) : Int) := of_decide_eq_true y0_9
            obtain ⟨i012, hi012, _, hsz12, _⟩ := info_parts info9
            have hroom12 : t318.length ≤ co13 := (Kd.R_reads' HO_4.out).2.1
            have hC12 : Kd.C Kd.string _ Ao13 t318.length t318 := (Kd.R_reads' HO_4.out).2.2
            have hcut12 := cut_from (P := Tryd.prog) 123 9 .i64 Tryd.underlying123 hi012 1 hsz12 Ao13 t318.length co13 1 (by omega) q12
            have hr12 := Kd.C_drop (m := (1 : Int).toNat) (c := co13) hC12 (by omega) hroom12
            obtain ⟨A12, hA12⟩ : ∃ A1, A1 = (if co13 = (1 : Int).toNat then Ao13 else (Ao13 : Option Addr).map (·.add ((1 : Int).toNat * 1))) := ⟨_, rfl⟩
            obtain ⟨c12, hc12⟩ : ∃ c1, c1 = co13 - (1 : Int).toNat := ⟨_, rfl⟩
            have hy12 : y322.length = t318.length - (1 : Int).toNat := (by rw [Ny322.out, List.length_drop] <;> omega)
            rw [show (t318).drop (1 : Int).toNat = y322 from Ny322.out.symm] at hr12
            replace hr12 : Kd.C Kd.string _ A12 y322.length y322 := (by rw [hA12]; exact hr12)
            rw [← hy12, ← hA12, ← hc12] at hcut12
            have HR325 := Aside0.mk hr12
            have HC325 := Aside0.mk (show y322.length ≤ c12 from by rw [hy12, hc12]; exact Nat.sub_le_sub_right hroom12 _)
            clear hr12 hC12 hroom12 hi012 hsz12 hc12
            have KY12 := Aside0.mk hy12
            have KA12 := Aside0.mk hA12
            clear hy12 hA12
            have KL12 := Aside0.mk (show 1 ≤ t318.length from by omega)
            replace q12 := eq_true q12
            go_wp2
            have HB0 := HB
            replace HG := Aside0.mk (HG.out.below HB.out)
            replace HB := Aside0.mk (Below.refl wc.heap.size wc)
            go_loopg [5, 6, 33] kj3 (fun kq v5 v6 v33 w' => ∃ (x5_2 : List (S95)) (x6_2 : Int) (x33_2 : Int), v6 = .int .i64 x6_2 ∧ v33 = .int .i64 x33_2 ∧ Aside0 (impl_Steps.l0 kq x5_2 x6_2 y322 (y322.length : Int) x33_2 = some (r1, r2)) ∧ Aside0 (kq ≤ kj3) ∧ Aside0 (Kd.S k95 95 w' wc.heap.size (fun _ => True) v5 x5_2) ∧ Aside0 (Below wc.heap.size wc w'))
            case atStart => exact ⟨(([] : List (S95))), (0), (0), y0_10, y0_10, H', ⟨Nat.le_refl _⟩, ⟨y0_1⟩, ⟨bI HB.out⟩⟩
            case round =>
              clear H'
              try clear c1
              try clear q1
              try clear c2
              try clear c2b0
              try clear c2b1
              try clear p2
              try clear p3
              try clear q3
              try clear hx3
              try clear qi3
              try clear c6
              try clear c6b0
              try clear c6b1
              try clear p6
              try clear c7
              try clear c7b0
              try clear c7b1
              try clear c10
              try clear c11
              try clear c11b0
              try clear c11b1
              try clear c12
              try clear q12
              try clear hx321_0
              try clear p2
              try clear p3
              try clear p321
              try clear p6
              try clear q12
              try clear q3
              try clear q321
              obtain ⟨x5_2, x6_2, x33_2, rfl, rfl, HA, HK2, HO_5, HB⟩ := hrel
              cases gk with
              | zero => exact absurd HA.out (by simp [impl_Steps.l0])
              | succ k2 =>
                have H := HA.out
                clear HA
                simp only [impl_Steps.l0] at H
                by_cases c14 : x33_2 < (y322.length : Int)
                · rw [if_pos c14] at H
                  have c14b0 : decide (x33_2 < (y322.length : Int)) = true := decide_eq_true c14
                  clear c14
                  by_cases c15 : 0 ≤ x33_2
                  rotate_left
                  · rw [if_neg c15] at H
                    exact absurd H (by simp)
                  rw [if_pos c15] at H
                  have c15b0 : decide (0 ≤ x33_2) = true := decide_eq_true c15
                  clear c15
                  by_cases c16 : x33_2 < (y322.length : Int)
                  rotate_left
                  · rw [if_neg c16] at H
                    exact absurd H (by simp)
                  rw [if_pos c16] at H
                  have c16b0 : decide (x33_2 < (y322.length : Int)) = true := decide_eq_true c16
                  clear c16
                  obtain ⟨⟨t327, t328, t329⟩, A170, H⟩ := Option.bind_eq_some_iff.mp H
                  try dsimp only at H
                  have A17 := Aside0.mk A170
                  clear A170
                  obtain ⟨⟨t330, t331⟩, A180, H⟩ := Option.bind_eq_some_iff.mp H
                  try dsimp only at H
                  have A18 := Aside0.mk A180
                  clear A180
                  obtain ⟨⟨t332, t333⟩, A190, H⟩ := Option.bind_eq_some_iff.mp H
                  try dsimp only at H
                  have A19 := Aside0.mk A190
                  clear A190
                  by_cases c20 : t329 = true
                  · subst c20
                    rw [if_pos rfl] at H
                    by_cases c21 : t331 = true
                    · subst c21
                      rw [if_pos rfl] at H
                      by_cases c22 : t333 = true
                      · subst c22
                        rw [if_pos rfl] at H
                        obtain ⟨t336, A230, H⟩ := Option.bind_eq_some_iff.mp H
                        try dsimp only at H
                        have A23 := Aside0.mk A230
                        clear A230
                        by_cases c24 : t336 = true
                        · subst c24
                          rw [if_pos rfl] at H
                          by_cases c25 : (t332.length : Int) > 2
                          · rw [if_pos c25] at H
                            have c25b0 : decide (2 < (t332.length : Int)) = true := decide_eq_true c25
                            have c25b1 : decide (2 < t332.length) = true := decide_eq_true (by omega)
                            clear c25
                            simp only [Option.some.injEq, Prod.mk.injEq] at H
                            obtain ⟨rfl, rfl⟩ := H
                            have p326 : 0 ≤ (x33_2 : Int) := of_decide_eq_true y0_9
                            have q326 : x33_2 < (y322.length : Int) := of_decide_eq_true y0_9
                            obtain ⟨ad326, e326, hx326_0⟩ := Kd.at_string HR325.out x33_2 p326 q326
                            cases e326
                            replace hx326_0 := bx HB hx326_0
                            replace p326 := eq_true p326
                            replace q326 := eq_true q326
                            go_wp2_with (first | ((with_reducible refine gate_callee (f := 108) rfl ?_); refine gB (some 39) Tryd.func108 #[.string (rdOf ByteArray.empty y322 x33_2), .string (⟨#[124]⟩ : ByteArray)] ?_; (with_reducible refine (strings_Cut.calls (rdOf ByteArray.empty y322 x33_2) (⟨#[124]⟩ : ByteArray) t327 t328 true _ A17.out).mono ?_); rintro e w26 ⟨rfl, hb⟩; refine ⟨_, rfl, ?_⟩; replace HO_5 := sb HO_5 hb; replace HB := bs HB hb; (try clear hb); (try clear hb2); (try clear hk); (try clear hi)) | ((with_reducible refine gate_callee (f := 109) rfl ?_); refine gB (some 45) Tryd.func109 #[.string t327] ?_; (with_reducible refine (impl_Number.calls k2 t327 t330 true _ A18.out).mono ?_); rintro e w27 ⟨rfl, hb⟩; refine ⟨_, rfl, ?_⟩; replace HO_5 := sb HO_5 hb; replace HB := bs HB hb; (try clear hb); (try clear hb2); (try clear hk); (try clear hi)) | ((with_reducible refine gate_callee (f := 110) rfl ?_); refine gB (some 50) Tryd.func110 #[.string t328] ?_; (with_reducible refine (impl_TxsOf.calls k2 t328 t332 true _ A19.out).mono ?_); rintro e w28 ⟨v334, rfl, ho0, hb⟩; refine ⟨_, rfl, ?_⟩; replace HO_5 := Aside0.mk (Kd.S_elder' (sI HO_5.out) (Kd.R_base ho0) hb); have HO335 := Aside0.mk (Kd.R_lower ho0 (below_size (bI HB.out))); replace HB := bs HB hb; (try clear hb)) | (go_at_call 77; (with_reducible refine (impl_within.calls t330 (wrap64 (x6_2 + 1)) 60 true _ A23.out).mono ?_); rintro e w' ⟨rfl, ⟨nd, rfl⟩⟩; obtain ⟨Ao29, co29, eo29⟩ := Kd.R_slice HO335.out; subst eo29))
                            go_ret2
                            exact ⟨_, y0_7, Kd.S_lower (base := wc.heap.size) y0_1 (below_size HB0.out), below_step HB0.out (bI HB.out)⟩
                          · rw [if_neg c25] at H
                            have c25b0 : decide (2 < (t332.length : Int)) = false := decide_eq_false c25
                            have c25b1 : decide (2 < t332.length) = false := decide_eq_false (by omega)
                            clear c25
                            by_cases c30 : x5_2.length < 4398046511104
                            rotate_left
                            · rw [if_neg c30] at H
                              exact absurd H (by simp)
                            rw [if_pos c30] at H
                            have LMc30 := Aside0.mk c30
                            clear c30
                            obtain ⟨y337, hy337⟩ : ∃ y_ : List (S95), y_ = (x5_2 ++ [(⟨t330, t332⟩ : S95)]) := ⟨_, rfl⟩
                            replace H : (impl_Steps.l0 k2 y337 t330 y322 (y322.length : Int) (wrap64 (x33_2 + 1))) = some (r1, r2) := by first | (rw [hy337]; with_reducible exact H) | (have H2_ := (Option.bind_some _ _).symm.trans H; rw [hy337]; with_reducible exact H2_) | (have H2_ := (Option.bind_some _ _).symm.trans H; with_reducible exact H2_) | with_reducible exact H | (rw [hy337]; exact H) | exact H
                            have Ny337 := Aside0.mk hy337
                            clear hy337
                            have H' := Aside0.mk H
                            clear H
                            have p326 : 0 ≤ (x33_2 : Int) := of_decide_eq_true y0_9
                            have q326 : x33_2 < (y322.length : Int) := of_decide_eq_true y0_9
                            obtain ⟨ad326, e326, hx326_0⟩ := Kd.at_string HR325.out x33_2 p326 q326
                            cases e326
                            replace hx326_0 := bx HB hx326_0
                            replace p326 := eq_true p326
                            replace q326 := eq_true q326
                            go_wp2_with (first | ((with_reducible refine gate_callee (f := 108) rfl ?_); refine gB (some 39) Tryd.func108 #[.string (rdOf ByteArray.empty y322 x33_2), .string (⟨#[124]⟩ : ByteArray)] ?_; (with_reducible refine (strings_Cut.calls (rdOf ByteArray.empty y322 x33_2) (⟨#[124]⟩ : ByteArray) t327 t328 true _ A17.out).mono ?_); rintro e w31 ⟨rfl, hb⟩; refine ⟨_, rfl, ?_⟩; replace HO_5 := sb HO_5 hb; replace HB := bs HB hb; (try clear hb); (try clear hb2); (try clear hk); (try clear hi)) | ((with_reducible refine gate_callee (f := 109) rfl ?_); refine gB (some 45) Tryd.func109 #[.string t327] ?_; (with_reducible refine (impl_Number.calls k2 t327 t330 true _ A18.out).mono ?_); rintro e w32 ⟨rfl, hb⟩; refine ⟨_, rfl, ?_⟩; replace HO_5 := sb HO_5 hb; replace HB := bs HB hb; (try clear hb); (try clear hb2); (try clear hk); (try clear hi)) | ((with_reducible refine gate_callee (f := 110) rfl ?_); refine gB (some 50) Tryd.func110 #[.string t328] ?_; (with_reducible refine (impl_TxsOf.calls k2 t328 t332 true _ A19.out).mono ?_); rintro e w33 ⟨v334, rfl, ho0, hb⟩; refine ⟨_, rfl, ?_⟩; replace HO_5 := Aside0.mk (Kd.S_elder' (sI HO_5.out) (Kd.R_base ho0) hb); have HO335 := Aside0.mk (Kd.R_lower ho0 (below_size (bI HB.out))); replace HB := bs HB hb; (try clear hb)) | (go_at_call 77; (with_reducible refine (impl_within.calls t330 (wrap64 (x6_2 + 1)) 60 true _ A23.out).mono ?_); rintro e w' ⟨rfl, ⟨nd, rfl⟩⟩; obtain ⟨Ao34, co34, eo34⟩ := Kd.R_slice HO335.out; subst eo34) | ((with_reducible refine gate_builtin (b := .append) (xs := #[.tmp 75, .tmp 79]) rfl ?_); (try (refine gate_guard (by rfl) ?_; dsimp only)); at_builtin; refine Kd.S_append k95 (w0 := wc) wc.heap.size rfl (.tmp 75) (.tmp 79) 90 95 (.agg #[(.int .i64 0), (.slice none 0 0)]) 32 rfl Tryd.underlying90 info95 rfl (by decide) (by omega) u5 x5_2 (⟨t330, t332⟩ : S95) [.int .i64 t330, .slice Ao34 t332.length co34] (fun _ => True) (fun k_ => some k_ = (.slice Ao34 t332.length co34 : Value).ownBlock) rfl rfl ?aP (fun k_ hk_ => ((Kd.R_mono (ok' := fun k_ => ((fun _ => True)) k_ ∧ some k_ ≠ (u5 : Value).ownBlock) (Kd.R_apart' (HO335.out) (Kd.S_typed HO_5.out) (by decide)) (fun k_ hk => ⟨trivial, hk.2⟩))).1 k_ hk_.symm) ?aF ?aO ?aB ?aS ?aL ?_; (case aP => exact k95_mkM _ _ _ (⟨t330, t332⟩ : S95) (Kd.R_mono (Kd.R_tight rfl (Kd.R_mono (ok' := fun k_ => ((fun _ => True)) k_ ∧ some k_ ≠ (u5 : Value).ownBlock) (Kd.R_apart' (HO335.out) (Kd.S_typed HO_5.out) (by decide)) (fun k_ hk => ⟨trivial, hk.2⟩))) (fun _ h_ => h_))); (case aB => exact (bI HB.out)); (case aF => exact (fun _ _ => trivial)); (case aO => exact (sI (Kd.S_mono HO_5.out (fun k_ hk => ⟨trivial, fun e_ => hk.2 e_⟩)))); (case aS => exact (below_size (bI HB.out))); (case aL => have := LMc30.out; omega); intro v338 w35 ho hb hg hat; rw [← Ny337.out] at ho; have n0_ := Aside0.mk (hb); have n1_ := Aside0.mk (ho); clear HB; clear HO_5; clear HO335; have HB := n0_; have HO339 := n1_; clear n0_ n1_; clear ho hb hg hat))
                            go_roundg k2
                            case measure => have := HJ3.out; have := HK2.out; omega
                            case rel => exact ⟨(y337), (t330), (wrap64 (x33_2 + 1)), y0_10, y0_10, H', ⟨by have := HJ3.out; have := HK2.out; omega⟩, ⟨by (with_reducible repeat (first | apply Kd.S_alloc | apply Kd.S_drewN | apply Kd.S_drew)); exact HO339.out⟩, ⟨bI HB.out⟩⟩
                        · replace c24 := Bool.eq_false_iff.mpr c24
                          subst c24
                          rw [if_neg (show ¬ (false = true) by decide)] at H
                          simp only [Option.some.injEq, Prod.mk.injEq] at H
                          obtain ⟨rfl, rfl⟩ := H
                          have p326 : 0 ≤ (x33_2 : Int) := of_decide_eq_true y0_9
                          have q326 : x33_2 < (y322.length : Int) := of_decide_eq_true y0_9
                          obtain ⟨ad326, e326, hx326_0⟩ := Kd.at_string HR325.out x33_2 p326 q326
                          cases e326
                          replace hx326_0 := bx HB hx326_0
                          replace p326 := eq_true p326
                          replace q326 := eq_true q326
                          go_wp2_with (first | ((with_reducible refine gate_callee (f := 108) rfl ?_); refine gB (some 39) Tryd.func108 #[.string (rdOf ByteArray.empty y322 x33_2), .string (⟨#[124]⟩ : ByteArray)] ?_; (with_reducible refine (strings_Cut.calls (rdOf ByteArray.empty y322 x33_2) (⟨#[124]⟩ : ByteArray) t327 t328 true _ A17.out).mono ?_); rintro e w36 ⟨rfl, hb⟩; refine ⟨_, rfl, ?_⟩; replace HO_5 := sb HO_5 hb; replace HB := bs HB hb; (try clear hb); (try clear hb2); (try clear hk); (try clear hi)) | ((with_reducible refine gate_callee (f := 109) rfl ?_); refine gB (some 45) Tryd.func109 #[.string t327] ?_; (with_reducible refine (impl_Number.calls k2 t327 t330 true _ A18.out).mono ?_); rintro e w37 ⟨rfl, hb⟩; refine ⟨_, rfl, ?_⟩; replace HO_5 := sb HO_5 hb; replace HB := bs HB hb; (try clear hb); (try clear hb2); (try clear hk); (try clear hi)) | ((with_reducible refine gate_callee (f := 110) rfl ?_); refine gB (some 50) Tryd.func110 #[.string t328] ?_; (with_reducible refine (impl_TxsOf.calls k2 t328 t332 true _ A19.out).mono ?_); rintro e w38 ⟨v334, rfl, ho0, hb⟩; refine ⟨_, rfl, ?_⟩; replace HO_5 := Aside0.mk (Kd.S_elder' (sI HO_5.out) (Kd.R_base ho0) hb); have HO335 := Aside0.mk (Kd.R_lower ho0 (below_size (bI HB.out))); replace HB := bs HB hb; (try clear hb)) | (go_at_call 77; (with_reducible refine (impl_within.calls t330 (wrap64 (x6_2 + 1)) 60 false _ A23.out).mono ?_); rintro e w' ⟨rfl, ⟨nd, rfl⟩⟩))
                          go_ret2
                          exact ⟨_, y0_7, Kd.S_lower (base := wc.heap.size) y0_1 (below_size HB0.out), below_step HB0.out (bI HB.out)⟩
                      · replace c22 := Bool.eq_false_iff.mpr c22
                        subst c22
                        rw [if_neg (show ¬ (false = true) by decide)] at H
                        simp only [Option.some.injEq, Prod.mk.injEq] at H
                        obtain ⟨rfl, rfl⟩ := H
                        have p326 : 0 ≤ (x33_2 : Int) := of_decide_eq_true y0_9
                        have q326 : x33_2 < (y322.length : Int) := of_decide_eq_true y0_9
                        obtain ⟨ad326, e326, hx326_0⟩ := Kd.at_string HR325.out x33_2 p326 q326
                        cases e326
                        replace hx326_0 := bx HB hx326_0
                        replace p326 := eq_true p326
                        replace q326 := eq_true q326
                        go_wp2_with (first | ((with_reducible refine gate_callee (f := 108) rfl ?_); refine gB (some 39) Tryd.func108 #[.string (rdOf ByteArray.empty y322 x33_2), .string (⟨#[124]⟩ : ByteArray)] ?_; (with_reducible refine (strings_Cut.calls (rdOf ByteArray.empty y322 x33_2) (⟨#[124]⟩ : ByteArray) t327 t328 true _ A17.out).mono ?_); rintro e w39 ⟨rfl, hb⟩; refine ⟨_, rfl, ?_⟩; replace HO_5 := sb HO_5 hb; replace HB := bs HB hb; (try clear hb); (try clear hb2); (try clear hk); (try clear hi)) | ((with_reducible refine gate_callee (f := 109) rfl ?_); refine gB (some 45) Tryd.func109 #[.string t327] ?_; (with_reducible refine (impl_Number.calls k2 t327 t330 true _ A18.out).mono ?_); rintro e w40 ⟨rfl, hb⟩; refine ⟨_, rfl, ?_⟩; replace HO_5 := sb HO_5 hb; replace HB := bs HB hb; (try clear hb); (try clear hb2); (try clear hk); (try clear hi)) | ((with_reducible refine gate_callee (f := 110) rfl ?_); refine gB (some 50) Tryd.func110 #[.string t328] ?_; (with_reducible refine (impl_TxsOf.calls k2 t328 t332 false _ A19.out).mono ?_); rintro e w41 ⟨v334, rfl, ho0, hb⟩; refine ⟨_, rfl, ?_⟩; replace HO_5 := Aside0.mk (Kd.S_elder' (sI HO_5.out) (Kd.R_base ho0) hb); have HO335 := Aside0.mk (Kd.R_lower ho0 (below_size (bI HB.out))); replace HB := bs HB hb; (try clear hb)))
                        go_ret2
                        exact ⟨_, y0_7, Kd.S_lower (base := wc.heap.size) y0_1 (below_size HB0.out), below_step HB0.out (bI HB.out)⟩
                    · replace c21 := Bool.eq_false_iff.mpr c21
                      subst c21
                      rw [if_neg (show ¬ (false = true) by decide)] at H
                      simp only [Option.some.injEq, Prod.mk.injEq] at H
                      obtain ⟨rfl, rfl⟩ := H
                      have p326 : 0 ≤ (x33_2 : Int) := of_decide_eq_true y0_9
                      have q326 : x33_2 < (y322.length : Int) := of_decide_eq_true y0_9
                      obtain ⟨ad326, e326, hx326_0⟩ := Kd.at_string HR325.out x33_2 p326 q326
                      cases e326
                      replace hx326_0 := bx HB hx326_0
                      replace p326 := eq_true p326
                      replace q326 := eq_true q326
                      go_wp2_with (first | ((with_reducible refine gate_callee (f := 108) rfl ?_); refine gB (some 39) Tryd.func108 #[.string (rdOf ByteArray.empty y322 x33_2), .string (⟨#[124]⟩ : ByteArray)] ?_; (with_reducible refine (strings_Cut.calls (rdOf ByteArray.empty y322 x33_2) (⟨#[124]⟩ : ByteArray) t327 t328 true _ A17.out).mono ?_); rintro e w42 ⟨rfl, hb⟩; refine ⟨_, rfl, ?_⟩; replace HO_5 := sb HO_5 hb; replace HB := bs HB hb; (try clear hb); (try clear hb2); (try clear hk); (try clear hi)) | ((with_reducible refine gate_callee (f := 109) rfl ?_); refine gB (some 45) Tryd.func109 #[.string t327] ?_; (with_reducible refine (impl_Number.calls k2 t327 t330 false _ A18.out).mono ?_); rintro e w43 ⟨rfl, hb⟩; refine ⟨_, rfl, ?_⟩; replace HO_5 := sb HO_5 hb; replace HB := bs HB hb; (try clear hb); (try clear hb2); (try clear hk); (try clear hi)) | ((with_reducible refine gate_callee (f := 110) rfl ?_); refine gB (some 50) Tryd.func110 #[.string t328] ?_; (with_reducible refine (impl_TxsOf.calls k2 t328 t332 t333 _ A19.out).mono ?_); rintro e w44 ⟨v334, rfl, ho0, hb⟩; refine ⟨_, rfl, ?_⟩; replace HO_5 := Aside0.mk (Kd.S_elder' (sI HO_5.out) (Kd.R_base ho0) hb); have HO335 := Aside0.mk (Kd.R_lower ho0 (below_size (bI HB.out))); replace HB := bs HB hb; (try clear hb)))
                      go_ret2
                      exact ⟨_, y0_7, Kd.S_lower (base := wc.heap.size) y0_1 (below_size HB0.out), below_step HB0.out (bI HB.out)⟩
                  · replace c20 := Bool.eq_false_iff.mpr c20
                    subst c20
                    rw [if_neg (show ¬ (false = true) by decide)] at H
                    simp only [Option.some.injEq, Prod.mk.injEq] at H
                    obtain ⟨rfl, rfl⟩ := H
                    have p326 : 0 ≤ (x33_2 : Int) := of_decide_eq_true y0_9
                    have q326 : x33_2 < (y322.length : Int) := of_decide_eq_true y0_9
                    obtain ⟨ad326, e326, hx326_0⟩ := Kd.at_string HR325.out x33_2 p326 q326
                    cases e326
                    replace hx326_0 := bx HB hx326_0
                    replace p326 := eq_true p326
                    replace q326 := eq_true q326
                    go_wp2_with (first | ((with_reducible refine gate_callee (f := 108) rfl ?_); refine gB (some 39) Tryd.func108 #[.string (rdOf ByteArray.empty y322 x33_2), .string (⟨#[124]⟩ : ByteArray)] ?_; (with_reducible refine (strings_Cut.calls (rdOf ByteArray.empty y322 x33_2) (⟨#[124]⟩ : ByteArray) t327 t328 false _ A17.out).mono ?_); rintro e w45 ⟨rfl, hb⟩; refine ⟨_, rfl, ?_⟩; replace HO_5 := sb HO_5 hb; replace HB := bs HB hb; (try clear hb); (try clear hb2); (try clear hk); (try clear hi)) | ((with_reducible refine gate_callee (f := 109) rfl ?_); refine gB (some 45) Tryd.func109 #[.string t327] ?_; (with_reducible refine (impl_Number.calls k2 t327 t330 t331 _ A18.out).mono ?_); rintro e w46 ⟨rfl, hb⟩; refine ⟨_, rfl, ?_⟩; replace HO_5 := sb HO_5 hb; replace HB := bs HB hb; (try clear hb); (try clear hb2); (try clear hk); (try clear hi)) | ((with_reducible refine gate_callee (f := 110) rfl ?_); refine gB (some 50) Tryd.func110 #[.string t328] ?_; (with_reducible refine (impl_TxsOf.calls k2 t328 t332 t333 _ A19.out).mono ?_); rintro e w47 ⟨v334, rfl, ho0, hb⟩; refine ⟨_, rfl, ?_⟩; replace HO_5 := Aside0.mk (Kd.S_elder' (sI HO_5.out) (Kd.R_base ho0) hb); have HO335 := Aside0.mk (Kd.R_lower ho0 (below_size (bI HB.out))); replace HB := bs HB hb; (try clear hb)))
                    go_ret2
                    exact ⟨_, y0_7, Kd.S_lower (base := wc.heap.size) y0_1 (below_size HB0.out), below_step HB0.out (bI HB.out)⟩
                · rw [if_neg c14] at H
                  have c14b0 : decide (x33_2 < (y322.length : Int)) = false := decide_eq_false c14
                  clear c14
                  simp only [Option.some.injEq, Prod.mk.injEq] at H
                  obtain ⟨rfl, rfl⟩ := H
                  go_wp2
                  go_ret2
                  exact ⟨_, y0_7, Kd.S_lower (base := wc.heap.size) (by (with_reducible repeat (first | apply Kd.S_alloc | apply Kd.S_drewN | apply Kd.S_drew)); exact HO_5.out) (below_size HB0.out), below_step HB0.out (bI HB.out)⟩
          · rw [if_neg c11] at H
            exact absurd H (by simp)

/-! ### impl_NameOk: function 78 -/
def impl_NameOk.f (k : Nat) (a0 : ByteArray) : Option (Bool) := (impl_Steps.f k a0).bind fun bt340 => (some bt340.2)
theorem impl_NameOk.mono : ∀ a0 k, LeO (impl_NameOk.f k a0) (impl_NameOk.f (k + 1) a0) := by
  intro a0 k
  unfold impl_NameOk.f
  repeat' first
      | (with_reducible exact impl_Steps.mono _ _)
      | (with_reducible exact LeO.refl _)
      | (with_reducible exact LeO.none _)
      | (with_reducible refine LeO.ite ?_ ?_)
      | (with_reducible refine LeO.bind ?_ (fun _ => ?_))
      | exact impl_Steps.mono _ _
      | exact LeO.none _
      | refine LeO.ite ?_ ?_
      | refine LeO.bind ?_ (fun _ => ?_)
set_option maxHeartbeats 8000000 in
set_option maxRecDepth 100000 in
theorem impl_NameOk.calls (k : Nat) (a0 : ByteArray) (r : Bool) (w : World) (h : impl_NameOk.f k a0 = some r) (hG : Glob w := by exact gG HG HB) :
    Calls Tryd.prog 78 #[.string a0] w fun e w' => e = .returned (.bool r) ∧ Below w.heap.size w w' := by
  have HG := Aside0.mk hG
  clear hG
  have HB := Aside0.mk (Below.refl w.heap.size w)
  have H : ((impl_Steps.f k a0).bind fun bt340 => (some bt340.2)) = some r := h
  clear h
  obtain ⟨⟨t340, t341⟩, A20, H⟩ := Option.bind_eq_some_iff.mp H
  try dsimp only at H
  have A2 := Aside0.mk A20
  clear A20
  obtain rfl := Option.some.inj H
  go_enter Tryd.func78, Tryd.ntmps78
  go_wp2_with (first | ((with_reducible refine gate_callee (f := 67) rfl ?_); refine gB (some 7) Tryd.func67 #[.string a0] ?_; (with_reducible refine (impl_Steps.calls k a0 t340 t341 _ A2.out).mono ?_); rintro e w3 ⟨v342, rfl, ho0, hb⟩; refine ⟨_, rfl, ?_⟩; have HO343 := Aside0.mk (Kd.S_lower ho0 (below_size (bI HB.out))); replace HB := bs HB hb; (try clear hb); (try clear ho0)))
  go_ret
  exact ⟨y0_7, bI HB.out⟩

/-! ### impl_ViewOf: function 79 -/
def impl_ViewOf.f (k : Nat) (a0 : ByteArray) : Option (Int) := (impl_Steps.f k a0).bind fun bt344 => (if (bt344.1.length : Int) = 0 then (some 0) else (if 0 ≤ (wrap64 ((bt344.1.length : Int) - 1)) then (if (wrap64 ((bt344.1.length : Int) - 1)) < (bt344.1.length : Int) then (some ((rd_T95 bt344.1 (wrap64 ((bt344.1.length : Int) - 1))).f0)) else (none)) else (none)))
theorem impl_ViewOf.mono : ∀ a0 k, LeO (impl_ViewOf.f k a0) (impl_ViewOf.f (k + 1) a0) := by
  intro a0 k
  unfold impl_ViewOf.f
  repeat' first
      | (with_reducible exact impl_Steps.mono _ _)
      | (with_reducible exact LeO.refl _)
      | (with_reducible exact LeO.none _)
      | (with_reducible refine LeO.ite ?_ ?_)
      | (with_reducible refine LeO.bind ?_ (fun _ => ?_))
      | exact impl_Steps.mono _ _
      | exact LeO.none _
      | refine LeO.ite ?_ ?_
      | refine LeO.bind ?_ (fun _ => ?_)
set_option maxHeartbeats 8000000 in
set_option maxRecDepth 100000 in
theorem impl_ViewOf.calls (k : Nat) (a0 : ByteArray) (r : Int) (w : World) (h : impl_ViewOf.f k a0 = some r) (hG : Glob w := by exact gG HG HB) :
    Calls Tryd.prog 79 #[.string a0] w fun e w' => e = .returned (.int .i64 r) ∧ Below w.heap.size w w' := by
  have HG := Aside0.mk hG
  clear hG
  have HB := Aside0.mk (Below.refl w.heap.size w)
  have H : ((impl_Steps.f k a0).bind fun bt344 => (if (bt344.1.length : Int) = 0 then (some 0) else (if 0 ≤ (wrap64 ((bt344.1.length : Int) - 1)) then (if (wrap64 ((bt344.1.length : Int) - 1)) < (bt344.1.length : Int) then (some ((rd_T95 bt344.1 (wrap64 ((bt344.1.length : Int) - 1))).f0)) else (none)) else (none)))) = some r := h
  clear h
  obtain ⟨⟨t344, t345⟩, A20, H⟩ := Option.bind_eq_some_iff.mp H
  try dsimp only at H
  have A2 := Aside0.mk A20
  clear A20
  by_cases c3 : (t344.length : Int) = 0
  · rw [if_pos c3] at H
    have c3b0 : ((t344.length : Int) == 0) = true := beq_iff_eq.mpr c3
    have c3b1 : ((t344.length : Int) != 0) = false := bne_eq_false_iff_eq.mpr c3
    clear c3
    obtain rfl := Option.some.inj H
    go_enter Tryd.func79, Tryd.ntmps79
    go_wp2_with (first | ((with_reducible refine gate_callee (f := 67) rfl ?_); refine gB (some 7) Tryd.func67 #[.string a0] ?_; (with_reducible refine (impl_Steps.calls k a0 t344 t345 _ A2.out).mono ?_); rintro e w4 ⟨v346, rfl, ho0, hb⟩; refine ⟨_, rfl, ?_⟩; have HO347 := Aside0.mk (Kd.S_lower ho0 (below_size (bI HB.out))); replace HB := bs HB hb; (try clear hb); (try clear ho0); obtain ⟨Ao5, co5, eo5⟩ := Kd.S_slice HO347.out; subst eo5))
    go_ret
    exact ⟨y0_7, bI HB.out⟩
  · rw [if_neg c3] at H
    have c3b0 : ((t344.length : Int) == 0) = false := beq_eq_false_iff_ne.mpr c3
    have c3b1 : ((t344.length : Int) != 0) = true := bne_iff_ne.mpr c3
    have c3b2 : ¬ (t344 = []) := fun h_ => c3 (by rw [h_]; rfl)
    obtain ⟨ji6, hji6⟩ : ∃ j_ : Int, (wrap64 ((t344.length : Int) - 1)) = j_ := ⟨_, rfl⟩
    replace H : (if 0 ≤ (ji6) then (if (ji6) < (t344.length : Int) then (some ((rd_T95 t344 (ji6)).f0)) else (none)) else (none)) = some r := by first | (rw [hji6] at H; exact H) | (simp only [hji6] at H ⊢; exact H)
    (try rw [hji6] at A2)
    have hji6w : (IntKind.i64.wrap ((t344.length : Int) - 1)) = ji6 := (i64_w _).trans hji6
    by_cases c7 : 0 ≤ (ji6)
    · rw [if_pos c7] at H
      have c7b0 : decide (0 ≤ (ji6)) = true := decide_eq_true c7
      clear c7
      by_cases c8 : (ji6) < (t344.length : Int)
      rotate_left
      · rw [if_neg c8] at H
        exact absurd H (by simp)
      rw [if_pos c8] at H
      have c8b0 : decide ((ji6) < (t344.length : Int)) = true := decide_eq_true c8
      clear c8
      obtain rfl := Option.some.inj H
      go_enter Tryd.func79, Tryd.ntmps79
      go_wp2_with (first | ((with_reducible refine gate_callee (f := 67) rfl ?_); refine gB (some 7) Tryd.func67 #[.string a0] ?_; (with_reducible refine (impl_Steps.calls k a0 t344 t345 _ A2.out).mono ?_); rintro e w9 ⟨v346, rfl, ho0, hb⟩; refine ⟨_, rfl, ?_⟩; have HO347 := Aside0.mk (Kd.S_lower ho0 (below_size (bI HB.out))); replace HB := bs HB hb; (try clear hb); (try clear ho0); obtain ⟨Ao10, co10, eo10⟩ := Kd.S_slice HO347.out; subst eo10; have p348 : 0 ≤ ((ji6) : Int) := of_decide_eq_true y0_9; have q348 : (ji6) < (t344.length : Int) := of_decide_eq_true y0_9; obtain ⟨ad348, A348_1, c348_1, e348, hx348_0, hx348_1, hl348_1, hi348_1⟩ := at_T95 (Kd.S_reads' HO347.out).2.2 (ji6) p348 q348; cases e348; obtain ⟨ce348, hce348, hMe348, hcc348⟩ := Kd.S_get HO347.out z95 (ji6) p348 (by first | exact q348 | exact of_decide_eq_true y0_9 | (have e_ := (Kd.S_reads' HO347.out).1; omega)); obtain ⟨ve348_1, rfl, ge348_1⟩ := k95_openM hMe348; have hv348_1 := hcc348 1 _ rfl; rw [add_field _ _ 1 (by omega)] at hv348_1; replace hv348_1 := Option.some.inj (hv348_1.symm.trans hx348_1); rw [hv348_1] at ge348_1; have HL348_1 := Aside0.mk (show Kd.R k150 150 _ _ _ _ ((rd_T95 t344 (ji6)).f1) from ge348_1); clear hv348_1 ge348_1; clear hcc348 hce348; have HR348_1 := Aside0.mk hi348_1; have HC348_1 := Aside0.mk hl348_1; clear hi348_1 hl348_1; replace p348 := eq_true p348; replace q348 := eq_true q348))
      go_ret
      exact ⟨by first | rfl | (simp [errW_none, errW_some] <;> rfl) | (simp only [← hji6]; first | rfl | (simp [errW_none, errW_some] <;> rfl)) | (simp [*, errW_none, errW_some] <;> rfl), bI HB.out⟩
    · rw [if_neg c7] at H
      exact absurd H (by simp)

end Go.Proofs.YtcmldmlmhpfjhaaDoor.PFnExactQcBytes
