-- By a program of this session, out of the translation (the print of the kit, with turns of its own). Lean checks it.
import Derived.Test.YtemjmefacifdeaaGreatDoorPFnExactBlockNewx0
import Derived.Test.YtemjmefacifdeaaGreatDoorPFnExactBlockNewx10
import Derived.Test.YtemjmefacifdeaaGreatDoorPFnExactBlockNewx11
namespace Go.Proofs.YtemjmefacifdeaaGreatDoor.PFnExactBlockNew
open Go.RowKit Go.Proofs.YtemjmefacifdeaaGreatDoorW.PrintWords Go.Proofs.YtemjmefacifdeaaGreatDoorW.PrintLast Go.Proofs.YtemjmefacifdeaaGreatDoorW.PrintMore
attribute [local go_sem] max2_int min2_int max_two min_two max_three min_three max_four min_four   -- for this text's walks alone
set_option linter.unusedVariables false
set_option linter.unusedSimpArgs false

/-! ### impl_TxsText: function 112 -/
def impl_TxsText.l0 : Nat → List ByteArray → List (S99) → Int → Int → Option (ByteArray)
 | 0, _, _, _, _ => none
 | k + 1, x3, x6, x7, x8 => if x8 < x7 then (if 0 ≤ x8 then (if x8 < (x6.length : Int) then ((impl_TxOk.f ((rd_T99 x6 x8).f0) ((rd_T99 x6 x8).f1) ((rd_T99 x6 x8).f2) ((rd_T99 x6 x8).f3)).bind fun t363 => (if t363 = true then ((impl_TxText.f ((rd_T99 x6 x8).f0) ((rd_T99 x6 x8).f1) ((rd_T99 x6 x8).f2) ((rd_T99 x6 x8).f3)).bind fun t364 => (if x3.length < 8796093022208 then (impl_TxsText.l0 k (x3 ++ [t364]) x6 x7 (wrap64 (x8 + 1))) else (none))) else (some (⟨#[]⟩ : ByteArray)))) else (none)) else (none)) else ((strings_Join.f x3 (⟨#[44]⟩ : ByteArray)).bind fun t360 => (some t360))
def impl_TxsText.f (k : Nat) (l0 : List (S99)) : Option (ByteArray) := impl_TxsText.l0 k ([] : List ByteArray) l0 (l0.length : Int) 0
theorem impl_TxsText.mono_l : ∀ k, (∀ y0 y1 y2 y3, LeO (impl_TxsText.l0 k y0 y1 y2 y3) (impl_TxsText.l0 (k + 1) y0 y1 y2 y3))
 | 0 => fun _ _ _ _ r h => by simp [impl_TxsText.l0] at h
 | k + 1 => by
  have ih0 := impl_TxsText.mono_l k
  intro y0 y1 y2 y3
  unfold impl_TxsText.l0
  repeat' first | (with_reducible exact ih0 _ _ _ _) | (with_reducible exact LeO.refl _) | (with_reducible exact LeO.none _) | (with_reducible refine LeO.ite ?_ ?_) | (with_reducible refine LeO.bind ?_ (fun _ => ?_))
theorem impl_TxsText.mono : ∀ a0 k, LeO (impl_TxsText.f k a0) (impl_TxsText.f (k + 1) a0) := by
 intro a0 k
 have ih0 := impl_TxsText.mono_l k
 unfold impl_TxsText.f
 repeat' first | (with_reducible exact ih0 _ _ _ _) | (with_reducible exact LeO.refl _) | (with_reducible exact LeO.none _) | (with_reducible refine LeO.ite ?_ ?_) | (with_reducible refine LeO.bind ?_ (fun _ => ?_))
set_option maxHeartbeats 8000000 in
set_option maxRecDepth 100000 in
theorem impl_TxsText.calls (k : Nat) (A0 : Option Addr) (c0 : Nat) (l0 : List (S99)) (r : ByteArray) (w : World) (hr0 : Kd.C k99 w A0 l0.length l0) (hc0 : l0.length ≤ c0) (h : impl_TxsText.f k l0 = some r) (hG : Glob w := by exact gG HG HB) :
  Calls Tryz.prog 112 #[.slice A0 l0.length c0] w fun e w' => e = .returned (.string r) ∧ Below w.heap.size w w' := by
 have HG := Aside0.mk hG; clear hG; have hu99 := Tryz.underlying99; have HR0 := Aside0.mk hr0; have HC0 := Aside0.mk hc0; clear hr0 hc0; have HB := Aside0.mk (Below.refl w.heap.size w); have H : (impl_TxsText.l0 k ([] : List ByteArray) l0 (l0.length : Int) 0) = some r := h; clear h; have H' := Aside0.mk H; clear H
 go_enter Tryz.func112, Tryz.ntmps112
 go_wp2
 go_loopg [3, 8] k (fun kq v3 v8 w' => ∃ (x3_1 : List ByteArray) (x8_1 : Int), v8 = .int .i64 x8_1 ∧ Aside0 (impl_TxsText.l0 kq x3_1 l0 (l0.length : Int) x8_1 = some r) ∧ Aside0 (kq ≤ k) ∧ Aside0 (Kd.R Kd.string 9 w' w.heap.size (fun _ => True) v3 x3_1) ∧ Aside0 (Below w.heap.size w w'))
 case atStart => exact ⟨(([] : List ByteArray)), (0), y0_13, H', ⟨Nat.le_refl _⟩, ⟨y0_2⟩, ⟨bI HB.out⟩⟩
 case round =>
  clear H'
  try clear c1
  obtain ⟨x3_1, x8_1, rfl, HA, HK1, HO_3, HB⟩ := hrel; cases gk with
  | zero => exact absurd HA.out (by simp [impl_TxsText.l0])
  | succ k1 =>
   have H := HA.out; clear HA
   simp only [impl_TxsText.l0] at H
   by_cases c2 : x8_1 < (l0.length : Int)
   ·
    rw [if_pos c2] at H
    have c2b0 : decide (x8_1 < (l0.length : Int)) = true := decide_eq_true c2; clear c2
    by_cases c3 : 0 ≤ x8_1
    rotate_left
    ·
     rw [if_neg c3] at H
     exact absurd H (by simp)
    rw [if_pos c3] at H
    have c3b0 : decide (0 ≤ x8_1) = true := decide_eq_true c3; clear c3
    by_cases c4 : x8_1 < (l0.length : Int)
    rotate_left
    ·
     rw [if_neg c4] at H
     exact absurd H (by simp)
    rw [if_pos c4] at H
    have c4b0 : decide (x8_1 < (l0.length : Int)) = true := decide_eq_true c4; clear c4; obtain ⟨t363, A50, H⟩ := Option.bind_eq_some_iff.mp H
    try dsimp only at H
    have A5 := Aside0.mk A50; clear A50
    by_cases c6 : t363 = true
    ·
     subst c6
     rw [if_pos rfl] at H
     obtain ⟨t364, A70, H⟩ := Option.bind_eq_some_iff.mp H
     try dsimp only at H
     have A7 := Aside0.mk A70; clear A70
     by_cases c8 : x3_1.length < 8796093022208
     rotate_left
     ·
      rw [if_neg c8] at H
      exact absurd H (by simp)
     rw [if_pos c8] at H
     have LMc8 := Aside0.mk c8; clear c8; obtain ⟨y365, hy365⟩ : ∃ y_ : List ByteArray, y_ = (x3_1 ++ [t364]) := ⟨_, rfl⟩
     replace H : (impl_TxsText.l0 k1 y365 l0 (l0.length : Int) (wrap64 (x8_1 + 1))) = some r := by first | (rw [hy365]; with_reducible exact H) | (have H2_ := (Option.bind_some _ _).symm.trans H; rw [hy365]; with_reducible exact H2_) | (have H2_ := (Option.bind_some _ _).symm.trans H; with_reducible exact H2_) | with_reducible exact H | (rw [hy365]; exact H) | exact H
     have Ny365 := Aside0.mk hy365; clear hy365; have H' := Aside0.mk H; clear H; have p361 : 0 ≤ (x8_1 : Int) := of_decide_eq_true y0_12; have q361 : x8_1 < (l0.length : Int) := of_decide_eq_true y0_12; obtain ⟨ad361, e361, hx361_0, hx361_1, hx361_2, hx361_3⟩ := at_T99 HR0.out x8_1 p361 q361; cases e361; replace hx361_0 := bx HB hx361_0; replace hx361_1 := bx HB hx361_1; replace hx361_2 := bx HB hx361_2; replace hx361_3 := bx HB hx361_3; replace p361 := eq_true p361; replace q361 := eq_true q361
     go_wp2_with (first | ((with_reducible refine gd 5 ?_); refine bA 5 #[.int .i64 0, .int .i64 0, .int .i64 0, .int .i64 0] 99 ?_; intro gb362 hg w9 hbox hb; replace HO_3 := rb HO_3 hb; have BK362 := Aside0.mk (hbox); have GW362 := bg hg HB; have GJ362 := gi GW362; have GE362 := GW362; replace HB := bs HB hb; clear hb hbox hg; obtain ⟨hcz10_0, hcz10_1, hcz10_2, hcz10_3, hfz10_0, hfz10_1, hfz10_2, hfz10_3⟩ := cs4 BK362) | ((with_reducible refine gate_callee (f := 110) rfl ?_); refine gB (some 13) Tryz.func110 #[.agg #[.int .i64 ((rd_T99 l0 x8_1).f0), .int .i64 ((rd_T99 l0 x8_1).f1), .int .i64 ((rd_T99 l0 x8_1).f2), .int .i64 ((rd_T99 l0 x8_1).f3)]] ?_; (with_reducible refine (impl_TxOk.calls ((rd_T99 l0 x8_1).f0) ((rd_T99 l0 x8_1).f1) ((rd_T99 l0 x8_1).f2) ((rd_T99 l0 x8_1).f3) true _ A5.out).mono ?_); rintro e w11 ⟨rfl, hb⟩; refine ⟨_, rfl, ?_⟩; replace HO_3 := Aside0.mk (Kd.R_below (rI (Kd.R_mono (Kd.R_far (p := ⟨gb362, 3, none⟩) (Kd.R_far (p := ⟨gb362, 2, none⟩) (Kd.R_far (p := ⟨gb362, 1, none⟩) (Kd.R_far (p := ⟨gb362, 0, none⟩) (Kd.R_types HO_3.out BK362.out (by decide)) (fun _ hk => hk.2) (.int .i64 ((rd_T99 l0 x8_1).f0))) (fun _ hk => hk.2) (.int .i64 ((rd_T99 l0 x8_1).f1))) (fun _ hk => hk.2) (.int .i64 ((rd_T99 l0 x8_1).f2))) (fun _ hk => hk.2) (.int .i64 ((rd_T99 l0 x8_1).f3))) (fun _ h_ => h_.1))) hb); replace BK362 := bp BK362 hb #[.int .i64 ((rd_T99 l0 x8_1).f0), .int .i64 ((rd_T99 l0 x8_1).f1), .int .i64 ((rd_T99 l0 x8_1).f2), .int .i64 ((rd_T99 l0 x8_1).f3)]; replace HB := bs HB hb; (try clear hb); (try clear hb2); (try clear hk); (try clear hi); obtain ⟨hcz12_0, hcz12_1, hcz12_2, hcz12_3, hfz12_0, hfz12_1, hfz12_2, hfz12_3⟩ := cs4 BK362) | ((with_reducible refine gate_callee (f := 135) rfl ?_); refine gB (some 17) Tryz.func135 #[.agg #[.int .i64 ((rd_T99 l0 x8_1).f0), .int .i64 ((rd_T99 l0 x8_1).f1), .int .i64 ((rd_T99 l0 x8_1).f2), .int .i64 ((rd_T99 l0 x8_1).f3)]] ?_; (with_reducible refine (impl_TxText.calls ((rd_T99 l0 x8_1).f0) ((rd_T99 l0 x8_1).f1) ((rd_T99 l0 x8_1).f2) ((rd_T99 l0 x8_1).f3) t364 _ A7.out).mono ?_); rintro e w13 ⟨rfl, hb⟩; refine ⟨_, rfl, ?_⟩; replace HO_3 := rb HO_3 hb; replace BK362 := bk BK362 hb; replace HB := bs HB hb; (try clear hb); (try clear hb2); (try clear hk); (try clear hi)) | ((with_reducible refine gate_builtin (b := .append) (xs := #[.tmp 15, .tmp 18]) rfl ?_); at_builtin; refine Kd.R_append Kd.string (w0 := w) w.heap.size rfl (.tmp 15) (.tmp 18) 69 9 (.string ⟨#[]⟩) 16 rfl Tryz.underlying69 info9 rfl (by decide) (by omega) u3 x3_1 t364 [.string t364] (fun _ => True) (fun _ => False) rfl rfl ?aP (fun _ hk => hk.elim) ?aF ?aO ?aB ?aS ?aL ?_; (case aP => exact rfl); (case aB => exact (bI HB.out)); (case aF => exact (fun _ _ => trivial)); (case aO => exact (rI HO_3.out)); (case aS => exact (below_size (bI HB.out))); (case aL => have := LMc8.out; omega); intro v366 w14 ho hb hg hat; rw [← Ny365.out] at ho; have n0_ := bn BK362 hg (Kd.R_ne HO_3.out BK362.out (by decide)); have n1_ := Aside0.mk (hb); have n2_ := Aside0.mk (ho); clear BK362; clear HB; clear HO_3; have BK362 := n0_; have HB := n1_; have HO367 := n2_; clear n0_ n1_ n2_; clear ho hb hg hat))
     go_roundg k1
     case measure => have := HK1.out; omega
     case rel => exact ⟨(y365), (wrap64 (x8_1 + 1)), y0_13, H', ⟨y0_18⟩, ⟨by (with_reducible repeat (first | apply Kd.R_alloc | apply Kd.R_drewN | apply Kd.R_drew)); exact HO367.out⟩, ⟨bI HB.out⟩⟩
    replace c6 := Bool.eq_false_iff.mpr c6; subst c6
    rw [if_neg (show ¬ (false = true) by decide)] at H
    obtain rfl := Option.some.inj H; have p361 : 0 ≤ (x8_1 : Int) := of_decide_eq_true y0_12; have q361 : x8_1 < (l0.length : Int) := of_decide_eq_true y0_12; obtain ⟨ad361, e361, hx361_0, hx361_1, hx361_2, hx361_3⟩ := at_T99 HR0.out x8_1 p361 q361; cases e361; replace hx361_0 := bx HB hx361_0; replace hx361_1 := bx HB hx361_1; replace hx361_2 := bx HB hx361_2; replace hx361_3 := bx HB hx361_3; replace p361 := eq_true p361; replace q361 := eq_true q361
    go_wp2_with (first | ((with_reducible refine gd 5 ?_); refine bA 5 #[.int .i64 0, .int .i64 0, .int .i64 0, .int .i64 0] 99 ?_; intro gb362 hg w15 hbox hb; replace HO_3 := rb HO_3 hb; have BK362 := Aside0.mk (hbox); have GW362 := bg hg HB; have GJ362 := gi GW362; have GE362 := GW362; replace HB := bs HB hb; clear hb hbox hg; obtain ⟨hcz16_0, hcz16_1, hcz16_2, hcz16_3, hfz16_0, hfz16_1, hfz16_2, hfz16_3⟩ := cs4 BK362) | ((with_reducible refine gate_callee (f := 110) rfl ?_); refine gB (some 13) Tryz.func110 #[.agg #[.int .i64 ((rd_T99 l0 x8_1).f0), .int .i64 ((rd_T99 l0 x8_1).f1), .int .i64 ((rd_T99 l0 x8_1).f2), .int .i64 ((rd_T99 l0 x8_1).f3)]] ?_; (with_reducible refine (impl_TxOk.calls ((rd_T99 l0 x8_1).f0) ((rd_T99 l0 x8_1).f1) ((rd_T99 l0 x8_1).f2) ((rd_T99 l0 x8_1).f3) false _ A5.out).mono ?_); rintro e w17 ⟨rfl, hb⟩; refine ⟨_, rfl, ?_⟩; replace HO_3 := Aside0.mk (Kd.R_below (rI (Kd.R_mono (Kd.R_far (p := ⟨gb362, 3, none⟩) (Kd.R_far (p := ⟨gb362, 2, none⟩) (Kd.R_far (p := ⟨gb362, 1, none⟩) (Kd.R_far (p := ⟨gb362, 0, none⟩) (Kd.R_types HO_3.out BK362.out (by decide)) (fun _ hk => hk.2) (.int .i64 ((rd_T99 l0 x8_1).f0))) (fun _ hk => hk.2) (.int .i64 ((rd_T99 l0 x8_1).f1))) (fun _ hk => hk.2) (.int .i64 ((rd_T99 l0 x8_1).f2))) (fun _ hk => hk.2) (.int .i64 ((rd_T99 l0 x8_1).f3))) (fun _ h_ => h_.1))) hb); replace BK362 := bp BK362 hb #[.int .i64 ((rd_T99 l0 x8_1).f0), .int .i64 ((rd_T99 l0 x8_1).f1), .int .i64 ((rd_T99 l0 x8_1).f2), .int .i64 ((rd_T99 l0 x8_1).f3)]; replace HB := bs HB hb; (try clear hb); (try clear hb2); (try clear hk); (try clear hi)))
    go_ret
    exact ⟨y0_10, bI HB.out⟩
   rw [if_neg c2] at H
   have c2b0 : decide (x8_1 < (l0.length : Int)) = false := decide_eq_false c2; clear c2; obtain ⟨t360, A180, H⟩ := Option.bind_eq_some_iff.mp H
   try dsimp only at H
   have A18 := Aside0.mk A180; clear A180; obtain rfl := Option.some.inj H; obtain ⟨Ao19, co19, eo19⟩ := Kd.R_slice HO_3.out; subst eo19
   go_wp2_with (first | ((with_reducible refine gate_callee (f := 136) rfl ?_); refine gB (some 22) Tryz.func136 #[.slice Ao19 x3_1.length co19, .string (⟨#[44]⟩ : ByteArray)] ?_; (with_reducible refine (strings_Join.calls _ _ x3_1 (⟨#[44]⟩ : ByteArray) t360 _ ?side1 ?side2 A18.out).mono ?_); (case side1 => repeat (first | exact (Kd.R_reads' HO_3.out).2.2 | (with_reducible refine Kd.C_alloc ?_ _) | (with_reducible refine Kd.C_drewN ?_ _) | (with_reducible refine Kd.C_drew ?_))); (case side2 => exact (Kd.R_reads' HO_3.out).2.1); rintro e w20 ⟨rfl, hb⟩; refine ⟨_, rfl, ?_⟩; replace HO_3 := rb HO_3 hb; replace HB := bs HB hb; (try clear hb); (try clear hb2); (try clear hk); (try clear hi)))
   go_ret
   exact ⟨y0_10, bI HB.out⟩

/-! ### impl_NameOf: function 82 -/
def impl_NameOf.l0 : Nat → ByteArray → Int → List (S99) → List (S99) → Int → Int → Option (ByteArray)
 | 0, _, _, _, _, _, _ => none
 | k + 1, x0, x1, x2, x10, x11, x12 => if x12 < x11 then (if 0 ≤ x12 then (if x12 < (x10.length : Int) then ((impl_TxOk.f ((rd_T99 x10 x12).f0) ((rd_T99 x10 x12).f1) ((rd_T99 x10 x12).f2) ((rd_T99 x10 x12).f3)).bind fun t370 => (if t370 = true then (impl_NameOf.l0 k x0 x1 x2 x10 x11 (wrap64 (x12 + 1))) else (some (⟨#[]⟩ : ByteArray)))) else (none)) else (none)) else (if x0.size + 1 ≤ 9223372036854775807 then ((impl_Digits.f x1).bind fun t371 => (if (x0 ++ (⟨#[47]⟩ : ByteArray)).size + t371.size ≤ 9223372036854775807 then (if ((x0 ++ (⟨#[47]⟩ : ByteArray)) ++ t371).size + 1 ≤ 9223372036854775807 then ((impl_TxsText.f k x2).bind fun t372 => (if (((x0 ++ (⟨#[47]⟩ : ByteArray)) ++ t371) ++ (⟨#[124]⟩ : ByteArray)).size + t372.size ≤ 9223372036854775807 then (if (x2.length : Int) > 2 then (some (⟨#[]⟩ : ByteArray)) else ((impl_NameOk.f k ((((x0 ++ (⟨#[47]⟩ : ByteArray)) ++ t371) ++ (⟨#[124]⟩ : ByteArray)) ++ t372)).bind fun t373 => (if t373 = true then (some ((((x0 ++ (⟨#[47]⟩ : ByteArray)) ++ t371) ++ (⟨#[124]⟩ : ByteArray)) ++ t372)) else (some (⟨#[]⟩ : ByteArray))))) else (none))) else (none)) else (none))) else (none))
def impl_NameOf.f (k : Nat) (a0 : ByteArray) (a1 : Int) (l2 : List (S99)) : Option (ByteArray) := impl_NameOf.l0 k a0 a1 l2 l2 (l2.length : Int) 0
theorem impl_NameOf.mono_l : ∀ k, (∀ y0 y1 y2 y3 y4 y5, LeO (impl_NameOf.l0 k y0 y1 y2 y3 y4 y5) (impl_NameOf.l0 (k + 1) y0 y1 y2 y3 y4 y5))
 | 0 => fun _ _ _ _ _ _ r h => by simp [impl_NameOf.l0] at h
 | k + 1 => by
  have ih0 := impl_NameOf.mono_l k
  intro y0 y1 y2 y3 y4 y5
  unfold impl_NameOf.l0
  repeat' first | (with_reducible exact ih0 _ _ _ _ _ _) | (with_reducible exact impl_NameOk.mono _ _) | (with_reducible exact impl_TxsText.mono _ _) | (with_reducible exact LeO.refl _) | (with_reducible exact LeO.none _) | (with_reducible refine LeO.ite ?_ ?_) | (with_reducible refine LeO.bind ?_ (fun _ => ?_))
theorem impl_NameOf.mono : ∀ a0 a1 a2 k, LeO (impl_NameOf.f k a0 a1 a2) (impl_NameOf.f (k + 1) a0 a1 a2) := by
 intro a0 a1 a2 k
 have ih0 := impl_NameOf.mono_l k
 unfold impl_NameOf.f
 repeat' first | (with_reducible exact ih0 _ _ _ _ _ _) | (with_reducible exact impl_NameOk.mono _ _) | (with_reducible exact impl_TxsText.mono _ _) | (with_reducible exact LeO.refl _) | (with_reducible exact LeO.none _) | (with_reducible refine LeO.ite ?_ ?_) | (with_reducible refine LeO.bind ?_ (fun _ => ?_))
set_option maxHeartbeats 8000000 in
set_option maxRecDepth 100000 in
theorem impl_NameOf.calls (k : Nat) (a0 : ByteArray) (a1 : Int) (A2 : Option Addr) (c2 : Nat) (l2 : List (S99)) (r : ByteArray) (w : World) (hr2 : Kd.C k99 w A2 l2.length l2) (hc2 : l2.length ≤ c2) (h : impl_NameOf.f k a0 a1 l2 = some r) (hG : Glob w := by exact gG HG HB) :
  Calls Tryz.prog 82 #[.string a0, .int .i64 a1, .slice A2 l2.length c2] w fun e w' => e = .returned (.string r) ∧ Below w.heap.size w w' := by
 have HG := Aside0.mk hG; clear hG; have hu99 := Tryz.underlying99; have HR2 := Aside0.mk hr2; have HC2 := Aside0.mk hc2; clear hr2 hc2; have HB := Aside0.mk (Below.refl w.heap.size w); have H : (impl_NameOf.l0 k a0 a1 l2 l2 (l2.length : Int) 0) = some r := h; clear h; have H' := Aside0.mk H; clear H
 go_enter Tryz.func82, Tryz.ntmps82
 go_wp2
 go_loopg [12] k (fun kq v12 w' => ∃ (x12_1 : Int), v12 = .int .i64 x12_1 ∧ Aside0 (impl_NameOf.l0 kq a0 a1 l2 l2 (l2.length : Int) x12_1 = some r) ∧ Aside0 (kq ≤ k) ∧ Aside0 (Below w.heap.size w w'))
 case atStart => exact ⟨(0), y0_13, H', ⟨Nat.le_refl _⟩, ⟨bI HB.out⟩⟩
 case round =>
  clear H'
  try clear c2
  try clear p2
  obtain ⟨x12_1, rfl, HA, HK1, HB⟩ := hrel; cases gk with
  | zero => exact absurd HA.out (by simp [impl_NameOf.l0])
  | succ k1 =>
   have H := HA.out; clear HA
   simp only [impl_NameOf.l0] at H
   by_cases c4 : x12_1 < (l2.length : Int)
   ·
    rw [if_pos c4] at H
    have c4b0 : decide (x12_1 < (l2.length : Int)) = true := decide_eq_true c4; clear c4
    by_cases c5 : 0 ≤ x12_1
    rotate_left
    ·
     rw [if_neg c5] at H
     exact absurd H (by simp)
    rw [if_pos c5] at H
    have c5b0 : decide (0 ≤ x12_1) = true := decide_eq_true c5; clear c5
    by_cases c6 : x12_1 < (l2.length : Int)
    rotate_left
    ·
     rw [if_neg c6] at H
     exact absurd H (by simp)
    rw [if_pos c6] at H
    have c6b0 : decide (x12_1 < (l2.length : Int)) = true := decide_eq_true c6; clear c6; obtain ⟨t370, A70, H⟩ := Option.bind_eq_some_iff.mp H
    try dsimp only at H
    have A7 := Aside0.mk A70; clear A70
    by_cases c8 : t370 = true
    ·
     subst c8
     rw [if_pos rfl] at H
     have H' := Aside0.mk H; clear H; have p368 : 0 ≤ (x12_1 : Int) := of_decide_eq_true y0_12; have q368 : x12_1 < (l2.length : Int) := of_decide_eq_true y0_12; obtain ⟨ad368, e368, hx368_0, hx368_1, hx368_2, hx368_3⟩ := at_T99 HR2.out x12_1 p368 q368; cases e368; replace hx368_0 := bx HB hx368_0; replace hx368_1 := bx HB hx368_1; replace hx368_2 := bx HB hx368_2; replace hx368_3 := bx HB hx368_3; replace p368 := eq_true p368; replace q368 := eq_true q368
     go_wp2_with (first | ((with_reducible refine gd 8 ?_); refine bA 8 #[.int .i64 0, .int .i64 0, .int .i64 0, .int .i64 0] 99 ?_; intro gb369 hg w9 hbox hb; have BK369 := Aside0.mk (hbox); have GW369 := bg hg HB; have GJ369 := gi GW369; have GE369 := GW369; replace HB := bs HB hb; clear hb hbox hg; obtain ⟨hcz10_0, hcz10_1, hcz10_2, hcz10_3, hfz10_0, hfz10_1, hfz10_2, hfz10_3⟩ := cs4 BK369) | ((with_reducible refine gate_callee (f := 110) rfl ?_); refine gB (some 17) Tryz.func110 #[.agg #[.int .i64 ((rd_T99 l2 x12_1).f0), .int .i64 ((rd_T99 l2 x12_1).f1), .int .i64 ((rd_T99 l2 x12_1).f2), .int .i64 ((rd_T99 l2 x12_1).f3)]] ?_; (with_reducible refine (impl_TxOk.calls ((rd_T99 l2 x12_1).f0) ((rd_T99 l2 x12_1).f1) ((rd_T99 l2 x12_1).f2) ((rd_T99 l2 x12_1).f3) true _ A7.out).mono ?_); rintro e w11 ⟨rfl, hb⟩; refine ⟨_, rfl, ?_⟩; replace BK369 := bp BK369 hb #[.int .i64 ((rd_T99 l2 x12_1).f0), .int .i64 ((rd_T99 l2 x12_1).f1), .int .i64 ((rd_T99 l2 x12_1).f2), .int .i64 ((rd_T99 l2 x12_1).f3)]; replace HB := bs HB hb; (try clear hb); (try clear hb2); (try clear hk); (try clear hi)))
     go_roundg k1
     case measure => have := HK1.out; omega
     case rel => exact ⟨(wrap64 (x12_1 + 1)), y0_13, H', ⟨y0_18⟩, ⟨bI HB.out⟩⟩
    replace c8 := Bool.eq_false_iff.mpr c8; subst c8
    rw [if_neg (show ¬ (false = true) by decide)] at H
    obtain rfl := Option.some.inj H; have p368 : 0 ≤ (x12_1 : Int) := of_decide_eq_true y0_12; have q368 : x12_1 < (l2.length : Int) := of_decide_eq_true y0_12; obtain ⟨ad368, e368, hx368_0, hx368_1, hx368_2, hx368_3⟩ := at_T99 HR2.out x12_1 p368 q368; cases e368; replace hx368_0 := bx HB hx368_0; replace hx368_1 := bx HB hx368_1; replace hx368_2 := bx HB hx368_2; replace hx368_3 := bx HB hx368_3; replace p368 := eq_true p368; replace q368 := eq_true q368
    go_wp2_with (first | ((with_reducible refine gd 8 ?_); refine bA 8 #[.int .i64 0, .int .i64 0, .int .i64 0, .int .i64 0] 99 ?_; intro gb369 hg w12 hbox hb; have BK369 := Aside0.mk (hbox); have GW369 := bg hg HB; have GJ369 := gi GW369; have GE369 := GW369; replace HB := bs HB hb; clear hb hbox hg; obtain ⟨hcz13_0, hcz13_1, hcz13_2, hcz13_3, hfz13_0, hfz13_1, hfz13_2, hfz13_3⟩ := cs4 BK369) | ((with_reducible refine gate_callee (f := 110) rfl ?_); refine gB (some 17) Tryz.func110 #[.agg #[.int .i64 ((rd_T99 l2 x12_1).f0), .int .i64 ((rd_T99 l2 x12_1).f1), .int .i64 ((rd_T99 l2 x12_1).f2), .int .i64 ((rd_T99 l2 x12_1).f3)]] ?_; (with_reducible refine (impl_TxOk.calls ((rd_T99 l2 x12_1).f0) ((rd_T99 l2 x12_1).f1) ((rd_T99 l2 x12_1).f2) ((rd_T99 l2 x12_1).f3) false _ A7.out).mono ?_); rintro e w14 ⟨rfl, hb⟩; refine ⟨_, rfl, ?_⟩; replace BK369 := bp BK369 hb #[.int .i64 ((rd_T99 l2 x12_1).f0), .int .i64 ((rd_T99 l2 x12_1).f1), .int .i64 ((rd_T99 l2 x12_1).f2), .int .i64 ((rd_T99 l2 x12_1).f3)]; replace HB := bs HB hb; (try clear hb); (try clear hb2); (try clear hk); (try clear hi)))
    go_ret
    exact ⟨y0_10, bI HB.out⟩
   rw [if_neg c4] at H
   have c4b0 : decide (x12_1 < (l2.length : Int)) = false := decide_eq_false c4; clear c4
   by_cases c15 : a0.size + 1 ≤ 9223372036854775807
   ·
    rw [if_pos c15] at H
    have c15b0 := eq_true c15; have c15b1 : decide (a0.size + 1 ≤ 9223372036854775807) = true := decide_eq_true c15
    try have c15b2 : (9223372036854775807 < a0.size + 1) = False := eq_false (Nat.not_lt.2 c15)
    obtain ⟨t371, A160, H⟩ := Option.bind_eq_some_iff.mp H
    try dsimp only at H
    have A16 := Aside0.mk A160; clear A160
    by_cases c17 : (a0 ++ (⟨#[47]⟩ : ByteArray)).size + t371.size ≤ 9223372036854775807
    rotate_left
    ·
     rw [if_neg c17] at H
     exact absurd H (by simp)
    rw [if_pos c17] at H
    have c17b0 := eq_true c17; have c17b1 : decide ((a0 ++ (⟨#[47]⟩ : ByteArray)).size + t371.size ≤ 9223372036854775807) = true := decide_eq_true c17
    try have c17b2 : (9223372036854775807 < (a0 ++ (⟨#[47]⟩ : ByteArray)).size + t371.size) = False := eq_false (Nat.not_lt.2 c17)
    (try have c17b3 : (9223372036854775807 < a0.size + 1 + t371.size) = False := eq_false (by have h_ := c17; simp only [ByteArray.size_append, ByteArray.size_extract, show (⟨#[47]⟩ : ByteArray).size = 1 from rfl] at h_; omega))
    by_cases c18 : ((a0 ++ (⟨#[47]⟩ : ByteArray)) ++ t371).size + 1 ≤ 9223372036854775807
    rotate_left
    ·
     rw [if_neg c18] at H
     exact absurd H (by simp)
    rw [if_pos c18] at H
    have c18b0 := eq_true c18; have c18b1 : decide (((a0 ++ (⟨#[47]⟩ : ByteArray)) ++ t371).size + 1 ≤ 9223372036854775807) = true := decide_eq_true c18
    try have c18b2 : (9223372036854775807 < ((a0 ++ (⟨#[47]⟩ : ByteArray)) ++ t371).size + 1) = False := eq_false (Nat.not_lt.2 c18)
    (try have c18b3 : (9223372036854775807 < a0.size + 1 + t371.size + 1) = False := eq_false (by have h_ := c18; simp only [ByteArray.size_append, ByteArray.size_extract, show (⟨#[47]⟩ : ByteArray).size = 1 from rfl] at h_; omega))
    obtain ⟨t372, A190, H⟩ := Option.bind_eq_some_iff.mp H
    try dsimp only at H
    have A19 := Aside0.mk A190; clear A190
    by_cases c20 : (((a0 ++ (⟨#[47]⟩ : ByteArray)) ++ t371) ++ (⟨#[124]⟩ : ByteArray)).size + t372.size ≤ 9223372036854775807
    rotate_left
    ·
     rw [if_neg c20] at H
     exact absurd H (by simp)
    rw [if_pos c20] at H
    have c20b0 := eq_true c20; have c20b1 : decide ((((a0 ++ (⟨#[47]⟩ : ByteArray)) ++ t371) ++ (⟨#[124]⟩ : ByteArray)).size + t372.size ≤ 9223372036854775807) = true := decide_eq_true c20
    try have c20b2 : (9223372036854775807 < (((a0 ++ (⟨#[47]⟩ : ByteArray)) ++ t371) ++ (⟨#[124]⟩ : ByteArray)).size + t372.size) = False := eq_false (Nat.not_lt.2 c20)
    (try have c20b3 : (9223372036854775807 < a0.size + 1 + t371.size + 1 + t372.size) = False := eq_false (by have h_ := c20; simp only [ByteArray.size_append, ByteArray.size_extract, show (⟨#[124]⟩ : ByteArray).size = 1 from rfl, show (⟨#[47]⟩ : ByteArray).size = 1 from rfl] at h_; omega))
    by_cases c21 : (l2.length : Int) > 2
    ·
     rw [if_pos c21] at H
     have c21b0 : decide (2 < (l2.length : Int)) = true := decide_eq_true c21
     have c21b1 : decide (2 < l2.length) = true := decide_eq_true (by omega)
     clear c21; obtain rfl := Option.some.inj H
     go_wp2_with (first | ((with_reducible refine gate_callee (f := 111) rfl ?_); refine gB (some 23) Tryz.func111 #[.int .i64 a1] ?_; (with_reducible refine (impl_Digits.calls a1 t371 _ A16.out).mono ?_); rintro e w22 ⟨rfl, hb⟩; refine ⟨_, rfl, ?_⟩; replace HB := bs HB hb; (try clear hb); (try clear hb2); (try clear hk); (try clear hi)) | ((with_reducible refine gate_callee (f := 112) rfl ?_); refine gB (some 27) Tryz.func112 #[.slice A2 l2.length c2] ?_; (with_reducible refine (impl_TxsText.calls k1 _ _ l2 t372 _ ?side1 ?side2 A19.out).mono ?_); (case side1 => exact ch HR2 HB); (case side2 => exact HC2.out); rintro e w23 ⟨rfl, hb⟩; refine ⟨_, rfl, ?_⟩; replace HB := bs HB hb; (try clear hb); (try clear hb2); (try clear hk); (try clear hi)))
     go_ret
     exact ⟨y0_10, bI HB.out⟩
    rw [if_neg c21] at H
    have c21b0 : decide (2 < (l2.length : Int)) = false := decide_eq_false c21
    have c21b1 : decide (2 < l2.length) = false := decide_eq_false (by omega)
    clear c21; obtain ⟨t373, A240, H⟩ := Option.bind_eq_some_iff.mp H
    try dsimp only at H
    have A24 := Aside0.mk A240; clear A240
    by_cases c25 : t373 = true
    ·
     subst c25
     rw [if_pos rfl] at H
     obtain rfl := Option.some.inj H
     go_wp2_with (first | ((with_reducible refine gate_callee (f := 111) rfl ?_); refine gB (some 23) Tryz.func111 #[.int .i64 a1] ?_; (with_reducible refine (impl_Digits.calls a1 t371 _ A16.out).mono ?_); rintro e w26 ⟨rfl, hb⟩; refine ⟨_, rfl, ?_⟩; replace HB := bs HB hb; (try clear hb); (try clear hb2); (try clear hk); (try clear hi)) | ((with_reducible refine gate_callee (f := 112) rfl ?_); refine gB (some 27) Tryz.func112 #[.slice A2 l2.length c2] ?_; (with_reducible refine (impl_TxsText.calls k1 _ _ l2 t372 _ ?side1 ?side2 A19.out).mono ?_); (case side1 => exact ch HR2 HB); (case side2 => exact HC2.out); rintro e w27 ⟨rfl, hb⟩; refine ⟨_, rfl, ?_⟩; replace HB := bs HB hb; (try clear hb); (try clear hb2); (try clear hk); (try clear hi)) | (go_at_call 95; (with_reducible refine (impl_NameOk.calls k1 ((((a0 ++ (⟨#[47]⟩ : ByteArray)) ++ t371) ++ (⟨#[124]⟩ : ByteArray)) ++ t372) true _ A24.out).mono ?_); rintro e w28 ⟨rfl, hb⟩; replace HB := bs HB hb; (try clear hb); (try clear hb2); (try clear hk); (try clear hi)))
     go_ret
     exact ⟨y0_10, bI HB.out⟩
    replace c25 := Bool.eq_false_iff.mpr c25; subst c25
    rw [if_neg (show ¬ (false = true) by decide)] at H
    obtain rfl := Option.some.inj H
    go_wp2_with (first | ((with_reducible refine gate_callee (f := 111) rfl ?_); refine gB (some 23) Tryz.func111 #[.int .i64 a1] ?_; (with_reducible refine (impl_Digits.calls a1 t371 _ A16.out).mono ?_); rintro e w29 ⟨rfl, hb⟩; refine ⟨_, rfl, ?_⟩; replace HB := bs HB hb; (try clear hb); (try clear hb2); (try clear hk); (try clear hi)) | ((with_reducible refine gate_callee (f := 112) rfl ?_); refine gB (some 27) Tryz.func112 #[.slice A2 l2.length c2] ?_; (with_reducible refine (impl_TxsText.calls k1 _ _ l2 t372 _ ?side1 ?side2 A19.out).mono ?_); (case side1 => exact ch HR2 HB); (case side2 => exact HC2.out); rintro e w30 ⟨rfl, hb⟩; refine ⟨_, rfl, ?_⟩; replace HB := bs HB hb; (try clear hb); (try clear hb2); (try clear hk); (try clear hi)) | (go_at_call 95; (with_reducible refine (impl_NameOk.calls k1 ((((a0 ++ (⟨#[47]⟩ : ByteArray)) ++ t371) ++ (⟨#[124]⟩ : ByteArray)) ++ t372) false _ A24.out).mono ?_); rintro e w31 ⟨rfl, hb⟩; replace HB := bs HB hb; (try clear hb); (try clear hb2); (try clear hk); (try clear hi)))
    go_ret
    exact ⟨y0_10, bI HB.out⟩
   rw [if_neg c15] at H
   exact absurd H (by simp)

/-! ### impl_copyInts: function 113 -/
def impl_copyInts.f (l0 : List Int) : Option (List Int) := if ([] : List Int).length + l0.length < 17592186044416 then (some (([] : List Int) ++ l0)) else (none)
set_option maxHeartbeats 8000000 in
set_option maxRecDepth 100000 in
theorem impl_copyInts.calls (A0 : Option Addr) (c0 : Nat) (l0 : List Int) (r : List Int) (w : World) (hr0 : Kd.C (Kd.int .i64) w A0 l0.length l0) (hc0 : l0.length ≤ c0) (h : impl_copyInts.f l0 = some r) :
  Calls Tryz.prog 113 #[.slice A0 l0.length c0] w fun e w' => ∃ v0_ : Value, e = .returned (v0_) ∧ Kd.R (Kd.int .i64) 3 w' w.heap.size (fun _ => True) v0_ r ∧ Below w.heap.size w w' := by
 have HR0 := Aside0.mk hr0; have HC0 := Aside0.mk hc0; clear hr0 hc0; have HB := Aside0.mk (Below.refl w.heap.size w); have H : (if ([] : List Int).length + l0.length < 17592186044416 then (some (([] : List Int) ++ l0)) else (none)) = some r := h; clear h
 by_cases c2 : ([] : List Int).length + l0.length < 17592186044416
 ·
  rw [if_pos c2] at H
  have LMc2 := Aside0.mk c2; clear c2; obtain ⟨y374, hy374⟩ : ∃ y_ : List Int, y_ = (([] : List Int) ++ l0) := ⟨_, rfl⟩
  replace H : (some y374) = some r := by first | (rw [hy374]; with_reducible exact H) | (have H2_ := (Option.bind_some _ _).symm.trans H; rw [hy374]; with_reducible exact H2_) | (have H2_ := (Option.bind_some _ _).symm.trans H; with_reducible exact H2_) | with_reducible exact H | (rw [hy374]; exact H) | exact H
  have Ny374 := Aside0.mk hy374; clear hy374; obtain rfl := Option.some.inj H
  go_enter Tryz.func113, Tryz.ntmps113
  go_wp2_with (first | ((with_reducible refine gate_builtin (b := .append) (xs := #[.const (.slice none 0 0), .tmp 3]) rfl ?_); at_builtin; refine Kd.R_append_rows (Kd.int .i64) (w0 := w) w.heap.size rfl (.const (.slice none 0 0)) (.tmp 3) 24 3 (.int .i64 0) 8 rfl Tryz.underlying24 info3 rfl (by decide) (by omega) (.slice none 0 0) ([] : List Int) l0 _ _ _ (fun _ => True) (fun _ => False) rfl rfl ?aO ?aR (fun _ _ h => h) (fun _ h => h.elim) ?aF ?aB ?aS ?aL ?_; (case aR => exact cI HR0.out); (case aB => exact (bI HB.out)); (case aF => exact (fun _ _ => trivial)); (case aO => exact ((Kd.R_nil _ _ _ _ (fun _ => True)))); (case aS => exact (below_size (bI HB.out))); (case aL => have := LMc2.out; omega); intro v375 w3 ho hb hg hat; rw [← Ny374.out] at ho; replace HB := Aside0.mk (hb); have HO376 := Aside0.mk (ho); clear ho hb hg hat))
  go_ret
  exact ⟨_, y0_10, by (with_reducible repeat (first | apply Kd.R_alloc | apply Kd.R_drewN | apply Kd.R_drew)); exact HO376.out, bI HB.out⟩
 rw [if_neg c2] at H
 exact absurd H (by simp)

/-! ### impl_copyQc: function 83 -/
def impl_copyQc.f (a0_0 : Int) (a0_1 : ByteArray) (l0_2 : List Int) : Option (Int × ByteArray × List Int) := (impl_copyInts.f l0_2).bind fun t379 => (some (a0_0, a0_1, t379))
set_option maxHeartbeats 8000000 in
set_option maxRecDepth 100000 in
theorem impl_copyQc.calls (a0_0 : Int) (a0_1 : ByteArray) (A0_2 : Option Addr) (c0_2 : Nat) (l0_2 : List Int) (r1 : Int) (r2 : ByteArray) (r3 : List Int) (w : World) (hr0_2 : Kd.C (Kd.int .i64) w A0_2 l0_2.length l0_2) (hc0_2 : l0_2.length ≤ c0_2) (h : impl_copyQc.f a0_0 a0_1 l0_2 = some (r1, r2, r3)) :
  Calls Tryz.prog 83 #[.agg #[.int .i64 a0_0, .string a0_1, .slice A0_2 l0_2.length c0_2]] w fun e w' => ∃ v2_ : Value, e = .returned (.agg #[.int .i64 r1, .string r2, v2_]) ∧ Kd.R (Kd.int .i64) 3 w' w.heap.size (fun _ => True) v2_ r3 ∧ Below w.heap.size w w' := by
 have hu33 := Tryz.underlying33; have HR0_2 := Aside0.mk hr0_2; have HC0_2 := Aside0.mk hc0_2; clear hr0_2 hc0_2; have HB := Aside0.mk (Below.refl w.heap.size w)
 have H : ((impl_copyInts.f l0_2).bind fun t379 => (some (a0_0, a0_1, t379))) = some (r1, r2, r3) := h
 clear h; obtain ⟨t379, A20, H⟩ := Option.bind_eq_some_iff.mp H
 try dsimp only at H
 have A2 := Aside0.mk A20; clear A20
 simp only [Option.some.injEq, Prod.mk.injEq] at H
 obtain ⟨rfl, rfl, rfl⟩ := H
 go_enter Tryz.func83, Tryz.ntmps83
 go_wp2_with (first | ((with_reducible refine gd 1 ?_); refine bA 1 #[.int .i64 a0_0, .string a0_1, .slice A0_2 l0_2.length c0_2] 33 ?_; intro gb377 hg w3 hbox hb; have BK377 := Aside0.mk (hbox); have GW377 := bg hg HB; have GJ377 := gi GW377; have GE377 := GW377; replace HB := bs HB hb; clear hb hbox hg) | ((with_reducible refine gd 2 ?_); refine bA 2 #[.int .i64 0, .string (⟨#[]⟩ : ByteArray), .slice none 0 0] 33 ?_; intro gb378 hg w4 hbox hb; have BK378 := Aside0.mk (hbox); have GW378 := bg hg HB; have GJ378 := gi GW378; have GE378 := GW378; replace HB := bs HB hb; have NB377_378 := b1 BK377 hg; have NI377_378 := ni NB377_378; have NB378_377 := b2 BK377 hg; have NI378_377 := ni NB378_377; replace BK377 := bk BK377 hb; clear hb hbox hg; have hnb5 := NB377_378.out; have hnc5 := NB378_377.out; obtain ⟨hcz6_0, hcz6_1, hcz6_2, hfz6_0, hfz6_1, hfz6_2⟩ := cs3 BK377) | ((with_reducible refine gate_callee (f := 113) rfl ?_); refine gB (some 5) Tryz.func113 #[.slice A0_2 l0_2.length c0_2] ?_; (with_reducible refine (impl_copyInts.calls _ _ l0_2 t379 _ ?side1 ?side2 A2.out).mono ?_); (case side1 => exact ch HR0_2 HB); (case side2 => exact HC0_2.out); rintro e w7 ⟨v380, rfl, ho0, hb⟩; refine ⟨_, rfl, ?_⟩; have HO381 := Aside0.mk (Kd.R_lower ho0 (below_size (bI HB.out))); replace BK377 := bk BK377 hb; replace BK378 := bk BK378 hb; replace HB := bs HB hb; (try clear hb); (try clear ho0); obtain ⟨Ao8, co8, eo8⟩ := Kd.R_slice HO381.out; subst eo8; obtain ⟨hcz9_0, hcz9_1, hcz9_2, hfz9_0, hfz9_1, hfz9_2⟩ := cs3 BK377; obtain ⟨hcz10_0, hcz10_1, hcz10_2, hfz10_0, hfz10_1, hfz10_2⟩ := cs3 BK378))
 refine bodyPost_ret (results_cell_row rfl _ _ gb378 33 #[.int .i64 a0_0, .string a0_1, .slice Ao8 t379.length co8] (0, 0) _ rfl (pI BK378) Tryz.underlying33 rfl (by kernel_rfl)) rfl ?_
 exact ⟨_, y0_10, by (with_reducible repeat (first | apply Kd.R_alloc | apply Kd.R_drewN | apply Kd.R_drew)); exact Kd.R_mono (Kd.R_far (p := ⟨gb378, 2, none⟩) (Kd.R_far (p := ⟨gb378, 1, none⟩) (Kd.R_far (p := ⟨gb378, 0, none⟩) (Kd.R_far (p := ⟨gb377, 2, none⟩) (Kd.R_types (Kd.R_types HO381.out BK377.out (by decide)) BK378.out (by decide)) (fun _ hk => hk.1.2) (.slice Ao8 t379.length co8)) (fun _ hk => hk.2) (.int .i64 a0_0)) (fun _ hk => hk.2) (.string a0_1)) (fun _ hk => hk.2) (.slice Ao8 t379.length co8)) (fun _ hk => trivial), bI HB.out⟩

/-! ### impl_QcFirst: function 39 -/
def impl_QcFirst.f  : Option (Int × ByteArray × List Int) := some (0, (⟨#[]⟩ : ByteArray), ([] : List Int))
set_option maxHeartbeats 8000000 in
set_option maxRecDepth 100000 in
theorem impl_QcFirst.calls  (r1 : Int) (r2 : ByteArray) (r3 : List Int) (w : World) (h : impl_QcFirst.f  = some (r1, r2, r3)) :
  Calls Tryz.prog 39 #[] w fun e w' => ∃ v2_ : Value, e = .returned (.agg #[.int .i64 r1, .string r2, v2_]) ∧ Kd.R (Kd.int .i64) 3 w' w.heap.size (fun _ => True) v2_ r3 ∧ Below w.heap.size w w' := by
 have hu33 := Tryz.underlying33; have HB := Aside0.mk (Below.refl w.heap.size w); have H : (some (0, (⟨#[]⟩ : ByteArray), ([] : List Int))) = some (r1, r2, r3) := h; clear h
 simp only [Option.some.injEq, Prod.mk.injEq] at H
 obtain ⟨rfl, rfl, rfl⟩ := H
 go_enter Tryz.func39, Tryz.ntmps39
 go_wp2_with (first | ((with_reducible refine gd 0 ?_); refine bA 0 #[.int .i64 0, .string (⟨#[]⟩ : ByteArray), .slice none 0 0] 33 ?_; intro gb382 hg w1 hbox hb; have BK382 := Aside0.mk (hbox); have GW382 := bg hg HB; have GJ382 := gi GW382; have GE382 := GW382; replace HB := bs HB hb; clear hb hbox hg; obtain ⟨hcz2_0, hcz2_1, hcz2_2, hfz2_0, hfz2_1, hfz2_2⟩ := cs3 BK382))
 refine bodyPost_ret (results_cell_row rfl _ _ gb382 33 #[.int .i64 0, .string (⟨#[]⟩ : ByteArray), .slice none 0 0] (0, 0) _ rfl (pI BK382) Tryz.underlying33 rfl (by kernel_rfl)) rfl ?_
 exact ⟨_, y0_10, y0_2, bI HB.out⟩

/-! ### impl_ConfOk: function 54 -/
def impl_ConfOk.f (a0_0 : Int) (a0_1 : Int) : Option (Bool) := (impl_within.f a0_0 4 7).bind fun t384 => (if t384 = true then ((impl_within.f a0_1 1 6).bind fun t385 => (some t385)) else (some false))
set_option maxHeartbeats 8000000 in
set_option maxRecDepth 100000 in
theorem impl_ConfOk.calls (a0_0 : Int) (a0_1 : Int) (r : Bool) (w : World) (h : impl_ConfOk.f a0_0 a0_1 = some r) :
  Calls Tryz.prog 54 #[.agg #[.int .i64 a0_0, .int .i64 a0_1]] w fun e w' => e = .returned (.bool r) ∧ Below w.heap.size w w' := by
 have hu38 := Tryz.underlying38; have HB := Aside0.mk (Below.refl w.heap.size w)
 have H : ((impl_within.f a0_0 4 7).bind fun t384 => (if t384 = true then ((impl_within.f a0_1 1 6).bind fun t385 => (some t385)) else (some false))) = some r := h
 clear h; obtain ⟨t384, A20, H⟩ := Option.bind_eq_some_iff.mp H
 try dsimp only at H
 have A2 := Aside0.mk A20; clear A20
 by_cases c3 : t384 = true
 ·
  subst c3
  rw [if_pos rfl] at H
  obtain ⟨t385, A40, H⟩ := Option.bind_eq_some_iff.mp H
  try dsimp only at H
  have A4 := Aside0.mk A40; clear A40; obtain rfl := Option.some.inj H
  go_enter Tryz.func54, Tryz.ntmps54
  go_wp2_with (first | ((with_reducible refine gd 1 ?_); refine bA 1 #[.int .i64 a0_0, .int .i64 a0_1] 38 ?_; intro gb383 hg w5 hbox hb; have BK383 := Aside0.mk (hbox); have GW383 := bg hg HB; have GJ383 := gi GW383; have GE383 := GW383; replace HB := bs HB hb; clear hb hbox hg; obtain ⟨hcz6_0, hcz6_1, hfz6_0, hfz6_1⟩ := cs2 BK383) | ((with_reducible refine gate_callee (f := 99) rfl ?_); refine gB (some 5) Tryz.func99 #[.int .i64 a0_0, .int .i64 4, .int .i64 7] ?_; (with_reducible refine (impl_within.calls a0_0 4 7 true _ A2.out).mono ?_); rintro e w' ⟨rfl, ⟨nd, rfl⟩⟩; refine ⟨_, rfl, ?_⟩) | (go_at_call 99; (with_reducible refine (impl_within.calls a0_1 1 6 t385 _ A4.out).mono ?_); rintro e w' ⟨rfl, ⟨nd, rfl⟩⟩))
  go_ret
  exact ⟨y0_10, bI HB.out⟩
 replace c3 := Bool.eq_false_iff.mpr c3; subst c3
 rw [if_neg (show ¬ (false = true) by decide)] at H
 obtain rfl := Option.some.inj H
 go_enter Tryz.func54, Tryz.ntmps54
 go_wp2_with (first | ((with_reducible refine gd 1 ?_); refine bA 1 #[.int .i64 a0_0, .int .i64 a0_1] 38 ?_; intro gb383 hg w7 hbox hb; have BK383 := Aside0.mk (hbox); have GW383 := bg hg HB; have GJ383 := gi GW383; have GE383 := GW383; replace HB := bs HB hb; clear hb hbox hg; obtain ⟨hcz8_0, hcz8_1, hfz8_0, hfz8_1⟩ := cs2 BK383) | ((with_reducible refine gate_callee (f := 99) rfl ?_); refine gB (some 5) Tryz.func99 #[.int .i64 a0_0, .int .i64 4, .int .i64 7] ?_; (with_reducible refine (impl_within.calls a0_0 4 7 false _ A2.out).mono ?_); rintro e w' ⟨rfl, ⟨nd, rfl⟩⟩; refine ⟨_, rfl, ?_⟩))
 go_ret
 exact ⟨y0_10, bI HB.out⟩

/-! ### impl_Faults: function 50 -/
def impl_Faults.f (a0_0 : Int) (a0_1 : Int) : Option (Int) := (impl_ConfOk.f a0_0 a0_1).bind fun t387 => (if t387 = true then (some (wrap64 (Int.tdiv (wrap64 (a0_0 - 1)) 3))) else (some 0))
set_option maxHeartbeats 8000000 in
set_option maxRecDepth 100000 in
theorem impl_Faults.calls (a0_0 : Int) (a0_1 : Int) (r : Int) (w : World) (h : impl_Faults.f a0_0 a0_1 = some r) :
  Calls Tryz.prog 50 #[.agg #[.int .i64 a0_0, .int .i64 a0_1]] w fun e w' => e = .returned (.int .i64 r) ∧ Below w.heap.size w w' := by
 have hu38 := Tryz.underlying38; have HB := Aside0.mk (Below.refl w.heap.size w)
 have H : ((impl_ConfOk.f a0_0 a0_1).bind fun t387 => (if t387 = true then (some (wrap64 (Int.tdiv (wrap64 (a0_0 - 1)) 3))) else (some 0))) = some r := h
 clear h; obtain ⟨t387, A20, H⟩ := Option.bind_eq_some_iff.mp H
 try dsimp only at H
 have A2 := Aside0.mk A20; clear A20
 by_cases c3 : t387 = true
 ·
  subst c3
  rw [if_pos rfl] at H
  obtain rfl := Option.some.inj H
  go_enter Tryz.func50, Tryz.ntmps50
  go_wp2_with (first | ((with_reducible refine gd 1 ?_); refine bA 1 #[.int .i64 a0_0, .int .i64 a0_1] 38 ?_; intro gb386 hg w4 hbox hb; have BK386 := Aside0.mk (hbox); have GW386 := bg hg HB; have GJ386 := gi GW386; have GE386 := GW386; replace HB := bs HB hb; clear hb hbox hg; obtain ⟨hcz5_0, hcz5_1, hfz5_0, hfz5_1⟩ := cs2 BK386) | ((with_reducible refine gate_callee (f := 54) rfl ?_); refine gB (some 4) Tryz.func54 #[.agg #[.int .i64 a0_0, .int .i64 a0_1]] ?_; (with_reducible refine (impl_ConfOk.calls a0_0 a0_1 true _ A2.out).mono ?_); rintro e w6 ⟨rfl, hb⟩; refine ⟨_, rfl, ?_⟩; replace BK386 := bk BK386 hb; replace HB := bs HB hb; (try clear hb); (try clear hb2); (try clear hk); (try clear hi); obtain ⟨hcz7_0, hcz7_1, hfz7_0, hfz7_1⟩ := cs2 BK386))
  go_ret
  exact ⟨y0_10, bI HB.out⟩
 replace c3 := Bool.eq_false_iff.mpr c3; subst c3
 rw [if_neg (show ¬ (false = true) by decide)] at H
 obtain rfl := Option.some.inj H
 go_enter Tryz.func50, Tryz.ntmps50
 go_wp2_with (first | ((with_reducible refine gd 1 ?_); refine bA 1 #[.int .i64 a0_0, .int .i64 a0_1] 38 ?_; intro gb386 hg w8 hbox hb; have BK386 := Aside0.mk (hbox); have GW386 := bg hg HB; have GJ386 := gi GW386; have GE386 := GW386; replace HB := bs HB hb; clear hb hbox hg; obtain ⟨hcz9_0, hcz9_1, hfz9_0, hfz9_1⟩ := cs2 BK386) | ((with_reducible refine gate_callee (f := 54) rfl ?_); refine gB (some 4) Tryz.func54 #[.agg #[.int .i64 a0_0, .int .i64 a0_1]] ?_; (with_reducible refine (impl_ConfOk.calls a0_0 a0_1 false _ A2.out).mono ?_); rintro e w10 ⟨rfl, hb⟩; refine ⟨_, rfl, ?_⟩; replace BK386 := bk BK386 hb; replace HB := bs HB hb; (try clear hb); (try clear hb2); (try clear hk); (try clear hi)))
 go_ret
 exact ⟨y0_10, bI HB.out⟩

/-! ### impl_Quorum: function 52 -/
def impl_Quorum.f (a0_0 : Int) (a0_1 : Int) : Option (Int) := (impl_ConfOk.f a0_0 a0_1).bind fun t389 => (if t389 = true then ((impl_Faults.f a0_0 a0_1).bind fun t390 => (some (wrap64 (a0_0 - t390)))) else (some 0))
set_option maxHeartbeats 8000000 in
set_option maxRecDepth 100000 in
theorem impl_Quorum.calls (a0_0 : Int) (a0_1 : Int) (r : Int) (w : World) (h : impl_Quorum.f a0_0 a0_1 = some r) :
  Calls Tryz.prog 52 #[.agg #[.int .i64 a0_0, .int .i64 a0_1]] w fun e w' => e = .returned (.int .i64 r) ∧ Below w.heap.size w w' := by
 have hu38 := Tryz.underlying38; have HB := Aside0.mk (Below.refl w.heap.size w)
 have H : ((impl_ConfOk.f a0_0 a0_1).bind fun t389 => (if t389 = true then ((impl_Faults.f a0_0 a0_1).bind fun t390 => (some (wrap64 (a0_0 - t390)))) else (some 0))) = some r := h
 clear h; obtain ⟨t389, A20, H⟩ := Option.bind_eq_some_iff.mp H
 try dsimp only at H
 have A2 := Aside0.mk A20; clear A20
 by_cases c3 : t389 = true
 ·
  subst c3
  rw [if_pos rfl] at H
  obtain ⟨t390, A40, H⟩ := Option.bind_eq_some_iff.mp H
  try dsimp only at H
  have A4 := Aside0.mk A40; clear A40; obtain rfl := Option.some.inj H
  go_enter Tryz.func52, Tryz.ntmps52
  try go_wp2_with (first | ((with_reducible refine gd 1 ?_); refine bA 1 #[.int .i64 a0_0, .int .i64 a0_1] 38 ?_; intro gb388 hg w5 hbox hb; have BK388 := Aside0.mk (hbox); have GW388 := bg hg HB; have GJ388 := gi GW388; have GE388 := GW388; replace HB := bs HB hb; clear hb hbox hg; obtain ⟨hcz6_0, hcz6_1, hfz6_0, hfz6_1⟩ := cs2 BK388) | ((with_reducible refine gate_callee (f := 54) rfl ?_); refine gB (some 4) Tryz.func54 #[.agg #[.int .i64 a0_0, .int .i64 a0_1]] ?_; (with_reducible refine (impl_ConfOk.calls a0_0 a0_1 true _ A2.out).mono ?_); rintro e w7 ⟨rfl, hb⟩; refine ⟨_, rfl, ?_⟩; replace BK388 := bk BK388 hb; replace HB := bs HB hb; (try clear hb); (try clear hb2); (try clear hk); (try clear hi)))
  replace BK388 := Aside0.mk (blk_drew BK388.out); replace HB := Aside0.mk (below_drew1 HB.out)
  refine start_ (n := 6) (S := fun w' => w'.cell? ⟨gb388, 0, none⟩ = some (.int .i64 a0_0) ∧ w'.cell? ⟨gb388, 1, none⟩ = some (.int .i64 a0_1)) (ds := []) #[false, false, false, false, false, false] (by kernel_rfl) rfl rfl ⟨bc0 BK388.out, bc1 BK388.out⟩ (fun hHeld => ?_)
  generalize w7.drew = w8 at BK388 HB hHeld ⊢
  refine pure_ (i := 0) (N := some 6) (v := ?_) (a' := ?_) #[true, false, false, false, false, false] rfl rfl (by kernel_rfl) (fun _ _ _ h => h) (Or.inl ⟨by rfl, ?_⟩) ?_ ?_
  rotate_left
  ·
   intro w'
   go_simp
   with_reducible rfl
  rotate_left
  ·
   simp only [Act.put, List.setIfInBounds_toArray, List.set_cons_zero, List.set_cons_succ, i64_w, i32_w]
   rfl
  refine take_ (i := 1) (N := some 7) (v := ?_) (a' := ?_) #[true, true, false, false, false, false] rfl rfl (by kernel_rfl) (fun _ _ _ h => h) (Or.inl ⟨by rfl, ?_⟩) hHeld ?_ ?_
  rotate_left
  ·
   rintro w' ⟨s0, s1⟩
   go_simp
   with_reducible rfl
  rotate_left
  ·
   simp only [Act.put, List.setIfInBounds_toArray, List.set_cons_zero, List.set_cons_succ, i64_w, i32_w]
   rfl
  refine take_ (i := 2) (N := some 8) (v := ?_) (a' := ?_) #[true, true, true, false, false, false] rfl rfl (by kernel_rfl) (fun _ _ _ h => h) (Or.inl ⟨by rfl, ?_⟩) hHeld ?_ ?_
  rotate_left
  ·
   rintro w' ⟨s0, s1⟩
   go_simp
   with_reducible rfl
  rotate_left
  ·
   simp only [Act.put, List.setIfInBounds_toArray, List.set_cons_zero, List.set_cons_succ, i64_w, i32_w]
   rfl
  refine one_ (i := 3) (N := some 9) #[true, true, true, true, false, false] rfl rfl (by kernel_rfl) (by decide) (fun K hK => ?_)
  refine gA Tryz.func50 #[.agg #[.int .i64 a0_0, .int .i64 a0_1]] ?_
  with_reducible refine (impl_Faults.calls a0_0 a0_1 t390 _ A4.out).mono ?_
  rintro e w9 ⟨rfl, hb⟩
  refine ⟨_, rfl, ?_⟩
  replace BK388 := bk BK388 hb; replace HB := bs HB hb
  (try clear hb)
  (try clear hb2)
  (try clear hk)
  (try clear hi)
  refine hK.out _ _ ⟨bc0 BK388.out, bc1 BK388.out⟩ (fun hHeld => ?_)
  clear hK K
  refine nA (some 9) ?_
  refine pure_ (i := 4) (N := some 10) (v := ?_) (a' := ?_) #[true, true, true, true, true, false] rfl rfl (by kernel_rfl) (fun _ _ _ h => h) (Or.inl ⟨by rfl, ?_⟩) ?_ ?_
  rotate_left
  ·
   intro w'
   go_simp
   with_reducible rfl
  rotate_left
  ·
   simp only [Act.put, List.setIfInBounds_toArray, List.set_cons_zero, List.set_cons_succ, i64_w, i32_w]
   rfl
  refine pure_ (i := 5) (N := some 2) (v := ?_) (a' := ?_) #[true, true, true, true, true, true] rfl rfl (by kernel_rfl) (fun _ _ _ h => h) (Or.inl ⟨by rfl, ?_⟩) ?_ ?_
  rotate_left
  ·
   intro w'
   go_simp
   with_reducible rfl
  rotate_left
  ·
   simp only [Act.put, List.setIfInBounds_toArray, List.set_cons_zero, List.set_cons_succ, i64_w, i32_w]
   rfl
  refine done_ (by kernel_rfl) ?_
  try go_wp2
  go_ret
  exact ⟨y0_10, bI HB.out⟩
 replace c3 := Bool.eq_false_iff.mpr c3; subst c3
 rw [if_neg (show ¬ (false = true) by decide)] at H
 obtain rfl := Option.some.inj H
 go_enter Tryz.func52, Tryz.ntmps52
 go_wp2_with (first | ((with_reducible refine gd 1 ?_); refine bA 1 #[.int .i64 a0_0, .int .i64 a0_1] 38 ?_; intro gb388 hg w10 hbox hb; have BK388 := Aside0.mk (hbox); have GW388 := bg hg HB; have GJ388 := gi GW388; have GE388 := GW388; replace HB := bs HB hb; clear hb hbox hg; obtain ⟨hcz11_0, hcz11_1, hfz11_0, hfz11_1⟩ := cs2 BK388) | ((with_reducible refine gate_callee (f := 54) rfl ?_); refine gB (some 4) Tryz.func54 #[.agg #[.int .i64 a0_0, .int .i64 a0_1]] ?_; (with_reducible refine (impl_ConfOk.calls a0_0 a0_1 false _ A2.out).mono ?_); rintro e w12 ⟨rfl, hb⟩; refine ⟨_, rfl, ?_⟩; replace BK388 := bk BK388 hb; replace HB := bs HB hb; (try clear hb); (try clear hb2); (try clear hk); (try clear hi)))
 go_ret
 exact ⟨y0_10, bI HB.out⟩

/-! ### slices_Equal_int_int: function 101 -/
def slices_Equal_int_int.l0 : Nat → List Int → List Int → Int → Int → Option (Bool)
 | 0, _, _, _, _ => none
 | k + 1, x0, x1, x12, x13 => if x13 < x12 then (if 0 ≤ x13 then (if x13 < (x0.length : Int) then (if x13 < (x1.length : Int) then (if (rd x0 x13) = (rd x1 x13) then (slices_Equal_int_int.l0 k x0 x1 x12 (wrap64 (x13 + 1))) else (some false)) else (none)) else (none)) else (none)) else (some true)
def slices_Equal_int_int.f (k : Nat) (l0 : List Int) (l1 : List Int) : Option (Bool) := if (l0.length : Int) = (l1.length : Int) then (slices_Equal_int_int.l0 k l0 l1 (l0.length : Int) 0) else (some false)
theorem slices_Equal_int_int.mono_l : ∀ k, (∀ y0 y1 y2 y3, LeO (slices_Equal_int_int.l0 k y0 y1 y2 y3) (slices_Equal_int_int.l0 (k + 1) y0 y1 y2 y3))
 | 0 => fun _ _ _ _ r h => by simp [slices_Equal_int_int.l0] at h
 | k + 1 => by
  have ih0 := slices_Equal_int_int.mono_l k
  intro y0 y1 y2 y3
  unfold slices_Equal_int_int.l0
  repeat' first | (with_reducible exact ih0 _ _ _ _) | (with_reducible exact LeO.refl _) | (with_reducible exact LeO.none _) | (with_reducible refine LeO.ite ?_ ?_) | (with_reducible refine LeO.bind ?_ (fun _ => ?_))
theorem slices_Equal_int_int.mono : ∀ a0 a1 k, LeO (slices_Equal_int_int.f k a0 a1) (slices_Equal_int_int.f (k + 1) a0 a1) := by
 intro a0 a1 k
 have ih0 := slices_Equal_int_int.mono_l k
 unfold slices_Equal_int_int.f
 repeat' first | (with_reducible exact ih0 _ _ _ _) | (with_reducible exact LeO.refl _) | (with_reducible exact LeO.none _) | (with_reducible refine LeO.ite ?_ ?_) | (with_reducible refine LeO.bind ?_ (fun _ => ?_))
set_option maxHeartbeats 8000000 in
set_option maxRecDepth 100000 in
theorem slices_Equal_int_int.calls (k : Nat) (A0 : Option Addr) (c0 : Nat) (l0 : List Int) (A1 : Option Addr) (c1 : Nat) (l1 : List Int) (r : Bool) (w : World) (hr0 : Kd.C (Kd.int .i64) w A0 l0.length l0) (hc0 : l0.length ≤ c0) (hr1 : Kd.C (Kd.int .i64) w A1 l1.length l1) (hc1 : l1.length ≤ c1) (h : slices_Equal_int_int.f k l0 l1 = some r) :
  Calls Tryz.prog 101 #[.slice A0 l0.length c0, .slice A1 l1.length c1] w fun e w' => e = .returned (.bool r) ∧ Drawn0 w w' := by
 have HR0 := Aside0.mk hr0; have HC0 := Aside0.mk hc0; clear hr0 hc0; have HR1 := Aside0.mk hr1; have HC1 := Aside0.mk hc1; clear hr1 hc1; have H : (if (l0.length : Int) = (l1.length : Int) then (slices_Equal_int_int.l0 k l0 l1 (l0.length : Int) 0) else (some false)) = some r := h; clear h
 by_cases c3 : (l0.length : Int) = (l1.length : Int)
 ·
  rw [if_pos c3] at H
  have c3b0 : ((l0.length : Int) == (l1.length : Int)) = true := beq_iff_eq.mpr c3; have c3b1 : ((l0.length : Int) != (l1.length : Int)) = false := bne_eq_false_iff_eq.mpr c3
  have c3b2 : (l0.length == l1.length) = true := by first | simpa using c3 | (simp at c3 ⊢; omega)
  clear c3; have H' := Aside0.mk H; clear H
  go_enter Tryz.func101, Tryz.ntmps101
  go_wp2
  repeat (go_quiet (fail); try go_wp2)
  go_loopg [13] k (fun kq v13 w' => ∃ (x13_1 : Int), v13 = .int .i64 x13_1 ∧ Aside0 (slices_Equal_int_int.l0 kq l0 l1 (l0.length : Int) x13_1 = some r) ∧ Aside0 (kq ≤ k) ∧ Drawn0 w w')
  case atStart => exact ⟨(0), y0_13, H', ⟨Nat.le_refl _⟩, y0_11⟩
  case round =>
   clear H'
   try clear c1
   try clear p2
   try clear c3
   try clear c3b0
   try clear c3b1
   try clear c3b2
   obtain ⟨x13_1, rfl, HA, HK1, ⟨m1, rfl⟩⟩ := hrel; cases gk with
   | zero => exact absurd HA.out (by simp [slices_Equal_int_int.l0])
   | succ k1 =>
    have H := HA.out; clear HA
    simp only [slices_Equal_int_int.l0] at H
    by_cases c4 : x13_1 < (l0.length : Int)
    ·
     rw [if_pos c4] at H
     have c4b0 : decide (x13_1 < (l0.length : Int)) = true := decide_eq_true c4; clear c4
     by_cases c5 : 0 ≤ x13_1
     rotate_left
     ·
      rw [if_neg c5] at H
      exact absurd H (by simp)
     rw [if_pos c5] at H
     have c5b0 : decide (0 ≤ x13_1) = true := decide_eq_true c5; clear c5
     by_cases c6 : x13_1 < (l0.length : Int)
     rotate_left
     ·
      rw [if_neg c6] at H
      exact absurd H (by simp)
     rw [if_pos c6] at H
     have c6b0 : decide (x13_1 < (l0.length : Int)) = true := decide_eq_true c6; clear c6
     by_cases c7 : x13_1 < (l1.length : Int)
     rotate_left
     ·
      rw [if_neg c7] at H
      exact absurd H (by simp)
     rw [if_pos c7] at H
     have c7b0 : decide (x13_1 < (l1.length : Int)) = true := decide_eq_true c7; clear c7
     by_cases c8 : (rd l0 x13_1) = (rd l1 x13_1)
     ·
      rw [if_pos c8] at H
      have c8b0 : ((rd l0 x13_1) == (rd l1 x13_1)) = true := beq_iff_eq.mpr c8; have c8b1 : ((rd l0 x13_1) != (rd l1 x13_1)) = false := bne_eq_false_iff_eq.mpr c8; clear c8; have H' := Aside0.mk H; clear H; have p391 : 0 ≤ (x13_1 : Int) := of_decide_eq_true y0_12; have q391 : x13_1 < (l0.length : Int) := of_decide_eq_true y0_12; obtain ⟨ad391, e391, hx391_0⟩ := Kd.at_int HR0.out x13_1 p391 q391; cases e391; replace p391 := eq_true p391; replace q391 := eq_true q391; have p392 : 0 ≤ (x13_1 : Int) := of_decide_eq_true y0_12; have q392 : x13_1 < (l1.length : Int) := of_decide_eq_true y0_12; obtain ⟨ad392, e392, hx392_0⟩ := Kd.at_int HR1.out x13_1 p392 q392; cases e392; replace p392 := eq_true p392; replace q392 := eq_true q392
      go_wp2
      repeat (go_quiet (fail); try go_wp2)
      go_roundg k1
      case measure => have := HK1.out; omega
      case rel => exact ⟨(wrap64 (x13_1 + 1)), y0_13, H', ⟨y0_18⟩, y0_11⟩
     rw [if_neg c8] at H
     have c8b0 : ((rd l0 x13_1) == (rd l1 x13_1)) = false := beq_eq_false_iff_ne.mpr c8; have c8b1 : ((rd l0 x13_1) != (rd l1 x13_1)) = true := bne_iff_ne.mpr c8; obtain rfl := Option.some.inj H; have p391 : 0 ≤ (x13_1 : Int) := of_decide_eq_true y0_12; have q391 : x13_1 < (l0.length : Int) := of_decide_eq_true y0_12; obtain ⟨ad391, e391, hx391_0⟩ := Kd.at_int HR0.out x13_1 p391 q391; cases e391; replace p391 := eq_true p391; replace q391 := eq_true q391; have p392 : 0 ≤ (x13_1 : Int) := of_decide_eq_true y0_12; have q392 : x13_1 < (l1.length : Int) := of_decide_eq_true y0_12; obtain ⟨ad392, e392, hx392_0⟩ := Kd.at_int HR1.out x13_1 p392 q392; cases e392; replace p392 := eq_true p392; replace q392 := eq_true q392
     go_wp2
     repeat (go_quiet (fail); try go_wp2)
     go_ret
     exact ⟨y0_13, y0_11⟩
    rw [if_neg c4] at H
    have c4b0 : decide (x13_1 < (l0.length : Int)) = false := decide_eq_false c4; clear c4; obtain rfl := Option.some.inj H
    go_wp2
    repeat (go_quiet (fail); try go_wp2)
    go_ret
    exact ⟨y0_13, y0_11⟩
 rw [if_neg c3] at H
 have c3b0 : ((l0.length : Int) == (l1.length : Int)) = false := beq_eq_false_iff_ne.mpr c3; have c3b1 : ((l0.length : Int) != (l1.length : Int)) = true := bne_iff_ne.mpr c3
 have c3b2 : (l0.length == l1.length) = false := by first | simpa using c3 | (simp at c3 ⊢; omega)
 obtain rfl := Option.some.inj H
 go_enter Tryz.func101, Tryz.ntmps101
 go_wp2
 repeat (go_quiet (fail); try go_wp2)
 go_ret
 exact ⟨y0_13, y0_11⟩

/-! ### impl_QcSame: function 57 -/
def impl_QcSame.f (k : Nat) (a0_0 : Int) (a0_1 : ByteArray) (l0_2 : List Int) (a1_0 : Int) (a1_1 : ByteArray) (l1_2 : List Int) : Option (Bool) := if a0_0 = a1_0 then (if a0_1.toList = a1_1.toList then ((slices_Equal_int_int.f k l0_2 l1_2).bind fun t395 => (some t395)) else (some false)) else (some false)
theorem impl_QcSame.mono : ∀ a0 a1 a2 a3 a4 a5 k, LeO (impl_QcSame.f k a0 a1 a2 a3 a4 a5) (impl_QcSame.f (k + 1) a0 a1 a2 a3 a4 a5) := by
 intro a0 a1 a2 a3 a4 a5 k
 unfold impl_QcSame.f
 repeat' first | (with_reducible exact slices_Equal_int_int.mono _ _ _) | (with_reducible exact LeO.refl _) | (with_reducible exact LeO.none _) | (with_reducible refine LeO.ite ?_ ?_) | (with_reducible refine LeO.bind ?_ (fun _ => ?_))
set_option maxHeartbeats 8000000 in
set_option maxRecDepth 100000 in
theorem impl_QcSame.calls (k : Nat) (a0_0 : Int) (a0_1 : ByteArray) (A0_2 : Option Addr) (c0_2 : Nat) (l0_2 : List Int) (a1_0 : Int) (a1_1 : ByteArray) (A1_2 : Option Addr) (c1_2 : Nat) (l1_2 : List Int) (r : Bool) (w : World) (hr0_2 : Kd.C (Kd.int .i64) w A0_2 l0_2.length l0_2) (hc0_2 : l0_2.length ≤ c0_2) (hr1_2 : Kd.C (Kd.int .i64) w A1_2 l1_2.length l1_2) (hc1_2 : l1_2.length ≤ c1_2) (h : impl_QcSame.f k a0_0 a0_1 l0_2 a1_0 a1_1 l1_2 = some r) :
  Calls Tryz.prog 57 #[.agg #[.int .i64 a0_0, .string a0_1, .slice A0_2 l0_2.length c0_2], .agg #[.int .i64 a1_0, .string a1_1, .slice A1_2 l1_2.length c1_2]] w fun e w' => e = .returned (.bool r) ∧ Below w.heap.size w w' := by
 have hu33 := Tryz.underlying33; have HR0_2 := Aside0.mk hr0_2; have HC0_2 := Aside0.mk hc0_2; clear hr0_2 hc0_2; have HR1_2 := Aside0.mk hr1_2; have HC1_2 := Aside0.mk hc1_2; clear hr1_2 hc1_2; have HB := Aside0.mk (Below.refl w.heap.size w)
 have H : (if a0_0 = a1_0 then (if a0_1.toList = a1_1.toList then ((slices_Equal_int_int.f k l0_2 l1_2).bind fun t395 => (some t395)) else (some false)) else (some false)) = some r := h
 clear h
 by_cases c3 : a0_0 = a1_0
 ·
  rw [if_pos c3] at H
  have c3b0 : (a0_0 == a1_0) = true := beq_iff_eq.mpr c3; have c3b1 : (a0_0 != a1_0) = false := bne_eq_false_iff_eq.mpr c3; clear c3
  by_cases c4 : a0_1.toList = a1_1.toList
  ·
   rw [if_pos c4] at H
   have c4b0 : (a0_1.toList == a1_1.toList) = true := beq_iff_eq.mpr c4; have c4b1 : (a0_1.toList != a1_1.toList) = false := bne_eq_false_iff_eq.mpr c4; clear c4; obtain ⟨t395, A50, H⟩ := Option.bind_eq_some_iff.mp H
   try dsimp only at H
   have A5 := Aside0.mk A50; clear A50; obtain rfl := Option.some.inj H
   go_enter Tryz.func57, Tryz.ntmps57
   go_wp2_with (first | ((with_reducible refine gd 2 ?_); refine bA 2 #[.int .i64 a0_0, .string a0_1, .slice A0_2 l0_2.length c0_2] 33 ?_; intro gb393 hg w6 hbox hb; have BK393 := Aside0.mk (hbox); have GW393 := bg hg HB; have GJ393 := gi GW393; have GE393 := GW393; replace HB := bs HB hb; clear hb hbox hg) | ((with_reducible refine gd 3 ?_); refine bA 3 #[.int .i64 a1_0, .string a1_1, .slice A1_2 l1_2.length c1_2] 33 ?_; intro gb394 hg w7 hbox hb; have BK394 := Aside0.mk (hbox); have GW394 := bg hg HB; have GJ394 := gi GW394; have GE394 := GW394; replace HB := bs HB hb; have NB393_394 := b1 BK393 hg; have NI393_394 := ni NB393_394; have NB394_393 := b2 BK393 hg; have NI394_393 := ni NB394_393; replace BK393 := bk BK393 hb; clear hb hbox hg; have hnb8 := NB393_394.out; have hnc8 := NB394_393.out; obtain ⟨hcz9_0, hcz9_1, hcz9_2, hfz9_0, hfz9_1, hfz9_2⟩ := cs3 BK393; obtain ⟨hcz10_0, hcz10_1, hcz10_2, hfz10_0, hfz10_1, hfz10_2⟩ := cs3 BK394) | (go_at_call 101; (with_reducible refine (slices_Equal_int_int.calls k _ _ l0_2 _ _ l1_2 t395 _ ?side1 ?side2 ?side3 ?side4 A5.out).mono ?_); (case side1 => exact ch HR0_2 HB); (case side2 => exact HC0_2.out); (case side3 => exact ch HR1_2 HB); (case side4 => exact HC1_2.out); rintro e w' ⟨rfl, ⟨nd, rfl⟩⟩))
   go_ret
   exact ⟨y0_10, bI HB.out⟩
  rw [if_neg c4] at H
  have c4b0 : (a0_1.toList == a1_1.toList) = false := beq_eq_false_iff_ne.mpr c4; have c4b1 : (a0_1.toList != a1_1.toList) = true := bne_iff_ne.mpr c4; obtain rfl := Option.some.inj H
  go_enter Tryz.func57, Tryz.ntmps57
  go_wp2_with (first | ((with_reducible refine gd 2 ?_); refine bA 2 #[.int .i64 a0_0, .string a0_1, .slice A0_2 l0_2.length c0_2] 33 ?_; intro gb393 hg w11 hbox hb; have BK393 := Aside0.mk (hbox); have GW393 := bg hg HB; have GJ393 := gi GW393; have GE393 := GW393; replace HB := bs HB hb; clear hb hbox hg) | ((with_reducible refine gd 3 ?_); refine bA 3 #[.int .i64 a1_0, .string a1_1, .slice A1_2 l1_2.length c1_2] 33 ?_; intro gb394 hg w12 hbox hb; have BK394 := Aside0.mk (hbox); have GW394 := bg hg HB; have GJ394 := gi GW394; have GE394 := GW394; replace HB := bs HB hb; have NB393_394 := b1 BK393 hg; have NI393_394 := ni NB393_394; have NB394_393 := b2 BK393 hg; have NI394_393 := ni NB394_393; replace BK393 := bk BK393 hb; clear hb hbox hg; have hnb13 := NB393_394.out; have hnc13 := NB394_393.out; obtain ⟨hcz14_0, hcz14_1, hcz14_2, hfz14_0, hfz14_1, hfz14_2⟩ := cs3 BK393; obtain ⟨hcz15_0, hcz15_1, hcz15_2, hfz15_0, hfz15_1, hfz15_2⟩ := cs3 BK394))
  go_ret
  exact ⟨y0_10, bI HB.out⟩
 rw [if_neg c3] at H
 have c3b0 : (a0_0 == a1_0) = false := beq_eq_false_iff_ne.mpr c3; have c3b1 : (a0_0 != a1_0) = true := bne_iff_ne.mpr c3; obtain rfl := Option.some.inj H
 go_enter Tryz.func57, Tryz.ntmps57
 go_wp2_with (first | ((with_reducible refine gd 2 ?_); refine bA 2 #[.int .i64 a0_0, .string a0_1, .slice A0_2 l0_2.length c0_2] 33 ?_; intro gb393 hg w16 hbox hb; have BK393 := Aside0.mk (hbox); have GW393 := bg hg HB; have GJ393 := gi GW393; have GE393 := GW393; replace HB := bs HB hb; clear hb hbox hg) | ((with_reducible refine gd 3 ?_); refine bA 3 #[.int .i64 a1_0, .string a1_1, .slice A1_2 l1_2.length c1_2] 33 ?_; intro gb394 hg w17 hbox hb; have BK394 := Aside0.mk (hbox); have GW394 := bg hg HB; have GJ394 := gi GW394; have GE394 := GW394; replace HB := bs HB hb; have NB393_394 := b1 BK393 hg; have NI393_394 := ni NB393_394; have NB394_393 := b2 BK393 hg; have NI394_393 := ni NB394_393; replace BK393 := bk BK393 hb; clear hb hbox hg; have hnb18 := NB393_394.out; have hnc18 := NB394_393.out; obtain ⟨hcz19_0, hcz19_1, hcz19_2, hfz19_0, hfz19_1, hfz19_2⟩ := cs3 BK393; obtain ⟨hcz20_0, hcz20_1, hcz20_2, hfz20_0, hfz20_1, hfz20_2⟩ := cs3 BK394))
 go_ret
 exact ⟨y0_10, bI HB.out⟩

end Go.Proofs.YtemjmefacifdeaaGreatDoor.PFnExactBlockNew
