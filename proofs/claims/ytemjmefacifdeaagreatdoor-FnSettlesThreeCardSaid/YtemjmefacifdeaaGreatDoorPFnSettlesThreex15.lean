-- By a program of this session, out of the translation (the print of the kit, with turns of its own). Lean checks it.
import Derived.Test.YtemjmefacifdeaaGreatDoorPFnSettlesThreex0
import Derived.Test.YtemjmefacifdeaaGreatDoorPFnSettlesThreex8
import Derived.Test.YtemjmefacifdeaaGreatDoorPFnSettlesThreex10
namespace Go.Proofs.YtemjmefacifdeaaGreatDoor.PFnSettlesThree
open Go.RowKit Go.Proofs.YtemjmefacifdeaaGreatDoorW.PrintWords Go.Proofs.YtemjmefacifdeaaGreatDoorW.PrintLast Go.Proofs.YtemjmefacifdeaaGreatDoorW.PrintMore
attribute [local go_sem] max2_int min2_int max_two min_two max_three min_three max_four min_four   -- for this text's walks alone
set_option linter.unusedVariables false
set_option linter.unusedSimpArgs false

/-! ### strings_Join: function 136 -/

/-! ### impl_TxsText: function 112 -/
def impl_TxsText.l0 : Nat → List ByteArray → List (S99) → Int → Int → Option (ByteArray)
 | 0, _, _, _, _ => none
 | k + 1, x3, x6, x7, x8 => if x8 < x7 then (if 0 ≤ x8 then (if x8 < (x6.length : Int) then ((impl_TxOk.f ((rd_T99 x6 x8).f0) ((rd_T99 x6 x8).f1) ((rd_T99 x6 x8).f2) ((rd_T99 x6 x8).f3)).bind fun t461 => (if t461 = true then ((impl_TxText.f ((rd_T99 x6 x8).f0) ((rd_T99 x6 x8).f1) ((rd_T99 x6 x8).f2) ((rd_T99 x6 x8).f3)).bind fun t462 => (if x3.length < 8796093022208 then (impl_TxsText.l0 k (x3 ++ [t462]) x6 x7 (wrap64 (x8 + 1))) else (none))) else (some (⟨#[]⟩ : ByteArray)))) else (none)) else (none)) else ((strings_Join.f x3 (⟨#[44]⟩ : ByteArray)).bind fun t458 => (some t458))
def impl_TxsText.f (k : Nat) (l0 : List (S99)) : Option (ByteArray) := impl_TxsText.l0 k ([] : List ByteArray) l0 (l0.length : Int) 0
theorem impl_TxsText.mono_l : ∀ k, (∀ y0 y1 y2 y3, LeO (impl_TxsText.l0 k y0 y1 y2 y3) (impl_TxsText.l0 (k + 1) y0 y1 y2 y3))
 | 0 => fun _ _ _ _ r h => by simp [impl_TxsText.l0] at h
 | k + 1 => by
  have ih0 := impl_TxsText.mono_l k
  intro y0 y1 y2 y3
  unfold impl_TxsText.l0
  repeat' first | (with_reducible exact ih0 _ _ _ _) | (with_reducible exact LeO.refl _) | (with_reducible exact LeO.none _) | (with_reducible refine LeO.ite ?_ ?_) | (with_reducible refine LeO.bind ?_ (fun _ => ?_))
theorem impl_TxsText.mono : ∀ a0 k, LeO (impl_TxsText.f k a0) (impl_TxsText.f (k + 1) a0) := by
 intro a0 k
 have ih0 := impl_TxsText.mono_l k
 unfold impl_TxsText.f
 repeat' first | (with_reducible exact ih0 _ _ _ _) | (with_reducible exact LeO.refl _) | (with_reducible exact LeO.none _) | (with_reducible refine LeO.ite ?_ ?_) | (with_reducible refine LeO.bind ?_ (fun _ => ?_))
set_option maxHeartbeats 8000000 in
set_option maxRecDepth 100000 in
theorem impl_TxsText.calls (k : Nat) (A0 : Option Addr) (c0 : Nat) (l0 : List (S99)) (r : ByteArray) (w : World) (hr0 : Kd.C k99 w A0 l0.length l0) (hc0 : l0.length ≤ c0) (h : impl_TxsText.f k l0 = some r) (hG : Glob w := by exact gG HG HB) :
  Calls Tryz.prog 112 #[.slice A0 l0.length c0] w fun e w' => e = .returned (.string r) ∧ Below w.heap.size w w' := by
 have HG := Aside0.mk hG; clear hG; have hu99 := Tryz.underlying99; have HR0 := Aside0.mk hr0; have HC0 := Aside0.mk hc0; clear hr0 hc0; have HB := Aside0.mk (Below.refl w.heap.size w); have H : (impl_TxsText.l0 k ([] : List ByteArray) l0 (l0.length : Int) 0) = some r := h; clear h; have H' := Aside0.mk H; clear H
 go_enter Tryz.func112, Tryz.ntmps112
 go_wp2
 go_loopg [3, 8] k (fun kq v3 v8 w' => ∃ (x3_1 : List ByteArray) (x8_1 : Int), v8 = .int .i64 x8_1 ∧ Aside0 (impl_TxsText.l0 kq x3_1 l0 (l0.length : Int) x8_1 = some r) ∧ Aside0 (kq ≤ k) ∧ Aside0 (Kd.R Kd.string 9 w' w.heap.size (fun _ => True) v3 x3_1) ∧ Aside0 (Below w.heap.size w w'))
 case atStart => exact ⟨(([] : List ByteArray)), (0), y0_9, H', ⟨Nat.le_refl _⟩, ⟨y0_1⟩, ⟨bI HB.out⟩⟩
 case round =>
  clear H'
  try clear c1
  obtain ⟨x3_1, x8_1, rfl, HA, HK1, HO_3, HB⟩ := hrel; cases gk with
  | zero => exact absurd HA.out (by simp [impl_TxsText.l0])
  | succ k1 =>
   have H := HA.out; clear HA
   simp only [impl_TxsText.l0] at H
   by_cases c2 : x8_1 < (l0.length : Int)
   ·
    rw [if_pos c2] at H
    have c2b0 : decide (x8_1 < (l0.length : Int)) = true := decide_eq_true c2; clear c2
    by_cases c3 : 0 ≤ x8_1
    rotate_left
    ·
     rw [if_neg c3] at H
     exact absurd H (by simp)
    rw [if_pos c3] at H
    have c3b0 : decide (0 ≤ x8_1) = true := decide_eq_true c3; clear c3
    by_cases c4 : x8_1 < (l0.length : Int)
    rotate_left
    ·
     rw [if_neg c4] at H
     exact absurd H (by simp)
    rw [if_pos c4] at H
    have c4b0 : decide (x8_1 < (l0.length : Int)) = true := decide_eq_true c4; clear c4; obtain ⟨t461, A50, H⟩ := Option.bind_eq_some_iff.mp H
    try dsimp only at H
    have A5 := Aside0.mk A50; clear A50
    by_cases c6 : t461 = true
    ·
     subst c6
     rw [if_pos rfl] at H
     obtain ⟨t462, A70, H⟩ := Option.bind_eq_some_iff.mp H
     try dsimp only at H
     have A7 := Aside0.mk A70; clear A70
     by_cases c8 : x3_1.length < 8796093022208
     rotate_left
     ·
      rw [if_neg c8] at H
      exact absurd H (by simp)
     rw [if_pos c8] at H
     have LMc8 := Aside0.mk c8; clear c8; obtain ⟨y463, hy463⟩ : ∃ y_ : List ByteArray, y_ = (x3_1 ++ [t462]) := ⟨_, rfl⟩
     replace H : (impl_TxsText.l0 k1 y463 l0 (l0.length : Int) (wrap64 (x8_1 + 1))) = some r := by first | (rw [hy463]; with_reducible exact H) | (have H2_ := (Option.bind_some _ _).symm.trans H; rw [hy463]; with_reducible exact H2_) | (have H2_ := (Option.bind_some _ _).symm.trans H; with_reducible exact H2_) | with_reducible exact H | (rw [hy463]; exact H) | exact H
     have Ny463 := Aside0.mk hy463; clear hy463; have H' := Aside0.mk H; clear H; have p459 : 0 ≤ (x8_1 : Int) := of_decide_eq_true y0_8; have q459 : x8_1 < (l0.length : Int) := of_decide_eq_true y0_8; obtain ⟨ad459, e459, hx459_0, hx459_1, hx459_2, hx459_3⟩ := at_T99 HR0.out x8_1 p459 q459; cases e459; replace hx459_0 := bx HB hx459_0; replace hx459_1 := bx HB hx459_1; replace hx459_2 := bx HB hx459_2; replace hx459_3 := bx HB hx459_3; replace p459 := eq_true p459; replace q459 := eq_true q459
     go_wp2_with (first | ((with_reducible refine gd 5 ?_); refine bA 5 #[.int .i64 0, .int .i64 0, .int .i64 0, .int .i64 0] 99 ?_; intro gb460 hg w9 hbox hb; replace HO_3 := rb HO_3 hb; have BK460 := Aside0.mk (hbox); have GW460 := bg hg HB; have GJ460 := gi GW460; have GE460 := GW460; replace HB := bs HB hb; clear hb hbox hg; obtain ⟨hcz10_0, hcz10_1, hcz10_2, hcz10_3, hfz10_0, hfz10_1, hfz10_2, hfz10_3⟩ := cs4 BK460) | ((with_reducible refine gate_callee (f := 110) rfl ?_); refine gB (some 13) Tryz.func110 #[.agg #[.int .i64 ((rd_T99 l0 x8_1).f0), .int .i64 ((rd_T99 l0 x8_1).f1), .int .i64 ((rd_T99 l0 x8_1).f2), .int .i64 ((rd_T99 l0 x8_1).f3)]] ?_; (with_reducible refine (impl_TxOk.calls ((rd_T99 l0 x8_1).f0) ((rd_T99 l0 x8_1).f1) ((rd_T99 l0 x8_1).f2) ((rd_T99 l0 x8_1).f3) true _ A5.out).mono ?_); rintro e w11 ⟨rfl, hb⟩; refine ⟨_, rfl, ?_⟩; replace HO_3 := Aside0.mk (Kd.R_below (rI (Kd.R_mono (Kd.R_far (p := ⟨gb460, 3, none⟩) (Kd.R_far (p := ⟨gb460, 2, none⟩) (Kd.R_far (p := ⟨gb460, 1, none⟩) (Kd.R_far (p := ⟨gb460, 0, none⟩) (Kd.R_types HO_3.out BK460.out (by decide)) (fun _ hk => hk.2) (.int .i64 ((rd_T99 l0 x8_1).f0))) (fun _ hk => hk.2) (.int .i64 ((rd_T99 l0 x8_1).f1))) (fun _ hk => hk.2) (.int .i64 ((rd_T99 l0 x8_1).f2))) (fun _ hk => hk.2) (.int .i64 ((rd_T99 l0 x8_1).f3))) (fun _ h_ => h_.1))) hb); replace BK460 := bp BK460 hb #[.int .i64 ((rd_T99 l0 x8_1).f0), .int .i64 ((rd_T99 l0 x8_1).f1), .int .i64 ((rd_T99 l0 x8_1).f2), .int .i64 ((rd_T99 l0 x8_1).f3)]; replace HB := bs HB hb; (try clear hb); (try clear hb2); (try clear hk); (try clear hi); obtain ⟨hcz12_0, hcz12_1, hcz12_2, hcz12_3, hfz12_0, hfz12_1, hfz12_2, hfz12_3⟩ := cs4 BK460) | ((with_reducible refine gate_callee (f := 135) rfl ?_); refine gB (some 17) Tryz.func135 #[.agg #[.int .i64 ((rd_T99 l0 x8_1).f0), .int .i64 ((rd_T99 l0 x8_1).f1), .int .i64 ((rd_T99 l0 x8_1).f2), .int .i64 ((rd_T99 l0 x8_1).f3)]] ?_; (with_reducible refine (impl_TxText.calls ((rd_T99 l0 x8_1).f0) ((rd_T99 l0 x8_1).f1) ((rd_T99 l0 x8_1).f2) ((rd_T99 l0 x8_1).f3) t462 _ A7.out).mono ?_); rintro e w13 ⟨rfl, hb⟩; refine ⟨_, rfl, ?_⟩; replace HO_3 := rb HO_3 hb; replace BK460 := bk BK460 hb; replace HB := bs HB hb; (try clear hb); (try clear hb2); (try clear hk); (try clear hi)) | ((with_reducible refine gate_builtin (b := .append) (xs := #[.tmp 15, .tmp 18]) rfl ?_); at_builtin; refine Kd.R_append Kd.string (w0 := w) w.heap.size rfl (.tmp 15) (.tmp 18) 69 9 (.string ⟨#[]⟩) 16 rfl Tryz.underlying69 info9 rfl (by decide) (by omega) u3 x3_1 t462 [.string t462] (fun _ => True) (fun _ => False) rfl rfl ?aP (fun _ hk => hk.elim) ?aF ?aO ?aB ?aS ?aL ?_; (case aP => exact rfl); (case aB => exact (bI HB.out)); (case aF => exact (fun _ _ => trivial)); (case aO => exact (rI HO_3.out)); (case aS => exact (below_size (bI HB.out))); (case aL => have := LMc8.out; omega); intro v464 w14 ho hb hg hat; rw [← Ny463.out] at ho; have n0_ := bn BK460 hg (Kd.R_ne HO_3.out BK460.out (by decide)); have n1_ := Aside0.mk (hb); have n2_ := Aside0.mk (ho); clear BK460; clear HB; clear HO_3; have BK460 := n0_; have HB := n1_; have HO465 := n2_; clear n0_ n1_ n2_; clear ho hb hg hat))
     go_roundg k1
     case measure => have := HK1.out; omega
     case rel => exact ⟨(y463), (wrap64 (x8_1 + 1)), y0_9, H', ⟨y0_13⟩, ⟨by (with_reducible repeat (first | apply Kd.R_alloc | apply Kd.R_drewN | apply Kd.R_drew)); exact HO465.out⟩, ⟨bI HB.out⟩⟩
    replace c6 := Bool.eq_false_iff.mpr c6; subst c6
    rw [if_neg (show ¬ (false = true) by decide)] at H
    obtain rfl := Option.some.inj H; have p459 : 0 ≤ (x8_1 : Int) := of_decide_eq_true y0_8; have q459 : x8_1 < (l0.length : Int) := of_decide_eq_true y0_8; obtain ⟨ad459, e459, hx459_0, hx459_1, hx459_2, hx459_3⟩ := at_T99 HR0.out x8_1 p459 q459; cases e459; replace hx459_0 := bx HB hx459_0; replace hx459_1 := bx HB hx459_1; replace hx459_2 := bx HB hx459_2; replace hx459_3 := bx HB hx459_3; replace p459 := eq_true p459; replace q459 := eq_true q459
    go_wp2_with (first | ((with_reducible refine gd 5 ?_); refine bA 5 #[.int .i64 0, .int .i64 0, .int .i64 0, .int .i64 0] 99 ?_; intro gb460 hg w15 hbox hb; replace HO_3 := rb HO_3 hb; have BK460 := Aside0.mk (hbox); have GW460 := bg hg HB; have GJ460 := gi GW460; have GE460 := GW460; replace HB := bs HB hb; clear hb hbox hg; obtain ⟨hcz16_0, hcz16_1, hcz16_2, hcz16_3, hfz16_0, hfz16_1, hfz16_2, hfz16_3⟩ := cs4 BK460) | ((with_reducible refine gate_callee (f := 110) rfl ?_); refine gB (some 13) Tryz.func110 #[.agg #[.int .i64 ((rd_T99 l0 x8_1).f0), .int .i64 ((rd_T99 l0 x8_1).f1), .int .i64 ((rd_T99 l0 x8_1).f2), .int .i64 ((rd_T99 l0 x8_1).f3)]] ?_; (with_reducible refine (impl_TxOk.calls ((rd_T99 l0 x8_1).f0) ((rd_T99 l0 x8_1).f1) ((rd_T99 l0 x8_1).f2) ((rd_T99 l0 x8_1).f3) false _ A5.out).mono ?_); rintro e w17 ⟨rfl, hb⟩; refine ⟨_, rfl, ?_⟩; replace HO_3 := Aside0.mk (Kd.R_below (rI (Kd.R_mono (Kd.R_far (p := ⟨gb460, 3, none⟩) (Kd.R_far (p := ⟨gb460, 2, none⟩) (Kd.R_far (p := ⟨gb460, 1, none⟩) (Kd.R_far (p := ⟨gb460, 0, none⟩) (Kd.R_types HO_3.out BK460.out (by decide)) (fun _ hk => hk.2) (.int .i64 ((rd_T99 l0 x8_1).f0))) (fun _ hk => hk.2) (.int .i64 ((rd_T99 l0 x8_1).f1))) (fun _ hk => hk.2) (.int .i64 ((rd_T99 l0 x8_1).f2))) (fun _ hk => hk.2) (.int .i64 ((rd_T99 l0 x8_1).f3))) (fun _ h_ => h_.1))) hb); replace BK460 := bp BK460 hb #[.int .i64 ((rd_T99 l0 x8_1).f0), .int .i64 ((rd_T99 l0 x8_1).f1), .int .i64 ((rd_T99 l0 x8_1).f2), .int .i64 ((rd_T99 l0 x8_1).f3)]; replace HB := bs HB hb; (try clear hb); (try clear hb2); (try clear hk); (try clear hi)))
    go_ret
    exact ⟨y0_6, bI HB.out⟩
   rw [if_neg c2] at H
   have c2b0 : decide (x8_1 < (l0.length : Int)) = false := decide_eq_false c2; clear c2; obtain ⟨t458, A180, H⟩ := Option.bind_eq_some_iff.mp H
   try dsimp only at H
   have A18 := Aside0.mk A180; clear A180; obtain rfl := Option.some.inj H; obtain ⟨Ao19, co19, eo19⟩ := Kd.R_slice HO_3.out; subst eo19
   go_wp2_with (first | ((with_reducible refine gate_callee (f := 136) rfl ?_); refine gB (some 22) Tryz.func136 #[.slice Ao19 x3_1.length co19, .string (⟨#[44]⟩ : ByteArray)] ?_; (with_reducible refine (strings_Join.calls _ _ x3_1 (⟨#[44]⟩ : ByteArray) t458 _ ?side1 ?side2 A18.out).mono ?_); (case side1 => repeat (first | exact (Kd.R_reads' HO_3.out).2.2 | (with_reducible refine Kd.C_alloc ?_ _) | (with_reducible refine Kd.C_drewN ?_ _) | (with_reducible refine Kd.C_drew ?_))); (case side2 => exact (Kd.R_reads' HO_3.out).2.1); rintro e w20 ⟨rfl, hb⟩; refine ⟨_, rfl, ?_⟩; replace HO_3 := rb HO_3 hb; replace HB := bs HB hb; (try clear hb); (try clear hb2); (try clear hk); (try clear hi)))
   go_ret
   exact ⟨y0_6, bI HB.out⟩

/-! ### impl_NameOf: function 82 -/
def impl_NameOf.l0 : Nat → ByteArray → Int → List (S99) → List (S99) → Int → Int → Option (ByteArray)
 | 0, _, _, _, _, _, _ => none
 | k + 1, x0, x1, x2, x10, x11, x12 => if x12 < x11 then (if 0 ≤ x12 then (if x12 < (x10.length : Int) then ((impl_TxOk.f ((rd_T99 x10 x12).f0) ((rd_T99 x10 x12).f1) ((rd_T99 x10 x12).f2) ((rd_T99 x10 x12).f3)).bind fun t468 => (if t468 = true then (impl_NameOf.l0 k x0 x1 x2 x10 x11 (wrap64 (x12 + 1))) else (some (⟨#[]⟩ : ByteArray)))) else (none)) else (none)) else (if x0.size + 1 ≤ 9223372036854775807 then ((impl_Digits.f x1).bind fun t469 => (if (x0 ++ (⟨#[47]⟩ : ByteArray)).size + t469.size ≤ 9223372036854775807 then (if ((x0 ++ (⟨#[47]⟩ : ByteArray)) ++ t469).size + 1 ≤ 9223372036854775807 then ((impl_TxsText.f k x2).bind fun t470 => (if (((x0 ++ (⟨#[47]⟩ : ByteArray)) ++ t469) ++ (⟨#[124]⟩ : ByteArray)).size + t470.size ≤ 9223372036854775807 then (if (x2.length : Int) > 2 then (some (⟨#[]⟩ : ByteArray)) else ((impl_NameOk.f k ((((x0 ++ (⟨#[47]⟩ : ByteArray)) ++ t469) ++ (⟨#[124]⟩ : ByteArray)) ++ t470)).bind fun t471 => (if t471 = true then (some ((((x0 ++ (⟨#[47]⟩ : ByteArray)) ++ t469) ++ (⟨#[124]⟩ : ByteArray)) ++ t470)) else (some (⟨#[]⟩ : ByteArray))))) else (none))) else (none)) else (none))) else (none))
def impl_NameOf.f (k : Nat) (a0 : ByteArray) (a1 : Int) (l2 : List (S99)) : Option (ByteArray) := impl_NameOf.l0 k a0 a1 l2 l2 (l2.length : Int) 0
theorem impl_NameOf.mono_l : ∀ k, (∀ y0 y1 y2 y3 y4 y5, LeO (impl_NameOf.l0 k y0 y1 y2 y3 y4 y5) (impl_NameOf.l0 (k + 1) y0 y1 y2 y3 y4 y5))
 | 0 => fun _ _ _ _ _ _ r h => by simp [impl_NameOf.l0] at h
 | k + 1 => by
  have ih0 := impl_NameOf.mono_l k
  intro y0 y1 y2 y3 y4 y5
  unfold impl_NameOf.l0
  repeat' first | (with_reducible exact ih0 _ _ _ _ _ _) | (with_reducible exact impl_NameOk.mono _ _) | (with_reducible exact impl_TxsText.mono _ _) | (with_reducible exact LeO.refl _) | (with_reducible exact LeO.none _) | (with_reducible refine LeO.ite ?_ ?_) | (with_reducible refine LeO.bind ?_ (fun _ => ?_))
theorem impl_NameOf.mono : ∀ a0 a1 a2 k, LeO (impl_NameOf.f k a0 a1 a2) (impl_NameOf.f (k + 1) a0 a1 a2) := by
 intro a0 a1 a2 k
 have ih0 := impl_NameOf.mono_l k
 unfold impl_NameOf.f
 repeat' first | (with_reducible exact ih0 _ _ _ _ _ _) | (with_reducible exact impl_NameOk.mono _ _) | (with_reducible exact impl_TxsText.mono _ _) | (with_reducible exact LeO.refl _) | (with_reducible exact LeO.none _) | (with_reducible refine LeO.ite ?_ ?_) | (with_reducible refine LeO.bind ?_ (fun _ => ?_))
set_option maxHeartbeats 8000000 in
set_option maxRecDepth 100000 in
theorem impl_NameOf.calls (k : Nat) (a0 : ByteArray) (a1 : Int) (A2 : Option Addr) (c2 : Nat) (l2 : List (S99)) (r : ByteArray) (w : World) (hr2 : Kd.C k99 w A2 l2.length l2) (hc2 : l2.length ≤ c2) (h : impl_NameOf.f k a0 a1 l2 = some r) (hG : Glob w := by exact gG HG HB) :
  Calls Tryz.prog 82 #[.string a0, .int .i64 a1, .slice A2 l2.length c2] w fun e w' => e = .returned (.string r) ∧ Below w.heap.size w w' := by
 have HG := Aside0.mk hG; clear hG; have hu99 := Tryz.underlying99; have HR2 := Aside0.mk hr2; have HC2 := Aside0.mk hc2; clear hr2 hc2; have HB := Aside0.mk (Below.refl w.heap.size w); have H : (impl_NameOf.l0 k a0 a1 l2 l2 (l2.length : Int) 0) = some r := h; clear h; have H' := Aside0.mk H; clear H
 go_enter Tryz.func82, Tryz.ntmps82
 go_wp2
 go_loopg [12] k (fun kq v12 w' => ∃ (x12_1 : Int), v12 = .int .i64 x12_1 ∧ Aside0 (impl_NameOf.l0 kq a0 a1 l2 l2 (l2.length : Int) x12_1 = some r) ∧ Aside0 (kq ≤ k) ∧ Aside0 (Below w.heap.size w w'))
 case atStart => exact ⟨(0), y0_9, H', ⟨Nat.le_refl _⟩, ⟨bI HB.out⟩⟩
 case round =>
  clear H'
  try clear c2
  try clear p2
  obtain ⟨x12_1, rfl, HA, HK1, HB⟩ := hrel; cases gk with
  | zero => exact absurd HA.out (by simp [impl_NameOf.l0])
  | succ k1 =>
   have H := HA.out; clear HA
   simp only [impl_NameOf.l0] at H
   by_cases c4 : x12_1 < (l2.length : Int)
   ·
    rw [if_pos c4] at H
    have c4b0 : decide (x12_1 < (l2.length : Int)) = true := decide_eq_true c4; clear c4
    by_cases c5 : 0 ≤ x12_1
    rotate_left
    ·
     rw [if_neg c5] at H
     exact absurd H (by simp)
    rw [if_pos c5] at H
    have c5b0 : decide (0 ≤ x12_1) = true := decide_eq_true c5; clear c5
    by_cases c6 : x12_1 < (l2.length : Int)
    rotate_left
    ·
     rw [if_neg c6] at H
     exact absurd H (by simp)
    rw [if_pos c6] at H
    have c6b0 : decide (x12_1 < (l2.length : Int)) = true := decide_eq_true c6; clear c6; obtain ⟨t468, A70, H⟩ := Option.bind_eq_some_iff.mp H
    try dsimp only at H
    have A7 := Aside0.mk A70; clear A70
    by_cases c8 : t468 = true
    ·
     subst c8
     rw [if_pos rfl] at H
     have H' := Aside0.mk H; clear H; have p466 : 0 ≤ (x12_1 : Int) := of_decide_eq_true y0_8; have q466 : x12_1 < (l2.length : Int) := of_decide_eq_true y0_8; obtain ⟨ad466, e466, hx466_0, hx466_1, hx466_2, hx466_3⟩ := at_T99 HR2.out x12_1 p466 q466; cases e466; replace hx466_0 := bx HB hx466_0; replace hx466_1 := bx HB hx466_1; replace hx466_2 := bx HB hx466_2; replace hx466_3 := bx HB hx466_3; replace p466 := eq_true p466; replace q466 := eq_true q466
     go_wp2_with (first | ((with_reducible refine gd 8 ?_); refine bA 8 #[.int .i64 0, .int .i64 0, .int .i64 0, .int .i64 0] 99 ?_; intro gb467 hg w9 hbox hb; have BK467 := Aside0.mk (hbox); have GW467 := bg hg HB; have GJ467 := gi GW467; have GE467 := GW467; replace HB := bs HB hb; clear hb hbox hg; obtain ⟨hcz10_0, hcz10_1, hcz10_2, hcz10_3, hfz10_0, hfz10_1, hfz10_2, hfz10_3⟩ := cs4 BK467) | ((with_reducible refine gate_callee (f := 110) rfl ?_); refine gB (some 17) Tryz.func110 #[.agg #[.int .i64 ((rd_T99 l2 x12_1).f0), .int .i64 ((rd_T99 l2 x12_1).f1), .int .i64 ((rd_T99 l2 x12_1).f2), .int .i64 ((rd_T99 l2 x12_1).f3)]] ?_; (with_reducible refine (impl_TxOk.calls ((rd_T99 l2 x12_1).f0) ((rd_T99 l2 x12_1).f1) ((rd_T99 l2 x12_1).f2) ((rd_T99 l2 x12_1).f3) true _ A7.out).mono ?_); rintro e w11 ⟨rfl, hb⟩; refine ⟨_, rfl, ?_⟩; replace BK467 := bp BK467 hb #[.int .i64 ((rd_T99 l2 x12_1).f0), .int .i64 ((rd_T99 l2 x12_1).f1), .int .i64 ((rd_T99 l2 x12_1).f2), .int .i64 ((rd_T99 l2 x12_1).f3)]; replace HB := bs HB hb; (try clear hb); (try clear hb2); (try clear hk); (try clear hi)))
     go_roundg k1
     case measure => have := HK1.out; omega
     case rel => exact ⟨(wrap64 (x12_1 + 1)), y0_9, H', ⟨y0_13⟩, ⟨bI HB.out⟩⟩
    replace c8 := Bool.eq_false_iff.mpr c8; subst c8
    rw [if_neg (show ¬ (false = true) by decide)] at H
    obtain rfl := Option.some.inj H; have p466 : 0 ≤ (x12_1 : Int) := of_decide_eq_true y0_8; have q466 : x12_1 < (l2.length : Int) := of_decide_eq_true y0_8; obtain ⟨ad466, e466, hx466_0, hx466_1, hx466_2, hx466_3⟩ := at_T99 HR2.out x12_1 p466 q466; cases e466; replace hx466_0 := bx HB hx466_0; replace hx466_1 := bx HB hx466_1; replace hx466_2 := bx HB hx466_2; replace hx466_3 := bx HB hx466_3; replace p466 := eq_true p466; replace q466 := eq_true q466
    go_wp2_with (first | ((with_reducible refine gd 8 ?_); refine bA 8 #[.int .i64 0, .int .i64 0, .int .i64 0, .int .i64 0] 99 ?_; intro gb467 hg w12 hbox hb; have BK467 := Aside0.mk (hbox); have GW467 := bg hg HB; have GJ467 := gi GW467; have GE467 := GW467; replace HB := bs HB hb; clear hb hbox hg; obtain ⟨hcz13_0, hcz13_1, hcz13_2, hcz13_3, hfz13_0, hfz13_1, hfz13_2, hfz13_3⟩ := cs4 BK467) | ((with_reducible refine gate_callee (f := 110) rfl ?_); refine gB (some 17) Tryz.func110 #[.agg #[.int .i64 ((rd_T99 l2 x12_1).f0), .int .i64 ((rd_T99 l2 x12_1).f1), .int .i64 ((rd_T99 l2 x12_1).f2), .int .i64 ((rd_T99 l2 x12_1).f3)]] ?_; (with_reducible refine (impl_TxOk.calls ((rd_T99 l2 x12_1).f0) ((rd_T99 l2 x12_1).f1) ((rd_T99 l2 x12_1).f2) ((rd_T99 l2 x12_1).f3) false _ A7.out).mono ?_); rintro e w14 ⟨rfl, hb⟩; refine ⟨_, rfl, ?_⟩; replace BK467 := bp BK467 hb #[.int .i64 ((rd_T99 l2 x12_1).f0), .int .i64 ((rd_T99 l2 x12_1).f1), .int .i64 ((rd_T99 l2 x12_1).f2), .int .i64 ((rd_T99 l2 x12_1).f3)]; replace HB := bs HB hb; (try clear hb); (try clear hb2); (try clear hk); (try clear hi)))
    go_ret
    exact ⟨y0_6, bI HB.out⟩
   rw [if_neg c4] at H
   have c4b0 : decide (x12_1 < (l2.length : Int)) = false := decide_eq_false c4; clear c4
   by_cases c15 : a0.size + 1 ≤ 9223372036854775807
   ·
    rw [if_pos c15] at H
    have c15b0 := eq_true c15; have c15b1 : decide (a0.size + 1 ≤ 9223372036854775807) = true := decide_eq_true c15
    try have c15b2 : (9223372036854775807 < a0.size + 1) = False := eq_false (Nat.not_lt.2 c15)
    obtain ⟨t469, A160, H⟩ := Option.bind_eq_some_iff.mp H
    try dsimp only at H
    have A16 := Aside0.mk A160; clear A160
    by_cases c17 : (a0 ++ (⟨#[47]⟩ : ByteArray)).size + t469.size ≤ 9223372036854775807
    rotate_left
    ·
     rw [if_neg c17] at H
     exact absurd H (by simp)
    rw [if_pos c17] at H
    have c17b0 := eq_true c17; have c17b1 : decide ((a0 ++ (⟨#[47]⟩ : ByteArray)).size + t469.size ≤ 9223372036854775807) = true := decide_eq_true c17
    try have c17b2 : (9223372036854775807 < (a0 ++ (⟨#[47]⟩ : ByteArray)).size + t469.size) = False := eq_false (Nat.not_lt.2 c17)
    (try have c17b3 : (9223372036854775807 < a0.size + 1 + t469.size) = False := eq_false (by have h_ := c17; simp only [ByteArray.size_append, ByteArray.size_extract, show (⟨#[47]⟩ : ByteArray).size = 1 from rfl] at h_; omega))
    by_cases c18 : ((a0 ++ (⟨#[47]⟩ : ByteArray)) ++ t469).size + 1 ≤ 9223372036854775807
    rotate_left
    ·
     rw [if_neg c18] at H
     exact absurd H (by simp)
    rw [if_pos c18] at H
    have c18b0 := eq_true c18; have c18b1 : decide (((a0 ++ (⟨#[47]⟩ : ByteArray)) ++ t469).size + 1 ≤ 9223372036854775807) = true := decide_eq_true c18
    try have c18b2 : (9223372036854775807 < ((a0 ++ (⟨#[47]⟩ : ByteArray)) ++ t469).size + 1) = False := eq_false (Nat.not_lt.2 c18)
    (try have c18b3 : (9223372036854775807 < a0.size + 1 + t469.size + 1) = False := eq_false (by have h_ := c18; simp only [ByteArray.size_append, ByteArray.size_extract, show (⟨#[47]⟩ : ByteArray).size = 1 from rfl] at h_; omega))
    obtain ⟨t470, A190, H⟩ := Option.bind_eq_some_iff.mp H
    try dsimp only at H
    have A19 := Aside0.mk A190; clear A190
    by_cases c20 : (((a0 ++ (⟨#[47]⟩ : ByteArray)) ++ t469) ++ (⟨#[124]⟩ : ByteArray)).size + t470.size ≤ 9223372036854775807
    rotate_left
    ·
     rw [if_neg c20] at H
     exact absurd H (by simp)
    rw [if_pos c20] at H
    have c20b0 := eq_true c20; have c20b1 : decide ((((a0 ++ (⟨#[47]⟩ : ByteArray)) ++ t469) ++ (⟨#[124]⟩ : ByteArray)).size + t470.size ≤ 9223372036854775807) = true := decide_eq_true c20
    try have c20b2 : (9223372036854775807 < (((a0 ++ (⟨#[47]⟩ : ByteArray)) ++ t469) ++ (⟨#[124]⟩ : ByteArray)).size + t470.size) = False := eq_false (Nat.not_lt.2 c20)
    (try have c20b3 : (9223372036854775807 < a0.size + 1 + t469.size + 1 + t470.size) = False := eq_false (by have h_ := c20; simp only [ByteArray.size_append, ByteArray.size_extract, show (⟨#[124]⟩ : ByteArray).size = 1 from rfl, show (⟨#[47]⟩ : ByteArray).size = 1 from rfl] at h_; omega))
    by_cases c21 : (l2.length : Int) > 2
    ·
     rw [if_pos c21] at H
     have c21b0 : decide (2 < (l2.length : Int)) = true := decide_eq_true c21
     have c21b1 : decide (2 < l2.length) = true := decide_eq_true (by omega)
     clear c21; obtain rfl := Option.some.inj H
     go_wp2_with (first | ((with_reducible refine gate_callee (f := 111) rfl ?_); refine gB (some 23) Tryz.func111 #[.int .i64 a1] ?_; (with_reducible refine (impl_Digits.calls a1 t469 _ A16.out).mono ?_); rintro e w22 ⟨rfl, hb⟩; refine ⟨_, rfl, ?_⟩; replace HB := bs HB hb; (try clear hb); (try clear hb2); (try clear hk); (try clear hi)) | ((with_reducible refine gate_callee (f := 112) rfl ?_); refine gB (some 27) Tryz.func112 #[.slice A2 l2.length c2] ?_; (with_reducible refine (impl_TxsText.calls k1 _ _ l2 t470 _ ?side1 ?side2 A19.out).mono ?_); (case side1 => exact ch HR2 HB); (case side2 => exact HC2.out); rintro e w23 ⟨rfl, hb⟩; refine ⟨_, rfl, ?_⟩; replace HB := bs HB hb; (try clear hb); (try clear hb2); (try clear hk); (try clear hi)))
     go_ret
     exact ⟨y0_6, bI HB.out⟩
    rw [if_neg c21] at H
    have c21b0 : decide (2 < (l2.length : Int)) = false := decide_eq_false c21
    have c21b1 : decide (2 < l2.length) = false := decide_eq_false (by omega)
    clear c21; obtain ⟨t471, A240, H⟩ := Option.bind_eq_some_iff.mp H
    try dsimp only at H
    have A24 := Aside0.mk A240; clear A240
    by_cases c25 : t471 = true
    ·
     subst c25
     rw [if_pos rfl] at H
     obtain rfl := Option.some.inj H
     go_wp2_with (first | ((with_reducible refine gate_callee (f := 111) rfl ?_); refine gB (some 23) Tryz.func111 #[.int .i64 a1] ?_; (with_reducible refine (impl_Digits.calls a1 t469 _ A16.out).mono ?_); rintro e w26 ⟨rfl, hb⟩; refine ⟨_, rfl, ?_⟩; replace HB := bs HB hb; (try clear hb); (try clear hb2); (try clear hk); (try clear hi)) | ((with_reducible refine gate_callee (f := 112) rfl ?_); refine gB (some 27) Tryz.func112 #[.slice A2 l2.length c2] ?_; (with_reducible refine (impl_TxsText.calls k1 _ _ l2 t470 _ ?side1 ?side2 A19.out).mono ?_); (case side1 => exact ch HR2 HB); (case side2 => exact HC2.out); rintro e w27 ⟨rfl, hb⟩; refine ⟨_, rfl, ?_⟩; replace HB := bs HB hb; (try clear hb); (try clear hb2); (try clear hk); (try clear hi)) | (go_at_call 95; (with_reducible refine (impl_NameOk.calls k1 ((((a0 ++ (⟨#[47]⟩ : ByteArray)) ++ t469) ++ (⟨#[124]⟩ : ByteArray)) ++ t470) true _ A24.out).mono ?_); rintro e w28 ⟨rfl, hb⟩; replace HB := bs HB hb; (try clear hb); (try clear hb2); (try clear hk); (try clear hi)))
     go_ret
     exact ⟨y0_6, bI HB.out⟩
    replace c25 := Bool.eq_false_iff.mpr c25; subst c25
    rw [if_neg (show ¬ (false = true) by decide)] at H
    obtain rfl := Option.some.inj H
    go_wp2_with (first | ((with_reducible refine gate_callee (f := 111) rfl ?_); refine gB (some 23) Tryz.func111 #[.int .i64 a1] ?_; (with_reducible refine (impl_Digits.calls a1 t469 _ A16.out).mono ?_); rintro e w29 ⟨rfl, hb⟩; refine ⟨_, rfl, ?_⟩; replace HB := bs HB hb; (try clear hb); (try clear hb2); (try clear hk); (try clear hi)) | ((with_reducible refine gate_callee (f := 112) rfl ?_); refine gB (some 27) Tryz.func112 #[.slice A2 l2.length c2] ?_; (with_reducible refine (impl_TxsText.calls k1 _ _ l2 t470 _ ?side1 ?side2 A19.out).mono ?_); (case side1 => exact ch HR2 HB); (case side2 => exact HC2.out); rintro e w30 ⟨rfl, hb⟩; refine ⟨_, rfl, ?_⟩; replace HB := bs HB hb; (try clear hb); (try clear hb2); (try clear hk); (try clear hi)) | (go_at_call 95; (with_reducible refine (impl_NameOk.calls k1 ((((a0 ++ (⟨#[47]⟩ : ByteArray)) ++ t469) ++ (⟨#[124]⟩ : ByteArray)) ++ t470) false _ A24.out).mono ?_); rintro e w31 ⟨rfl, hb⟩; replace HB := bs HB hb; (try clear hb); (try clear hb2); (try clear hk); (try clear hi)))
    go_ret
    exact ⟨y0_6, bI HB.out⟩
   rw [if_neg c15] at H
   exact absurd H (by simp)

end Go.Proofs.YtemjmefacifdeaaGreatDoor.PFnSettlesThree
