-- By a program of this session, out of the translation (the print of the kit, with turns of its own). Lean checks it.
import Derived.Test.YtemjmefacifdeaaDoorPFnExactNoteBytesx0
namespace Go.Proofs.YtemjmefacifdeaaDoor.PFnExactNoteBytes
open Go.RowKit Go.Proofs.YtemjmefacifdeaaDoorW.PrintWords Go.Proofs.YtemjmefacifdeaaDoorW.PrintLast Go.Proofs.YtemjmefacifdeaaDoorW.PrintMore
attribute [local go_sem] max2_int min2_int max_two min_two max_three min_three max_four min_four   -- for this text's walks alone
set_option linter.unusedVariables false
set_option linter.unusedSimpArgs false

/-! ### laws_toConf: function 6 -/
def laws_toConf.f (a0_0 : Int) (a0_1 : Int) : Option (Int × Int) := some (a0_0, a0_1)
set_option maxHeartbeats 8000000 in
set_option maxRecDepth 100000 in
theorem laws_toConf.calls (a0_0 : Int) (a0_1 : Int) (r1 : Int) (r2 : Int) (w : World) (h : laws_toConf.f a0_0 a0_1 = some (r1, r2)) :
  Calls Tryd.prog 6 #[.agg #[.int .i64 a0_0, .int .i64 a0_1]] w fun e w' => e = .returned (.agg #[.int .i64 r1, .int .i64 r2]) ∧ Below w.heap.size w w' := by
 have hu23 := Tryd.underlying23; have hu32 := Tryd.underlying32; have HB := Aside0.mk (Below.refl w.heap.size w); have H : (some (a0_0, a0_1)) = some (r1, r2) := h; clear h
 simp only [Option.some.injEq, Prod.mk.injEq] at H
 obtain ⟨rfl, rfl⟩ := H
 go_enter Tryd.func6, Tryd.ntmps6
 go_wp2_with (first | ((with_reducible refine gd 1 ?_); refine bA 1 #[.int .i64 a0_0, .int .i64 a0_1] 23 ?_; intro gb307 hg w2 hbox hb; have BK307 := Aside0.mk (hbox); have GW307 := bg hg HB; have GJ307 := gi GW307; have GE307 := GW307; replace HB := bs HB hb; clear hb hbox hg) | ((with_reducible refine gd 2 ?_); refine bA 2 #[.int .i64 0, .int .i64 0] 32 ?_; intro gb308 hg w3 hbox hb; have BK308 := Aside0.mk (hbox); have GW308 := bg hg HB; have GJ308 := gi GW308; have GE308 := GW308; replace HB := bs HB hb; have NB307_308 := b1 BK307 hg; have NI307_308 := ni NB307_308; have NB308_307 := b2 BK307 hg; have NI308_307 := ni NB308_307; replace BK307 := bk BK307 hb; clear hb hbox hg) | ((with_reducible refine gd 3 ?_); refine bA 3 #[.int .i64 0, .int .i64 0] 32 ?_; intro gb309 hg w4 hbox hb; have BK309 := Aside0.mk (hbox); have GW309 := bg hg HB; have GJ309 := gi GW309; have GE309 := GW309; replace HB := bs HB hb; have NB307_309 := b1 BK307 hg; have NI307_309 := ni NB307_309; have NB309_307 := b2 BK307 hg; have NI309_307 := ni NB309_307; replace BK307 := bk BK307 hb; have NB308_309 := b1 BK308 hg; have NI308_309 := ni NB308_309; have NB309_308 := b2 BK308 hg; have NI309_308 := ni NB309_308; replace BK308 := bk BK308 hb; clear hb hbox hg; have hnb5 := NB307_308.out; have hnc5 := NB308_307.out; have hnb6 := NB307_309.out; have hnc6 := NB309_307.out; obtain ⟨hcz7_0, hcz7_1, hfz7_0, hfz7_1⟩ := cs2 BK307; have hnb8 := NB309_308.out; have hnc8 := NB308_309.out; obtain ⟨hcz9_0, hcz9_1, hfz9_0, hfz9_1⟩ := cs2 BK309; obtain ⟨hcz10_0, hcz10_1, hfz10_0, hfz10_1⟩ := cs2 BK308))
 refine bodyPost_ret (results_cell_row rfl _ _ gb308 32 #[.int .i64 a0_0, .int .i64 a0_1] (0, 0) _ rfl (pI BK308) Tryd.underlying32 rfl (by kernel_rfl)) rfl ?_
 exact ⟨y0_7, bI HB.out⟩

/-! ### laws_toIntS: function 27 -/
def laws_toIntS.l0 : Nat → List Int → List Int → Int → Option (List Int)
 | 0, _, _, _ => none
 | k + 1, x0, x3, x4 => if x4 < (x0.length : Int) then (if 0 ≤ x4 then (if x4 < (x3.length : Int) then (laws_toIntS.l0 k x0 (x3.set (x4 : Int).toNat (rd x0 x4)) (wrap64 (x4 + 1))) else (none)) else (none)) else (some x3)
def laws_toIntS.f (k : Nat) (l0 : List Int) : Option (List Int) := if 0 ≤ (l0.length : Int) then (if ((l0.length : Int) : Int).toNat ≤ 35184372088832 then (laws_toIntS.l0 k l0 (List.replicate ((l0.length : Int) : Int).toNat 0) 0) else (none)) else (none)
theorem laws_toIntS.mono_l : ∀ k, (∀ y0 y1 y2, LeO (laws_toIntS.l0 k y0 y1 y2) (laws_toIntS.l0 (k + 1) y0 y1 y2))
 | 0 => fun _ _ _ r h => by simp [laws_toIntS.l0] at h
 | k + 1 => by
  have ih0 := laws_toIntS.mono_l k
  intro y0 y1 y2
  unfold laws_toIntS.l0
  repeat' first | (with_reducible exact ih0 _ _ _) | (with_reducible exact LeO.refl _) | (with_reducible exact LeO.none _) | (with_reducible refine LeO.ite ?_ ?_) | (with_reducible refine LeO.bind ?_ (fun _ => ?_))
theorem laws_toIntS.mono : ∀ a0 k, LeO (laws_toIntS.f k a0) (laws_toIntS.f (k + 1) a0) := by
 intro a0 k
 have ih0 := laws_toIntS.mono_l k
 unfold laws_toIntS.f
 repeat' first | (with_reducible exact ih0 _ _ _) | (with_reducible exact LeO.refl _) | (with_reducible exact LeO.none _) | (with_reducible refine LeO.ite ?_ ?_) | (with_reducible refine LeO.bind ?_ (fun _ => ?_))
set_option maxHeartbeats 8000000 in
set_option maxRecDepth 100000 in
theorem laws_toIntS.calls (k : Nat) (A0 : Option Addr) (c0 : Nat) (l0 : List Int) (r : List Int) (w : World) (hr0 : Kd.C (Kd.int .i64) w A0 l0.length l0) (hc0 : l0.length ≤ c0) (h : laws_toIntS.f k l0 = some r) :
  Calls Tryd.prog 27 #[.slice A0 l0.length c0] w fun e w' => ∃ v0_ : Value, e = .returned (v0_) ∧ Kd.R (Kd.int .i64) 3 w' w.heap.size (fun _ => True) v0_ r ∧ Below w.heap.size w w' := by
 have HR0 := Aside0.mk hr0; have HC0 := Aside0.mk hc0; clear hr0 hc0; have HB := Aside0.mk (Below.refl w.heap.size w); have H : (if 0 ≤ (l0.length : Int) then (if ((l0.length : Int) : Int).toNat ≤ 35184372088832 then (laws_toIntS.l0 k l0 (List.replicate ((l0.length : Int) : Int).toNat 0) 0) else (none)) else (none)) = some r := h; clear h
 by_cases c2 : 0 ≤ (l0.length : Int)
 ·
  rw [if_pos c2] at H
  have c2b0 := eq_true c2; have c2b1 : decide (0 ≤ (l0.length : Int)) = true := decide_eq_true c2; clear c2
  by_cases c3 : ((l0.length : Int) : Int).toNat ≤ 35184372088832
  rotate_left
  ·
   rw [if_neg c3] at H
   exact absurd H (by simp)
  rw [if_pos c3] at H
  have c3b0 := eq_true c3; have c3b1 : decide (((l0.length : Int) : Int).toNat ≤ 35184372088832) = true := decide_eq_true c3; clear c3; obtain ⟨y310, hy310⟩ : ∃ y_ : List Int, y_ = (List.replicate ((l0.length : Int) : Int).toNat 0) := ⟨_, rfl⟩
  replace H : (laws_toIntS.l0 k l0 y310 0) = some r := by first | (rw [hy310]; with_reducible exact H) | (have H2_ := (Option.bind_some _ _).symm.trans H; rw [hy310]; with_reducible exact H2_) | (have H2_ := (Option.bind_some _ _).symm.trans H; with_reducible exact H2_) | with_reducible exact H | (rw [hy310]; exact H) | exact H
  have Ny310 := Aside0.mk hy310; clear hy310; have H' := Aside0.mk H; clear H
  go_enter Tryd.func27, Tryd.ntmps27
  go_wp2_with (first | ((with_reducible refine gate_dst (N := 7) rfl ?_); refine Kd.R_make (Kd.int .i64) _ 3 rfl (N := 7) rfl 24 _ _ rfl (l0.length : Int) rfl rfl Tryd.underlying24 (.int .i64 0) 8 info3 rfl (by decide) (by omega) 0 (ok := fun _ => True) (okp := fun _ => True) rfl (fun _ hk => hk) trivial (of_decide_eq_true y0_9) (Nat.le_trans (Nat.mul_le_mul_right _ (of_decide_eq_true y0_9 : (l0.length : Int).toNat ≤ 35184372088832)) (by omega)) (Below.refl _ _) (Nat.le_refl _) ?_; intro v311 w4 ho5 hb hg_ hnew_; clear hg_ hnew_; (first | rw [← Ny310.out] at ho5 | (simp only [Int.reduceToNat] at ho5; rw [← Ny310.out] at ho5)); have HO312 := Aside0.mk (Kd.R_lower ho5 (below_size (bI HB.out))); replace HB := bs HB hb; clear hb ho5))
  go_loopg [4] k (fun kq v4 w' => ∃ (x3_1 : List Int) (x4_1 : Int), v4 = .int .i64 x4_1 ∧ Aside0 (laws_toIntS.l0 kq l0 x3_1 x4_1 = some r) ∧ Aside0 (kq ≤ k) ∧ Aside0 (Kd.R (Kd.int .i64) 3 w' w.heap.size (fun _ => True) v311 x3_1) ∧ Aside0 (Below w.heap.size w w'))
  case atStart => exact ⟨(y310), (0), y0_10, H', ⟨Nat.le_refl _⟩, ⟨by (with_reducible repeat (first | apply Kd.R_alloc | apply Kd.R_drewN | apply Kd.R_drew)); exact HO312.out⟩, ⟨bI HB.out⟩⟩
  case round =>
   clear H'
   try clear c2
   try clear c2b0
   try clear c2b1
   try clear p2
   try clear c3
   try clear c3b0
   try clear c3b1
   obtain ⟨x3_1, x4_1, rfl, HA, HK1, HO_3, HB⟩ := hrel; cases gk with
   | zero => exact absurd HA.out (by simp [laws_toIntS.l0])
   | succ k1 =>
    have H := HA.out; clear HA
    simp only [laws_toIntS.l0] at H
    by_cases c6 : x4_1 < (l0.length : Int)
    ·
     rw [if_pos c6] at H
     have c6b0 : decide (x4_1 < (l0.length : Int)) = true := decide_eq_true c6; clear c6
     by_cases c7 : 0 ≤ x4_1
     rotate_left
     ·
      rw [if_neg c7] at H
      exact absurd H (by simp)
     rw [if_pos c7] at H
     have c7b0 : decide (0 ≤ x4_1) = true := decide_eq_true c7; clear c7
     by_cases c8 : x4_1 < (x3_1.length : Int)
     rotate_left
     ·
      rw [if_neg c8] at H
      exact absurd H (by simp)
     rw [if_pos c8] at H
     have c8b0 : decide (x4_1 < (x3_1.length : Int)) = true := decide_eq_true c8; clear c8; obtain ⟨y314, hy314⟩ : ∃ y_ : List Int, y_ = (x3_1.set (x4_1 : Int).toNat (rd l0 x4_1)) := ⟨_, rfl⟩
     replace H : (laws_toIntS.l0 k1 l0 y314 (wrap64 (x4_1 + 1))) = some r := by first | (rw [hy314]; with_reducible exact H) | (have H2_ := (Option.bind_some _ _).symm.trans H; rw [hy314]; with_reducible exact H2_) | (have H2_ := (Option.bind_some _ _).symm.trans H; with_reducible exact H2_) | with_reducible exact H | (rw [hy314]; exact H) | exact H
     have Ny314 := Aside0.mk hy314; clear hy314; have H' := Aside0.mk H; clear H; have p313 : 0 ≤ (x4_1 : Int) := of_decide_eq_true y0_9; have q313 : x4_1 < (l0.length : Int) := of_decide_eq_true y0_9; obtain ⟨ad313, e313, hx313_0⟩ := Kd.at_int HR0.out x4_1 p313 q313; cases e313; replace hx313_0 := bx HB hx313_0; replace p313 := eq_true p313; replace q313 := eq_true q313; have p9 : 0 ≤ (x4_1 : Int) := of_decide_eq_true y0_9; have q9 : (x4_1 : Int) < ((x3_1.length : Int) : Int) := of_decide_eq_true y0_9
     obtain ⟨go9, co9, eo9, gb9, gl9, cl9, HG9⟩ := Kd.R_form HO_3.out (by omega)
     (first | cases eo9 | (injection eo9 with ea_ en_ ec_; (first | subst ea_ | (injection ea_ with ea_; subst ea_)); subst ec_; clear en_))
     have GB9 := Aside0.mk gb9; have GG9 := Aside0.mk HG9; clear gb9 gl9 HG9; obtain ⟨hx9_0, hf9_0⟩ := Kd.R_celln 0 HO_3.out (x4_1 : Int) p9 q9; replace p9 := eq_true p9; replace q9 := eq_true q9; have HP10 := Kd.R_putg HO_3.out (x4_1 : Int) (rd l0 x4_1)
     go_wp2_with (first | ((with_reducible refine gate_store (t := 3) (p := 20) rfl ?_); refine store_event (t := 3) (p := 20) (v := ?vo_w11) (w1 := (wr.setCell ⟨go9, (x4_1 : Int).toNat, none⟩ (.int .i64 (rd l0 x4_1)))) ?hg ?ho ?hn ?hr ?_; (case ho => rfl); (case hg => rfl); (case hn => rfl); (case hr => first | (go_simp; done) | (go_simp; rfl)); intro w11 hw; have hg : wr.grownBy w11 (some go9) := (by rw [hw]; exact HP10.2); have hp_ : Kd.R (Kd.int .i64) 3 w11 w.heap.size (fun _ => True) (.slice (some ⟨go9, 0, none⟩) x3_1.length co9) y314 := (by rw [hw, Ny314.out]; exact HP10.1); clear HP10; replace HO_3 := Aside0.mk (hp_); replace HB := Aside0.mk ((by rw [hw]; exact below_set (HB.out) GB9.out : Below w.heap.size w w11)); clear hg hw hp_))
     go_roundg k1
     case measure => have := HK1.out; omega
     case rel => exact ⟨(y314), (wrap64 (x4_1 + 1)), y0_10, H', ⟨y0_14⟩, ⟨y0_5⟩, ⟨bI HB.out⟩⟩
    rw [if_neg c6] at H
    have c6b0 : decide (x4_1 < (l0.length : Int)) = false := decide_eq_false c6; clear c6; obtain rfl := Option.some.inj H
    go_wp2
    go_ret
    exact ⟨_, y0_7, y0_5, bI HB.out⟩
 rw [if_neg c2] at H
 exact absurd H (by simp)

/-! ### laws_toQc: function 17 -/
def laws_toQc.f (k : Nat) (a0_0 : Int) (a0_1 : ByteArray) (l0_2 : List Int) : Option (Int × ByteArray × List Int) := (laws_toIntS.f k l0_2).bind fun t318 => (some (a0_0, a0_1, t318))
theorem laws_toQc.mono : ∀ a0 a1 a2 k, LeO (laws_toQc.f k a0 a1 a2) (laws_toQc.f (k + 1) a0 a1 a2) := by
 intro a0 a1 a2 k
 unfold laws_toQc.f
 repeat' first | (with_reducible exact laws_toIntS.mono _ _) | (with_reducible exact LeO.refl _) | (with_reducible exact LeO.none _) | (with_reducible refine LeO.ite ?_ ?_) | (with_reducible refine LeO.bind ?_ (fun _ => ?_))
set_option maxHeartbeats 8000000 in
set_option maxRecDepth 100000 in
theorem laws_toQc.calls (k : Nat) (a0_0 : Int) (a0_1 : ByteArray) (A0_2 : Option Addr) (c0_2 : Nat) (l0_2 : List Int) (r1 : Int) (r2 : ByteArray) (r3 : List Int) (w : World) (hr0_2 : Kd.C (Kd.int .i64) w A0_2 l0_2.length l0_2) (hc0_2 : l0_2.length ≤ c0_2) (h : laws_toQc.f k a0_0 a0_1 l0_2 = some (r1, r2, r3)) :
  Calls Tryd.prog 17 #[.agg #[.int .i64 a0_0, .string a0_1, .slice A0_2 l0_2.length c0_2]] w fun e w' => ∃ v2_ : Value, e = .returned (.agg #[.int .i64 r1, .string r2, v2_]) ∧ Kd.R (Kd.int .i64) 3 w' w.heap.size (fun _ => True) v2_ r3 ∧ Below w.heap.size w w' := by
 have hu26 := Tryd.underlying26; have hu34 := Tryd.underlying34; have HR0_2 := Aside0.mk hr0_2; have HC0_2 := Aside0.mk hc0_2; clear hr0_2 hc0_2; have HB := Aside0.mk (Below.refl w.heap.size w)
 have H : ((laws_toIntS.f k l0_2).bind fun t318 => (some (a0_0, a0_1, t318))) = some (r1, r2, r3) := h
 clear h; obtain ⟨t318, A20, H⟩ := Option.bind_eq_some_iff.mp H
 try dsimp only at H
 have A2 := Aside0.mk A20; clear A20
 simp only [Option.some.injEq, Prod.mk.injEq] at H
 obtain ⟨rfl, rfl, rfl⟩ := H
 go_enter Tryd.func17, Tryd.ntmps17
 go_wp2_with (first | ((with_reducible refine gd 1 ?_); refine bA 1 #[.int .i64 a0_0, .string a0_1, .slice A0_2 l0_2.length c0_2] 26 ?_; intro gb315 hg w3 hbox hb; have BK315 := Aside0.mk (hbox); have GW315 := bg hg HB; have GJ315 := gi GW315; have GE315 := GW315; replace HB := bs HB hb; clear hb hbox hg) | ((with_reducible refine gd 2 ?_); refine bA 2 #[.int .i64 0, .string (⟨#[]⟩ : ByteArray), .slice none 0 0] 34 ?_; intro gb316 hg w4 hbox hb; have BK316 := Aside0.mk (hbox); have GW316 := bg hg HB; have GJ316 := gi GW316; have GE316 := GW316; replace HB := bs HB hb; have NB315_316 := b1 BK315 hg; have NI315_316 := ni NB315_316; have NB316_315 := b2 BK315 hg; have NI316_315 := ni NB316_315; replace BK315 := bk BK315 hb; clear hb hbox hg) | ((with_reducible refine gd 3 ?_); refine bA 3 #[.int .i64 0, .string (⟨#[]⟩ : ByteArray), .slice none 0 0] 34 ?_; intro gb317 hg w5 hbox hb; have BK317 := Aside0.mk (hbox); have GW317 := bg hg HB; have GJ317 := gi GW317; have GE317 := GW317; replace HB := bs HB hb; have NB315_317 := b1 BK315 hg; have NI315_317 := ni NB315_317; have NB317_315 := b2 BK315 hg; have NI317_315 := ni NB317_315; replace BK315 := bk BK315 hb; have NB316_317 := b1 BK316 hg; have NI316_317 := ni NB316_317; have NB317_316 := b2 BK316 hg; have NI317_316 := ni NB317_316; replace BK316 := bk BK316 hb; clear hb hbox hg; have hnb6 := NB315_316.out; have hnc6 := NB316_315.out; have hnb7 := NB315_317.out; have hnc7 := NB317_315.out; obtain ⟨hcz8_0, hcz8_1, hcz8_2, hfz8_0, hfz8_1, hfz8_2⟩ := cs3 BK315; have hnb9 := NB317_316.out; have hnc9 := NB316_317.out; obtain ⟨hcz10_0, hcz10_1, hcz10_2, hfz10_0, hfz10_1, hfz10_2⟩ := cs3 BK317) | ((with_reducible refine gate_callee (f := 27) rfl ?_); refine gB (some 12) Tryd.func27 #[.slice A0_2 l0_2.length c0_2] ?_; (with_reducible refine (laws_toIntS.calls k _ _ l0_2 t318 _ ?side1 ?side2 A2.out).mono ?_); (case side1 => exact Kd.C_below HR0_2.out (bI HB.out)); (case side2 => exact HC0_2.out); rintro e w11 ⟨v319, rfl, ho0, hb⟩; refine ⟨_, rfl, ?_⟩; have HO320 := Aside0.mk (Kd.R_lower ho0 (below_size (bI HB.out))); replace BK315 := Aside0.mk (blk_below (g := gb315) (o := .cells #[.int .i64 a0_0, .string a0_1, .slice A0_2 l0_2.length c0_2] 26 (0, 0)) (gI BK315.out) hb); replace BK316 := Aside0.mk (blk_below (g := gb316) (o := .cells #[.int .i64 0, .string (⟨#[]⟩ : ByteArray), .slice none 0 0] 34 (0, 0)) (gI BK316.out) hb); replace BK317 := bp BK317 hb #[.int .i64 a0_0, .string a0_1, .slice none 0 0]; replace HB := bs HB hb; (try clear hb); (try clear ho0); obtain ⟨Ao12, co12, eo12⟩ := Kd.R_slice HO320.out; subst eo12; obtain ⟨hcz13_0, hcz13_1, hcz13_2, hfz13_0, hfz13_1, hfz13_2⟩ := cs3 BK317; obtain ⟨hcz14_0, hcz14_1, hcz14_2, hfz14_0, hfz14_1, hfz14_2⟩ := cs3 BK316))
 refine bodyPost_ret (results_cell_row rfl _ _ gb316 34 #[.int .i64 a0_0, .string a0_1, .slice Ao12 t318.length co12] (0, 0) _ rfl (pI BK316) Tryd.underlying34 rfl (by kernel_rfl)) rfl ?_
 exact ⟨_, y0_7, by (with_reducible repeat (first | apply Kd.R_alloc | apply Kd.R_drewN | apply Kd.R_drew)); exact Kd.R_mono (Kd.R_far (p := ⟨gb316, 2, none⟩) (Kd.R_far (p := ⟨gb316, 1, none⟩) (Kd.R_far (p := ⟨gb316, 0, none⟩) (Kd.R_far (p := ⟨gb317, 2, none⟩) (Kd.R_types (Kd.R_types HO320.out BK317.out (by decide)) BK316.out (by decide)) (fun _ hk => hk.1.2) (.slice Ao12 t318.length co12)) (fun _ hk => hk.2) (.int .i64 a0_0)) (fun _ hk => hk.2) (.string a0_1)) (fun _ hk => hk.2) (.slice Ao12 t318.length co12)) (fun _ hk => trivial), bI HB.out⟩

/-! ### laws_toSafe: function 7 -/
def laws_toSafe.f (k : Nat) (a0_0 : Int) (a0_1 : Int) (a0_2 : Int) (a0_3 : ByteArray) (l0_4 : List Int) (a0_5 : ByteArray) : Option (Int × Int × Int × ByteArray × List Int × ByteArray) := (laws_toQc.f k a0_2 a0_3 l0_4).bind fun bt324 => (some (a0_0, a0_1, bt324.1, bt324.2.1, bt324.2.2, a0_5))
theorem laws_toSafe.mono : ∀ a0 a1 a2 a3 a4 a5 k, LeO (laws_toSafe.f k a0 a1 a2 a3 a4 a5) (laws_toSafe.f (k + 1) a0 a1 a2 a3 a4 a5) := by
 intro a0 a1 a2 a3 a4 a5 k
 unfold laws_toSafe.f
 repeat' first | (with_reducible exact laws_toQc.mono _ _ _ _) | (with_reducible exact LeO.refl _) | (with_reducible exact LeO.none _) | (with_reducible refine LeO.ite ?_ ?_) | (with_reducible refine LeO.bind ?_ (fun _ => ?_))
set_option maxHeartbeats 8000000 in
set_option maxRecDepth 100000 in
theorem laws_toSafe.calls (k : Nat) (a0_0 : Int) (a0_1 : Int) (a0_2 : Int) (a0_3 : ByteArray) (A0_4 : Option Addr) (c0_4 : Nat) (l0_4 : List Int) (a0_5 : ByteArray) (r1 : Int) (r2 : Int) (r3 : Int) (r4 : ByteArray) (r5 : List Int) (r6 : ByteArray) (w : World) (hr0_4 : Kd.C (Kd.int .i64) w A0_4 l0_4.length l0_4) (hc0_4 : l0_4.length ≤ c0_4) (h : laws_toSafe.f k a0_0 a0_1 a0_2 a0_3 l0_4 a0_5 = some (r1, r2, r3, r4, r5, r6)) :
  Calls Tryd.prog 7 #[.agg #[.int .i64 a0_0, .int .i64 a0_1, .int .i64 a0_2, .string a0_3, .slice A0_4 l0_4.length c0_4, .string a0_5]] w fun e w' => ∃ v4_ : Value, e = .returned (.agg #[.int .i64 r1, .int .i64 r2, .int .i64 r3, .string r4, v4_, .string r6]) ∧ Kd.R (Kd.int .i64) 3 w' w.heap.size (fun _ => True) v4_ r5 ∧ Below w.heap.size w w' := by
 have hu28 := Tryd.underlying28; have hu36 := Tryd.underlying36; have hu26 := Tryd.underlying26; have hu34 := Tryd.underlying34; have HR0_4 := Aside0.mk hr0_4; have HC0_4 := Aside0.mk hc0_4; clear hr0_4 hc0_4; have HB := Aside0.mk (Below.refl w.heap.size w)
 have H : ((laws_toQc.f k a0_2 a0_3 l0_4).bind fun bt324 => (some (a0_0, a0_1, bt324.1, bt324.2.1, bt324.2.2, a0_5))) = some (r1, r2, r3, r4, r5, r6) := h
 clear h; obtain ⟨⟨t324, t325, t326⟩, A20, H⟩ := Option.bind_eq_some_iff.mp H
 try dsimp only at H
 have A2 := Aside0.mk A20; clear A20
 simp only [Option.some.injEq, Prod.mk.injEq] at H
 obtain ⟨rfl, rfl, rfl, rfl, rfl, rfl⟩ := H
 go_enter Tryd.func7, Tryd.ntmps7
 go_wp2_with (first | ((with_reducible refine gd 1 ?_); refine bA 1 #[.int .i64 a0_0, .int .i64 a0_1, .int .i64 a0_2, .string a0_3, .slice A0_4 l0_4.length c0_4, .string a0_5] 28 ?_; intro gb321 hg w3 hbox hb; have BK321 := Aside0.mk (hbox); have GW321 := bg hg HB; have GJ321 := gi GW321; have GE321 := GW321; replace HB := bs HB hb; clear hb hbox hg) | ((with_reducible refine gd 2 ?_); refine bA 2 #[.int .i64 0, .int .i64 0, .int .i64 0, .string (⟨#[]⟩ : ByteArray), .slice none 0 0, .string (⟨#[]⟩ : ByteArray)] 36 ?_; intro gb322 hg w4 hbox hb; have BK322 := Aside0.mk (hbox); have GW322 := bg hg HB; have GJ322 := gi GW322; have GE322 := GW322; replace HB := bs HB hb; have NB321_322 := b1 BK321 hg; have NI321_322 := ni NB321_322; have NB322_321 := b2 BK321 hg; have NI322_321 := ni NB322_321; replace BK321 := bk BK321 hb; clear hb hbox hg) | ((with_reducible refine gd 3 ?_); refine bA 3 #[.int .i64 0, .int .i64 0, .int .i64 0, .string (⟨#[]⟩ : ByteArray), .slice none 0 0, .string (⟨#[]⟩ : ByteArray)] 36 ?_; intro gb323 hg w5 hbox hb; have BK323 := Aside0.mk (hbox); have GW323 := bg hg HB; have GJ323 := gi GW323; have GE323 := GW323; replace HB := bs HB hb; have NB321_323 := b1 BK321 hg; have NI321_323 := ni NB321_323; have NB323_321 := b2 BK321 hg; have NI323_321 := ni NB323_321; replace BK321 := bk BK321 hb; have NB322_323 := b1 BK322 hg; have NI322_323 := ni NB322_323; have NB323_322 := b2 BK322 hg; have NI323_322 := ni NB323_322; replace BK322 := bk BK322 hb; clear hb hbox hg; have hnb6 := NB321_322.out; have hnc6 := NB322_321.out; have hnb7 := NB321_323.out; have hnc7 := NB323_321.out; have hcz8_0 := bc0 BK321.out; have hcz8_1 := bc1 BK321.out; have hcz8_2 := bc2 BK321.out; have hcz8_3 := bc3 BK321.out; have hcz8_4 := bc4 BK321.out; have hcz8_5 := bc5 BK321.out; have hfz8_0 := blk_frozen BK321.out 0; have hfz8_1 := blk_frozen BK321.out 1; have hfz8_2 := blk_frozen BK321.out 2; have hfz8_3 := blk_frozen BK321.out 3; have hfz8_4 := blk_frozen BK321.out 4; have hfz8_5 := blk_frozen BK321.out 5; have hnb9 := NB323_322.out; have hnc9 := NB322_323.out; have hcz10_0 := bc0 BK323.out; have hcz10_1 := bc1 BK323.out; have hcz10_2 := bc2 BK323.out; have hcz10_3 := bc3 BK323.out; have hcz10_4 := bc4 BK323.out; have hcz10_5 := bc5 BK323.out; have hfz10_0 := blk_frozen BK323.out 0; have hfz10_1 := blk_frozen BK323.out 1; have hfz10_2 := blk_frozen BK323.out 2; have hfz10_3 := blk_frozen BK323.out 3; have hfz10_4 := blk_frozen BK323.out 4; have hfz10_5 := blk_frozen BK323.out 5) | ((with_reducible refine gate_callee (f := 17) rfl ?_); refine gB (some 12) Tryd.func17 #[.agg #[.int .i64 a0_2, .string a0_3, .slice A0_4 l0_4.length c0_4]] ?_; (with_reducible refine (laws_toQc.calls k a0_2 a0_3 _ _ l0_4 t324 t325 t326 _ ?side1 ?side2 A2.out).mono ?_); (case side1 => exact Kd.C_below HR0_4.out (bI HB.out)); (case side2 => exact HC0_4.out); rintro e w11 ⟨v327, rfl, ho0, hb⟩; refine ⟨_, rfl, ?_⟩; have HO328 := Aside0.mk (Kd.R_lower ho0 (below_size (bI HB.out))); replace BK321 := Aside0.mk (blk_below (g := gb321) (o := .cells #[.int .i64 a0_0, .int .i64 a0_1, .int .i64 a0_2, .string a0_3, .slice A0_4 l0_4.length c0_4, .string a0_5] 28 (0, 0)) (gI BK321.out) hb); replace BK322 := Aside0.mk (blk_below (g := gb322) (o := .cells #[.int .i64 0, .int .i64 0, .int .i64 0, .string (⟨#[]⟩ : ByteArray), .slice none 0 0, .string (⟨#[]⟩ : ByteArray)] 36 (0, 0)) (gI BK322.out) hb); replace BK323 := bp BK323 hb #[.int .i64 a0_0, .int .i64 a0_1, .int .i64 0, .string (⟨#[]⟩ : ByteArray), .slice none 0 0, .string (⟨#[]⟩ : ByteArray)]; replace HB := bs HB hb; (try clear hb); (try clear ho0); have hcz12_0 := bc0 BK323.out; have hcz12_1 := bc1 BK323.out; have hcz12_2 := bc2 BK323.out; have hcz12_3 := bc3 BK323.out; have hcz12_4 := bc4 BK323.out; have hcz12_5 := bc5 BK323.out; have hfz12_0 := blk_frozen BK323.out 0; have hfz12_1 := blk_frozen BK323.out 1; have hfz12_2 := blk_frozen BK323.out 2; have hfz12_3 := blk_frozen BK323.out 3; have hfz12_4 := blk_frozen BK323.out 4; have hfz12_5 := blk_frozen BK323.out 5; obtain ⟨Ao13, co13, eo13⟩ := Kd.R_slice HO328.out; subst eo13; have hcz14_0 := bc0 BK321.out; have hcz14_1 := bc1 BK321.out; have hcz14_2 := bc2 BK321.out; have hcz14_3 := bc3 BK321.out; have hcz14_4 := bc4 BK321.out; have hcz14_5 := bc5 BK321.out; have hfz14_0 := blk_frozen BK321.out 0; have hfz14_1 := blk_frozen BK321.out 1; have hfz14_2 := blk_frozen BK321.out 2; have hfz14_3 := blk_frozen BK321.out 3; have hfz14_4 := blk_frozen BK321.out 4; have hfz14_5 := blk_frozen BK321.out 5; have hcz15_0 := bc0 BK322.out; have hcz15_1 := bc1 BK322.out; have hcz15_2 := bc2 BK322.out; have hcz15_3 := bc3 BK322.out; have hcz15_4 := bc4 BK322.out; have hcz15_5 := bc5 BK322.out; have hfz15_0 := blk_frozen BK322.out 0; have hfz15_1 := blk_frozen BK322.out 1; have hfz15_2 := blk_frozen BK322.out 2; have hfz15_3 := blk_frozen BK322.out 3; have hfz15_4 := blk_frozen BK322.out 4; have hfz15_5 := blk_frozen BK322.out 5))
 refine bodyPost_ret (results_cell_row rfl _ _ gb322 36 #[.int .i64 a0_0, .int .i64 a0_1, .int .i64 t324, .string t325, .slice Ao13 t326.length co13, .string a0_5] (0, 0) _ rfl (pI BK322) Tryd.underlying36 rfl (by kernel_rfl)) rfl ?_
 exact ⟨_, y0_7, by (with_reducible repeat (first | apply Kd.R_alloc | apply Kd.R_drewN | apply Kd.R_drew)); exact Kd.R_mono (Kd.R_far (p := ⟨gb322, 5, none⟩) (Kd.R_far (p := ⟨gb322, 4, none⟩) (Kd.R_far (p := ⟨gb322, 3, none⟩) (Kd.R_far (p := ⟨gb322, 2, none⟩) (Kd.R_far (p := ⟨gb322, 1, none⟩) (Kd.R_far (p := ⟨gb322, 0, none⟩) (Kd.R_far (p := ⟨gb323, 5, none⟩) (Kd.R_far (p := ⟨gb323, 4, none⟩) (Kd.R_far (p := ⟨gb323, 3, none⟩) (Kd.R_far (p := ⟨gb323, 2, none⟩) (Kd.R_types (Kd.R_types HO328.out BK323.out (by decide)) BK322.out (by decide)) (fun _ hk => hk.1.2) (.int .i64 t324)) (fun _ hk => hk.1.2) (.string t325)) (fun _ hk => hk.1.2) (.slice Ao13 t326.length co13)) (fun _ hk => hk.1.2) (.string a0_5)) (fun _ hk => hk.2) (.int .i64 a0_0)) (fun _ hk => hk.2) (.int .i64 a0_1)) (fun _ hk => hk.2) (.int .i64 t324)) (fun _ hk => hk.2) (.string t325)) (fun _ hk => hk.2) (.slice Ao13 t326.length co13)) (fun _ hk => hk.2) (.string a0_5)) (fun _ hk => trivial), bI HB.out⟩

/-! ### impl_within: function 32 -/
def impl_within.f (a0 : Int) (a1 : Int) (a2 : Int) : Option (Bool) := if a0 ≥ a1 then (some (decide (a0 ≤ a2))) else (some false)
set_option maxHeartbeats 8000000 in
set_option maxRecDepth 100000 in
theorem impl_within.calls (a0 : Int) (a1 : Int) (a2 : Int) (r : Bool) (w : World) (h : impl_within.f a0 a1 a2 = some r) :
  Calls Tryd.prog 32 #[.int .i64 a0, .int .i64 a1, .int .i64 a2] w fun e w' => e = .returned (.bool r) ∧ Drawn0 w w' := by
 have H : (if a0 ≥ a1 then (some (decide (a0 ≤ a2))) else (some false)) = some r := h; clear h
 by_cases c4 : a0 ≥ a1
 ·
  rw [if_pos c4] at H
  have c4b0 : decide (a1 ≤ a0) = true := decide_eq_true c4; clear c4; obtain rfl := Option.some.inj H
  go_enter Tryd.func32, Tryd.ntmps32
  go_wp2
  go_ret
  exact ⟨y0_10, y0_8⟩
 rw [if_neg c4] at H
 have c4b0 : decide (a1 ≤ a0) = false := decide_eq_false c4; clear c4; obtain rfl := Option.some.inj H
 go_enter Tryd.func32, Tryd.ntmps32
 go_wp2
 go_ret
 exact ⟨y0_10, y0_8⟩

/-! ### strings_Split: function 63 -/

/-! ### impl_Split: function 57 -/
def impl_Split.f (a0 : ByteArray) (a1 : Int) : Option (List ByteArray) := (strings_Split.f a0 (strOfNums (([a1] : List Int)))).bind fun t332 => (some t332)
set_option maxHeartbeats 8000000 in
set_option maxRecDepth 100000 in
theorem impl_Split.calls (a0 : ByteArray) (a1 : Int) (r : List ByteArray) (w : World) (h : impl_Split.f a0 a1 = some r) (hG : Glob w := by exact gG HG HB) :
  Calls Tryd.prog 57 #[.string a0, .int .u8 a1] w fun e w' => ∃ v0_ : Value, e = .returned (v0_) ∧ Kd.R Kd.string 9 w' w.heap.size (fun _ => True) v0_ r ∧ Below w.heap.size w w' := by
 have HG := Aside0.mk hG; clear hG; have HB := Aside0.mk (Below.refl w.heap.size w)
 have H : ((strings_Split.f a0 (strOfNums (([a1] : List Int)))).bind fun t332 => (some t332)) = some r := h
 clear h; obtain ⟨y329, hy329⟩ : ∃ y_ : List Int, y_ = (([a1] : List Int)) := ⟨_, rfl⟩
 replace H : ((strings_Split.f a0 (strOfNums y329)).bind fun t332 => (some t332)) = some r := by first | (rw [hy329]; with_reducible exact H) | (have H2_ := (Option.bind_some _ _).symm.trans H; rw [hy329]; with_reducible exact H2_) | (have H2_ := (Option.bind_some _ _).symm.trans H; with_reducible exact H2_) | with_reducible exact H | (rw [hy329]; exact H) | exact H
 have Ny329 := Aside0.mk hy329; clear hy329; obtain ⟨t332, A30, H⟩ := Option.bind_eq_some_iff.mp H
 try dsimp only at H
 have A3 := Aside0.mk A30; clear A30; obtain rfl := Option.some.inj H
 go_enter Tryd.func57, Tryd.ntmps57
 go_wp2_with (first | ((with_reducible refine gate_dst (N := 7) rfl ?_); refine Kd.R_lit (Kd.int .u8) _ 5 ?hg (N := 7) ?hd (xs := ([a1] : List Int)) (inner := [.int .u8 a1]) (ok := fun _ => True) (okp := fun _ => True) ?hr ?hp (fun _ hk => hk) trivial (Below.refl _ _) (Nat.le_refl _) (by simp) ?_; (case hd => rfl); (case hg => rfl); (case hr => first | (go_simp; done) | (go_simp; rfl)); (case hp => exact (Reps.one (show Kd.M (Kd.int .u8) _ _ _ a1 [.int .u8 a1] from rfl) (Reps.none _ _))); intro v330 w4 ho5 hb hg_ hnew_; clear hg_ hnew_; (first | rw [← Ny329.out] at ho5 | (simp only [Int.reduceToNat] at ho5; rw [← Ny329.out] at ho5)); have HO331 := Aside0.mk (Kd.R_lower ho5 (below_size (bI HB.out))); replace HB := bs HB hb; clear hb ho5; have hcv6 := own_string (P := Tryd.prog) Tryd.underlying30 Tryd.underlying5 Tryd.underlying9 (Kd.own_of_R HO331.out)) | ((with_reducible refine gate_callee (f := 63) rfl ?_); refine gB (some 9) Tryd.func63 #[.string a0, .string (strOfNums y329)] ?_; (with_reducible refine (strings_Split.calls a0 (strOfNums y329) t332 _ A3.out).mono ?_); rintro e w7 ⟨v333, rfl, ho0, hb⟩; refine ⟨_, rfl, ?_⟩; replace HO331 := rb HO331 hb; have HO334 := Aside0.mk (Kd.R_lower ho0 (below_size (bI HB.out))); replace HB := bs HB hb; (try clear hb); (try clear ho0)))
 go_ret
 exact ⟨_, y0_7, by (with_reducible repeat (first | apply Kd.R_alloc | apply Kd.R_drewN | apply Kd.R_drew)); exact HO334.out, bI HB.out⟩

/-! ### strings_Cut: function 58 -/

/-! ### strconv_Itoa_70: function 70 -/

/-! ### impl_Digits: function 65 -/
def impl_Digits.f (a0 : Int) : Option (ByteArray) := (strconv_Itoa_70.f a0).bind fun t335 => (some t335)
set_option maxHeartbeats 8000000 in
set_option maxRecDepth 100000 in
theorem impl_Digits.calls (a0 : Int) (r : ByteArray) (w : World) (h : impl_Digits.f a0 = some r) (hG : Glob w := by exact gG HG HB) :
  Calls Tryd.prog 65 #[.int .i64 a0] w fun e w' => e = .returned (.string r) ∧ Below w.heap.size w w' := by
 have HG := Aside0.mk hG; clear hG; have HB := Aside0.mk (Below.refl w.heap.size w)
 have H : ((strconv_Itoa_70.f a0).bind fun t335 => (some t335)) = some r := h
 clear h; obtain ⟨t335, A20, H⟩ := Option.bind_eq_some_iff.mp H
 try dsimp only at H
 have A2 := Aside0.mk A20; clear A20; obtain rfl := Option.some.inj H
 go_enter Tryd.func65, Tryd.ntmps65
 go_wp2_with (first | ((with_reducible refine gate_callee (f := 70) rfl ?_); refine gB (some 4) Tryd.func70 #[.int .i64 a0] ?_; (with_reducible refine (strconv_Itoa_70.calls a0 t335 _ A2.out).mono ?_); rintro e w3 ⟨rfl, hb⟩; refine ⟨_, rfl, ?_⟩; replace HB := bs HB hb; (try clear hb); (try clear hb2); (try clear hk); (try clear hi)))
 go_ret
 exact ⟨y0_7, bI HB.out⟩

/-! ### impl_Number: function 59 -/
mutual
def impl_Number.j0 : Nat → ByteArray → Bool → Option (Int × Bool)
 | 0, _, _ => none
 | k + 1, x0, x13 => if x13 = true then (some (0, false)) else (impl_Number.l0 k x0 0 0)
def impl_Number.l0 : Nat → ByteArray → Int → Int → Option (Int × Bool)
 | 0, _, _, _ => none
 | k + 1, x0, x4, x5 => if x5 < (x0.size : Int) then (if 0 ≤ x5 then (if (bt x0 x5) < 48 then (some (0, false)) else (if (bt x0 x5) > 57 then (some (0, false)) else (impl_Number.l0 k x0 (wrap64 ((wrap64 (10 * x4)) + (((bt x0 x5) - 48) % 256))) (wrap64 (x5 + 1))))) else (none)) else ((impl_Digits.f x4).bind fun t336 => (if t336.toList = x0.toList then (some (x4, true)) else (some (0, false))))
end
def impl_Number.f (k : Nat) (a0 : ByteArray) : Option (Int × Bool) := if (a0.size : Int) < 1 then (impl_Number.j0 k a0 true) else (impl_Number.j0 k a0 (decide ((a0.size : Int) > 6)))
theorem impl_Number.mono_l : ∀ k, (∀ y0 y1, LeO (impl_Number.j0 k y0 y1) (impl_Number.j0 (k + 1) y0 y1)) ∧ (∀ y0 y1 y2, LeO (impl_Number.l0 k y0 y1 y2) (impl_Number.l0 (k + 1) y0 y1 y2))
 | 0 => ⟨fun _ _ r h => by simp [impl_Number.j0] at h, fun _ _ _ r h => by simp [impl_Number.l0] at h⟩
 | k + 1 => by
  obtain ⟨ih0, ih1⟩ := impl_Number.mono_l k
  refine ⟨?_, ?_⟩
  ·
   intro y0 y1
   unfold impl_Number.j0
   repeat' first | (with_reducible exact ih0 _ _) | (with_reducible exact ih1 _ _ _) | (with_reducible exact LeO.refl _) | (with_reducible exact LeO.none _) | (with_reducible refine LeO.ite ?_ ?_) | (with_reducible refine LeO.bind ?_ (fun _ => ?_))
  intro y0 y1 y2
  unfold impl_Number.l0
  repeat' first | (with_reducible exact ih0 _ _) | (with_reducible exact ih1 _ _ _) | (with_reducible exact LeO.refl _) | (with_reducible exact LeO.none _) | (with_reducible refine LeO.ite ?_ ?_) | (with_reducible refine LeO.bind ?_ (fun _ => ?_))
theorem impl_Number.mono : ∀ a0 k, LeO (impl_Number.f k a0) (impl_Number.f (k + 1) a0) := by
 intro a0 k
 obtain ⟨ih0, ih1⟩ := impl_Number.mono_l k
 unfold impl_Number.f
 repeat' first | (with_reducible exact ih0 _ _) | (with_reducible exact ih1 _ _ _) | (with_reducible exact LeO.refl _) | (with_reducible exact LeO.none _) | (with_reducible refine LeO.ite ?_ ?_) | (with_reducible refine LeO.bind ?_ (fun _ => ?_))
set_option maxHeartbeats 8000000 in
set_option maxRecDepth 100000 in
theorem impl_Number.calls (k : Nat) (a0 : ByteArray) (r1 : Int) (r2 : Bool) (w : World) (h : impl_Number.f k a0 = some (r1, r2)) (hG : Glob w := by exact gG HG HB) :
  Calls Tryd.prog 59 #[.string a0] w fun e w' => e = .returned (.tuple #[.int .i64 r1, .bool r2]) ∧ Below w.heap.size w w' := by
 have HG := Aside0.mk hG; clear hG; have HB := Aside0.mk (Below.refl w.heap.size w); have H : (if (a0.size : Int) < 1 then (impl_Number.j0 k a0 true) else (impl_Number.j0 k a0 (decide ((a0.size : Int) > 6)))) = some (r1, r2) := h; clear h; have HC2 := Aside0.mk H; clear H
 go_enter Tryd.func59, Tryd.ntmps59
 go_upto_region 1 with (fail)
 go_cut [13] (fun v13 wc => ∃ (kq : Nat) (x13_1 : Bool), v13 = .bool x13_1 ∧ Aside0 (impl_Number.j0 kq a0 x13_1 = some (r1, r2)) ∧ Aside0 (kq ≤ k) ∧ Aside0 (Below w.heap.size w wc))
 case first =>
  have H := HC2.out; clear HC2
  by_cases c3 : (a0.size : Int) < 1
  ·
   rw [if_pos c3] at H
   have c3b0 : decide ((a0.size : Int) < 1) = true := decide_eq_true c3
   have c3b1 : decide (a0.size < 1) = true := decide_eq_true (by omega)
   clear c3
   (first | rw [c3b0] | (simp only [i64_w, i32_w]; rw [c3b0]) | skip)
   have H' := Aside0.mk H; clear H
   go_wp2
   go_meet
   case rel => exact ⟨_, (true), y0_10, H', ⟨y0_11⟩, ⟨bI HB.out⟩⟩
  rw [if_neg c3] at H
  have c3b0 : decide ((a0.size : Int) < 1) = false := decide_eq_false c3
  have c3b1 : decide (a0.size < 1) = false := decide_eq_false (by omega)
  clear c3
  (first | rw [c3b0] | (simp only [i64_w, i32_w]; rw [c3b0]) | skip)
  have H' := Aside0.mk H; clear H
  go_wp2
  go_meet
  case rel => exact ⟨_, (decide ((a0.size : Int) > 6)), y0_10, H', ⟨y0_11⟩, ⟨bI HB.out⟩⟩
 case rest =>
  clear HC2
  try clear p2
  try clear c3
  try clear c3b0
  try clear c3b1
  obtain ⟨kq, x13_1, rfl, HA, HJ1, HB⟩ := hcut; cases kq with
  | zero => exact absurd HA.out (by simp [impl_Number.j0])
  | succ kj1 =>
   have H := HA.out; clear HA
   simp only [impl_Number.j0] at H
   by_cases c4 : x13_1 = true
   ·
    subst c4
    rw [if_pos rfl] at H
    simp only [Option.some.injEq, Prod.mk.injEq] at H
    obtain ⟨rfl, rfl⟩ := H
    go_wp2
    go_ret2
    exact ⟨y0_7, bI HB.out⟩
   replace c4 := Bool.eq_false_iff.mpr c4; subst c4
   rw [if_neg (show ¬ (false = true) by decide)] at H
   have H' := Aside0.mk H; clear H
   go_wp2
   go_loopg [4, 5] kj1 (fun kq v4 v5 w' => ∃ (x4_2 : Int) (x5_2 : Int), v4 = .int .i64 x4_2 ∧ v5 = .int .i64 x5_2 ∧ Aside0 (impl_Number.l0 kq a0 x4_2 x5_2 = some (r1, r2)) ∧ Aside0 (kq ≤ kj1) ∧ Aside0 (Below w.heap.size w w'))
   case atStart => exact ⟨(0), (0), y0_10, y0_10, H', ⟨Nat.le_refl _⟩, ⟨bI HB.out⟩⟩
   case round =>
    clear H'
    try clear p2
    try clear c3
    try clear c3b0
    try clear c3b1
    try clear c4
    try clear p2
    obtain ⟨x4_2, x5_2, rfl, rfl, HA, HK2, HB⟩ := hrel; cases gk with
    | zero => exact absurd HA.out (by simp [impl_Number.l0])
    | succ k2 =>
     have H := HA.out; clear HA
     simp only [impl_Number.l0] at H
     by_cases c5 : x5_2 < (a0.size : Int)
     ·
      rw [if_pos c5] at H
      have c5b0 : decide (x5_2 < (a0.size : Int)) = true := decide_eq_true c5; clear c5
      by_cases c6 : 0 ≤ x5_2
      rotate_left
      ·
       rw [if_neg c6] at H
       exact absurd H (by simp)
      rw [if_pos c6] at H
      have c6b0 : decide (0 ≤ x5_2) = true := decide_eq_true c6; clear c6
      by_cases c8 : (bt a0 x5_2) < 48
      ·
       rw [if_pos c8] at H
       have c8b0 : decide ((bt a0 x5_2) < 48) = true := decide_eq_true c8; clear c8
       simp only [Option.some.injEq, Prod.mk.injEq] at H
       obtain ⟨rfl, rfl⟩ := H; have p7 : 0 ≤ (x5_2 : Int) := of_decide_eq_true y0_9; have q7 : x5_2 < (a0.size : Int) := of_decide_eq_true y0_9; have hx7 := bt_at a0 x5_2; replace p7 := eq_true p7; replace q7 := eq_true q7
       go_wp2
       go_ret2
       exact ⟨y0_7, bI HB.out⟩
      rw [if_neg c8] at H
      have c8b0 : decide ((bt a0 x5_2) < 48) = false := decide_eq_false c8; clear c8
      by_cases c10 : (bt a0 x5_2) > 57
      ·
       rw [if_pos c10] at H
       have c10b0 : decide (57 < (bt a0 x5_2)) = true := decide_eq_true c10; clear c10
       simp only [Option.some.injEq, Prod.mk.injEq] at H
       obtain ⟨rfl, rfl⟩ := H; have p7 : 0 ≤ (x5_2 : Int) := of_decide_eq_true y0_9; have q7 : x5_2 < (a0.size : Int) := of_decide_eq_true y0_9; have hx7 := bt_at a0 x5_2; replace p7 := eq_true p7; replace q7 := eq_true q7; have p9 : 0 ≤ (x5_2 : Int) := of_decide_eq_true y0_9; have q9 : x5_2 < (a0.size : Int) := of_decide_eq_true y0_9; have hx9 := bt_at a0 x5_2; replace p9 := eq_true p9; replace q9 := eq_true q9
       go_wp2
       go_ret2
       exact ⟨y0_7, bI HB.out⟩
      rw [if_neg c10] at H
      have c10b0 : decide (57 < (bt a0 x5_2)) = false := decide_eq_false c10; clear c10; have H' := Aside0.mk H; clear H; have p7 : 0 ≤ (x5_2 : Int) := of_decide_eq_true y0_9; have q7 : x5_2 < (a0.size : Int) := of_decide_eq_true y0_9; have hx7 := bt_at a0 x5_2; replace p7 := eq_true p7; replace q7 := eq_true q7; have p9 : 0 ≤ (x5_2 : Int) := of_decide_eq_true y0_9; have q9 : x5_2 < (a0.size : Int) := of_decide_eq_true y0_9; have hx9 := bt_at a0 x5_2; replace p9 := eq_true p9; replace q9 := eq_true q9; have p11 : 0 ≤ (x5_2 : Int) := of_decide_eq_true y0_9; have q11 : x5_2 < (a0.size : Int) := of_decide_eq_true y0_9; have hx11 := bt_at a0 x5_2; replace p11 := eq_true p11; replace q11 := eq_true q11
      go_wp2
      go_roundg k2
      case measure => have := HJ1.out; have := HK2.out; omega
      case rel => exact ⟨(wrap64 ((wrap64 (10 * x4_2)) + (((bt a0 x5_2) - 48) % 256))), (wrap64 (x5_2 + 1)), y0_10, y0_10, H', ⟨by have := HJ1.out; have := HK2.out; omega⟩, ⟨bI HB.out⟩⟩
     rw [if_neg c5] at H
     have c5b0 : decide (x5_2 < (a0.size : Int)) = false := decide_eq_false c5; clear c5; obtain ⟨t336, A120, H⟩ := Option.bind_eq_some_iff.mp H
     try dsimp only at H
     have A12 := Aside0.mk A120; clear A120
     by_cases c13 : t336.toList = a0.toList
     ·
      rw [if_pos c13] at H
      have c13b0 : (t336.toList == a0.toList) = true := beq_iff_eq.mpr c13; have c13b1 : (t336.toList != a0.toList) = false := bne_eq_false_iff_eq.mpr c13; clear c13
      simp only [Option.some.injEq, Prod.mk.injEq] at H
      obtain ⟨rfl, rfl⟩ := H
      go_wp2_with (first | ((with_reducible refine gate_callee (f := 65) rfl ?_); refine gB (some 39) Tryd.func65 #[.int .i64 x4_2] ?_; (with_reducible refine (impl_Digits.calls x4_2 t336 _ A12.out).mono ?_); rintro e w14 ⟨rfl, hb⟩; refine ⟨_, rfl, ?_⟩; replace HB := bs HB hb; (try clear hb); (try clear hb2); (try clear hk); (try clear hi)))
      go_ret2
      exact ⟨y0_7, bI HB.out⟩
     rw [if_neg c13] at H
     have c13b0 : (t336.toList == a0.toList) = false := beq_eq_false_iff_ne.mpr c13; have c13b1 : (t336.toList != a0.toList) = true := bne_iff_ne.mpr c13
     simp only [Option.some.injEq, Prod.mk.injEq] at H
     obtain ⟨rfl, rfl⟩ := H
     go_wp2_with (first | ((with_reducible refine gate_callee (f := 65) rfl ?_); refine gB (some 39) Tryd.func65 #[.int .i64 x4_2] ?_; (with_reducible refine (impl_Digits.calls x4_2 t336 _ A12.out).mono ?_); rintro e w15 ⟨rfl, hb⟩; refine ⟨_, rfl, ?_⟩; replace HB := bs HB hb; (try clear hb); (try clear hb2); (try clear hk); (try clear hi)))
     go_ret2
     exact ⟨y0_7, bI HB.out⟩

/-! ### impl_TxOk: function 71 -/
def impl_TxOk.f (a0_0 : Int) (a0_1 : Int) (a0_2 : Int) (a0_3 : Int) : Option (Bool) := (impl_within.f a0_0 0 3).bind fun t338 => (if t338 = true then ((impl_within.f a0_1 0 3).bind fun t339 => (if t339 = true then ((impl_within.f a0_2 0 1000).bind fun t340 => (if t340 = true then ((impl_within.f a0_3 0 99).bind fun t341 => (some t341)) else (some false))) else (some false))) else (some false))
set_option maxHeartbeats 8000000 in
set_option maxRecDepth 100000 in
theorem impl_TxOk.calls (a0_0 : Int) (a0_1 : Int) (a0_2 : Int) (a0_3 : Int) (r : Bool) (w : World) (h : impl_TxOk.f a0_0 a0_1 a0_2 a0_3 = some r) :
  Calls Tryd.prog 71 #[.agg #[.int .i64 a0_0, .int .i64 a0_1, .int .i64 a0_2, .int .i64 a0_3]] w fun e w' => e = .returned (.bool r) ∧ Below w.heap.size w w' := by
 have hu80 := Tryd.underlying80; have HB := Aside0.mk (Below.refl w.heap.size w)
 have H : ((impl_within.f a0_0 0 3).bind fun t338 => (if t338 = true then ((impl_within.f a0_1 0 3).bind fun t339 => (if t339 = true then ((impl_within.f a0_2 0 1000).bind fun t340 => (if t340 = true then ((impl_within.f a0_3 0 99).bind fun t341 => (some t341)) else (some false))) else (some false))) else (some false))) = some r := h
 clear h; obtain ⟨t338, A20, H⟩ := Option.bind_eq_some_iff.mp H
 try dsimp only at H
 have A2 := Aside0.mk A20; clear A20
 by_cases c3 : t338 = true
 ·
  subst c3
  rw [if_pos rfl] at H
  obtain ⟨t339, A40, H⟩ := Option.bind_eq_some_iff.mp H
  try dsimp only at H
  have A4 := Aside0.mk A40; clear A40
  by_cases c5 : t339 = true
  ·
   subst c5
   rw [if_pos rfl] at H
   obtain ⟨t340, A60, H⟩ := Option.bind_eq_some_iff.mp H
   try dsimp only at H
   have A6 := Aside0.mk A60; clear A60
   by_cases c7 : t340 = true
   ·
    subst c7
    rw [if_pos rfl] at H
    obtain ⟨t341, A80, H⟩ := Option.bind_eq_some_iff.mp H
    try dsimp only at H
    have A8 := Aside0.mk A80; clear A80; obtain rfl := Option.some.inj H
    go_enter Tryd.func71, Tryd.ntmps71
    go_wp2_with (first | ((with_reducible refine gd 1 ?_); refine bA 1 #[.int .i64 a0_0, .int .i64 a0_1, .int .i64 a0_2, .int .i64 a0_3] 80 ?_; intro gb337 hg w9 hbox hb; have BK337 := Aside0.mk (hbox); have GW337 := bg hg HB; have GJ337 := gi GW337; have GE337 := GW337; replace HB := bs HB hb; clear hb hbox hg; obtain ⟨hcz10_0, hcz10_1, hcz10_2, hcz10_3, hfz10_0, hfz10_1, hfz10_2, hfz10_3⟩ := cs4 BK337) | ((with_reducible refine gate_callee (f := 32) rfl ?_); refine gB (some 5) Tryd.func32 #[.int .i64 a0_0, .int .i64 0, .int .i64 3] ?_; (with_reducible refine (impl_within.calls a0_0 0 3 true _ A2.out).mono ?_); rintro e w' ⟨rfl, ⟨nd, rfl⟩⟩; refine ⟨_, rfl, ?_⟩) | (go_at_call 32; (with_reducible refine (impl_within.calls a0_1 0 3 true _ A4.out).mono ?_); rintro e w' ⟨rfl, ⟨nd, rfl⟩⟩) | (go_at_call 32; (with_reducible refine (impl_within.calls a0_2 0 1000 true _ A6.out).mono ?_); rintro e w' ⟨rfl, ⟨nd, rfl⟩⟩) | (go_at_call 32; (with_reducible refine (impl_within.calls a0_3 0 99 t341 _ A8.out).mono ?_); rintro e w' ⟨rfl, ⟨nd, rfl⟩⟩))
    go_ret
    exact ⟨y0_7, bI HB.out⟩
   replace c7 := Bool.eq_false_iff.mpr c7; subst c7
   rw [if_neg (show ¬ (false = true) by decide)] at H
   obtain rfl := Option.some.inj H
   go_enter Tryd.func71, Tryd.ntmps71
   go_wp2_with (first | ((with_reducible refine gd 1 ?_); refine bA 1 #[.int .i64 a0_0, .int .i64 a0_1, .int .i64 a0_2, .int .i64 a0_3] 80 ?_; intro gb337 hg w11 hbox hb; have BK337 := Aside0.mk (hbox); have GW337 := bg hg HB; have GJ337 := gi GW337; have GE337 := GW337; replace HB := bs HB hb; clear hb hbox hg; obtain ⟨hcz12_0, hcz12_1, hcz12_2, hcz12_3, hfz12_0, hfz12_1, hfz12_2, hfz12_3⟩ := cs4 BK337) | ((with_reducible refine gate_callee (f := 32) rfl ?_); refine gB (some 5) Tryd.func32 #[.int .i64 a0_0, .int .i64 0, .int .i64 3] ?_; (with_reducible refine (impl_within.calls a0_0 0 3 true _ A2.out).mono ?_); rintro e w' ⟨rfl, ⟨nd, rfl⟩⟩; refine ⟨_, rfl, ?_⟩) | (go_at_call 32; (with_reducible refine (impl_within.calls a0_1 0 3 true _ A4.out).mono ?_); rintro e w' ⟨rfl, ⟨nd, rfl⟩⟩) | (go_at_call 32; (with_reducible refine (impl_within.calls a0_2 0 1000 false _ A6.out).mono ?_); rintro e w' ⟨rfl, ⟨nd, rfl⟩⟩))
   go_ret
   exact ⟨y0_7, bI HB.out⟩
  replace c5 := Bool.eq_false_iff.mpr c5; subst c5
  rw [if_neg (show ¬ (false = true) by decide)] at H
  obtain rfl := Option.some.inj H
  go_enter Tryd.func71, Tryd.ntmps71
  go_wp2_with (first | ((with_reducible refine gd 1 ?_); refine bA 1 #[.int .i64 a0_0, .int .i64 a0_1, .int .i64 a0_2, .int .i64 a0_3] 80 ?_; intro gb337 hg w13 hbox hb; have BK337 := Aside0.mk (hbox); have GW337 := bg hg HB; have GJ337 := gi GW337; have GE337 := GW337; replace HB := bs HB hb; clear hb hbox hg; obtain ⟨hcz14_0, hcz14_1, hcz14_2, hcz14_3, hfz14_0, hfz14_1, hfz14_2, hfz14_3⟩ := cs4 BK337) | ((with_reducible refine gate_callee (f := 32) rfl ?_); refine gB (some 5) Tryd.func32 #[.int .i64 a0_0, .int .i64 0, .int .i64 3] ?_; (with_reducible refine (impl_within.calls a0_0 0 3 true _ A2.out).mono ?_); rintro e w' ⟨rfl, ⟨nd, rfl⟩⟩; refine ⟨_, rfl, ?_⟩) | (go_at_call 32; (with_reducible refine (impl_within.calls a0_1 0 3 false _ A4.out).mono ?_); rintro e w' ⟨rfl, ⟨nd, rfl⟩⟩))
  go_ret
  exact ⟨y0_7, bI HB.out⟩
 replace c3 := Bool.eq_false_iff.mpr c3; subst c3
 rw [if_neg (show ¬ (false = true) by decide)] at H
 obtain rfl := Option.some.inj H
 go_enter Tryd.func71, Tryd.ntmps71
 go_wp2_with (first | ((with_reducible refine gd 1 ?_); refine bA 1 #[.int .i64 a0_0, .int .i64 a0_1, .int .i64 a0_2, .int .i64 a0_3] 80 ?_; intro gb337 hg w15 hbox hb; have BK337 := Aside0.mk (hbox); have GW337 := bg hg HB; have GJ337 := gi GW337; have GE337 := GW337; replace HB := bs HB hb; clear hb hbox hg; obtain ⟨hcz16_0, hcz16_1, hcz16_2, hcz16_3, hfz16_0, hfz16_1, hfz16_2, hfz16_3⟩ := cs4 BK337) | ((with_reducible refine gate_callee (f := 32) rfl ?_); refine gB (some 5) Tryd.func32 #[.int .i64 a0_0, .int .i64 0, .int .i64 3] ?_; (with_reducible refine (impl_within.calls a0_0 0 3 false _ A2.out).mono ?_); rintro e w' ⟨rfl, ⟨nd, rfl⟩⟩; refine ⟨_, rfl, ?_⟩))
 go_ret
 exact ⟨y0_7, bI HB.out⟩

end Go.Proofs.YtemjmefacifdeaaDoor.PFnExactNoteBytes
