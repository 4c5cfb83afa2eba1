-- By a program of this session, out of the translation (the print of the kit, with turns of its own). Lean checks it.
import Derived.Test.YtnpbopadajbopaaPFnExactTableGetx0
import Derived.Test.YtnpbopadajbopaaPFnExactTableGetx1
namespace Go.Proofs.Ytnpbopadajbopaa.PFnExactTableGet
open Go.RowKit Go.Proofs.YtnpbopadajbopaaW.PrintWords Go.Proofs.YtnpbopadajbopaaW.PrintLast Go.Proofs.YtnpbopadajbopaaW.PrintMore
attribute [local go_sem] max2_int min2_int max_two min_two max_three min_three max_four min_four   -- for this text's walks alone
attribute [local go_sem] cell_in frozen_in
set_option synthInstance.maxSize 1000000
set_option synthInstance.maxHeartbeats 2000000
set_option linter.unusedVariables false
set_option linter.unusedSimpArgs false

/-! ### impl_TableGet: function 8 -/
def impl_TableGet.l0 : Nat → Int → ByteArray → List (S26) → Int → Int → Option (Int × ByteArray × List Int)
 | 0, _, _, _, _, _ => none
 | k + 1, x1, x2, x9, x10, x11 => if x11 < x10 then (if 0 ≤ x11 then (if x11 < (x9.length : Int) then (if ((rd_T26 x9 x11).f0) = x1 then (if ((rd_T26 x9 x11).f1).toList = x2.toList then ((impl_copyPart.f ((rd_T26 x9 x11).f0) ((rd_T26 x9 x11).f1) ((rd_T26 x9 x11).f2)).bind fun bt154 => (some (bt154.1, bt154.2.1, bt154.2.2))) else (impl_TableGet.l0 k x1 x2 x9 x10 (wrap64 (x11 + 1)))) else (impl_TableGet.l0 k x1 x2 x9 x10 (wrap64 (x11 + 1)))) else (none)) else (none)) else (some (x1, x2, ([] : List Int)))
def impl_TableGet.f (k : Nat) (l0 : List (S26)) (a1 : Int) (a2 : ByteArray) : Option (Int × ByteArray × List Int) := impl_TableGet.l0 k a1 a2 l0 (l0.length : Int) 0
theorem impl_TableGet.mono_l : ∀ k, (∀ y0 y1 y2 y3 y4, LeO (impl_TableGet.l0 k y0 y1 y2 y3 y4) (impl_TableGet.l0 (k + 1) y0 y1 y2 y3 y4))
 | 0 => fun _ _ _ _ _ r h => by simp [impl_TableGet.l0] at h
 | k + 1 => by
  have ih0 := impl_TableGet.mono_l k
  intro y0 y1 y2 y3 y4
  unfold impl_TableGet.l0
  repeat' first | (with_reducible exact ih0 _ _ _ _ _) | (with_reducible exact LeO.refl _) | (with_reducible exact LeO.none _) | (with_reducible refine LeO.ite ?_ ?_) | (with_reducible refine LeO.bind ?_ (fun _ => ?_))
theorem impl_TableGet.mono : ∀ a0 a1 a2 k, LeO (impl_TableGet.f k a0 a1 a2) (impl_TableGet.f (k + 1) a0 a1 a2) := by
 intro a0 a1 a2 k
 have ih0 := impl_TableGet.mono_l k
 unfold impl_TableGet.f
 repeat' first | (with_reducible exact ih0 _ _ _ _ _) | (with_reducible exact LeO.refl _) | (with_reducible exact LeO.none _) | (with_reducible refine LeO.ite ?_ ?_) | (with_reducible refine LeO.bind ?_ (fun _ => ?_))
set_option maxHeartbeats 8000000 in
set_option maxRecDepth 100000 in
theorem impl_TableGet.calls (k : Nat) (A0 : Option Addr) (c0 : Nat) (l0 : List (S26)) (a1 : Int) (a2 : ByteArray) (r1 : Int) (r2 : ByteArray) (r3 : List Int) (w : World) (hr0 : Kd.C k26 w A0 l0.length l0) (hc0 : l0.length ≤ c0) (h : impl_TableGet.f k l0 a1 a2 = some (r1, r2, r3)) :
  Calls Try.prog 8 #[.slice A0 l0.length c0, .int .i64 a1, .string a2] w fun e w' => ∃ v2_ : Value, e = .returned (.agg #[.int .i64 r1, .string r2, v2_]) ∧ Kd.R (Kd.int .i64) 3 w' w.heap.size (fun _ => True) v2_ r3 ∧ Below w.heap.size w w' := by
 have hu26 := Try.underlying26; have HR0 := Aside0.mk hr0; have HC0 := Aside0.mk hc0; clear hr0 hc0; have HB := Aside0.mk (Below.refl w.heap.size w); have H := h; unfold impl_TableGet.f at H; clear h; have H' := Aside0.mk H; clear H
 go_enter Try.func8, Try.ntmps8
 go_wp2_with (first | ((with_reducible refine gd 6 ?_); refine bA 6 #[.int .i64 0, .string (⟨#[]⟩ : ByteArray), .slice none 0 0] 26 ?_; intro gb151 hg w4 hbox hb; have BK151 := Aside0.mk (hbox); have GW151 := bg hg HB; have GJ151 := gi GW151; have GE151 := GW151; replace HB := bs HB hb; clear hb hbox hg))
 go_loopg [11] k (fun kq v11 w' => ∃ (x11_1 : Int) (x152000_1 : Int) (x152001_1 : ByteArray), v11 = .int .i64 x11_1 ∧ Aside0 (impl_TableGet.l0 kq a1 a2 l0 (l0.length : Int) x11_1 = some (r1, r2, r3)) ∧ Aside0 (kq ≤ k) ∧ Aside0 (w'.heap[gb151]? = some (.cells #[.int .i64 x152000_1, .string x152001_1, (.slice none 0 0)] 26 (0, 0))) ∧ Aside0 (Below w.heap.size w w'))
 case atStart => exact ⟨(0), (0), ((⟨#[]⟩ : ByteArray)), y0_4, H', ⟨Nat.le_refl _⟩, ⟨gI BK151.out⟩, ⟨bI HB.out⟩⟩
 case round =>
  clear H'
  try clear p2
  obtain ⟨x11_1, x152000_1, x152001_1, rfl, HA, HK1, BK151, HB⟩ := hrel; cases gk with
  | zero => exact absurd HA.out (by simp [impl_TableGet.l0])
  | succ k1 =>
   have H := HA.out; clear HA
   simp only [impl_TableGet.l0] at H
   by_cases c5 : x11_1 < (l0.length : Int)
   ·
    rw [if_pos c5] at H
    have c5b0 : decide (x11_1 < (l0.length : Int)) = true := decide_eq_true c5; clear c5
    by_cases c6 : 0 ≤ x11_1
    rotate_left
    ·
     rw [if_neg c6] at H
     exact absurd H (by simp)
    rw [if_pos c6] at H
    have c6b0 : decide (0 ≤ x11_1) = true := decide_eq_true c6; clear c6
    by_cases c7 : x11_1 < (l0.length : Int)
    rotate_left
    ·
     rw [if_neg c7] at H
     exact absurd H (by simp)
    rw [if_pos c7] at H
    have c7b0 : decide (x11_1 < (l0.length : Int)) = true := decide_eq_true c7; clear c7
    by_cases c8 : ((rd_T26 l0 x11_1).f0) = a1
    ·
     rw [if_pos c8] at H
     have c8b0 : (((rd_T26 l0 x11_1).f0) == a1) = true := beq_iff_eq.mpr c8; have c8b1 : (((rd_T26 l0 x11_1).f0) != a1) = false := bne_eq_false_iff_eq.mpr c8; clear c8
     by_cases c9 : ((rd_T26 l0 x11_1).f1).toList = a2.toList
     ·
      rw [if_pos c9] at H
      have c9b0 : (((rd_T26 l0 x11_1).f1).toList == a2.toList) = true := beq_iff_eq.mpr c9; have c9b1 : (((rd_T26 l0 x11_1).f1).toList != a2.toList) = false := bne_eq_false_iff_eq.mpr c9; clear c9; obtain ⟨⟨t154, t155, t156⟩, A10, H⟩ := oB H; (try dsimp only at H)
      simp only [Option.some.injEq, Prod.mk.injEq] at H
      obtain ⟨rfl, rfl, rfl⟩ := H; have p152 : 0 ≤ (x11_1 : Int) := of_decide_eq_true y0_3; have q152 : x11_1 < (l0.length : Int) := of_decide_eq_true y0_3; obtain ⟨ad152, A152_2, c152_2, e152, hx152_0, hx152_1, hx152_2, hl152_2, hi152_2⟩ := at_T26 HR0.out x11_1 p152 q152; have hr152_2 := hx152_2; cases e152; replace hx152_0 := bx HB hx152_0; replace hx152_1 := bx HB hx152_1; replace hx152_2 := bx HB hx152_2; have HR152_2 := Aside0.mk hi152_2; have HC152_2 := Aside0.mk hl152_2; clear hi152_2 hl152_2; replace p152 := eq_true p152; replace q152 := eq_true q152
      go_wp2_with (first | ((with_reducible refine gd 8 ?_); refine bA 8 #[.int .i64 0, .string (⟨#[]⟩ : ByteArray), .slice none 0 0] 26 ?_; intro gb153 hg w11 hbox hb; have BK153 := Aside0.mk (hbox); have GW153 := bg hg HB; have GJ153 := gi GW153; have GE153 := GW153; replace HB := bs HB hb; have NB151_153 := b1 BK151 hg; have NI151_153 := ni NB151_153; have NB153_151 := b2 BK151 hg; have NI153_151 := ni NB153_151; replace BK151 := bk BK151 hb; clear hb hbox hg; have hnb12 := NB153_151.out; have hnc12 := NB151_153.out; obtain ⟨hcz13_0, hcz13_1, hcz13_2, hfz13_0, hfz13_1, hfz13_2⟩ := cs3 BK153) | ((with_reducible refine gate_callee (f := 20) rfl ?_); refine gB (some 26) Try.func20 #[.agg #[.int .i64 ((rd_T26 l0 x11_1).f0), .string ((rd_T26 l0 x11_1).f1), .slice A152_2 ((rd_T26 l0 x11_1).f2).length c152_2]] ?_; (with_reducible refine (impl_copyPart.calls ((rd_T26 l0 x11_1).f0) ((rd_T26 l0 x11_1).f1) _ _ ((rd_T26 l0 x11_1).f2) t154 t155 t156 _ ?side1 ?side2 A10.out).mono ?_); (case side1 => exact Kd.C_below HR152_2.out (bI HB.out)); (case side2 => exact HC152_2.out); rintro e w14 ⟨v157, rfl, ho0, hb⟩; refine ⟨_, rfl, ?_⟩; have HO158 := Aside0.mk (Kd.R_lower ho0 (below_size (bI HB.out))); replace BK151 := Aside0.mk (blk_below (g := gb151) (o := .cells #[.int .i64 x152000_1, .string x152001_1, .slice none 0 0] 26 (0, 0)) (gI BK151.out) hb); replace BK153 := bp BK153 hb #[.int .i64 ((rd_T26 l0 x11_1).f0), .string ((rd_T26 l0 x11_1).f1), .slice A152_2 ((rd_T26 l0 x11_1).f2).length c152_2]; replace HB := bs HB hb; (try clear hb); (try clear ho0); obtain ⟨hcz15_0, hcz15_1, hcz15_2, hfz15_0, hfz15_1, hfz15_2⟩ := cs3 BK151; obtain ⟨Ao16, co16, eo16⟩ := Kd.R_slice HO158.out; subst eo16))
      refine bodyPost_ret (results_cell_row rfl _ _ gb151 26 #[.int .i64 t154, .string t155, .slice Ao16 t156.length co16] (0, 0) _ rfl (pI BK151) Try.underlying26 rfl (by kernel_rfl)) rfl ?_
      exact ⟨_, y0_1, by (with_reducible repeat (first | apply Kd.R_alloc | apply Kd.R_drewN | apply Kd.R_drew)); exact Kd.R_mono (Kd.R_far (p := ⟨gb151, 2, none⟩) (Kd.R_far (p := ⟨gb151, 1, none⟩) (Kd.R_far (p := ⟨gb151, 0, none⟩) (Kd.R_types HO158.out BK151.out (by decide)) (fun _ hk => hk.2) (.int .i64 t154)) (fun _ hk => hk.2) (.string t155)) (fun _ hk => hk.2) (.slice Ao16 t156.length co16)) (fun _ hk => trivial), bI HB.out⟩
     rw [if_neg c9] at H
     have c9b0 : (((rd_T26 l0 x11_1).f1).toList == a2.toList) = false := beq_eq_false_iff_ne.mpr c9; have c9b1 : (((rd_T26 l0 x11_1).f1).toList != a2.toList) = true := bne_iff_ne.mpr c9; have H' := Aside0.mk H; clear H; have p152 : 0 ≤ (x11_1 : Int) := of_decide_eq_true y0_3; have q152 : x11_1 < (l0.length : Int) := of_decide_eq_true y0_3; obtain ⟨ad152, A152_2, c152_2, e152, hx152_0, hx152_1, hx152_2, hl152_2, hi152_2⟩ := at_T26 HR0.out x11_1 p152 q152; have hr152_2 := hx152_2; cases e152; replace hx152_0 := bx HB hx152_0; replace hx152_1 := bx HB hx152_1; replace hx152_2 := bx HB hx152_2; have HR152_2 := Aside0.mk hi152_2; have HC152_2 := Aside0.mk hl152_2; clear hi152_2 hl152_2; replace p152 := eq_true p152; replace q152 := eq_true q152
     go_wp2_with (first | ((with_reducible refine gd 8 ?_); refine bA 8 #[.int .i64 0, .string (⟨#[]⟩ : ByteArray), .slice none 0 0] 26 ?_; intro gb153 hg w17 hbox hb; have BK153 := Aside0.mk (hbox); have GW153 := bg hg HB; have GJ153 := gi GW153; have GE153 := GW153; replace HB := bs HB hb; have NB151_153 := b1 BK151 hg; have NI151_153 := ni NB151_153; have NB153_151 := b2 BK151 hg; have NI153_151 := ni NB153_151; replace BK151 := bk BK151 hb; clear hb hbox hg; have hnb18 := NB153_151.out; have hnc18 := NB151_153.out; obtain ⟨hcz19_0, hcz19_1, hcz19_2, hfz19_0, hfz19_1, hfz19_2⟩ := cs3 BK153))
     go_roundg k1
     case measure => have := HK1.out; omega
     case rel => exact ⟨(wrap64 (x11_1 + 1)), (x152000_1), (x152001_1), y0_4, H', ⟨y0_5⟩, ⟨gI BK151.out⟩, ⟨bI HB.out⟩⟩
    rw [if_neg c8] at H
    have c8b0 : (((rd_T26 l0 x11_1).f0) == a1) = false := beq_eq_false_iff_ne.mpr c8; have c8b1 : (((rd_T26 l0 x11_1).f0) != a1) = true := bne_iff_ne.mpr c8; have H' := Aside0.mk H; clear H; have p152 : 0 ≤ (x11_1 : Int) := of_decide_eq_true y0_3; have q152 : x11_1 < (l0.length : Int) := of_decide_eq_true y0_3; obtain ⟨ad152, A152_2, c152_2, e152, hx152_0, hx152_1, hx152_2, hl152_2, hi152_2⟩ := at_T26 HR0.out x11_1 p152 q152; have hr152_2 := hx152_2; cases e152; replace hx152_0 := bx HB hx152_0; replace hx152_1 := bx HB hx152_1; replace hx152_2 := bx HB hx152_2; have HR152_2 := Aside0.mk hi152_2; have HC152_2 := Aside0.mk hl152_2; clear hi152_2 hl152_2; replace p152 := eq_true p152; replace q152 := eq_true q152
    go_wp2_with (first | ((with_reducible refine gd 8 ?_); refine bA 8 #[.int .i64 0, .string (⟨#[]⟩ : ByteArray), .slice none 0 0] 26 ?_; intro gb153 hg w20 hbox hb; have BK153 := Aside0.mk (hbox); have GW153 := bg hg HB; have GJ153 := gi GW153; have GE153 := GW153; replace HB := bs HB hb; have NB151_153 := b1 BK151 hg; have NI151_153 := ni NB151_153; have NB153_151 := b2 BK151 hg; have NI153_151 := ni NB153_151; replace BK151 := bk BK151 hb; clear hb hbox hg; have hnb21 := NB153_151.out; have hnc21 := NB151_153.out; obtain ⟨hcz22_0, hcz22_1, hcz22_2, hfz22_0, hfz22_1, hfz22_2⟩ := cs3 BK153))
    go_roundg k1
    case measure => have := HK1.out; omega
    case rel => exact ⟨(wrap64 (x11_1 + 1)), (x152000_1), (x152001_1), y0_4, H', ⟨y0_5⟩, ⟨gI BK151.out⟩, ⟨bI HB.out⟩⟩
   rw [if_neg c5] at H
   have c5b0 : decide (x11_1 < (l0.length : Int)) = false := decide_eq_false c5; clear c5
   simp only [Option.some.injEq, Prod.mk.injEq] at H
   obtain ⟨rfl, rfl, rfl⟩ := H; have hcz23_0 := bc0 BK151.out; have hcz23_1 := bc1 BK151.out; have hcz23_2 := bc2 BK151.out; have hfz23_0 := blk_frozen BK151.out 0; have hfz23_1 := blk_frozen BK151.out 1; have hfz23_2 := blk_frozen BK151.out 2
   go_wp2
   refine bodyPost_ret (results_cell_row rfl _ _ gb151 26 #[.int .i64 a1, .string a2, .slice none 0 0] (0, 0) _ rfl (pI BK151) Try.underlying26 rfl (by kernel_rfl)) rfl ?_
   exact ⟨_, y0_1, by first | exact Kd.R_nil _ _ _ _ _ | exact Kd.N_nil _ _ _ _ _ | exact Kd.V_nil _ _ _ _ _ | exact Kd.Q_nil _ _ _ _ _ | exact Kd.S_nil _ _ _ _ _, bI HB.out⟩

/-! ### laws_eqIntS: function 21 -/
def laws_eqIntS.l0 : Nat → List Int → List Int → Int → Option (Bool)
 | 0, _, _, _ => none
 | k + 1, x0, x1, x5 => if x5 < (x0.length : Int) then (if 0 ≤ x5 then (if x5 < (x1.length : Int) then (if (rd x0 x5) = (rd x1 x5) then (laws_eqIntS.l0 k x0 x1 (wrap64 (x5 + 1))) else (some false)) else (none)) else (none)) else (some true)
def laws_eqIntS.f (k : Nat) (l0 : List Int) (l1 : List Int) : Option (Bool) := if (l0.length : Int) = (l1.length : Int) then (laws_eqIntS.l0 k l0 l1 0) else (some false)
theorem laws_eqIntS.mono_l : ∀ k, (∀ y0 y1 y2, LeO (laws_eqIntS.l0 k y0 y1 y2) (laws_eqIntS.l0 (k + 1) y0 y1 y2))
 | 0 => fun _ _ _ r h => by simp [laws_eqIntS.l0] at h
 | k + 1 => by
  have ih0 := laws_eqIntS.mono_l k
  intro y0 y1 y2
  unfold laws_eqIntS.l0
  repeat' first | (with_reducible exact ih0 _ _ _) | (with_reducible exact LeO.refl _) | (with_reducible exact LeO.none _) | (with_reducible refine LeO.ite ?_ ?_) | (with_reducible refine LeO.bind ?_ (fun _ => ?_))
theorem laws_eqIntS.mono : ∀ a0 a1 k, LeO (laws_eqIntS.f k a0 a1) (laws_eqIntS.f (k + 1) a0 a1) := by
 intro a0 a1 k
 have ih0 := laws_eqIntS.mono_l k
 unfold laws_eqIntS.f
 repeat' first | (with_reducible exact ih0 _ _ _) | (with_reducible exact LeO.refl _) | (with_reducible exact LeO.none _) | (with_reducible refine LeO.ite ?_ ?_) | (with_reducible refine LeO.bind ?_ (fun _ => ?_))
set_option maxHeartbeats 8000000 in
set_option maxRecDepth 100000 in
theorem laws_eqIntS.calls (k : Nat) (A0 : Option Addr) (c0 : Nat) (l0 : List Int) (A1 : Option Addr) (c1 : Nat) (l1 : List Int) (r : Bool) (w : World) (hr0 : Kd.C (Kd.int .i64) w A0 l0.length l0) (hc0 : l0.length ≤ c0) (hr1 : Kd.C (Kd.int .i64) w A1 l1.length l1) (hc1 : l1.length ≤ c1) (h : laws_eqIntS.f k l0 l1 = some r) :
  Calls Try.prog 21 #[.slice A0 l0.length c0, .slice A1 l1.length c1] w fun e w' => e = .returned (.bool r) ∧ Drawn0 w w' := by
 have HR0 := Aside0.mk hr0; have HC0 := Aside0.mk hc0; clear hr0 hc0; have HR1 := Aside0.mk hr1; have HC1 := Aside0.mk hc1; clear hr1 hc1; have H := h; unfold laws_eqIntS.f at H; clear h
 by_cases c3 : (l0.length : Int) = (l1.length : Int)
 ·
  rw [if_pos c3] at H
  have c3b0 : ((l0.length : Int) == (l1.length : Int)) = true := beq_iff_eq.mpr c3; have c3b1 : ((l0.length : Int) != (l1.length : Int)) = false := bne_eq_false_iff_eq.mpr c3
  have c3b2 : (l0.length == l1.length) = true := by first | simpa using c3 | (simp at c3 ⊢; omega)
  clear c3; have H' := Aside0.mk H; clear H
  go_enter Try.func21, Try.ntmps21
  go_wp2
  repeat (go_quiet (fail); try go_wp2)
  go_loopg [5] k (fun kq v5 w' => ∃ (x5_1 : Int), v5 = .int .i64 x5_1 ∧ Aside0 (laws_eqIntS.l0 kq l0 l1 x5_1 = some r) ∧ Aside0 (kq ≤ k) ∧ Drawn0 w w')
  case atStart => exact ⟨(0), y0_4, H', ⟨Nat.le_refl _⟩, y0_2⟩
  case round =>
   clear H'
   try clear c1
   try clear c2
   try clear p2
   try clear c3
   try clear c3b0
   try clear c3b1
   try clear c3b2
   obtain ⟨x5_1, rfl, HA, HK1, ⟨m1, rfl⟩⟩ := hrel; cases gk with
   | zero => exact absurd HA.out (by simp [laws_eqIntS.l0])
   | succ k1 =>
    have H := HA.out; clear HA
    simp only [laws_eqIntS.l0] at H
    by_cases c4 : x5_1 < (l0.length : Int)
    ·
     rw [if_pos c4] at H
     have c4b0 : decide (x5_1 < (l0.length : Int)) = true := decide_eq_true c4; clear c4
     by_cases c5 : 0 ≤ x5_1
     rotate_left
     ·
      rw [if_neg c5] at H
      exact absurd H (by simp)
     rw [if_pos c5] at H
     have c5b0 : decide (0 ≤ x5_1) = true := decide_eq_true c5; clear c5
     by_cases c6 : x5_1 < (l1.length : Int)
     rotate_left
     ·
      rw [if_neg c6] at H
      exact absurd H (by simp)
     rw [if_pos c6] at H
     have c6b0 : decide (x5_1 < (l1.length : Int)) = true := decide_eq_true c6; clear c6
     by_cases c7 : (rd l0 x5_1) = (rd l1 x5_1)
     ·
      rw [if_pos c7] at H
      have c7b0 : ((rd l0 x5_1) == (rd l1 x5_1)) = true := beq_iff_eq.mpr c7; have c7b1 : ((rd l0 x5_1) != (rd l1 x5_1)) = false := bne_eq_false_iff_eq.mpr c7; clear c7; have H' := Aside0.mk H; clear H; have p159 : 0 ≤ (x5_1 : Int) := of_decide_eq_true y0_3; have q159 : x5_1 < (l0.length : Int) := of_decide_eq_true y0_3; obtain ⟨ad159, e159, hx159_0⟩ := Kd.at_int HR0.out x5_1 p159 q159; cases e159; replace p159 := eq_true p159; replace q159 := eq_true q159; have p160 : 0 ≤ (x5_1 : Int) := of_decide_eq_true y0_3; have q160 : x5_1 < (l1.length : Int) := of_decide_eq_true y0_3; obtain ⟨ad160, e160, hx160_0⟩ := Kd.at_int HR1.out x5_1 p160 q160; cases e160; replace p160 := eq_true p160; replace q160 := eq_true q160
      go_wp2
      repeat (go_quiet (fail); try go_wp2)
      go_roundg k1
      case measure => have := HK1.out; omega
      case rel => exact ⟨(wrap64 (x5_1 + 1)), y0_4, H', ⟨y0_5⟩, y0_2⟩
     rw [if_neg c7] at H
     have c7b0 : ((rd l0 x5_1) == (rd l1 x5_1)) = false := beq_eq_false_iff_ne.mpr c7; have c7b1 : ((rd l0 x5_1) != (rd l1 x5_1)) = true := bne_iff_ne.mpr c7; obtain rfl := Option.some.inj H; have p159 : 0 ≤ (x5_1 : Int) := of_decide_eq_true y0_3; have q159 : x5_1 < (l0.length : Int) := of_decide_eq_true y0_3; obtain ⟨ad159, e159, hx159_0⟩ := Kd.at_int HR0.out x5_1 p159 q159; cases e159; replace p159 := eq_true p159; replace q159 := eq_true q159; have p160 : 0 ≤ (x5_1 : Int) := of_decide_eq_true y0_3; have q160 : x5_1 < (l1.length : Int) := of_decide_eq_true y0_3; obtain ⟨ad160, e160, hx160_0⟩ := Kd.at_int HR1.out x5_1 p160 q160; cases e160; replace p160 := eq_true p160; replace q160 := eq_true q160
     go_wp2
     repeat (go_quiet (fail); try go_wp2)
     go_ret
     exact ⟨y0_4, y0_2⟩
    rw [if_neg c4] at H
    have c4b0 : decide (x5_1 < (l0.length : Int)) = false := decide_eq_false c4; clear c4; obtain rfl := Option.some.inj H
    go_wp2
    repeat (go_quiet (fail); try go_wp2)
    go_ret
    exact ⟨y0_4, y0_2⟩
 rw [if_neg c3] at H
 have c3b0 : ((l0.length : Int) == (l1.length : Int)) = false := beq_eq_false_iff_ne.mpr c3; have c3b1 : ((l0.length : Int) != (l1.length : Int)) = true := bne_iff_ne.mpr c3
 have c3b2 : (l0.length == l1.length) = false := by first | simpa using c3 | (simp at c3 ⊢; omega)
 obtain rfl := Option.some.inj H
 go_enter Try.func21, Try.ntmps21
 go_wp2
 repeat (go_quiet (fail); try go_wp2)
 go_ret
 exact ⟨y0_4, y0_2⟩

/-! ### laws_eqPart: function 9 -/
def laws_eqPart.f (k : Nat) (a0_0 : Int) (a0_1 : ByteArray) (l0_2 : List Int) (a1_0 : Int) (a1_1 : ByteArray) (l1_2 : List Int) : Option (Bool) := if a0_0 = a1_0 then (if a0_1.toList = a1_1.toList then ((laws_eqIntS.f k l0_2 l1_2).bind fun t163 => (if t163 = true then (some true) else (some false))) else (some false)) else (some false)
theorem laws_eqPart.mono : ∀ a0 a1 a2 a3 a4 a5 k, LeO (laws_eqPart.f k a0 a1 a2 a3 a4 a5) (laws_eqPart.f (k + 1) a0 a1 a2 a3 a4 a5) := by
 intro a0 a1 a2 a3 a4 a5 k
 unfold laws_eqPart.f
 repeat' first | (with_reducible exact laws_eqIntS.mono _ _ _) | (with_reducible exact LeO.refl _) | (with_reducible exact LeO.none _) | (with_reducible refine LeO.ite ?_ ?_) | (with_reducible refine LeO.bind ?_ (fun _ => ?_))
set_option maxHeartbeats 8000000 in
set_option maxRecDepth 100000 in
theorem laws_eqPart.calls (k : Nat) (a0_0 : Int) (a0_1 : ByteArray) (A0_2 : Option Addr) (c0_2 : Nat) (l0_2 : List Int) (a1_0 : Int) (a1_1 : ByteArray) (A1_2 : Option Addr) (c1_2 : Nat) (l1_2 : List Int) (r : Bool) (w : World) (hr0_2 : Kd.C (Kd.int .i64) w A0_2 l0_2.length l0_2) (hc0_2 : l0_2.length ≤ c0_2) (hr1_2 : Kd.C (Kd.int .i64) w A1_2 l1_2.length l1_2) (hc1_2 : l1_2.length ≤ c1_2) (h : laws_eqPart.f k a0_0 a0_1 l0_2 a1_0 a1_1 l1_2 = some r) :
  Calls Try.prog 9 #[.agg #[.int .i64 a0_0, .string a0_1, .slice A0_2 l0_2.length c0_2], .agg #[.int .i64 a1_0, .string a1_1, .slice A1_2 l1_2.length c1_2]] w fun e w' => e = .returned (.bool r) ∧ Below w.heap.size w w' := by
 have hu26 := Try.underlying26; have HR0_2 := Aside0.mk hr0_2; have HC0_2 := Aside0.mk hc0_2; clear hr0_2 hc0_2; have HR1_2 := Aside0.mk hr1_2; have HC1_2 := Aside0.mk hc1_2; clear hr1_2 hc1_2; have HB := Aside0.mk (Below.refl w.heap.size w)
 have H := h; unfold laws_eqPart.f at H
 clear h
 go_enter Try.func9, Try.ntmps9
 have H' := Aside0.mk H; clear H
 go_upto_if 9 with (first | ((with_reducible refine gd 2 ?_); refine bL 2 #[.int .i64 a0_0, .string a0_1, .slice A0_2 l0_2.length c0_2] 26 ?_; intro gb161 w3 _ _ _) | ((with_reducible refine gd 3 ?_); refine bL 3 #[.int .i64 a1_0, .string a1_1, .slice A1_2 l1_2.length c1_2] 26 ?_; intro gb162 w4 _ _ _))
 have H := H'.out; clear H'
 by_cases c5 : a0_0 = a1_0
 ·
  rw [if_pos c5] at H
  have c5b0 : (a0_0 == a1_0) = true := beq_iff_eq.mpr c5; have c5b1 : (a0_0 != a1_0) = false := bne_eq_false_iff_eq.mpr c5; clear c5
  (first | rw [c5b0] | (simp only [i64_w, i32_w]; rw [c5b0]) | skip)
  have H' := Aside0.mk H; clear H
  go_upto_if 14 with fail
  have H := H'.out; clear H'
  by_cases c6 : a0_1.toList = a1_1.toList
  ·
   rw [if_pos c6] at H
   have c6b0 : (a0_1.toList == a1_1.toList) = true := beq_iff_eq.mpr c6; have c6b1 : (a0_1.toList != a1_1.toList) = false := bne_eq_false_iff_eq.mpr c6; clear c6
   (first | rw [c6b0] | (simp only [i64_w, i32_w]; rw [c6b0]) | skip)
   obtain ⟨t163, A7, H⟩ := oB H; (try dsimp only at H); have H' := Aside0.mk H; clear H
   go_upto_if 20 with (first | ((with_reducible refine gate_callee (f := 21) rfl ?_); refine gD (some 19) Try.func21 (laws_eqIntS.calls (hr0 := pC HR0_2) (hc0 := HC0_2.out) (hr1 := pC HR1_2) (hc1 := HC1_2.out) (w := _) (h := A7.out)) ?_; intro w8 _))
   have H := H'.out; clear H'
   by_cases c9 : t163 = true
   ·
    subst c9
    rw [if_pos rfl] at H
    obtain rfl := Option.some.inj H
    go_wp2
    go_ret
    exact ⟨y0_4, UpW.out⟩
   replace c9 := Bool.eq_false_iff.mpr c9; subst c9
   rw [if_neg (show ¬ (false = true) by decide)] at H
   obtain rfl := Option.some.inj H
   go_wp2
   go_ret
   exact ⟨y0_4, UpW.out⟩
  rw [if_neg c6] at H
  have c6b0 : (a0_1.toList == a1_1.toList) = false := beq_eq_false_iff_ne.mpr c6; have c6b1 : (a0_1.toList != a1_1.toList) = true := bne_iff_ne.mpr c6
  (first | rw [c6b0] | (simp only [i64_w, i32_w]; rw [c6b0]) | skip)
  obtain rfl := Option.some.inj H
  go_wp2
  go_ret
  exact ⟨y0_4, UpW.out⟩
 rw [if_neg c5] at H
 have c5b0 : (a0_0 == a1_0) = false := beq_eq_false_iff_ne.mpr c5; have c5b1 : (a0_0 != a1_0) = true := bne_iff_ne.mpr c5
 (first | rw [c5b0] | (simp only [i64_w, i32_w]; rw [c5b0]) | skip)
 obtain rfl := Option.some.inj H
 go_wp2
 go_ret
 exact ⟨y0_4, UpW.out⟩

/-! ### laws_eqPartS: function 10 -/
def laws_eqPartS.l0 : Nat → List (S26) → List (S26) → Int → Option (Bool)
 | 0, _, _, _ => none
 | k + 1, x0, x1, x5 => if x5 < (x0.length : Int) then (if 0 ≤ x5 then (if x5 < (x1.length : Int) then ((laws_eqPart.f k ((rd_T26 x0 x5).f0) ((rd_T26 x0 x5).f1) ((rd_T26 x0 x5).f2) ((rd_T26 x1 x5).f0) ((rd_T26 x1 x5).f1) ((rd_T26 x1 x5).f2)).bind fun t166 => (if t166 = true then (laws_eqPartS.l0 k x0 x1 (wrap64 (x5 + 1))) else (some false))) else (none)) else (none)) else (some true)
def laws_eqPartS.f (k : Nat) (l0 : List (S26)) (l1 : List (S26)) : Option (Bool) := if (l0.length : Int) = (l1.length : Int) then (laws_eqPartS.l0 k l0 l1 0) else (some false)
theorem laws_eqPartS.mono_l : ∀ k, (∀ y0 y1 y2, LeO (laws_eqPartS.l0 k y0 y1 y2) (laws_eqPartS.l0 (k + 1) y0 y1 y2))
 | 0 => fun _ _ _ r h => by simp [laws_eqPartS.l0] at h
 | k + 1 => by
  have ih0 := laws_eqPartS.mono_l k
  intro y0 y1 y2
  unfold laws_eqPartS.l0
  repeat' first | (with_reducible exact ih0 _ _ _) | (with_reducible exact laws_eqPart.mono _ _ _ _ _ _ _) | (with_reducible exact LeO.refl _) | (with_reducible exact LeO.none _) | (with_reducible refine LeO.ite ?_ ?_) | (with_reducible refine LeO.bind ?_ (fun _ => ?_))
theorem laws_eqPartS.mono : ∀ a0 a1 k, LeO (laws_eqPartS.f k a0 a1) (laws_eqPartS.f (k + 1) a0 a1) := by
 intro a0 a1 k
 have ih0 := laws_eqPartS.mono_l k
 unfold laws_eqPartS.f
 repeat' first | (with_reducible exact ih0 _ _ _) | (with_reducible exact laws_eqPart.mono _ _ _ _ _ _ _) | (with_reducible exact LeO.refl _) | (with_reducible exact LeO.none _) | (with_reducible refine LeO.ite ?_ ?_) | (with_reducible refine LeO.bind ?_ (fun _ => ?_))
def laws_eqPartS.T6 : Bool × List (List Nat × List Nat) := (true, [([], []), ([], []), ([0, 1], [0, 1]), ([2], [2]), ([], []), ([], []), ([4, 5], [4, 5]), ([6], [6]), ([3, 7], [3, 7]), ([8], [8])])
def laws_eqPartS.B6 : List Nat := [0, 0, 3, 7, 0, 0, 48, 112, 255, 511]
theorem laws_eqPartS.tab6 : rtab .any (opsOf Try.f10 6) = laws_eqPartS.T6 := by kernel_rfl
theorem laws_eqPartS.bits6 : waitsOk laws_eqPartS.T6.2 laws_eqPartS.B6 = true := by kernel_rfl
set_option maxHeartbeats 8000000 in
set_option maxRecDepth 100000 in
theorem laws_eqPartS.calls (k : Nat) (A0 : Option Addr) (c0 : Nat) (l0 : List (S26)) (A1 : Option Addr) (c1 : Nat) (l1 : List (S26)) (r : Bool) (w : World) (hr0 : Kd.C k26 w A0 l0.length l0) (hc0 : l0.length ≤ c0) (hr1 : Kd.C k26 w A1 l1.length l1) (hc1 : l1.length ≤ c1) (h : laws_eqPartS.f k l0 l1 = some r) :
  Calls Try.prog 10 #[.slice A0 l0.length c0, .slice A1 l1.length c1] w fun e w' => e = .returned (.bool r) ∧ Below w.heap.size w w' := by
 have hu26 := Try.underlying26; have HR0 := Aside0.mk hr0; have HC0 := Aside0.mk hc0; clear hr0 hc0; have HR1 := Aside0.mk hr1; have HC1 := Aside0.mk hc1; clear hr1 hc1; have HB := Aside0.mk (Below.refl w.heap.size w); have H := h; unfold laws_eqPartS.f at H; clear h
 by_cases c3 : (l0.length : Int) = (l1.length : Int)
 ·
  rw [if_pos c3] at H
  have c3b0 : ((l0.length : Int) == (l1.length : Int)) = true := beq_iff_eq.mpr c3; have c3b1 : ((l0.length : Int) != (l1.length : Int)) = false := bne_eq_false_iff_eq.mpr c3
  have c3b2 : (l0.length == l1.length) = true := by first | simpa using c3 | (simp at c3 ⊢; omega)
  clear c3; have H' := Aside0.mk H; clear H
  go_enter Try.func10, Try.ntmps10
  go_wp2
  go_loopg [5] k (fun kq v5 w' => ∃ (x5_1 : Int), v5 = .int .i64 x5_1 ∧ Aside0 (laws_eqPartS.l0 kq l0 l1 x5_1 = some r) ∧ Aside0 (kq ≤ k) ∧ Aside0 (Below w.heap.size w w'))
  case atStart => exact ⟨(0), y0_4, H', ⟨Nat.le_refl _⟩, ⟨bI HB.out⟩⟩
  case round =>
   clear H'
   try clear c1
   try clear p2
   try clear c3
   try clear c3b0
   try clear c3b1
   try clear c3b2
   obtain ⟨x5_1, rfl, HA, HK1, HB⟩ := hrel; cases gk with
   | zero => exact absurd HA.out (by simp [laws_eqPartS.l0])
   | succ k1 =>
    have H := HA.out; clear HA
    simp only [laws_eqPartS.l0] at H
    by_cases c4 : x5_1 < (l0.length : Int)
    ·
     rw [if_pos c4] at H
     have c4b0 : decide (x5_1 < (l0.length : Int)) = true := decide_eq_true c4; clear c4
     by_cases c5 : 0 ≤ x5_1
     rotate_left
     ·
      rw [if_neg c5] at H
      exact absurd H (by simp)
     rw [if_pos c5] at H
     have c5b0 : decide (0 ≤ x5_1) = true := decide_eq_true c5; clear c5
     by_cases c6 : x5_1 < (l1.length : Int)
     rotate_left
     ·
      rw [if_neg c6] at H
      exact absurd H (by simp)
     rw [if_pos c6] at H
     have c6b0 : decide (x5_1 < (l1.length : Int)) = true := decide_eq_true c6; clear c6; obtain ⟨t166, A7, H⟩ := oB H; (try dsimp only at H)
     by_cases c8 : t166 = true
     ·
      subst c8
      rw [if_pos rfl] at H
      have H' := Aside0.mk H; clear H
      try go_wp2
      replace HB := Aside0.mk (below_drew1 HB.out); have p164 : 0 ≤ (x5_1 : Int) := of_decide_eq_true y0_3; have q164 : x5_1 < (l0.length : Int) := of_decide_eq_true y0_3; obtain ⟨ad164, A164_2, c164_2, e164, hx164_0, hx164_1, hx164_2, hl164_2, hi164_2⟩ := at_T26 HR0.out x5_1 p164 q164; have hr164_2 := hx164_2; have hw164_2 := hx164_2; have hw164_1 := hx164_1; have hw164_0 := hx164_0; cases e164; replace hx164_0 := bx HB hx164_0; replace hx164_1 := bx HB hx164_1; replace hx164_2 := bx HB hx164_2; have HR164_2 := Aside0.mk hi164_2; have HC164_2 := Aside0.mk hl164_2; clear hi164_2 hl164_2; replace p164 := eq_true p164; replace q164 := eq_true q164; have p165 : 0 ≤ (x5_1 : Int) := of_decide_eq_true y0_3; have q165 : x5_1 < (l1.length : Int) := of_decide_eq_true y0_3; obtain ⟨ad165, A165_2, c165_2, e165, hx165_0, hx165_1, hx165_2, hl165_2, hi165_2⟩ := at_T26 HR1.out x5_1 p165 q165; have hr165_2 := hx165_2; have hw165_2 := hx165_2; have hw165_1 := hx165_1; have hw165_0 := hx165_0; cases e165; replace hx165_0 := bx HB hx165_0; replace hx165_1 := bx HB hx165_1; replace hx165_2 := bx HB hx165_2; have HR165_2 := Aside0.mk hi165_2; have HC165_2 := Aside0.mk hl165_2; clear hi165_2 hl165_2; replace p165 := eq_true p165; replace q165 := eq_true q165
      refine start_ (n := 10) (S := fun w' => w'.cell? (ad164.add ((x5_1).toNat * 3)) = some (.int .i64 ((rd_T26 l0 x5_1).f0)) ∧ w'.cell? ⟨(ad164.add ((x5_1).toNat * 3)).block, (ad164.add ((x5_1).toNat * 3)).off + 1, none⟩ = some (.string ((rd_T26 l0 x5_1).f1)) ∧ w'.cell? ⟨(ad164.add ((x5_1).toNat * 3)).block, (ad164.add ((x5_1).toNat * 3)).off + 2, none⟩ = some (.slice A164_2 ((rd_T26 l0 x5_1).f2).length c164_2) ∧ w'.cell? (ad165.add ((x5_1).toNat * 3)) = some (.int .i64 ((rd_T26 l1 x5_1).f0)) ∧ w'.cell? ⟨(ad165.add ((x5_1).toNat * 3)).block, (ad165.add ((x5_1).toNat * 3)).off + 1, none⟩ = some (.string ((rd_T26 l1 x5_1).f1)) ∧ w'.cell? ⟨(ad165.add ((x5_1).toNat * 3)).block, (ad165.add ((x5_1).toNat * 3)).off + 2, none⟩ = some (.slice A165_2 ((rd_T26 l1 x5_1).f2).length c165_2)) (ds := []) #[false, false, false, false, false, false, false, false, false, false] (by kernel_rfl) rfl rfl ⟨(bx HB hw164_0), (bx HB hw164_1), (bx HB hw164_2), (bx HB hw165_0), (bx HB hw165_1), (bx HB hw165_2)⟩ (fun hHeld => ?_); refine with_tabW laws_eqPartS.tab6 laws_eqPartS.bits6 (fun HT_ HW_ => ?_)
      generalize wr.drew = w9 at HB HR164_2 HR165_2 hx164_0 hx164_1 hx164_2 hx165_0 hx165_1 hx165_2 hHeld ⊢
      refine pA 0 (some 17) (bz 10 1) HT_ ?_
      refine pA 1 (some 18) (bz 10 3) HT_ ?_
      refine pA 2 (some 19) (bz 10 7) HT_ ?_
      refine pA 4 (some 21) (bz 10 23) HT_ ?_
      refine pA 5 (some 22) (bz 10 55) HT_ ?_
      refine pA 6 (some 23) (bz 10 119) HT_ ?_
      refine tA 3 (some 20) (bz 10 127) HT_ HW_ hHeld ?_
      refine tA 7 (some 24) (bz 10 255) HT_ HW_ hHeld ?_
      refine oA 8 (some 25) (bz 10 511) HT_ (fun K hK => ?_)
      refine gA Try.func9 #[.agg #[.int .i64 ((rd_T26 l0 x5_1).f0), .string ((rd_T26 l0 x5_1).f1), .slice A164_2 ((rd_T26 l0 x5_1).f2).length c164_2], .agg #[.int .i64 ((rd_T26 l1 x5_1).f0), .string ((rd_T26 l1 x5_1).f1), .slice A165_2 ((rd_T26 l1 x5_1).f2).length c165_2]] ?_
      with_reducible refine (laws_eqPart.calls k1 ((rd_T26 l0 x5_1).f0) ((rd_T26 l0 x5_1).f1) _ _ ((rd_T26 l0 x5_1).f2) ((rd_T26 l1 x5_1).f0) ((rd_T26 l1 x5_1).f1) _ _ ((rd_T26 l1 x5_1).f2) true _ ?side1 ?side2 ?side3 ?side4 A7.out).mono ?_
      (case side1 => exact ch HR164_2 HB)
      (case side2 => exact HC164_2.out)
      (case side3 => exact ch HR165_2 HB)
      (case side4 => exact HC165_2.out)
      rintro e w10 ⟨rfl, hb⟩
      refine ⟨_, rfl, ?_⟩
      replace HB := bs HB hb
      (try clear hb)
      (try clear hb2)
      (try clear hk)
      (try clear hi)
      refine hK.out _ _ ⟨(bx HB hw164_0), (bx HB hw164_1), (bx HB hw164_2), (bx HB hw165_0), (bx HB hw165_1), (bx HB hw165_2)⟩ (fun hHeld => ?_)
      clear hK K
      refine nA (some 25) ?_
      refine pA 9 (some 26) (bz 10 1023) HT_ ?_
      refine done_ (done_of HT_.out (by kernel_rfl)) ?_
      try go_wp2
      go_roundg k1
      case measure => have := HK1.out; omega
      case rel => exact ⟨(wrap64 (x5_1 + 1)), y0_4, H', ⟨y0_5⟩, ⟨bI HB.out⟩⟩
     replace c8 := Bool.eq_false_iff.mpr c8; subst c8
     rw [if_neg (show ¬ (false = true) by decide)] at H
     obtain rfl := Option.some.inj H
     try go_wp2
     replace HB := Aside0.mk (below_drew1 HB.out); have p164 : 0 ≤ (x5_1 : Int) := of_decide_eq_true y0_3; have q164 : x5_1 < (l0.length : Int) := of_decide_eq_true y0_3; obtain ⟨ad164, A164_2, c164_2, e164, hx164_0, hx164_1, hx164_2, hl164_2, hi164_2⟩ := at_T26 HR0.out x5_1 p164 q164; have hr164_2 := hx164_2; have hw164_2 := hx164_2; have hw164_1 := hx164_1; have hw164_0 := hx164_0; cases e164; replace hx164_0 := bx HB hx164_0; replace hx164_1 := bx HB hx164_1; replace hx164_2 := bx HB hx164_2; have HR164_2 := Aside0.mk hi164_2; have HC164_2 := Aside0.mk hl164_2; clear hi164_2 hl164_2; replace p164 := eq_true p164; replace q164 := eq_true q164; have p165 : 0 ≤ (x5_1 : Int) := of_decide_eq_true y0_3; have q165 : x5_1 < (l1.length : Int) := of_decide_eq_true y0_3; obtain ⟨ad165, A165_2, c165_2, e165, hx165_0, hx165_1, hx165_2, hl165_2, hi165_2⟩ := at_T26 HR1.out x5_1 p165 q165; have hr165_2 := hx165_2; have hw165_2 := hx165_2; have hw165_1 := hx165_1; have hw165_0 := hx165_0; cases e165; replace hx165_0 := bx HB hx165_0; replace hx165_1 := bx HB hx165_1; replace hx165_2 := bx HB hx165_2; have HR165_2 := Aside0.mk hi165_2; have HC165_2 := Aside0.mk hl165_2; clear hi165_2 hl165_2; replace p165 := eq_true p165; replace q165 := eq_true q165
     refine start_ (n := 10) (S := fun w' => w'.cell? (ad164.add ((x5_1).toNat * 3)) = some (.int .i64 ((rd_T26 l0 x5_1).f0)) ∧ w'.cell? ⟨(ad164.add ((x5_1).toNat * 3)).block, (ad164.add ((x5_1).toNat * 3)).off + 1, none⟩ = some (.string ((rd_T26 l0 x5_1).f1)) ∧ w'.cell? ⟨(ad164.add ((x5_1).toNat * 3)).block, (ad164.add ((x5_1).toNat * 3)).off + 2, none⟩ = some (.slice A164_2 ((rd_T26 l0 x5_1).f2).length c164_2) ∧ w'.cell? (ad165.add ((x5_1).toNat * 3)) = some (.int .i64 ((rd_T26 l1 x5_1).f0)) ∧ w'.cell? ⟨(ad165.add ((x5_1).toNat * 3)).block, (ad165.add ((x5_1).toNat * 3)).off + 1, none⟩ = some (.string ((rd_T26 l1 x5_1).f1)) ∧ w'.cell? ⟨(ad165.add ((x5_1).toNat * 3)).block, (ad165.add ((x5_1).toNat * 3)).off + 2, none⟩ = some (.slice A165_2 ((rd_T26 l1 x5_1).f2).length c165_2)) (ds := []) #[false, false, false, false, false, false, false, false, false, false] (by kernel_rfl) rfl rfl ⟨(bx HB hw164_0), (bx HB hw164_1), (bx HB hw164_2), (bx HB hw165_0), (bx HB hw165_1), (bx HB hw165_2)⟩ (fun hHeld => ?_); refine with_tabW laws_eqPartS.tab6 laws_eqPartS.bits6 (fun HT_ HW_ => ?_)
     generalize wr.drew = w11 at HB HR164_2 HR165_2 hx164_0 hx164_1 hx164_2 hx165_0 hx165_1 hx165_2 hHeld ⊢
     refine pA 0 (some 17) (bz 10 1) HT_ ?_
     refine pA 1 (some 18) (bz 10 3) HT_ ?_
     refine pA 2 (some 19) (bz 10 7) HT_ ?_
     refine pA 4 (some 21) (bz 10 23) HT_ ?_
     refine pA 5 (some 22) (bz 10 55) HT_ ?_
     refine pA 6 (some 23) (bz 10 119) HT_ ?_
     refine tA 3 (some 20) (bz 10 127) HT_ HW_ hHeld ?_
     refine tA 7 (some 24) (bz 10 255) HT_ HW_ hHeld ?_
     refine oA 8 (some 25) (bz 10 511) HT_ (fun K hK => ?_)
     refine gA Try.func9 #[.agg #[.int .i64 ((rd_T26 l0 x5_1).f0), .string ((rd_T26 l0 x5_1).f1), .slice A164_2 ((rd_T26 l0 x5_1).f2).length c164_2], .agg #[.int .i64 ((rd_T26 l1 x5_1).f0), .string ((rd_T26 l1 x5_1).f1), .slice A165_2 ((rd_T26 l1 x5_1).f2).length c165_2]] ?_
     with_reducible refine (laws_eqPart.calls k1 ((rd_T26 l0 x5_1).f0) ((rd_T26 l0 x5_1).f1) _ _ ((rd_T26 l0 x5_1).f2) ((rd_T26 l1 x5_1).f0) ((rd_T26 l1 x5_1).f1) _ _ ((rd_T26 l1 x5_1).f2) false _ ?side1 ?side2 ?side3 ?side4 A7.out).mono ?_
     (case side1 => exact ch HR164_2 HB)
     (case side2 => exact HC164_2.out)
     (case side3 => exact ch HR165_2 HB)
     (case side4 => exact HC165_2.out)
     rintro e w12 ⟨rfl, hb⟩
     refine ⟨_, rfl, ?_⟩
     replace HB := bs HB hb
     (try clear hb)
     (try clear hb2)
     (try clear hk)
     (try clear hi)
     refine hK.out _ _ ⟨(bx HB hw164_0), (bx HB hw164_1), (bx HB hw164_2), (bx HB hw165_0), (bx HB hw165_1), (bx HB hw165_2)⟩ (fun hHeld => ?_)
     clear hK K
     refine nA (some 25) ?_
     refine pA 9 (some 26) (bz 10 1023) HT_ ?_
     refine done_ (done_of HT_.out (by kernel_rfl)) ?_
     try go_wp2
     go_ret
     exact ⟨y0_1, bI HB.out⟩
    rw [if_neg c4] at H
    have c4b0 : decide (x5_1 < (l0.length : Int)) = false := decide_eq_false c4; clear c4; obtain rfl := Option.some.inj H
    go_wp2
    go_ret
    exact ⟨y0_1, bI HB.out⟩
 rw [if_neg c3] at H
 have c3b0 : ((l0.length : Int) == (l1.length : Int)) = false := beq_eq_false_iff_ne.mpr c3; have c3b1 : ((l0.length : Int) != (l1.length : Int)) = true := bne_iff_ne.mpr c3
 have c3b2 : (l0.length == l1.length) = false := by first | simpa using c3 | (simp at c3 ⊢; omega)
 obtain rfl := Option.some.inj H
 go_enter Try.func10, Try.ntmps10
 go_wp2
 go_ret
 exact ⟨y0_1, bI HB.out⟩

end Go.Proofs.Ytnpbopadajbopaa.PFnExactTableGet
