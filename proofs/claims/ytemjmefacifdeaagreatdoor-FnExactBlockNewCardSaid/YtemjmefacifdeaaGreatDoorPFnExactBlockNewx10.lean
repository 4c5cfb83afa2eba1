-- By a program of this session, out of the translation (the print of the kit, with turns of its own). Lean checks it.
import Derived.Test.YtemjmefacifdeaaGreatDoorPFnExactBlockNewx0
namespace Go.Proofs.YtemjmefacifdeaaGreatDoor.PFnExactBlockNew
open Go.RowKit Go.Proofs.YtemjmefacifdeaaGreatDoorW.PrintWords Go.Proofs.YtemjmefacifdeaaGreatDoorW.PrintLast Go.Proofs.YtemjmefacifdeaaGreatDoorW.PrintMore
attribute [local go_sem] max2_int min2_int max_two min_two max_three min_three max_four min_four   -- for this text's walks alone
set_option linter.unusedVariables false
set_option linter.unusedSimpArgs false

/-! ### laws_toTx: function 81 -/
def laws_toTx.f (a0_0 : Int) (a0_1 : Int) (a0_2 : Int) (a0_3 : Int) : Option (Int × Int × Int × Int) := some (a0_0, a0_1, a0_2, a0_3)
set_option maxHeartbeats 8000000 in
set_option maxRecDepth 100000 in
theorem laws_toTx.calls (a0_0 : Int) (a0_1 : Int) (a0_2 : Int) (a0_3 : Int) (r1 : Int) (r2 : Int) (r3 : Int) (r4 : Int) (w : World) (h : laws_toTx.f a0_0 a0_1 a0_2 a0_3 = some (r1, r2, r3, r4)) :
  Calls Tryz.prog 81 #[.agg #[.int .i64 a0_0, .int .i64 a0_1, .int .i64 a0_2, .int .i64 a0_3]] w fun e w' => e = .returned (.agg #[.int .i64 r1, .int .i64 r2, .int .i64 r3, .int .i64 r4]) ∧ Below w.heap.size w w' := by
 have hu101 := Tryz.underlying101; have hu99 := Tryz.underlying99; have HB := Aside0.mk (Below.refl w.heap.size w); have H : (some (a0_0, a0_1, a0_2, a0_3)) = some (r1, r2, r3, r4) := h; clear h
 simp only [Option.some.injEq, Prod.mk.injEq] at H
 obtain ⟨rfl, rfl, rfl, rfl⟩ := H
 go_enter Tryz.func81, Tryz.ntmps81
 go_wp2_with (first | ((with_reducible refine gd 1 ?_); refine bA 1 #[.int .i64 a0_0, .int .i64 a0_1, .int .i64 a0_2, .int .i64 a0_3] 101 ?_; intro gb285 hg w2 hbox hb; have BK285 := Aside0.mk (hbox); have GW285 := bg hg HB; have GJ285 := gi GW285; have GE285 := GW285; replace HB := bs HB hb; clear hb hbox hg) | ((with_reducible refine gd 2 ?_); refine bA 2 #[.int .i64 0, .int .i64 0, .int .i64 0, .int .i64 0] 99 ?_; intro gb286 hg w3 hbox hb; have BK286 := Aside0.mk (hbox); have GW286 := bg hg HB; have GJ286 := gi GW286; have GE286 := GW286; replace HB := bs HB hb; have NB285_286 := b1 BK285 hg; have NI285_286 := ni NB285_286; have NB286_285 := b2 BK285 hg; have NI286_285 := ni NB286_285; replace BK285 := bk BK285 hb; clear hb hbox hg) | ((with_reducible refine gd 3 ?_); refine bA 3 #[.int .i64 0, .int .i64 0, .int .i64 0, .int .i64 0] 99 ?_; intro gb287 hg w4 hbox hb; have BK287 := Aside0.mk (hbox); have GW287 := bg hg HB; have GJ287 := gi GW287; have GE287 := GW287; replace HB := bs HB hb; have NB285_287 := b1 BK285 hg; have NI285_287 := ni NB285_287; have NB287_285 := b2 BK285 hg; have NI287_285 := ni NB287_285; replace BK285 := bk BK285 hb; have NB286_287 := b1 BK286 hg; have NI286_287 := ni NB286_287; have NB287_286 := b2 BK286 hg; have NI287_286 := ni NB287_286; replace BK286 := bk BK286 hb; clear hb hbox hg; have hnb5 := NB285_286.out; have hnc5 := NB286_285.out; have hnb6 := NB285_287.out; have hnc6 := NB287_285.out; obtain ⟨hcz7_0, hcz7_1, hcz7_2, hcz7_3, hfz7_0, hfz7_1, hfz7_2, hfz7_3⟩ := cs4 BK285; have hnb8 := NB287_286.out; have hnc8 := NB286_287.out; obtain ⟨hcz9_0, hcz9_1, hcz9_2, hcz9_3, hfz9_0, hfz9_1, hfz9_2, hfz9_3⟩ := cs4 BK287; obtain ⟨hcz10_0, hcz10_1, hcz10_2, hcz10_3, hfz10_0, hfz10_1, hfz10_2, hfz10_3⟩ := cs4 BK286))
 refine bodyPost_ret (results_cell_row rfl _ _ gb286 99 #[.int .i64 a0_0, .int .i64 a0_1, .int .i64 a0_2, .int .i64 a0_3] (0, 0) _ rfl (pI BK286) Tryz.underlying99 rfl (by kernel_rfl)) rfl ?_
 exact ⟨y0_10, bI HB.out⟩

/-! ### laws_toTxS: function 31 -/
def laws_toTxS.l0 : Nat → List (S101) → List (S99) → Int → Option ((List (S99)))
 | 0, _, _, _ => none
 | k + 1, x0, x3, x4 => if x4 < (x0.length : Int) then (if 0 ≤ x4 then ((laws_toTx.f ((rd_T101 x0 x4).f0) ((rd_T101 x0 x4).f1) ((rd_T101 x0 x4).f2) ((rd_T101 x0 x4).f3)).bind fun bt292 => (if x4 < (x3.length : Int) then (laws_toTxS.l0 k x0 (x3.set (x4 : Int).toNat (⟨bt292.1, bt292.2.1, bt292.2.2.1, bt292.2.2.2⟩ : S99)) (wrap64 (x4 + 1))) else (none))) else (none)) else (some x3)
def laws_toTxS.f (k : Nat) (l0 : List (S101)) : Option ((List (S99))) := if 0 ≤ (l0.length : Int) then (if ((l0.length : Int) : Int).toNat ≤ 8796093022208 then (laws_toTxS.l0 k l0 (List.replicate ((l0.length : Int) : Int).toNat z99) 0) else (none)) else (none)
theorem laws_toTxS.mono_l : ∀ k, (∀ y0 y1 y2, LeO (laws_toTxS.l0 k y0 y1 y2) (laws_toTxS.l0 (k + 1) y0 y1 y2))
 | 0 => fun _ _ _ r h => by simp [laws_toTxS.l0] at h
 | k + 1 => by
  have ih0 := laws_toTxS.mono_l k
  intro y0 y1 y2
  unfold laws_toTxS.l0
  repeat' first | (with_reducible exact ih0 _ _ _) | (with_reducible exact LeO.refl _) | (with_reducible exact LeO.none _) | (with_reducible refine LeO.ite ?_ ?_) | (with_reducible refine LeO.bind ?_ (fun _ => ?_))
theorem laws_toTxS.mono : ∀ a0 k, LeO (laws_toTxS.f k a0) (laws_toTxS.f (k + 1) a0) := by
 intro a0 k
 have ih0 := laws_toTxS.mono_l k
 unfold laws_toTxS.f
 repeat' first | (with_reducible exact ih0 _ _ _) | (with_reducible exact LeO.refl _) | (with_reducible exact LeO.none _) | (with_reducible refine LeO.ite ?_ ?_) | (with_reducible refine LeO.bind ?_ (fun _ => ?_))
set_option maxHeartbeats 8000000 in
set_option maxRecDepth 100000 in
theorem laws_toTxS.calls (k : Nat) (A0 : Option Addr) (c0 : Nat) (l0 : List (S101)) (r : List (S99)) (w : World) (hr0 : Kd.C k101 w A0 l0.length l0) (hc0 : l0.length ≤ c0) (h : laws_toTxS.f k l0 = some r) :
  Calls Tryz.prog 31 #[.slice A0 l0.length c0] w fun e w' => ∃ v0_ : Value, e = .returned (v0_) ∧ Kd.R k99 99 w' w.heap.size (fun _ => True) v0_ r ∧ Below w.heap.size w w' := by
 have hu101 := Tryz.underlying101; have hu99 := Tryz.underlying99; have HR0 := Aside0.mk hr0; have HC0 := Aside0.mk hc0; clear hr0 hc0; have HB := Aside0.mk (Below.refl w.heap.size w); have H : (if 0 ≤ (l0.length : Int) then (if ((l0.length : Int) : Int).toNat ≤ 8796093022208 then (laws_toTxS.l0 k l0 (List.replicate ((l0.length : Int) : Int).toNat z99) 0) else (none)) else (none)) = some r := h; clear h
 by_cases c2 : 0 ≤ (l0.length : Int)
 ·
  rw [if_pos c2] at H
  have c2b0 := eq_true c2; have c2b1 : decide (0 ≤ (l0.length : Int)) = true := decide_eq_true c2; clear c2
  by_cases c3 : ((l0.length : Int) : Int).toNat ≤ 8796093022208
  rotate_left
  ·
   rw [if_neg c3] at H
   exact absurd H (by simp)
  rw [if_pos c3] at H
  have c3b0 := eq_true c3; have c3b1 : decide (((l0.length : Int) : Int).toNat ≤ 8796093022208) = true := decide_eq_true c3; clear c3; obtain ⟨y288, hy288⟩ : ∃ y_ : List (S99), y_ = (List.replicate ((l0.length : Int) : Int).toNat z99) := ⟨_, rfl⟩
  replace H : (laws_toTxS.l0 k l0 y288 0) = some r := by first | (rw [hy288]; with_reducible exact H) | (have H2_ := (Option.bind_some _ _).symm.trans H; rw [hy288]; with_reducible exact H2_) | (have H2_ := (Option.bind_some _ _).symm.trans H; with_reducible exact H2_) | with_reducible exact H | (rw [hy288]; exact H) | exact H
  have Ny288 := Aside0.mk hy288; clear hy288; have H' := Aside0.mk H; clear H
  go_enter Tryz.func31, Tryz.ntmps31
  go_wp2_with (first | ((with_reducible refine gate_dst (N := 7) rfl ?_); refine Kd.R_make k99 _ 99 rfl (N := 7) rfl 59 _ _ rfl (l0.length : Int) rfl rfl Tryz.underlying59 (.agg #[(.int .i64 0), (.int .i64 0), (.int .i64 0), (.int .i64 0)]) 32 info99 rfl (by decide) (by omega) z99 (ok := fun _ => True) (okp := fun _ => True) (k99_mkM _ _ _ z99 ) (fun _ hk => hk) trivial (of_decide_eq_true y0_12) (Nat.le_trans (Nat.mul_le_mul_right _ (of_decide_eq_true y0_12 : (l0.length : Int).toNat ≤ 8796093022208)) (by omega)) (Below.refl _ _) (Nat.le_refl _) ?_; intro v289 w4 ho5 hb hg_ hnew_; clear hg_ hnew_; (first | rw [← Ny288.out] at ho5 | (simp only [Int.reduceToNat] at ho5; rw [← Ny288.out] at ho5)); have HO290 := Aside0.mk (Kd.R_lower ho5 (below_size (bI HB.out))); replace HB := bs HB hb; clear hb ho5))
  go_loopg [4] k (fun kq v4 w' => ∃ (x3_1 : List (S99)) (x4_1 : Int), v4 = .int .i64 x4_1 ∧ Aside0 (laws_toTxS.l0 kq l0 x3_1 x4_1 = some r) ∧ Aside0 (kq ≤ k) ∧ Aside0 (Kd.R k99 99 w' w.heap.size (fun _ => True) v289 x3_1) ∧ Aside0 (Below w.heap.size w w'))
  case atStart => exact ⟨(y288), (0), y0_13, H', ⟨Nat.le_refl _⟩, ⟨by (with_reducible repeat (first | apply Kd.R_alloc | apply Kd.R_drewN | apply Kd.R_drew)); exact HO290.out⟩, ⟨bI HB.out⟩⟩
  case round =>
   clear H'
   try clear c2
   try clear c2b0
   try clear c2b1
   try clear p2
   try clear c3
   try clear c3b0
   try clear c3b1
   obtain ⟨x3_1, x4_1, rfl, HA, HK1, HO_3, HB⟩ := hrel; cases gk with
   | zero => exact absurd HA.out (by simp [laws_toTxS.l0])
   | succ k1 =>
    have H := HA.out; clear HA
    simp only [laws_toTxS.l0] at H
    by_cases c6 : x4_1 < (l0.length : Int)
    ·
     rw [if_pos c6] at H
     have c6b0 : decide (x4_1 < (l0.length : Int)) = true := decide_eq_true c6; clear c6
     by_cases c7 : 0 ≤ x4_1
     rotate_left
     ·
      rw [if_neg c7] at H
      exact absurd H (by simp)
     rw [if_pos c7] at H
     have c7b0 : decide (0 ≤ x4_1) = true := decide_eq_true c7; clear c7; obtain ⟨⟨t292, t293, t294, t295⟩, A80, H⟩ := Option.bind_eq_some_iff.mp H
     try dsimp only at H
     have A8 := Aside0.mk A80; clear A80
     by_cases c9 : x4_1 < (x3_1.length : Int)
     rotate_left
     ·
      rw [if_neg c9] at H
      exact absurd H (by simp)
     rw [if_pos c9] at H
     have c9b0 : decide (x4_1 < (x3_1.length : Int)) = true := decide_eq_true c9; clear c9; obtain ⟨y296, hy296⟩ : ∃ y_ : List (S99), y_ = (x3_1.set (x4_1 : Int).toNat (⟨t292, t293, t294, t295⟩ : S99)) := ⟨_, rfl⟩
     replace H : (laws_toTxS.l0 k1 l0 y296 (wrap64 (x4_1 + 1))) = some r := by first | (rw [hy296]; with_reducible exact H) | (have H2_ := (Option.bind_some _ _).symm.trans H; rw [hy296]; with_reducible exact H2_) | (have H2_ := (Option.bind_some _ _).symm.trans H; with_reducible exact H2_) | with_reducible exact H | (rw [hy296]; exact H) | exact H
     have Ny296 := Aside0.mk hy296; clear hy296; have H' := Aside0.mk H; clear H; have p291 : 0 ≤ (x4_1 : Int) := of_decide_eq_true y0_12; have q291 : x4_1 < (l0.length : Int) := of_decide_eq_true y0_12; obtain ⟨ad291, e291, hx291_0, hx291_1, hx291_2, hx291_3⟩ := at_T101 HR0.out x4_1 p291 q291; cases e291; replace hx291_0 := bx HB hx291_0; replace hx291_1 := bx HB hx291_1; replace hx291_2 := bx HB hx291_2; replace hx291_3 := bx HB hx291_3; replace p291 := eq_true p291; replace q291 := eq_true q291
     go_wp2_with (first | ((with_reducible refine gate_callee (f := 81) rfl ?_); refine gB (some 20) Tryz.func81 #[.agg #[.int .i64 ((rd_T101 l0 x4_1).f0), .int .i64 ((rd_T101 l0 x4_1).f1), .int .i64 ((rd_T101 l0 x4_1).f2), .int .i64 ((rd_T101 l0 x4_1).f3)]] ?_; (with_reducible refine (laws_toTx.calls ((rd_T101 l0 x4_1).f0) ((rd_T101 l0 x4_1).f1) ((rd_T101 l0 x4_1).f2) ((rd_T101 l0 x4_1).f3) t292 t293 t294 t295 _ A8.out).mono ?_); rintro e w11 ⟨rfl, hb⟩; refine ⟨_, rfl, ?_⟩; replace HO_3 := rb HO_3 hb; replace HB := bs HB hb; (try clear hb); (try clear hb2); (try clear hk); (try clear hi); have p10 : 0 ≤ (x4_1 : Int) := of_decide_eq_true y0_12; have q10 : (x4_1 : Int) < ((x3_1.length : Int) : Int) := of_decide_eq_true y0_12; obtain ⟨go10, co10, eo10, gb10, gl10, cl10, HG10⟩ := Kd.R_form HO_3.out (by omega); (first | cases eo10 | (injection eo10 with ea_ en_ ec_; (first | subst ea_ | (injection ea_ with ea_; subst ea_)); subst ec_; clear en_)); have GB10 := Aside0.mk gb10; have GG10 := Aside0.mk HG10; clear gb10 gl10 HG10; obtain ⟨ce10, hcl10, hM10, hcc10, hfr10⟩ := Kd.R_elem HO_3.out z99 (x4_1 : Int) p10 q10; obtain rfl := k99_openM hM10; have hx10_0 : w11.cell? ⟨go10, (x4_1 : Int).toNat * 4, none⟩ = some (.int .i64 ((rd_T99 x3_1 x4_1).f0)) := hcc10 0 _ rfl; have hx10_1 : w11.cell? ⟨go10, (x4_1 : Int).toNat * 4 + 1, none⟩ = some (.int .i64 ((rd_T99 x3_1 x4_1).f1)) := hcc10 1 _ rfl; have hx10_2 : w11.cell? ⟨go10, (x4_1 : Int).toNat * 4 + 2, none⟩ = some (.int .i64 ((rd_T99 x3_1 x4_1).f2)) := hcc10 2 _ rfl; have hx10_3 : w11.cell? ⟨go10, (x4_1 : Int).toNat * 4 + 3, none⟩ = some (.int .i64 ((rd_T99 x3_1 x4_1).f3)) := hcc10 3 _ rfl; have hf10_0 : w11.frozen? ⟨go10, (x4_1 : Int).toNat * 4, none⟩ = false := hfr10 0; have hf10_1 : w11.frozen? ⟨go10, (x4_1 : Int).toNat * 4 + 1, none⟩ = false := hfr10 1; have hf10_2 : w11.frozen? ⟨go10, (x4_1 : Int).toNat * 4 + 2, none⟩ = false := hfr10 2; have hf10_3 : w11.frozen? ⟨go10, (x4_1 : Int).toNat * 4 + 3, none⟩ = false := hfr10 3; clear hcl10 hcc10 hfr10 hM10; replace p10 := eq_true p10; replace q10 := eq_true q10; have HX12 := Aside0.mk (show Kd.R k99 99 w11 w.heap.size (fun _ => True) (.slice (some ⟨go10, 0, none⟩) x3_1.length co10) x3_1 from (rI HO_3.out)); obtain ⟨ce12, hcl12, hM12, hcc12, hfr12⟩ := Kd.R_elem HX12.out z99 (x4_1 : Int) (of_decide_eq_true y0_12) (by have h_ : (x4_1 : Int) < ((x3_1.length : Int) : Int) := of_decide_eq_true y0_12; first | exact h_ | (have e_ := (Kd.R_reads' HO_3.out).1; omega) | simpa using h_); obtain rfl := k99_openM hM12; have HP12 := Kd.R_seg HX12.out (x4_1 : Int) (of_decide_eq_true y0_12) (by have h_ : (x4_1 : Int) < ((x3_1.length : Int) : Int) := of_decide_eq_true y0_12; first | exact h_ | (have e_ := (Kd.R_reads' HO_3.out).1; omega) | simpa using h_) (seg := [.int .i64 t292, .int .i64 t293, .int .i64 t294, .int .i64 t295]) (j := 0) hcl12 hcc12 (show 4 ≤ 4 from by decide) (x' := (⟨t292, t293, t294, t295⟩ : S99)) (k99_mkM _ _ _ (⟨t292, t293, t294, t295⟩ : S99) ) (fun _ hk => hk); have hx12_0 := hcc12 0 _ rfl; (try simp only [show (k99).sz = 4 from rfl, Nat.mul_one, Nat.add_zero] at hx12_0); have hf12_0 := hfr12 0; (try simp only [show (k99).sz = 4 from rfl, Nat.mul_one, Nat.add_zero] at hf12_0); have hx12_1 := hcc12 1 _ rfl; (try simp only [show (k99).sz = 4 from rfl, Nat.mul_one, Nat.add_zero] at hx12_1); have hf12_1 := hfr12 1; (try simp only [show (k99).sz = 4 from rfl, Nat.mul_one, Nat.add_zero] at hf12_1); have hx12_2 := hcc12 2 _ rfl; (try simp only [show (k99).sz = 4 from rfl, Nat.mul_one, Nat.add_zero] at hx12_2); have hf12_2 := hfr12 2; (try simp only [show (k99).sz = 4 from rfl, Nat.mul_one, Nat.add_zero] at hf12_2); have hx12_3 := hcc12 3 _ rfl; (try simp only [show (k99).sz = 4 from rfl, Nat.mul_one, Nat.add_zero] at hx12_3); have hf12_3 := hfr12 3; (try simp only [show (k99).sz = 4 from rfl, Nat.mul_one, Nat.add_zero] at hf12_3); clear hcl12 hcc12 hfr12 hM12) | ((with_reducible refine gate_store (t := 99) (p := 21) rfl ?_); refine store_event (t := 99) (p := 21) (v := ?vo_w13) (w1 := ((((w11.setCell ⟨go10, (x4_1 : Int).toNat * 4, none⟩ (.int .i64 t292)).setCell ⟨go10, (x4_1 : Int).toNat * 4 + 1, none⟩ (.int .i64 t293)).setCell ⟨go10, (x4_1 : Int).toNat * 4 + 2, none⟩ (.int .i64 t294)).setCell ⟨go10, (x4_1 : Int).toNat * 4 + 3, none⟩ (.int .i64 t295))) ?hg ?ho ?hn ?hr ?_; (case ho => rfl); (case hg => rfl); (case hn => rfl); (case hr => first | (go_simp; done) | (go_simp; rfl)); intro w13 hw; have hg : w11.grownBy w13 (some go10) := (by rw [hw]; exact HP12.2); have hp_ : Kd.R k99 99 w13 w.heap.size (fun _ => True) (.slice (some ⟨go10, 0, none⟩) x3_1.length co10) y296 := (by rw [hw, Ny296.out]; exact HP12.1); clear HP12; replace HO_3 := Aside0.mk (hp_); replace HB := Aside0.mk ((by rw [hw]; exact below_set (below_set (below_set (below_set (HB.out) GB10.out) GB10.out) GB10.out) GB10.out : Below w.heap.size w w13)); clear hg hw hp_))
     go_roundg k1
     case measure => have := HK1.out; omega
     case rel => exact ⟨(y296), (wrap64 (x4_1 + 1)), y0_13, H', ⟨y0_18⟩, ⟨y0_7⟩, ⟨bI HB.out⟩⟩
    rw [if_neg c6] at H
    have c6b0 : decide (x4_1 < (l0.length : Int)) = false := decide_eq_false c6; clear c6; obtain rfl := Option.some.inj H
    go_wp2
    go_ret
    exact ⟨_, y0_10, y0_7, bI HB.out⟩
 rw [if_neg c2] at H
 exact absurd H (by simp)

/-! ### impl_within: function 99 -/
def impl_within.f (a0 : Int) (a1 : Int) (a2 : Int) : Option (Bool) := if a0 ≥ a1 then (some (decide (a0 ≤ a2))) else (some false)
set_option maxHeartbeats 8000000 in
set_option maxRecDepth 100000 in
theorem impl_within.calls (a0 : Int) (a1 : Int) (a2 : Int) (r : Bool) (w : World) (h : impl_within.f a0 a1 a2 = some r) :
  Calls Tryz.prog 99 #[.int .i64 a0, .int .i64 a1, .int .i64 a2] w fun e w' => e = .returned (.bool r) ∧ Drawn0 w w' := by
 have H : (if a0 ≥ a1 then (some (decide (a0 ≤ a2))) else (some false)) = some r := h; clear h
 by_cases c4 : a0 ≥ a1
 ·
  rw [if_pos c4] at H
  have c4b0 : decide (a1 ≤ a0) = true := decide_eq_true c4; clear c4; obtain rfl := Option.some.inj H
  go_enter Tryz.func99, Tryz.ntmps99
  go_wp2
  go_ret
  exact ⟨y0_13, y0_11⟩
 rw [if_neg c4] at H
 have c4b0 : decide (a1 ≤ a0) = false := decide_eq_false c4; clear c4; obtain rfl := Option.some.inj H
 go_enter Tryz.func99, Tryz.ntmps99
 go_wp2
 go_ret
 exact ⟨y0_13, y0_11⟩

/-! ### strings_Split: function 141 -/

/-! ### impl_Split: function 119 -/
def impl_Split.f (a0 : ByteArray) (a1 : Int) : Option (List ByteArray) := (strings_Split.f a0 (strOfNums (([a1] : List Int)))).bind fun t300 => (some t300)
set_option maxHeartbeats 8000000 in
set_option maxRecDepth 100000 in
theorem impl_Split.calls (a0 : ByteArray) (a1 : Int) (r : List ByteArray) (w : World) (h : impl_Split.f a0 a1 = some r) (hG : Glob w := by exact gG HG HB) :
  Calls Tryz.prog 119 #[.string a0, .int .u8 a1] w fun e w' => ∃ v0_ : Value, e = .returned (v0_) ∧ Kd.R Kd.string 9 w' w.heap.size (fun _ => True) v0_ r ∧ Below w.heap.size w w' := by
 have HG := Aside0.mk hG; clear hG; have HB := Aside0.mk (Below.refl w.heap.size w)
 have H : ((strings_Split.f a0 (strOfNums (([a1] : List Int)))).bind fun t300 => (some t300)) = some r := h
 clear h; obtain ⟨y297, hy297⟩ : ∃ y_ : List Int, y_ = (([a1] : List Int)) := ⟨_, rfl⟩
 replace H : ((strings_Split.f a0 (strOfNums y297)).bind fun t300 => (some t300)) = some r := by first | (rw [hy297]; with_reducible exact H) | (have H2_ := (Option.bind_some _ _).symm.trans H; rw [hy297]; with_reducible exact H2_) | (have H2_ := (Option.bind_some _ _).symm.trans H; with_reducible exact H2_) | with_reducible exact H | (rw [hy297]; exact H) | exact H
 have Ny297 := Aside0.mk hy297; clear hy297; obtain ⟨t300, A30, H⟩ := Option.bind_eq_some_iff.mp H
 try dsimp only at H
 have A3 := Aside0.mk A30; clear A30; obtain rfl := Option.some.inj H
 go_enter Tryz.func119, Tryz.ntmps119
 go_wp2_with (first | ((with_reducible refine gate_dst (N := 7) rfl ?_); refine Kd.R_lit (Kd.int .u8) _ 5 ?hg (N := 7) ?hd (xs := ([a1] : List Int)) (inner := [.int .u8 a1]) (ok := fun _ => True) (okp := fun _ => True) ?hr ?hp (fun _ hk => hk) trivial (Below.refl _ _) (Nat.le_refl _) (by simp) ?_; (case hd => rfl); (case hg => rfl); (case hr => first | (go_simp; done) | (go_simp; rfl)); (case hp => exact (Reps.one (show Kd.M (Kd.int .u8) _ _ _ a1 [.int .u8 a1] from rfl) (Reps.none _ _))); intro v298 w4 ho5 hb hg_ hnew_; clear hg_ hnew_; (first | rw [← Ny297.out] at ho5 | (simp only [Int.reduceToNat] at ho5; rw [← Ny297.out] at ho5)); have HO299 := Aside0.mk (Kd.R_lower ho5 (below_size (bI HB.out))); replace HB := bs HB hb; clear hb ho5; have hcv6 := own_string (P := Tryz.prog) Tryz.underlying64 Tryz.underlying5 Tryz.underlying9 (Kd.own_of_R HO299.out)) | ((with_reducible refine gate_callee (f := 141) rfl ?_); refine gB (some 9) Tryz.func141 #[.string a0, .string (strOfNums y297)] ?_; (with_reducible refine (strings_Split.calls a0 (strOfNums y297) t300 _ A3.out).mono ?_); rintro e w7 ⟨v301, rfl, ho0, hb⟩; refine ⟨_, rfl, ?_⟩; replace HO299 := rb HO299 hb; have HO302 := Aside0.mk (Kd.R_lower ho0 (below_size (bI HB.out))); replace HB := bs HB hb; (try clear hb); (try clear ho0)))
 go_ret
 exact ⟨_, y0_10, by (with_reducible repeat (first | apply Kd.R_alloc | apply Kd.R_drewN | apply Kd.R_drew)); exact HO302.out, bI HB.out⟩

/-! ### strings_Cut: function 120 -/

/-! ### strconv_Itoa_134: function 134 -/

/-! ### impl_Digits: function 111 -/
def impl_Digits.f (a0 : Int) : Option (ByteArray) := (strconv_Itoa_134.f a0).bind fun t303 => (some t303)
set_option maxHeartbeats 8000000 in
set_option maxRecDepth 100000 in
theorem impl_Digits.calls (a0 : Int) (r : ByteArray) (w : World) (h : impl_Digits.f a0 = some r) (hG : Glob w := by exact gG HG HB) :
  Calls Tryz.prog 111 #[.int .i64 a0] w fun e w' => e = .returned (.string r) ∧ Below w.heap.size w w' := by
 have HG := Aside0.mk hG; clear hG; have HB := Aside0.mk (Below.refl w.heap.size w)
 have H : ((strconv_Itoa_134.f a0).bind fun t303 => (some t303)) = some r := h
 clear h; obtain ⟨t303, A20, H⟩ := Option.bind_eq_some_iff.mp H
 try dsimp only at H
 have A2 := Aside0.mk A20; clear A20; obtain rfl := Option.some.inj H
 go_enter Tryz.func111, Tryz.ntmps111
 go_wp2_with (first | ((with_reducible refine gate_callee (f := 134) rfl ?_); refine gB (some 4) Tryz.func134 #[.int .i64 a0] ?_; (with_reducible refine (strconv_Itoa_134.calls a0 t303 _ A2.out).mono ?_); rintro e w3 ⟨rfl, hb⟩; refine ⟨_, rfl, ?_⟩; replace HB := bs HB hb; (try clear hb); (try clear hb2); (try clear hk); (try clear hi)))
 go_ret
 exact ⟨y0_10, bI HB.out⟩

/-! ### impl_Number: function 121 -/
mutual
def impl_Number.j0 : Nat → ByteArray → Bool → Option (Int × Bool)
 | 0, _, _ => none
 | k + 1, x0, x13 => if x13 = true then (some (0, false)) else (impl_Number.l0 k x0 0 0)
def impl_Number.l0 : Nat → ByteArray → Int → Int → Option (Int × Bool)
 | 0, _, _, _ => none
 | k + 1, x0, x4, x5 => if x5 < (x0.size : Int) then (if 0 ≤ x5 then (if (bt x0 x5) < 48 then (some (0, false)) else (if (bt x0 x5) > 57 then (some (0, false)) else (impl_Number.l0 k x0 (wrap64 ((wrap64 (10 * x4)) + (((bt x0 x5) - 48) % 256))) (wrap64 (x5 + 1))))) else (none)) else ((impl_Digits.f x4).bind fun t304 => (if t304.toList = x0.toList then (some (x4, true)) else (some (0, false))))
end
def impl_Number.f (k : Nat) (a0 : ByteArray) : Option (Int × Bool) := if (a0.size : Int) < 1 then (impl_Number.j0 k a0 true) else (impl_Number.j0 k a0 (decide ((a0.size : Int) > 6)))
theorem impl_Number.mono_l : ∀ k, (∀ y0 y1, LeO (impl_Number.j0 k y0 y1) (impl_Number.j0 (k + 1) y0 y1)) ∧ (∀ y0 y1 y2, LeO (impl_Number.l0 k y0 y1 y2) (impl_Number.l0 (k + 1) y0 y1 y2))
 | 0 => ⟨fun _ _ r h => by simp [impl_Number.j0] at h, fun _ _ _ r h => by simp [impl_Number.l0] at h⟩
 | k + 1 => by
  obtain ⟨ih0, ih1⟩ := impl_Number.mono_l k
  refine ⟨?_, ?_⟩
  ·
   intro y0 y1
   unfold impl_Number.j0
   repeat' first | (with_reducible exact ih0 _ _) | (with_reducible exact ih1 _ _ _) | (with_reducible exact LeO.refl _) | (with_reducible exact LeO.none _) | (with_reducible refine LeO.ite ?_ ?_) | (with_reducible refine LeO.bind ?_ (fun _ => ?_))
  intro y0 y1 y2
  unfold impl_Number.l0
  repeat' first | (with_reducible exact ih0 _ _) | (with_reducible exact ih1 _ _ _) | (with_reducible exact LeO.refl _) | (with_reducible exact LeO.none _) | (with_reducible refine LeO.ite ?_ ?_) | (with_reducible refine LeO.bind ?_ (fun _ => ?_))
theorem impl_Number.mono : ∀ a0 k, LeO (impl_Number.f k a0) (impl_Number.f (k + 1) a0) := by
 intro a0 k
 obtain ⟨ih0, ih1⟩ := impl_Number.mono_l k
 unfold impl_Number.f
 repeat' first | (with_reducible exact ih0 _ _) | (with_reducible exact ih1 _ _ _) | (with_reducible exact LeO.refl _) | (with_reducible exact LeO.none _) | (with_reducible refine LeO.ite ?_ ?_) | (with_reducible refine LeO.bind ?_ (fun _ => ?_))
set_option maxHeartbeats 8000000 in
set_option maxRecDepth 100000 in
theorem impl_Number.calls (k : Nat) (a0 : ByteArray) (r1 : Int) (r2 : Bool) (w : World) (h : impl_Number.f k a0 = some (r1, r2)) (hG : Glob w := by exact gG HG HB) :
  Calls Tryz.prog 121 #[.string a0] w fun e w' => e = .returned (.tuple #[.int .i64 r1, .bool r2]) ∧ Below w.heap.size w w' := by
 have HG := Aside0.mk hG; clear hG; have HB := Aside0.mk (Below.refl w.heap.size w); have H : (if (a0.size : Int) < 1 then (impl_Number.j0 k a0 true) else (impl_Number.j0 k a0 (decide ((a0.size : Int) > 6)))) = some (r1, r2) := h; clear h; have HC2 := Aside0.mk H; clear H
 go_enter Tryz.func121, Tryz.ntmps121
 go_upto_region 1 with (fail)
 go_cut [13] (fun v13 wc => ∃ (kq : Nat) (x13_1 : Bool), v13 = .bool x13_1 ∧ Aside0 (impl_Number.j0 kq a0 x13_1 = some (r1, r2)) ∧ Aside0 (kq ≤ k) ∧ Aside0 (Below w.heap.size w wc))
 case first =>
  have H := HC2.out; clear HC2
  by_cases c3 : (a0.size : Int) < 1
  ·
   rw [if_pos c3] at H
   have c3b0 : decide ((a0.size : Int) < 1) = true := decide_eq_true c3
   have c3b1 : decide (a0.size < 1) = true := decide_eq_true (by omega)
   clear c3
   (first | rw [c3b0] | (simp only [i64_w, i32_w]; rw [c3b0]) | skip)
   have H' := Aside0.mk H; clear H
   go_wp2
   go_meet
   case rel => exact ⟨_, (true), y0_13, H', ⟨y0_15⟩, ⟨bI HB.out⟩⟩
  rw [if_neg c3] at H
  have c3b0 : decide ((a0.size : Int) < 1) = false := decide_eq_false c3
  have c3b1 : decide (a0.size < 1) = false := decide_eq_false (by omega)
  clear c3
  (first | rw [c3b0] | (simp only [i64_w, i32_w]; rw [c3b0]) | skip)
  have H' := Aside0.mk H; clear H
  go_wp2
  go_meet
  case rel => exact ⟨_, (decide ((a0.size : Int) > 6)), y0_13, H', ⟨y0_15⟩, ⟨bI HB.out⟩⟩
 case rest =>
  clear HC2
  try clear c1
  try clear p2
  try clear c3
  try clear c3b0
  try clear c3b1
  obtain ⟨kq, x13_1, rfl, HA, HJ1, HB⟩ := hcut; cases kq with
  | zero => exact absurd HA.out (by simp [impl_Number.j0])
  | succ kj1 =>
   have H := HA.out; clear HA
   simp only [impl_Number.j0] at H
   by_cases c4 : x13_1 = true
   ·
    subst c4
    rw [if_pos rfl] at H
    simp only [Option.some.injEq, Prod.mk.injEq] at H
    obtain ⟨rfl, rfl⟩ := H
    go_wp2
    go_ret2
    exact ⟨y0_10, bI HB.out⟩
   replace c4 := Bool.eq_false_iff.mpr c4; subst c4
   rw [if_neg (show ¬ (false = true) by decide)] at H
   have H' := Aside0.mk H; clear H
   go_wp2
   go_loopg [4, 5] kj1 (fun kq v4 v5 w' => ∃ (x4_2 : Int) (x5_2 : Int), v4 = .int .i64 x4_2 ∧ v5 = .int .i64 x5_2 ∧ Aside0 (impl_Number.l0 kq a0 x4_2 x5_2 = some (r1, r2)) ∧ Aside0 (kq ≤ kj1) ∧ Aside0 (Below w.heap.size w w'))
   case atStart => exact ⟨(0), (0), y0_13, y0_13, H', ⟨Nat.le_refl _⟩, ⟨bI HB.out⟩⟩
   case round =>
    clear H'
    try clear c1
    try clear p2
    try clear c3
    try clear c3b0
    try clear c3b1
    try clear c4
    try clear p2
    obtain ⟨x4_2, x5_2, rfl, rfl, HA, HK2, HB⟩ := hrel; cases gk with
    | zero => exact absurd HA.out (by simp [impl_Number.l0])
    | succ k2 =>
     have H := HA.out; clear HA
     simp only [impl_Number.l0] at H
     by_cases c5 : x5_2 < (a0.size : Int)
     ·
      rw [if_pos c5] at H
      have c5b0 : decide (x5_2 < (a0.size : Int)) = true := decide_eq_true c5; clear c5
      by_cases c6 : 0 ≤ x5_2
      rotate_left
      ·
       rw [if_neg c6] at H
       exact absurd H (by simp)
      rw [if_pos c6] at H
      have c6b0 : decide (0 ≤ x5_2) = true := decide_eq_true c6; clear c6
      by_cases c8 : (bt a0 x5_2) < 48
      ·
       rw [if_pos c8] at H
       have c8b0 : decide ((bt a0 x5_2) < 48) = true := decide_eq_true c8; clear c8
       simp only [Option.some.injEq, Prod.mk.injEq] at H
       obtain ⟨rfl, rfl⟩ := H; have p7 : 0 ≤ (x5_2 : Int) := of_decide_eq_true y0_12; have q7 : x5_2 < (a0.size : Int) := of_decide_eq_true y0_12; have hx7 := bt_at a0 x5_2; replace p7 := eq_true p7; replace q7 := eq_true q7
       go_wp2
       go_ret2
       exact ⟨y0_10, bI HB.out⟩
      rw [if_neg c8] at H
      have c8b0 : decide ((bt a0 x5_2) < 48) = false := decide_eq_false c8; clear c8
      by_cases c10 : (bt a0 x5_2) > 57
      ·
       rw [if_pos c10] at H
       have c10b0 : decide (57 < (bt a0 x5_2)) = true := decide_eq_true c10; clear c10
       simp only [Option.some.injEq, Prod.mk.injEq] at H
       obtain ⟨rfl, rfl⟩ := H; have p7 : 0 ≤ (x5_2 : Int) := of_decide_eq_true y0_12; have q7 : x5_2 < (a0.size : Int) := of_decide_eq_true y0_12; have hx7 := bt_at a0 x5_2; replace p7 := eq_true p7; replace q7 := eq_true q7; have p9 : 0 ≤ (x5_2 : Int) := of_decide_eq_true y0_12; have q9 : x5_2 < (a0.size : Int) := of_decide_eq_true y0_12; have hx9 := bt_at a0 x5_2; replace p9 := eq_true p9; replace q9 := eq_true q9
       go_wp2
       go_ret2
       exact ⟨y0_10, bI HB.out⟩
      rw [if_neg c10] at H
      have c10b0 : decide (57 < (bt a0 x5_2)) = false := decide_eq_false c10; clear c10; have H' := Aside0.mk H; clear H; have p7 : 0 ≤ (x5_2 : Int) := of_decide_eq_true y0_12; have q7 : x5_2 < (a0.size : Int) := of_decide_eq_true y0_12; have hx7 := bt_at a0 x5_2; replace p7 := eq_true p7; replace q7 := eq_true q7; have p9 : 0 ≤ (x5_2 : Int) := of_decide_eq_true y0_12; have q9 : x5_2 < (a0.size : Int) := of_decide_eq_true y0_12; have hx9 := bt_at a0 x5_2; replace p9 := eq_true p9; replace q9 := eq_true q9; have p11 : 0 ≤ (x5_2 : Int) := of_decide_eq_true y0_12; have q11 : x5_2 < (a0.size : Int) := of_decide_eq_true y0_12; have hx11 := bt_at a0 x5_2; replace p11 := eq_true p11; replace q11 := eq_true q11
      go_wp2
      go_roundg k2
      case measure => have := HJ1.out; have := HK2.out; omega
      case rel => exact ⟨(wrap64 ((wrap64 (10 * x4_2)) + (((bt a0 x5_2) - 48) % 256))), (wrap64 (x5_2 + 1)), y0_13, y0_13, H', ⟨by have := HJ1.out; have := HK2.out; omega⟩, ⟨bI HB.out⟩⟩
     rw [if_neg c5] at H
     have c5b0 : decide (x5_2 < (a0.size : Int)) = false := decide_eq_false c5; clear c5; obtain ⟨t304, A120, H⟩ := Option.bind_eq_some_iff.mp H
     try dsimp only at H
     have A12 := Aside0.mk A120; clear A120
     by_cases c13 : t304.toList = a0.toList
     ·
      rw [if_pos c13] at H
      have c13b0 : (t304.toList == a0.toList) = true := beq_iff_eq.mpr c13; have c13b1 : (t304.toList != a0.toList) = false := bne_eq_false_iff_eq.mpr c13; clear c13
      simp only [Option.some.injEq, Prod.mk.injEq] at H
      obtain ⟨rfl, rfl⟩ := H
      go_wp2_with (first | ((with_reducible refine gate_callee (f := 111) rfl ?_); refine gB (some 39) Tryz.func111 #[.int .i64 x4_2] ?_; (with_reducible refine (impl_Digits.calls x4_2 t304 _ A12.out).mono ?_); rintro e w14 ⟨rfl, hb⟩; refine ⟨_, rfl, ?_⟩; replace HB := bs HB hb; (try clear hb); (try clear hb2); (try clear hk); (try clear hi)))
      go_ret2
      exact ⟨y0_10, bI HB.out⟩
     rw [if_neg c13] at H
     have c13b0 : (t304.toList == a0.toList) = false := beq_eq_false_iff_ne.mpr c13; have c13b1 : (t304.toList != a0.toList) = true := bne_iff_ne.mpr c13
     simp only [Option.some.injEq, Prod.mk.injEq] at H
     obtain ⟨rfl, rfl⟩ := H
     go_wp2_with (first | ((with_reducible refine gate_callee (f := 111) rfl ?_); refine gB (some 39) Tryz.func111 #[.int .i64 x4_2] ?_; (with_reducible refine (impl_Digits.calls x4_2 t304 _ A12.out).mono ?_); rintro e w15 ⟨rfl, hb⟩; refine ⟨_, rfl, ?_⟩; replace HB := bs HB hb; (try clear hb); (try clear hb2); (try clear hk); (try clear hi)))
     go_ret2
     exact ⟨y0_10, bI HB.out⟩

/-! ### impl_TxOk: function 110 -/
def impl_TxOk.f (a0_0 : Int) (a0_1 : Int) (a0_2 : Int) (a0_3 : Int) : Option (Bool) := (impl_within.f a0_0 0 3).bind fun t306 => (if t306 = true then ((impl_within.f a0_1 0 3).bind fun t307 => (if t307 = true then ((impl_within.f a0_2 0 1000).bind fun t308 => (if t308 = true then ((impl_within.f a0_3 0 99).bind fun t309 => (some t309)) else (some false))) else (some false))) else (some false))
set_option maxHeartbeats 8000000 in
set_option maxRecDepth 100000 in
theorem impl_TxOk.calls (a0_0 : Int) (a0_1 : Int) (a0_2 : Int) (a0_3 : Int) (r : Bool) (w : World) (h : impl_TxOk.f a0_0 a0_1 a0_2 a0_3 = some r) :
  Calls Tryz.prog 110 #[.agg #[.int .i64 a0_0, .int .i64 a0_1, .int .i64 a0_2, .int .i64 a0_3]] w fun e w' => e = .returned (.bool r) ∧ Below w.heap.size w w' := by
 have hu99 := Tryz.underlying99; have HB := Aside0.mk (Below.refl w.heap.size w)
 have H : ((impl_within.f a0_0 0 3).bind fun t306 => (if t306 = true then ((impl_within.f a0_1 0 3).bind fun t307 => (if t307 = true then ((impl_within.f a0_2 0 1000).bind fun t308 => (if t308 = true then ((impl_within.f a0_3 0 99).bind fun t309 => (some t309)) else (some false))) else (some false))) else (some false))) = some r := h
 clear h; obtain ⟨t306, A20, H⟩ := Option.bind_eq_some_iff.mp H
 try dsimp only at H
 have A2 := Aside0.mk A20; clear A20
 by_cases c3 : t306 = true
 ·
  subst c3
  rw [if_pos rfl] at H
  obtain ⟨t307, A40, H⟩ := Option.bind_eq_some_iff.mp H
  try dsimp only at H
  have A4 := Aside0.mk A40; clear A40
  by_cases c5 : t307 = true
  ·
   subst c5
   rw [if_pos rfl] at H
   obtain ⟨t308, A60, H⟩ := Option.bind_eq_some_iff.mp H
   try dsimp only at H
   have A6 := Aside0.mk A60; clear A60
   by_cases c7 : t308 = true
   ·
    subst c7
    rw [if_pos rfl] at H
    obtain ⟨t309, A80, H⟩ := Option.bind_eq_some_iff.mp H
    try dsimp only at H
    have A8 := Aside0.mk A80; clear A80; obtain rfl := Option.some.inj H
    go_enter Tryz.func110, Tryz.ntmps110
    go_wp2_with (first | ((with_reducible refine gd 1 ?_); refine bA 1 #[.int .i64 a0_0, .int .i64 a0_1, .int .i64 a0_2, .int .i64 a0_3] 99 ?_; intro gb305 hg w9 hbox hb; have BK305 := Aside0.mk (hbox); have GW305 := bg hg HB; have GJ305 := gi GW305; have GE305 := GW305; replace HB := bs HB hb; clear hb hbox hg; obtain ⟨hcz10_0, hcz10_1, hcz10_2, hcz10_3, hfz10_0, hfz10_1, hfz10_2, hfz10_3⟩ := cs4 BK305) | ((with_reducible refine gate_callee (f := 99) rfl ?_); refine gB (some 5) Tryz.func99 #[.int .i64 a0_0, .int .i64 0, .int .i64 3] ?_; (with_reducible refine (impl_within.calls a0_0 0 3 true _ A2.out).mono ?_); rintro e w' ⟨rfl, ⟨nd, rfl⟩⟩; refine ⟨_, rfl, ?_⟩) | (go_at_call 99; (with_reducible refine (impl_within.calls a0_1 0 3 true _ A4.out).mono ?_); rintro e w' ⟨rfl, ⟨nd, rfl⟩⟩) | (go_at_call 99; (with_reducible refine (impl_within.calls a0_2 0 1000 true _ A6.out).mono ?_); rintro e w' ⟨rfl, ⟨nd, rfl⟩⟩) | (go_at_call 99; (with_reducible refine (impl_within.calls a0_3 0 99 t309 _ A8.out).mono ?_); rintro e w' ⟨rfl, ⟨nd, rfl⟩⟩))
    go_ret
    exact ⟨y0_10, bI HB.out⟩
   replace c7 := Bool.eq_false_iff.mpr c7; subst c7
   rw [if_neg (show ¬ (false = true) by decide)] at H
   obtain rfl := Option.some.inj H
   go_enter Tryz.func110, Tryz.ntmps110
   go_wp2_with (first | ((with_reducible refine gd 1 ?_); refine bA 1 #[.int .i64 a0_0, .int .i64 a0_1, .int .i64 a0_2, .int .i64 a0_3] 99 ?_; intro gb305 hg w11 hbox hb; have BK305 := Aside0.mk (hbox); have GW305 := bg hg HB; have GJ305 := gi GW305; have GE305 := GW305; replace HB := bs HB hb; clear hb hbox hg; obtain ⟨hcz12_0, hcz12_1, hcz12_2, hcz12_3, hfz12_0, hfz12_1, hfz12_2, hfz12_3⟩ := cs4 BK305) | ((with_reducible refine gate_callee (f := 99) rfl ?_); refine gB (some 5) Tryz.func99 #[.int .i64 a0_0, .int .i64 0, .int .i64 3] ?_; (with_reducible refine (impl_within.calls a0_0 0 3 true _ A2.out).mono ?_); rintro e w' ⟨rfl, ⟨nd, rfl⟩⟩; refine ⟨_, rfl, ?_⟩) | (go_at_call 99; (with_reducible refine (impl_within.calls a0_1 0 3 true _ A4.out).mono ?_); rintro e w' ⟨rfl, ⟨nd, rfl⟩⟩) | (go_at_call 99; (with_reducible refine (impl_within.calls a0_2 0 1000 false _ A6.out).mono ?_); rintro e w' ⟨rfl, ⟨nd, rfl⟩⟩))
   go_ret
   exact ⟨y0_10, bI HB.out⟩
  replace c5 := Bool.eq_false_iff.mpr c5; subst c5
  rw [if_neg (show ¬ (false = true) by decide)] at H
  obtain rfl := Option.some.inj H
  go_enter Tryz.func110, Tryz.ntmps110
  go_wp2_with (first | ((with_reducible refine gd 1 ?_); refine bA 1 #[.int .i64 a0_0, .int .i64 a0_1, .int .i64 a0_2, .int .i64 a0_3] 99 ?_; intro gb305 hg w13 hbox hb; have BK305 := Aside0.mk (hbox); have GW305 := bg hg HB; have GJ305 := gi GW305; have GE305 := GW305; replace HB := bs HB hb; clear hb hbox hg; obtain ⟨hcz14_0, hcz14_1, hcz14_2, hcz14_3, hfz14_0, hfz14_1, hfz14_2, hfz14_3⟩ := cs4 BK305) | ((with_reducible refine gate_callee (f := 99) rfl ?_); refine gB (some 5) Tryz.func99 #[.int .i64 a0_0, .int .i64 0, .int .i64 3] ?_; (with_reducible refine (impl_within.calls a0_0 0 3 true _ A2.out).mono ?_); rintro e w' ⟨rfl, ⟨nd, rfl⟩⟩; refine ⟨_, rfl, ?_⟩) | (go_at_call 99; (with_reducible refine (impl_within.calls a0_1 0 3 false _ A4.out).mono ?_); rintro e w' ⟨rfl, ⟨nd, rfl⟩⟩))
  go_ret
  exact ⟨y0_10, bI HB.out⟩
 replace c3 := Bool.eq_false_iff.mpr c3; subst c3
 rw [if_neg (show ¬ (false = true) by decide)] at H
 obtain rfl := Option.some.inj H
 go_enter Tryz.func110, Tryz.ntmps110
 go_wp2_with (first | ((with_reducible refine gd 1 ?_); refine bA 1 #[.int .i64 a0_0, .int .i64 a0_1, .int .i64 a0_2, .int .i64 a0_3] 99 ?_; intro gb305 hg w15 hbox hb; have BK305 := Aside0.mk (hbox); have GW305 := bg hg HB; have GJ305 := gi GW305; have GE305 := GW305; replace HB := bs HB hb; clear hb hbox hg; obtain ⟨hcz16_0, hcz16_1, hcz16_2, hcz16_3, hfz16_0, hfz16_1, hfz16_2, hfz16_3⟩ := cs4 BK305) | ((with_reducible refine gate_callee (f := 99) rfl ?_); refine gB (some 5) Tryz.func99 #[.int .i64 a0_0, .int .i64 0, .int .i64 3] ?_; (with_reducible refine (impl_within.calls a0_0 0 3 false _ A2.out).mono ?_); rintro e w' ⟨rfl, ⟨nd, rfl⟩⟩; refine ⟨_, rfl, ?_⟩))
 go_ret
 exact ⟨y0_10, bI HB.out⟩

/-! ### impl_TxText: function 135 -/
def impl_TxText.f (a0_0 : Int) (a0_1 : Int) (a0_2 : Int) (a0_3 : Int) : Option (ByteArray) := (impl_TxOk.f a0_0 a0_1 a0_2 a0_3).bind fun t311 => (if t311 = true then ((impl_Digits.f a0_0).bind fun t312 => (if t312.size + 1 ≤ 9223372036854775807 then ((impl_Digits.f a0_1).bind fun t313 => (if (t312 ++ (⟨#[62]⟩ : ByteArray)).size + t313.size ≤ 9223372036854775807 then (if ((t312 ++ (⟨#[62]⟩ : ByteArray)) ++ t313).size + 1 ≤ 9223372036854775807 then ((impl_Digits.f a0_2).bind fun t314 => (if (((t312 ++ (⟨#[62]⟩ : ByteArray)) ++ t313) ++ (⟨#[58]⟩ : ByteArray)).size + t314.size ≤ 9223372036854775807 then (if ((((t312 ++ (⟨#[62]⟩ : ByteArray)) ++ t313) ++ (⟨#[58]⟩ : ByteArray)) ++ t314).size + 1 ≤ 9223372036854775807 then ((impl_Digits.f a0_3).bind fun t315 => (if (((((t312 ++ (⟨#[62]⟩ : ByteArray)) ++ t313) ++ (⟨#[58]⟩ : ByteArray)) ++ t314) ++ (⟨#[35]⟩ : ByteArray)).size + t315.size ≤ 9223372036854775807 then (some ((((((t312 ++ (⟨#[62]⟩ : ByteArray)) ++ t313) ++ (⟨#[58]⟩ : ByteArray)) ++ t314) ++ (⟨#[35]⟩ : ByteArray)) ++ t315)) else (none))) else (none)) else (none))) else (none)) else (none))) else (none))) else (some (⟨#[]⟩ : ByteArray)))
def impl_TxText.T3 : Bool × List (List Nat × List Nat) := (true, [([], []), ([0], [0]), ([1], [1]), ([2], [2]), ([], []), ([4], [4]), ([5, 2], [5]), ([3, 6], [3, 6]), ([7], [7]), ([], []), ([9], [9]), ([10, 6], [10]), ([8, 11], [8, 11]), ([12], [12]), ([], []), ([14], [14]), ([15, 11], [15]), ([13, 16], [13, 16]), ([17, 16, 0, 1, 2, 3, 4, 5, 6, 7, 8, 9, 10, 11, 12, 13, 14, 15, 16, 17], [17])])
def impl_TxText.B3 : List Nat := [0, 1, 3, 7, 0, 16, 55, 127, 255, 0, 512, 1655, 4095, 8191, 0, 16384, 52855, 131071, 262143]
theorem impl_TxText.tab3 : rtab .any (opsOf Tryz.f135 3) = impl_TxText.T3 := by kernel_rfl
theorem impl_TxText.bits3 : waitsOk impl_TxText.T3.2 impl_TxText.B3 = true := by kernel_rfl
set_option maxHeartbeats 8000000 in
set_option maxRecDepth 100000 in
theorem impl_TxText.calls (a0_0 : Int) (a0_1 : Int) (a0_2 : Int) (a0_3 : Int) (r : ByteArray) (w : World) (h : impl_TxText.f a0_0 a0_1 a0_2 a0_3 = some r) (hG : Glob w := by exact gG HG HB) :
  Calls Tryz.prog 135 #[.agg #[.int .i64 a0_0, .int .i64 a0_1, .int .i64 a0_2, .int .i64 a0_3]] w fun e w' => e = .returned (.string r) ∧ Below w.heap.size w w' := by
 have HG := Aside0.mk hG; clear hG; have hu99 := Tryz.underlying99; have HB := Aside0.mk (Below.refl w.heap.size w)
 have H : ((impl_TxOk.f a0_0 a0_1 a0_2 a0_3).bind fun t311 => (if t311 = true then ((impl_Digits.f a0_0).bind fun t312 => (if t312.size + 1 ≤ 9223372036854775807 then ((impl_Digits.f a0_1).bind fun t313 => (if (t312 ++ (⟨#[62]⟩ : ByteArray)).size + t313.size ≤ 9223372036854775807 then (if ((t312 ++ (⟨#[62]⟩ : ByteArray)) ++ t313).size + 1 ≤ 9223372036854775807 then ((impl_Digits.f a0_2).bind fun t314 => (if (((t312 ++ (⟨#[62]⟩ : ByteArray)) ++ t313) ++ (⟨#[58]⟩ : ByteArray)).size + t314.size ≤ 9223372036854775807 then (if ((((t312 ++ (⟨#[62]⟩ : ByteArray)) ++ t313) ++ (⟨#[58]⟩ : ByteArray)) ++ t314).size + 1 ≤ 9223372036854775807 then ((impl_Digits.f a0_3).bind fun t315 => (if (((((t312 ++ (⟨#[62]⟩ : ByteArray)) ++ t313) ++ (⟨#[58]⟩ : ByteArray)) ++ t314) ++ (⟨#[35]⟩ : ByteArray)).size + t315.size ≤ 9223372036854775807 then (some ((((((t312 ++ (⟨#[62]⟩ : ByteArray)) ++ t313) ++ (⟨#[58]⟩ : ByteArray)) ++ t314) ++ (⟨#[35]⟩ : ByteArray)) ++ t315)) else (none))) else (none)) else (none))) else (none)) else (none))) else (none))) else (some (⟨#[]⟩ : ByteArray)))) = some r := h
 clear h; obtain ⟨t311, A20, H⟩ := Option.bind_eq_some_iff.mp H
 try dsimp only at H
 have A2 := Aside0.mk A20; clear A20
 by_cases c3 : t311 = true
 ·
  subst c3
  rw [if_pos rfl] at H
  obtain ⟨t312, A40, H⟩ := Option.bind_eq_some_iff.mp H
  try dsimp only at H
  have A4 := Aside0.mk A40; clear A40
  by_cases c5 : t312.size + 1 ≤ 9223372036854775807
  rotate_left
  ·
   rw [if_neg c5] at H
   exact absurd H (by simp)
  rw [if_pos c5] at H
  have c5b0 := eq_true c5; have c5b1 : decide (t312.size + 1 ≤ 9223372036854775807) = true := decide_eq_true c5
  try have c5b2 : (9223372036854775807 < t312.size + 1) = False := eq_false (Nat.not_lt.2 c5)
  obtain ⟨t313, A60, H⟩ := Option.bind_eq_some_iff.mp H
  try dsimp only at H
  have A6 := Aside0.mk A60; clear A60
  by_cases c7 : (t312 ++ (⟨#[62]⟩ : ByteArray)).size + t313.size ≤ 9223372036854775807
  rotate_left
  ·
   rw [if_neg c7] at H
   exact absurd H (by simp)
  rw [if_pos c7] at H
  have c7b0 := eq_true c7; have c7b1 : decide ((t312 ++ (⟨#[62]⟩ : ByteArray)).size + t313.size ≤ 9223372036854775807) = true := decide_eq_true c7
  try have c7b2 : (9223372036854775807 < (t312 ++ (⟨#[62]⟩ : ByteArray)).size + t313.size) = False := eq_false (Nat.not_lt.2 c7)
  (try have c7b3 : (9223372036854775807 < t312.size + 1 + t313.size) = False := eq_false (by have h_ := c7; simp only [ByteArray.size_append, ByteArray.size_extract, show (⟨#[62]⟩ : ByteArray).size = 1 from rfl] at h_; omega))
  by_cases c8 : ((t312 ++ (⟨#[62]⟩ : ByteArray)) ++ t313).size + 1 ≤ 9223372036854775807
  rotate_left
  ·
   rw [if_neg c8] at H
   exact absurd H (by simp)
  rw [if_pos c8] at H
  have c8b0 := eq_true c8; have c8b1 : decide (((t312 ++ (⟨#[62]⟩ : ByteArray)) ++ t313).size + 1 ≤ 9223372036854775807) = true := decide_eq_true c8
  try have c8b2 : (9223372036854775807 < ((t312 ++ (⟨#[62]⟩ : ByteArray)) ++ t313).size + 1) = False := eq_false (Nat.not_lt.2 c8)
  (try have c8b3 : (9223372036854775807 < t312.size + 1 + t313.size + 1) = False := eq_false (by have h_ := c8; simp only [ByteArray.size_append, ByteArray.size_extract, show (⟨#[62]⟩ : ByteArray).size = 1 from rfl] at h_; omega))
  obtain ⟨t314, A90, H⟩ := Option.bind_eq_some_iff.mp H
  try dsimp only at H
  have A9 := Aside0.mk A90; clear A90
  by_cases c10 : (((t312 ++ (⟨#[62]⟩ : ByteArray)) ++ t313) ++ (⟨#[58]⟩ : ByteArray)).size + t314.size ≤ 9223372036854775807
  rotate_left
  ·
   rw [if_neg c10] at H
   exact absurd H (by simp)
  rw [if_pos c10] at H
  have c10b0 := eq_true c10; have c10b1 : decide ((((t312 ++ (⟨#[62]⟩ : ByteArray)) ++ t313) ++ (⟨#[58]⟩ : ByteArray)).size + t314.size ≤ 9223372036854775807) = true := decide_eq_true c10
  try have c10b2 : (9223372036854775807 < (((t312 ++ (⟨#[62]⟩ : ByteArray)) ++ t313) ++ (⟨#[58]⟩ : ByteArray)).size + t314.size) = False := eq_false (Nat.not_lt.2 c10)
  (try have c10b3 : (9223372036854775807 < t312.size + 1 + t313.size + 1 + t314.size) = False := eq_false (by have h_ := c10; simp only [ByteArray.size_append, ByteArray.size_extract, show (⟨#[58]⟩ : ByteArray).size = 1 from rfl, show (⟨#[62]⟩ : ByteArray).size = 1 from rfl] at h_; omega))
  by_cases c11 : ((((t312 ++ (⟨#[62]⟩ : ByteArray)) ++ t313) ++ (⟨#[58]⟩ : ByteArray)) ++ t314).size + 1 ≤ 9223372036854775807
  rotate_left
  ·
   rw [if_neg c11] at H
   exact absurd H (by simp)
  rw [if_pos c11] at H
  have c11b0 := eq_true c11; have c11b1 : decide (((((t312 ++ (⟨#[62]⟩ : ByteArray)) ++ t313) ++ (⟨#[58]⟩ : ByteArray)) ++ t314).size + 1 ≤ 9223372036854775807) = true := decide_eq_true c11
  try have c11b2 : (9223372036854775807 < ((((t312 ++ (⟨#[62]⟩ : ByteArray)) ++ t313) ++ (⟨#[58]⟩ : ByteArray)) ++ t314).size + 1) = False := eq_false (Nat.not_lt.2 c11)
  (try have c11b3 : (9223372036854775807 < t312.size + 1 + t313.size + 1 + t314.size + 1) = False := eq_false (by have h_ := c11; simp only [ByteArray.size_append, ByteArray.size_extract, show (⟨#[58]⟩ : ByteArray).size = 1 from rfl, show (⟨#[62]⟩ : ByteArray).size = 1 from rfl] at h_; omega))
  obtain ⟨t315, A120, H⟩ := Option.bind_eq_some_iff.mp H
  try dsimp only at H
  have A12 := Aside0.mk A120; clear A120
  by_cases c13 : (((((t312 ++ (⟨#[62]⟩ : ByteArray)) ++ t313) ++ (⟨#[58]⟩ : ByteArray)) ++ t314) ++ (⟨#[35]⟩ : ByteArray)).size + t315.size ≤ 9223372036854775807
  rotate_left
  ·
   rw [if_neg c13] at H
   exact absurd H (by simp)
  rw [if_pos c13] at H
  have c13b0 := eq_true c13; have c13b1 : decide ((((((t312 ++ (⟨#[62]⟩ : ByteArray)) ++ t313) ++ (⟨#[58]⟩ : ByteArray)) ++ t314) ++ (⟨#[35]⟩ : ByteArray)).size + t315.size ≤ 9223372036854775807) = true := decide_eq_true c13
  try have c13b2 : (9223372036854775807 < (((((t312 ++ (⟨#[62]⟩ : ByteArray)) ++ t313) ++ (⟨#[58]⟩ : ByteArray)) ++ t314) ++ (⟨#[35]⟩ : ByteArray)).size + t315.size) = False := eq_false (Nat.not_lt.2 c13)
  (try have c13b3 : (9223372036854775807 < t312.size + 1 + t313.size + 1 + t314.size + 1 + t315.size) = False := eq_false (by have h_ := c13; simp only [ByteArray.size_append, ByteArray.size_extract, show (⟨#[35]⟩ : ByteArray).size = 1 from rfl, show (⟨#[58]⟩ : ByteArray).size = 1 from rfl, show (⟨#[62]⟩ : ByteArray).size = 1 from rfl] at h_; omega))
  obtain rfl := Option.some.inj H
  go_enter Tryz.func135, Tryz.ntmps135
  try go_wp2_with (first | ((with_reducible refine gd 1 ?_); refine bA 1 #[.int .i64 a0_0, .int .i64 a0_1, .int .i64 a0_2, .int .i64 a0_3] 99 ?_; intro gb310 hg w14 hbox hb; have BK310 := Aside0.mk (hbox); have GW310 := bg hg HB; have GJ310 := gi GW310; have GE310 := GW310; replace HB := bs HB hb; clear hb hbox hg; obtain ⟨hcz15_0, hcz15_1, hcz15_2, hcz15_3, hfz15_0, hfz15_1, hfz15_2, hfz15_3⟩ := cs4 BK310) | ((with_reducible refine gate_callee (f := 110) rfl ?_); refine gB (some 4) Tryz.func110 #[.agg #[.int .i64 a0_0, .int .i64 a0_1, .int .i64 a0_2, .int .i64 a0_3]] ?_; (with_reducible refine (impl_TxOk.calls a0_0 a0_1 a0_2 a0_3 true _ A2.out).mono ?_); rintro e w16 ⟨rfl, hb⟩; refine ⟨_, rfl, ?_⟩; replace BK310 := bk BK310 hb; replace HB := bs HB hb; (try clear hb); (try clear hb2); (try clear hk); (try clear hi)))
  replace BK310 := Aside0.mk (blk_drew BK310.out); replace HB := Aside0.mk (below_drew1 HB.out)
  refine start_ (n := 19) (S := fun w' => w'.cell? ⟨gb310, 0, none⟩ = some (.int .i64 a0_0) ∧ w'.cell? ⟨gb310, 1, none⟩ = some (.int .i64 a0_1) ∧ w'.cell? ⟨gb310, 2, none⟩ = some (.int .i64 a0_2) ∧ w'.cell? ⟨gb310, 3, none⟩ = some (.int .i64 a0_3)) (ds := []) #[false, false, false, false, false, false, false, false, false, false, false, false, false, false, false, false, false, false, false] (by kernel_rfl) rfl rfl ⟨bc0 BK310.out, bc1 BK310.out, bc2 BK310.out, bc3 BK310.out⟩ (fun hHeld => ?_); refine with_tabW impl_TxText.tab3 impl_TxText.bits3 (fun HT_ HW_ => ?_)
  generalize w16.drew = w17 at BK310 HB hHeld ⊢
  refine pA 0 (some 6) (bz 19 1) HT_ ?_
  refine pA 4 (some 10) (bz 19 17) HT_ ?_
  refine pA 9 (some 15) (bz 19 529) HT_ ?_
  refine pA 14 (some 20) (bz 19 0x4211) HT_ ?_
  refine tA 1 (some 7) (bz 19 0x4213) HT_ HW_ hHeld ?_
  refine tA 5 (some 11) (bz 19 0x4233) HT_ HW_ hHeld ?_
  refine tA 10 (some 16) (bz 19 0x4633) HT_ HW_ hHeld ?_
  refine tA 15 (some 21) (bz 19 0xc633) HT_ HW_ hHeld ?_
  refine oA 2 (some 8) (bz 19 0xc637) HT_ (fun K hK => ?_)
  refine gA Tryz.func111 #[.int .i64 a0_0] ?_
  with_reducible refine (impl_Digits.calls a0_0 t312 _ A4.out).mono ?_
  rintro e w18 ⟨rfl, hb⟩
  refine ⟨_, rfl, ?_⟩
  replace BK310 := bk BK310 hb; replace HB := bs HB hb
  (try clear hb)
  (try clear hb2)
  (try clear hk)
  (try clear hi)
  refine hK.out _ _ ⟨bc0 BK310.out, bc1 BK310.out, bc2 BK310.out, bc3 BK310.out⟩ (fun hHeld => ?_)
  clear hK K
  refine nA (some 8) ?_
  refine pA 3 (some 9) (bz 19 0xc63f) HT_ ?_
  refine oA 6 (some 12) (bz 19 0xc67f) HT_ (fun K hK => ?_)
  refine gA Tryz.func111 #[.int .i64 a0_1] ?_
  with_reducible refine (impl_Digits.calls a0_1 t313 _ A6.out).mono ?_
  rintro e w19 ⟨rfl, hb⟩
  refine ⟨_, rfl, ?_⟩
  replace BK310 := bk BK310 hb; replace HB := bs HB hb
  (try clear hb)
  (try clear hb2)
  (try clear hk)
  (try clear hi)
  refine hK.out _ _ ⟨bc0 BK310.out, bc1 BK310.out, bc2 BK310.out, bc3 BK310.out⟩ (fun hHeld => ?_)
  clear hK K
  refine nA (some 12) ?_
  refine pA 7 (some 13) (bz 19 0xc6ff) HT_ ?_
  refine pA 8 (some 14) (bz 19 0xc7ff) HT_ ?_
  refine oA 11 (some 17) (bz 19 0xcfff) HT_ (fun K hK => ?_)
  refine gA Tryz.func111 #[.int .i64 a0_2] ?_
  with_reducible refine (impl_Digits.calls a0_2 t314 _ A9.out).mono ?_
  rintro e w20 ⟨rfl, hb⟩
  refine ⟨_, rfl, ?_⟩
  replace BK310 := bk BK310 hb; replace HB := bs HB hb
  (try clear hb)
  (try clear hb2)
  (try clear hk)
  (try clear hi)
  refine hK.out _ _ ⟨bc0 BK310.out, bc1 BK310.out, bc2 BK310.out, bc3 BK310.out⟩ (fun hHeld => ?_)
  clear hK K
  refine nA (some 17) ?_
  refine pA 12 (some 18) (bz 19 0xdfff) HT_ ?_
  refine pA 13 (some 19) (bz 19 0xffff) HT_ ?_
  refine oA 16 (some 22) (bz 19 0x1ffff) HT_ (fun K hK => ?_)
  refine gA Tryz.func111 #[.int .i64 a0_3] ?_
  with_reducible refine (impl_Digits.calls a0_3 t315 _ A12.out).mono ?_
  rintro e w21 ⟨rfl, hb⟩
  refine ⟨_, rfl, ?_⟩
  replace BK310 := bk BK310 hb; replace HB := bs HB hb
  (try clear hb)
  (try clear hb2)
  (try clear hk)
  (try clear hi)
  refine hK.out _ _ ⟨bc0 BK310.out, bc1 BK310.out, bc2 BK310.out, bc3 BK310.out⟩ (fun hHeld => ?_)
  clear hK K
  refine nA (some 22) ?_
  refine pA 17 (some 23) (bz 19 0x3ffff) HT_ ?_
  refine pA 18 (some 2) (bz 19 0x7ffff) HT_ ?_
  refine done_ (done_of HT_.out (by kernel_rfl)) ?_
  try go_wp2
  go_ret
  exact ⟨y0_10, bI HB.out⟩
 replace c3 := Bool.eq_false_iff.mpr c3; subst c3
 rw [if_neg (show ¬ (false = true) by decide)] at H
 obtain rfl := Option.some.inj H
 go_enter Tryz.func135, Tryz.ntmps135
 go_wp2_with (first | ((with_reducible refine gd 1 ?_); refine bA 1 #[.int .i64 a0_0, .int .i64 a0_1, .int .i64 a0_2, .int .i64 a0_3] 99 ?_; intro gb310 hg w22 hbox hb; have BK310 := Aside0.mk (hbox); have GW310 := bg hg HB; have GJ310 := gi GW310; have GE310 := GW310; replace HB := bs HB hb; clear hb hbox hg; obtain ⟨hcz23_0, hcz23_1, hcz23_2, hcz23_3, hfz23_0, hfz23_1, hfz23_2, hfz23_3⟩ := cs4 BK310) | ((with_reducible refine gate_callee (f := 110) rfl ?_); refine gB (some 4) Tryz.func110 #[.agg #[.int .i64 a0_0, .int .i64 a0_1, .int .i64 a0_2, .int .i64 a0_3]] ?_; (with_reducible refine (impl_TxOk.calls a0_0 a0_1 a0_2 a0_3 false _ A2.out).mono ?_); rintro e w24 ⟨rfl, hb⟩; refine ⟨_, rfl, ?_⟩; replace BK310 := bk BK310 hb; replace HB := bs HB hb; (try clear hb); (try clear hb2); (try clear hk); (try clear hi)))
 go_ret
 exact ⟨y0_10, bI HB.out⟩

end Go.Proofs.YtemjmefacifdeaaGreatDoor.PFnExactBlockNew
