-- By a program of this session, out of the translation (the print of the kit, with turns of its own). Lean checks it.
import Derived.Test.YtlkmjjojjlihaaaPFnExactSyncx0
import Derived.Test.YtlkmjjojjlihaaaPFnExactSyncx1
namespace Go.Proofs.Ytlkmjjojjlihaaa.PFnExactSync
open Go.RowKit Go.Proofs.YtlkmjjojjlihaaaW.PrintWords Go.Proofs.YtlkmjjojjlihaaaW.PrintLast Go.Proofs.YtlkmjjojjlihaaaW.PrintMore
attribute [local go_sem] max2_int min2_int max_two min_two max_three min_three max_four min_four   -- for this text's walks alone
set_option linter.unusedVariables false
set_option linter.unusedSimpArgs false

/-! ### laws_markByteS: function 72 -/
def laws_markByteS.l0 : Nat → List Int → Int → Int → Option (Int × List Int)
  | 0, _, _, _ => none
  | k + 1, x0, x1, x5 => if x5 < (x0.length : Int) then (if 0 ≤ x5 then (laws_markByteS.l0 k (x0.set (x5 : Int).toNat ((x1) % 256)) (wrap64 (x1 + 1)) (wrap64 (x5 + 1))) else (none)) else (some (x1, x0))
def laws_markByteS.f (k : Nat) (l0 : List Int) (a1 : Int) : Option (Int × List Int) := laws_markByteS.l0 k l0 a1 0
theorem laws_markByteS.mono_l : ∀ k, (∀ y0 y1 y2, LeO (laws_markByteS.l0 k y0 y1 y2) (laws_markByteS.l0 (k + 1) y0 y1 y2))
  | 0 => fun _ _ _ r h => by simp [laws_markByteS.l0] at h
  | k + 1 => by
    have ih0 := laws_markByteS.mono_l k
    · intro y0 y1 y2
      unfold laws_markByteS.l0
      repeat' first
      | (with_reducible exact ih0 _ _ _)
      | (with_reducible exact LeO.refl _)
      | (with_reducible exact LeO.none _)
      | (with_reducible refine LeO.ite ?_ ?_)
      | (with_reducible refine LeO.bind ?_ (fun _ => ?_))
      | exact ih0 _ _ _
      | exact LeO.none _
      | refine LeO.ite ?_ ?_
      | refine LeO.bind ?_ (fun _ => ?_)
theorem laws_markByteS.mono : ∀ a0 a1 k, LeO (laws_markByteS.f k a0 a1) (laws_markByteS.f (k + 1) a0 a1) := by
  intro a0 a1 k
  have ih0 := laws_markByteS.mono_l k
  unfold laws_markByteS.f
  repeat' first
      | (with_reducible exact ih0 _ _ _)
      | (with_reducible exact LeO.refl _)
      | (with_reducible exact LeO.none _)
      | (with_reducible refine LeO.ite ?_ ?_)
      | (with_reducible refine LeO.bind ?_ (fun _ => ?_))
      | exact ih0 _ _ _
      | exact LeO.none _
      | refine LeO.ite ?_ ?_
      | refine LeO.bind ?_ (fun _ => ?_)
set_option maxHeartbeats 8000000 in
set_option maxRecDepth 100000 in
theorem laws_markByteS.calls (k : Nat) (P0_ : Nat → Prop) (u9000_ : Value) (l0 : List Int) (a1 : Int) (r1 : Int) (r2 : List Int) (w0 w : World) (hB : Below w0.heap.size w0 w) (ho0 : Kd.R (Kd.int .u8) 5 w w0.heap.size P0_ u9000_ l0) (h : laws_markByteS.f k l0 a1 = some (r1, r2)) :
    Calls Try.prog 72 #[u9000_, .int .i64 a1] w fun e w' => e = .returned (.int .i64 r1) ∧ Kd.R (Kd.int .u8) 5 w' w0.heap.size (fun k_ => (P0_ k_ ∨ w.heap.size ≤ k_)) u9000_ r2 ∧ Below w0.heap.size w0 w' ∧ Kept w w' (fun k_ => P0_ k_) := by
  have HO0 := Aside0.mk (show Kd.R (Kd.int .u8) 5 w w0.heap.size (fun k_ => (P0_ k_ ∨ w.heap.size ≤ k_)) u9000_ l0 from Kd.R_mono ho0 (fun k_ hk => (.inl hk)))
  have HK := Aside0.mk (Kept.refl w (fun k_ => P0_ k_))
  have HW0 := Aside0.mk hB.size
  have HB := Aside0.mk hB
  clear hB
  have H : (laws_markByteS.l0 k l0 a1 0) = some (r1, r2) := h
  clear h
  have H' := Aside0.mk H
  clear H
  go_enter Try.func72, Try.ntmps72
  go_wp2
  go_loopg [1, 5] k (fun kq v1 v5 w' => ∃ (x0_1 : List Int) (x1_1 : Int) (x5_1 : Int), v1 = .int .i64 x1_1 ∧ v5 = .int .i64 x5_1 ∧ Aside0 (laws_markByteS.l0 kq x0_1 x1_1 x5_1 = some (r1, r2)) ∧ Aside0 (kq ≤ k) ∧ Aside0 (Kd.R (Kd.int .u8) 5 w' w0.heap.size (fun k_ => (P0_ k_ ∨ w.heap.size ≤ k_)) u9000_ x0_1) ∧ Aside0 (Kept w w' (fun k_ => P0_ k_)) ∧ Aside0 (Below w0.heap.size w0 w'))
  case atStart => exact ⟨(l0), (a1), (0), (by first | rfl | (simp; done) | (simp [*]; done)), (by first | rfl | (simp; done) | (simp [*]; done)), H', ⟨Nat.le_refl _⟩, ⟨by (with_reducible repeat (first | apply Kd.R_alloc | apply Kd.R_drewN | apply Kd.R_drew)); exact HO0.out⟩, ⟨by repeat (first | (with_reducible first | exact HK.out | apply Kept.alloc | apply Kept.drewN | apply Kept.drew) | exact HK.out)⟩, ⟨bI HB.out⟩⟩
  case round =>
    clear H'
    try clear p2
    obtain ⟨x0_1, x1_1, x5_1, rfl, rfl, HA, HK1, HO_0, HK, HB⟩ := hrel
    cases gk with
    | zero => exact absurd HA.out (by simp [laws_markByteS.l0])
    | succ k1 =>
      have H := HA.out
      clear HA
      simp only [laws_markByteS.l0] at H
      by_cases c3 : x5_1 < (x0_1.length : Int)
      · rw [if_pos c3] at H
        have c3b0 : decide (x5_1 < (x0_1.length : Int)) = true := decide_eq_true c3
        clear c3
        by_cases c4 : 0 ≤ x5_1
        rotate_left
        · rw [if_neg c4] at H
          exact absurd H (by simp)
        rw [if_pos c4] at H
        have c4b0 : decide (0 ≤ x5_1) = true := decide_eq_true c4
        clear c4
        obtain ⟨y152, hy152⟩ : ∃ y_ : List Int, y_ = (x0_1.set (x5_1 : Int).toNat ((x1_1) % 256)) := ⟨_, rfl⟩
        replace H : (laws_markByteS.l0 k1 y152 (wrap64 (x1_1 + 1)) (wrap64 (x5_1 + 1))) = some (r1, r2) := by first | (rw [hy152]; with_reducible exact H) | (have H2_ := (Option.bind_some _ _).symm.trans H; rw [hy152]; with_reducible exact H2_) | (have H2_ := (Option.bind_some _ _).symm.trans H; with_reducible exact H2_) | with_reducible exact H | (rw [hy152]; exact H) | exact H
        have Ny152 := Aside0.mk hy152
        clear hy152
        have H' := Aside0.mk H
        clear H
        obtain ⟨Ao6, co6, eo6⟩ := Kd.R_slice HO_0.out
        subst eo6
        have p5 : 0 ≤ (x5_1 : Int) := of_decide_eq_true (by first | (with_reducible assumption) | assumption)
        have q5 : (x5_1 : Int) < ((x0_1.length : Int) : Int) := of_decide_eq_true (by first | (with_reducible assumption) | assumption)
        obtain ⟨go5, co5, eo5, gb5, gl5, cl5, HG5⟩ := Kd.R_form HO_0.out (by omega)
        (first | cases eo5 | (injection eo5 with ea_ en_ ec_; (first | subst ea_ | (injection ea_ with ea_; subst ea_)); subst ec_; clear en_))
        have GB5 := Aside0.mk gb5
        have GG5 := Aside0.mk HG5
        clear gb5 gl5 HG5
        have HMgo5 := Aside0.mk (show (P0_ go5 ∨ w.heap.size ≤ go5) from (HO_0.out.1 _ rfl))
        obtain ⟨hx5_0, hf5_0⟩ := Kd.R_celln 0 HO_0.out (x5_1 : Int) p5 q5
        replace p5 := eq_true p5
        replace q5 := eq_true q5
        have HP7 := Kd.R_putg HO_0.out (x5_1 : Int) ((x1_1) % 256)
        go_wp2_with (first | ((with_reducible refine gate_store (t := 5) (p := 16) rfl ?_); refine store_event (t := 5) (p := 16) (v := ?vo_w8) (w1 := (wr.setCell ⟨go5, (x5_1 : Int).toNat, none⟩ (.int .u8 ((x1_1) % 256)))) ?hg ?ho ?hn ?hr ?_; (case ho => rfl); (case hg => rfl); (case hn => rfl); (case hr => first | (go_simp; done) | (go_simp; rfl)); intro w8 hw; have hg : wr.grownBy w8 (some go5) := (by rw [hw]; exact HP7.2); have hp_ : Kd.R (Kd.int .u8) 5 w8 w0.heap.size (fun k_ => (P0_ k_ ∨ w.heap.size ≤ k_)) (.slice (some ⟨go5, 0, none⟩) x0_1.length co6) y152 := (by rw [hw, Ny152.out]; exact HP7.1); clear HP7; replace HB := Aside0.mk ((by rw [hw]; exact below_set (HB.out) GB5.out : Below w0.heap.size w0 w8)); replace HK := Aside0.mk (Kept.of_grown (S := (fun k_ => P0_ k_)) hg (by repeat (first | (with_reducible first | exact HK.out | apply Kept.alloc | apply Kept.drewN | apply Kept.drew) | exact HK.out)) (fun k_ e_ => (HO_0.out.1 k_ e_))); replace HO_0 := Aside0.mk (hp_); clear hg hw hp_))
        go_roundg k1
        case measure => have := HK1.out; omega
        case rel => exact ⟨(y152), (wrap64 (x1_1 + 1)), (wrap64 (x5_1 + 1)), (by first | rfl | (simp; done) | (simp [*]; done)), (by first | rfl | (simp; done) | (simp [*]; done)), H', ⟨by have := HK1.out; omega⟩, ⟨by (with_reducible repeat (first | apply Kd.R_alloc | apply Kd.R_drewN | apply Kd.R_drew)); exact HO_0.out⟩, ⟨by repeat (first | (with_reducible first | exact HK.out | apply Kept.alloc | apply Kept.drewN | apply Kept.drew) | exact HK.out)⟩, ⟨bI HB.out⟩⟩
      · rw [if_neg c3] at H
        have c3b0 : decide (x5_1 < (x0_1.length : Int)) = false := decide_eq_false c3
        clear c3
        simp only [Option.some.injEq, Prod.mk.injEq] at H
        obtain ⟨rfl, rfl⟩ := H
        obtain ⟨Ao9, co9, eo9⟩ := Kd.R_slice HO_0.out
        subst eo9
        go_wp2
        go_ret
        exact ⟨by first | rfl | (simp [errW_none, errW_some] <;> rfl) | (simp [*, errW_none, errW_some] <;> rfl), by (with_reducible repeat (first | apply Kd.R_alloc | apply Kd.R_drewN | apply Kd.R_drew)); exact HO_0.out, bI HB.out, by repeat (first | (with_reducible first | exact HK.out | apply Kept.alloc | apply Kept.drewN | apply Kept.drew) | exact HK.out)⟩

/-! ### laws_markDisk: function 48 -/
def laws_markDisk.f (k : Nat) (l0_0 : List Int) (a0_1 : Int) (a1 : Int) : Option (Int × List Int) := (laws_markByteS.f k l0_0 a1).bind fun bt154 => (some (bt154.1, bt154.2))
theorem laws_markDisk.mono : ∀ a0 a1 a2 k, LeO (laws_markDisk.f k a0 a1 a2) (laws_markDisk.f (k + 1) a0 a1 a2) := by
  intro a0 a1 a2 k
  unfold laws_markDisk.f
  repeat' first
      | (with_reducible exact laws_markByteS.mono _ _ _)
      | (with_reducible exact LeO.refl _)
      | (with_reducible exact LeO.none _)
      | (with_reducible refine LeO.ite ?_ ?_)
      | (with_reducible refine LeO.bind ?_ (fun _ => ?_))
      | exact laws_markByteS.mono _ _ _
      | exact LeO.none _
      | refine LeO.ite ?_ ?_
      | refine LeO.bind ?_ (fun _ => ?_)
set_option maxHeartbeats 8000000 in
set_option maxRecDepth 100000 in
theorem laws_markDisk.calls (k : Nat) (P0_0_ : Nat → Prop) (u9000_ : Value) (l0_0 : List Int) (a0_1 : Int) (a1 : Int) (r1 : Int) (r2 : List Int) (w0 w : World) (hB : Below w0.heap.size w0 w) (ho0_0 : Kd.R (Kd.int .u8) 5 w w0.heap.size P0_0_ u9000_ l0_0) (h : laws_markDisk.f k l0_0 a0_1 a1 = some (r1, r2)) :
    Calls Try.prog 48 #[.agg #[u9000_, .int .i64 a0_1], .int .i64 a1] w fun e w' => e = .returned (.int .i64 r1) ∧ Kd.R (Kd.int .u8) 5 w' w0.heap.size (fun k_ => (P0_0_ k_ ∨ w.heap.size ≤ k_)) u9000_ r2 ∧ Below w0.heap.size w0 w' ∧ Kept w w' (fun k_ => P0_0_ k_) := by
  have hu35 := Try.underlying35
  have HO0_0 := Aside0.mk (show Kd.R (Kd.int .u8) 5 w w0.heap.size (fun k_ => (P0_0_ k_ ∨ w.heap.size ≤ k_)) u9000_ l0_0 from Kd.R_mono ho0_0 (fun k_ hk => (.inl hk)))
  have HK := Aside0.mk (Kept.refl w (fun k_ => P0_0_ k_))
  have HW0 := Aside0.mk hB.size
  have HB := Aside0.mk hB
  clear hB
  have H : ((laws_markByteS.f k l0_0 a1).bind fun bt154 => (some (bt154.1, bt154.2))) = some (r1, r2) := h
  clear h
  replace H := Option.bind_eq_some_iff.mp H
  obtain ⟨⟨t154, t155⟩, A30, H⟩ := H
  replace H : (some (t154, t155)) = some (r1, r2) := H
  have A3 := Aside0.mk A30
  clear A30
  simp only [Option.some.injEq, Prod.mk.injEq] at H
  obtain ⟨rfl, rfl⟩ := H
  obtain ⟨Ao4, co4, eo4⟩ := Kd.R_slice HO0_0.out
  subst eo4
  go_enter Try.func48, Try.ntmps48
  go_wp2_with (first | ((with_reducible refine gate_dst (N := 2) rfl ?_); refine box_event ?hg (N := 2) ?hd (cs := #[.slice Ao4 l0_0.length co4, .int .i64 a0_1]) (t := 35) ?hr ?_; (case hd => rfl); (case hg => rfl); (case hr => first | (go_simp; done) | (go_simp; rfl)); intro gb153 hg w5 hbox hb; replace HO0_0 := Aside0.mk (Kd.R_below (rI HO0_0.out) hb); have BK153 := Aside0.mk (hbox); have GW153 := Aside0.mk ((by rw [hg]; exact (by first | exact HK.out.1 | exact (show Kept w _ (fun k_ => P0_0_ k_) from by repeat (first | (with_reducible first | exact HK.out | apply Kept.alloc | apply Kept.drewN | apply Kept.drew) | exact HK.out)).1) : w.heap.size ≤ gb153)); replace HK := Aside0.mk (Kept.below (S := (fun k_ => P0_0_ k_)) (by repeat (first | (with_reducible first | exact HK.out | apply Kept.alloc | apply Kept.drewN | apply Kept.drew) | exact HK.out)) hb); have GE153 := Aside0.mk ((by rw [hg]; exact (below_size (bI HB.out)) : w0.heap.size ≤ gb153)); have GI153 := GeI.mk GE153.out; replace HB := Aside0.mk (below_step (bI HB.out) hb); clear hb hbox hg; have hcz6_0 : w5.cell? ⟨gb153, 0, none⟩ = some (.slice Ao4 l0_0.length co4) := (blk_cell BK153.out 0).trans rfl; have hcz6_1 : w5.cell? ⟨gb153, 1, none⟩ = some (.int .i64 a0_1) := (blk_cell BK153.out 1).trans rfl; have hfz6_0 := blk_frozen BK153.out 0; have hfz6_1 := blk_frozen BK153.out 1) | ((with_reducible refine gate_callee (f := 72) rfl ?_); refine goesL_ (some 8) rfl rfl Try.func72 (by kernel_rfl) rfl #[.slice Ao4 l0_0.length co4, .int .i64 a1] rfl (by (try simp only [List.map_toArray, List.map_cons, List.map_nil]); first | done | rfl | (simp only [List.length_drop, List.length_take]; rfl)) ?_; (with_reducible refine (laws_markByteS.calls k (fun k_ => some k_ = (.slice Ao4 l0_0.length co4 : Value).ownBlock) (.slice Ao4 l0_0.length co4) l0_0 a1 t154 t155 w0 _ ?side1 ?side2 A3.out).mono ?_); (case side1 => exact bI HB.out); (case side2 => exact Kd.R_tight rfl HO0_0.out); rintro e w7 ⟨rfl, hy0, hb, hkp⟩; refine ⟨_, rfl, ?_⟩; replace BK153 := Aside0.mk (blk_kept (kI BK153.out) hkp (fun hs_ => (fun e_ => (Kd.R_ne HO0_0.out BK153.out (by decide)) e_) hs_)); replace HK := Aside0.mk (Kept.then_ (S := (fun k_ => P0_0_ k_)) (by repeat (first | (with_reducible first | exact HK.out | apply Kept.alloc | apply Kept.drewN | apply Kept.drew | refine Kept.setCell ?_ (.inr GW153.out) _) | exact HK.out)) hkp (fun k_ hs_ => (fun e_ => (HO0_0.out.1 k_ e_.symm)) hs_)); replace HO0_0 := Aside0.mk (Kd.R_reok rfl hy0 (fun k_ e_ => HO0_0.out.1 k_ e_)); replace HB := Aside0.mk (hb); (try clear hb); (try clear hkp); (try clear hy0)))
  go_ret
  exact ⟨by first | rfl | (simp [errW_none, errW_some] <;> rfl) | (simp [*, errW_none, errW_some] <;> rfl), by (with_reducible repeat (first | apply Kd.R_alloc | apply Kd.R_drewN | apply Kd.R_drew)); exact HO0_0.out, bI HB.out, by repeat (first | (with_reducible first | exact HK.out | apply Kept.alloc | apply Kept.drewN | apply Kept.drew | refine Kept.setCell ?_ (.inr GW153.out) _) | exact HK.out)⟩

/-! ### laws_heldByteS: function 73 -/
def laws_heldByteS.l0 : Nat → List Int → Int → Int → Option (Int)
  | 0, _, _, _ => none
  | k + 1, x0, x1, x5 => if x5 < (x0.length : Int) then (if 0 ≤ x5 then (if (rd x0 x5) = ((x1) % 256) then (laws_heldByteS.l0 k x0 (wrap64 (x1 + 1)) (wrap64 (x5 + 1))) else (some (-1))) else (none)) else (some x1)
def laws_heldByteS.f (k : Nat) (l0 : List Int) (a1 : Int) : Option (Int) := laws_heldByteS.l0 k l0 a1 0
theorem laws_heldByteS.mono_l : ∀ k, (∀ y0 y1 y2, LeO (laws_heldByteS.l0 k y0 y1 y2) (laws_heldByteS.l0 (k + 1) y0 y1 y2))
  | 0 => fun _ _ _ r h => by simp [laws_heldByteS.l0] at h
  | k + 1 => by
    have ih0 := laws_heldByteS.mono_l k
    · intro y0 y1 y2
      unfold laws_heldByteS.l0
      repeat' first
      | (with_reducible exact ih0 _ _ _)
      | (with_reducible exact LeO.refl _)
      | (with_reducible exact LeO.none _)
      | (with_reducible refine LeO.ite ?_ ?_)
      | (with_reducible refine LeO.bind ?_ (fun _ => ?_))
      | exact ih0 _ _ _
      | exact LeO.none _
      | refine LeO.ite ?_ ?_
      | refine LeO.bind ?_ (fun _ => ?_)
theorem laws_heldByteS.mono : ∀ a0 a1 k, LeO (laws_heldByteS.f k a0 a1) (laws_heldByteS.f (k + 1) a0 a1) := by
  intro a0 a1 k
  have ih0 := laws_heldByteS.mono_l k
  unfold laws_heldByteS.f
  repeat' first
      | (with_reducible exact ih0 _ _ _)
      | (with_reducible exact LeO.refl _)
      | (with_reducible exact LeO.none _)
      | (with_reducible refine LeO.ite ?_ ?_)
      | (with_reducible refine LeO.bind ?_ (fun _ => ?_))
      | exact ih0 _ _ _
      | exact LeO.none _
      | refine LeO.ite ?_ ?_
      | refine LeO.bind ?_ (fun _ => ?_)
set_option maxHeartbeats 8000000 in
set_option maxRecDepth 100000 in
theorem laws_heldByteS.calls (k : Nat) (A0 : Option Addr) (c0 : Nat) (l0 : List Int) (a1 : Int) (r : Int) (w : World) (hr0 : Kd.C (Kd.int .u8) w A0 l0.length l0) (hc0 : l0.length ≤ c0) (h : laws_heldByteS.f k l0 a1 = some r) :
    Calls Try.prog 73 #[.slice A0 l0.length c0, .int .i64 a1] w fun e w' => e = .returned (.int .i64 r) ∧ Drawn0 w w' := by
  have HR0 := Aside0.mk hr0
  have HC0 := Aside0.mk hc0
  clear hr0 hc0
  have H : (laws_heldByteS.l0 k l0 a1 0) = some r := h
  clear h
  have H' := Aside0.mk H
  clear H
  go_enter Try.func73, Try.ntmps73
  go_wp2
  go_loopg [1, 5] k (fun kq v1 v5 w' => ∃ (x1_1 : Int) (x5_1 : Int), v1 = .int .i64 x1_1 ∧ v5 = .int .i64 x5_1 ∧ Aside0 (laws_heldByteS.l0 kq l0 x1_1 x5_1 = some r) ∧ Aside0 (kq ≤ k) ∧ Drawn0 w w')
  case atStart => exact ⟨(a1), (0), (by first | rfl | (simp; done) | (simp [*]; done)), (by first | rfl | (simp; done) | (simp [*]; done)), H', ⟨Nat.le_refl _⟩, by repeat (first | exact Drawn0.refl _ | apply Drawn0.step)⟩
  case round =>
    clear H'
    try clear p2
    obtain ⟨x1_1, x5_1, rfl, rfl, HA, HK1, ⟨m1, rfl⟩⟩ := hrel
    cases gk with
    | zero => exact absurd HA.out (by simp [laws_heldByteS.l0])
    | succ k1 =>
      have H := HA.out
      clear HA
      simp only [laws_heldByteS.l0] at H
      by_cases c3 : x5_1 < (l0.length : Int)
      · rw [if_pos c3] at H
        have c3b0 : decide (x5_1 < (l0.length : Int)) = true := decide_eq_true c3
        clear c3
        by_cases c4 : 0 ≤ x5_1
        rotate_left
        · rw [if_neg c4] at H
          exact absurd H (by simp)
        rw [if_pos c4] at H
        have c4b0 : decide (0 ≤ x5_1) = true := decide_eq_true c4
        clear c4
        by_cases c5 : (rd l0 x5_1) = ((x1_1) % 256)
        · rw [if_pos c5] at H
          have c5b0 : ((rd l0 x5_1) == ((x1_1) % 256)) = true := beq_iff_eq.mpr c5
          have c5b1 : ((rd l0 x5_1) != ((x1_1) % 256)) = false := bne_eq_false_iff_eq.mpr c5
          clear c5
          have H' := Aside0.mk H
          clear H
          have p156 : 0 ≤ (x5_1 : Int) := of_decide_eq_true (by first | (with_reducible assumption) | assumption)
          have q156 : x5_1 < (l0.length : Int) := of_decide_eq_true (by first | (with_reducible assumption) | assumption)
          obtain ⟨ad156, e156, hx156_0⟩ := Kd.at_int HR0.out x5_1 p156 q156
          cases e156
          replace p156 := eq_true p156
          replace q156 := eq_true q156
          go_wp2
          go_roundg k1
          case measure => have := HK1.out; omega
          case rel => exact ⟨(wrap64 (x1_1 + 1)), (wrap64 (x5_1 + 1)), (by first | rfl | (simp; done) | (simp [*]; done)), (by first | rfl | (simp; done) | (simp [*]; done)), H', ⟨by have := HK1.out; omega⟩, by repeat (first | exact Drawn0.refl _ | apply Drawn0.step)⟩
        · rw [if_neg c5] at H
          have c5b0 : ((rd l0 x5_1) == ((x1_1) % 256)) = false := beq_eq_false_iff_ne.mpr c5
          have c5b1 : ((rd l0 x5_1) != ((x1_1) % 256)) = true := bne_iff_ne.mpr c5
          obtain rfl := Option.some.inj H
          have p156 : 0 ≤ (x5_1 : Int) := of_decide_eq_true (by first | (with_reducible assumption) | assumption)
          have q156 : x5_1 < (l0.length : Int) := of_decide_eq_true (by first | (with_reducible assumption) | assumption)
          obtain ⟨ad156, e156, hx156_0⟩ := Kd.at_int HR0.out x5_1 p156 q156
          cases e156
          replace p156 := eq_true p156
          replace q156 := eq_true q156
          go_wp2
          go_ret
          exact ⟨by first | rfl | (simp; done) | (simp [*]; done), by repeat (first | exact Drawn0.refl _ | apply Drawn0.step)⟩
      · rw [if_neg c3] at H
        have c3b0 : decide (x5_1 < (l0.length : Int)) = false := decide_eq_false c3
        clear c3
        obtain rfl := Option.some.inj H
        go_wp2
        go_ret
        exact ⟨by first | rfl | (simp; done) | (simp [*]; done), by repeat (first | exact Drawn0.refl _ | apply Drawn0.step)⟩

/-! ### laws_heldDisk: function 49 -/
def laws_heldDisk.f (k : Nat) (l0_0 : List Int) (a0_1 : Int) (a1 : Int) : Option (Int) := (laws_heldByteS.f k l0_0 a1).bind fun t158 => (if t158 < 0 then (some (-1)) else (some t158))
theorem laws_heldDisk.mono : ∀ a0 a1 a2 k, LeO (laws_heldDisk.f k a0 a1 a2) (laws_heldDisk.f (k + 1) a0 a1 a2) := by
  intro a0 a1 a2 k
  unfold laws_heldDisk.f
  repeat' first
      | (with_reducible exact laws_heldByteS.mono _ _ _)
      | (with_reducible exact LeO.refl _)
      | (with_reducible exact LeO.none _)
      | (with_reducible refine LeO.ite ?_ ?_)
      | (with_reducible refine LeO.bind ?_ (fun _ => ?_))
      | exact laws_heldByteS.mono _ _ _
      | exact LeO.none _
      | refine LeO.ite ?_ ?_
      | refine LeO.bind ?_ (fun _ => ?_)
set_option maxHeartbeats 8000000 in
set_option maxRecDepth 100000 in
theorem laws_heldDisk.calls (k : Nat) (A0_0 : Option Addr) (c0_0 : Nat) (l0_0 : List Int) (a0_1 : Int) (a1 : Int) (r : Int) (w : World) (hr0_0 : Kd.C (Kd.int .u8) w A0_0 l0_0.length l0_0) (hc0_0 : l0_0.length ≤ c0_0) (h : laws_heldDisk.f k l0_0 a0_1 a1 = some r) :
    Calls Try.prog 49 #[.agg #[.slice A0_0 l0_0.length c0_0, .int .i64 a0_1], .int .i64 a1] w fun e w' => e = .returned (.int .i64 r) ∧ Below w.heap.size w w' := by
  have hu35 := Try.underlying35
  have HR0_0 := Aside0.mk hr0_0
  have HC0_0 := Aside0.mk hc0_0
  clear hr0_0 hc0_0
  have HB := Aside0.mk (Below.refl w.heap.size w)
  have H : ((laws_heldByteS.f k l0_0 a1).bind fun t158 => (if t158 < 0 then (some (-1)) else (some t158))) = some r := h
  clear h
  replace H := Option.bind_eq_some_iff.mp H
  obtain ⟨t158, A30, H⟩ := H
  replace H : (if t158 < 0 then (some (-1)) else (some t158)) = some r := H
  have A3 := Aside0.mk A30
  clear A30
  by_cases c4 : t158 < 0
  · rw [if_pos c4] at H
    have c4b0 : decide (t158 < 0) = true := decide_eq_true c4
    clear c4
    obtain rfl := Option.some.inj H
    go_enter Try.func49, Try.ntmps49
    go_wp2_with (first | ((with_reducible refine gate_dst (N := 2) rfl ?_); refine box_event ?hg (N := 2) ?hd (cs := #[.slice A0_0 l0_0.length c0_0, .int .i64 a0_1]) (t := 35) ?hr ?_; (case hd => rfl); (case hg => rfl); (case hr => first | (go_simp; done) | (go_simp; rfl)); intro gb157 hg w5 hbox hb; have BK157 := Aside0.mk (hbox); have GW157 := Aside0.mk ((by rw [hg]; exact (below_size (bI HB.out)) : w.heap.size ≤ gb157)); have GE157 := Aside0.mk ((by rw [hg]; exact (below_size (bI HB.out)) : w.heap.size ≤ gb157)); have GI157 := GeI.mk GE157.out; replace HB := Aside0.mk (below_step (bI HB.out) hb); clear hb hbox hg; have hcz6_0 : w5.cell? ⟨gb157, 0, none⟩ = some (.slice A0_0 l0_0.length c0_0) := (blk_cell BK157.out 0).trans rfl; have hcz6_1 : w5.cell? ⟨gb157, 1, none⟩ = some (.int .i64 a0_1) := (blk_cell BK157.out 1).trans rfl; have hfz6_0 := blk_frozen BK157.out 0; have hfz6_1 := blk_frozen BK157.out 1) | ((with_reducible refine gate_callee (f := 73) rfl ?_); refine goesL_ (some 8) rfl rfl Try.func73 (by kernel_rfl) rfl #[.slice A0_0 l0_0.length c0_0, .int .i64 a1] rfl (by (try simp only [List.map_toArray, List.map_cons, List.map_nil]); first | done | rfl | (simp only [List.length_drop, List.length_take]; rfl)) ?_; (with_reducible refine (laws_heldByteS.calls k _ _ l0_0 a1 t158 _ ?side1 ?side2 A3.out).mono ?_); (case side1 => repeat (first | exact (Kd.C_below HR0_0.out HB.out) | (with_reducible refine Kd.C_alloc ?_ _) | (with_reducible refine Kd.C_drewN ?_ _) | (with_reducible refine Kd.C_drew ?_))); (case side2 => exact HC0_0.out); rintro e w' ⟨rfl, ⟨nd, rfl⟩⟩; refine ⟨_, rfl, ?_⟩))
    go_ret
    exact ⟨by first | rfl | (simp [errW_none, errW_some] <;> rfl) | (simp [*, errW_none, errW_some] <;> rfl), bI HB.out⟩
  · rw [if_neg c4] at H
    have c4b0 : decide (t158 < 0) = false := decide_eq_false c4
    clear c4
    obtain rfl := Option.some.inj H
    go_enter Try.func49, Try.ntmps49
    go_wp2_with (first | ((with_reducible refine gate_dst (N := 2) rfl ?_); refine box_event ?hg (N := 2) ?hd (cs := #[.slice A0_0 l0_0.length c0_0, .int .i64 a0_1]) (t := 35) ?hr ?_; (case hd => rfl); (case hg => rfl); (case hr => first | (go_simp; done) | (go_simp; rfl)); intro gb157 hg w7 hbox hb; have BK157 := Aside0.mk (hbox); have GW157 := Aside0.mk ((by rw [hg]; exact (below_size (bI HB.out)) : w.heap.size ≤ gb157)); have GE157 := Aside0.mk ((by rw [hg]; exact (below_size (bI HB.out)) : w.heap.size ≤ gb157)); have GI157 := GeI.mk GE157.out; replace HB := Aside0.mk (below_step (bI HB.out) hb); clear hb hbox hg; have hcz8_0 : w7.cell? ⟨gb157, 0, none⟩ = some (.slice A0_0 l0_0.length c0_0) := (blk_cell BK157.out 0).trans rfl; have hcz8_1 : w7.cell? ⟨gb157, 1, none⟩ = some (.int .i64 a0_1) := (blk_cell BK157.out 1).trans rfl; have hfz8_0 := blk_frozen BK157.out 0; have hfz8_1 := blk_frozen BK157.out 1) | ((with_reducible refine gate_callee (f := 73) rfl ?_); refine goesL_ (some 8) rfl rfl Try.func73 (by kernel_rfl) rfl #[.slice A0_0 l0_0.length c0_0, .int .i64 a1] rfl (by (try simp only [List.map_toArray, List.map_cons, List.map_nil]); first | done | rfl | (simp only [List.length_drop, List.length_take]; rfl)) ?_; (with_reducible refine (laws_heldByteS.calls k _ _ l0_0 a1 t158 _ ?side1 ?side2 A3.out).mono ?_); (case side1 => repeat (first | exact (Kd.C_below HR0_0.out HB.out) | (with_reducible refine Kd.C_alloc ?_ _) | (with_reducible refine Kd.C_drewN ?_ _) | (with_reducible refine Kd.C_drew ?_))); (case side2 => exact HC0_0.out); rintro e w' ⟨rfl, ⟨nd, rfl⟩⟩; refine ⟨_, rfl, ?_⟩))
    go_ret
    exact ⟨by first | rfl | (simp [errW_none, errW_some] <;> rfl) | (simp [*, errW_none, errW_some] <;> rfl), bI HB.out⟩

/-! ### laws_FnExactSync: function 12 -/
def laws_FnExactSync.f (k : Nat) (l0_0 : List Int) (a0_1 : Int) : Option (Bool) := (laws_szDisk.f l0_0 a0_1 1048576).bind fun t160 => (if t160 < 0 then (some true) else ((laws_toDisk.f k l0_0 a0_1).bind fun bt161 => ((spec_Sync.f bt161.1 bt161.2).bind fun bt165 => ((laws_toDisk.f k l0_0 a0_1).bind fun bt170 => ((impl_Sync.f bt170.1 bt170.2).bind fun bt175 => ((laws_eqDisk.f k bt175.1 bt175.2 bt165.1 bt165.2).bind fun t180 => (if t180 = true then ((laws_toDisk.f k l0_0 a0_1).bind fun bt181 => ((laws_eqDisk.f k bt170.1 bt170.2 bt181.1 bt181.2).bind fun t185 => (if t185 = true then ((laws_markDisk.f k bt170.1 bt170.2 1).bind fun bt186 => (if bt186.1 < 0 then (some false) else ((laws_eqDisk.f k bt175.1 bt175.2 bt165.1 bt165.2).bind fun t188 => (if t188 = true then ((laws_markDisk.f k bt175.1 bt175.2 1).bind fun bt189 => ((laws_heldDisk.f k bt189.2 bt175.2 1).bind fun t191 => (if t191 < 0 then (some false) else (if t191 = bt189.1 then ((laws_toDisk.f k l0_0 a0_1).bind fun bt192 => ((impl_Sync.f bt192.1 bt192.2).bind fun bt196 => ((laws_eqDisk.f k bt196.1 bt196.2 bt165.1 bt165.2).bind fun t201 => (if t201 = true then ((laws_heldDisk.f k bt189.2 bt175.2 1).bind fun t202 => (if t202 < 0 then (some false) else (if t202 = bt189.1 then (some true) else (some false)))) else (some false))))) else (some false))))) else (some false))))) else (some false)))) else (some false))))))))
theorem laws_FnExactSync.mono : ∀ a0 a1 k, LeO (laws_FnExactSync.f k a0 a1) (laws_FnExactSync.f (k + 1) a0 a1) := by
  intro a0 a1 k
  unfold laws_FnExactSync.f
  repeat' first
      | (with_reducible exact laws_eqDisk.mono _ _ _ _ _)
      | (with_reducible exact laws_heldDisk.mono _ _ _ _)
      | (with_reducible exact laws_markDisk.mono _ _ _ _)
      | (with_reducible exact laws_toDisk.mono _ _ _)
      | (with_reducible exact LeO.refl _)
      | (with_reducible exact LeO.none _)
      | (with_reducible refine LeO.ite ?_ ?_)
      | (with_reducible refine LeO.bind ?_ (fun _ => ?_))
      | exact laws_eqDisk.mono _ _ _ _ _
      | exact laws_heldDisk.mono _ _ _ _
      | exact laws_markDisk.mono _ _ _ _
      | exact laws_toDisk.mono _ _ _
      | exact LeO.none _
      | refine LeO.ite ?_ ?_
      | refine LeO.bind ?_ (fun _ => ?_)
set_option maxHeartbeats 8000000 in
set_option maxRecDepth 100000 in
theorem laws_FnExactSync.calls (k : Nat) (A0_0 : Option Addr) (c0_0 : Nat) (l0_0 : List Int) (a0_1 : Int) (r : Bool) (hrt : Aside0 (r = true)) (w : World) (hr0_0 : Kd.C (Kd.int .u8) w A0_0 l0_0.length l0_0) (hc0_0 : l0_0.length ≤ c0_0) (h : laws_FnExactSync.f k l0_0 a0_1 = some r) :
    Calls Try.prog 12 #[.agg #[.slice A0_0 l0_0.length c0_0, .int .i64 a0_1]] w fun e w' => e = .returned (.bool r) ∧ Below w.heap.size w w' := by
  have hu32 := Try.underlying32
  have hu35 := Try.underlying35
  have HR0_0 := Aside0.mk hr0_0
  have HC0_0 := Aside0.mk hc0_0
  clear hr0_0 hc0_0
  have HB := Aside0.mk (Below.refl w.heap.size w)
  have H : ((laws_szDisk.f l0_0 a0_1 1048576).bind fun t160 => (if t160 < 0 then (some true) else ((laws_toDisk.f k l0_0 a0_1).bind fun bt161 => ((spec_Sync.f bt161.1 bt161.2).bind fun bt165 => ((laws_toDisk.f k l0_0 a0_1).bind fun bt170 => ((impl_Sync.f bt170.1 bt170.2).bind fun bt175 => ((laws_eqDisk.f k bt175.1 bt175.2 bt165.1 bt165.2).bind fun t180 => (if t180 = true then ((laws_toDisk.f k l0_0 a0_1).bind fun bt181 => ((laws_eqDisk.f k bt170.1 bt170.2 bt181.1 bt181.2).bind fun t185 => (if t185 = true then ((laws_markDisk.f k bt170.1 bt170.2 1).bind fun bt186 => (if bt186.1 < 0 then (some false) else ((laws_eqDisk.f k bt175.1 bt175.2 bt165.1 bt165.2).bind fun t188 => (if t188 = true then ((laws_markDisk.f k bt175.1 bt175.2 1).bind fun bt189 => ((laws_heldDisk.f k bt189.2 bt175.2 1).bind fun t191 => (if t191 < 0 then (some false) else (if t191 = bt189.1 then ((laws_toDisk.f k l0_0 a0_1).bind fun bt192 => ((impl_Sync.f bt192.1 bt192.2).bind fun bt196 => ((laws_eqDisk.f k bt196.1 bt196.2 bt165.1 bt165.2).bind fun t201 => (if t201 = true then ((laws_heldDisk.f k bt189.2 bt175.2 1).bind fun t202 => (if t202 < 0 then (some false) else (if t202 = bt189.1 then (some true) else (some false)))) else (some false))))) else (some false))))) else (some false))))) else (some false)))) else (some false))))))))) = some r := h
  clear h
  replace H := Option.bind_eq_some_iff.mp H
  obtain ⟨t160, A20, H⟩ := H
  replace H : (if t160 < 0 then (some true) else ((laws_toDisk.f k l0_0 a0_1).bind fun bt161 => ((spec_Sync.f bt161.1 bt161.2).bind fun bt165 => ((laws_toDisk.f k l0_0 a0_1).bind fun bt170 => ((impl_Sync.f bt170.1 bt170.2).bind fun bt175 => ((laws_eqDisk.f k bt175.1 bt175.2 bt165.1 bt165.2).bind fun t180 => (if t180 = true then ((laws_toDisk.f k l0_0 a0_1).bind fun bt181 => ((laws_eqDisk.f k bt170.1 bt170.2 bt181.1 bt181.2).bind fun t185 => (if t185 = true then ((laws_markDisk.f k bt170.1 bt170.2 1).bind fun bt186 => (if bt186.1 < 0 then (some false) else ((laws_eqDisk.f k bt175.1 bt175.2 bt165.1 bt165.2).bind fun t188 => (if t188 = true then ((laws_markDisk.f k bt175.1 bt175.2 1).bind fun bt189 => ((laws_heldDisk.f k bt189.2 bt175.2 1).bind fun t191 => (if t191 < 0 then (some false) else (if t191 = bt189.1 then ((laws_toDisk.f k l0_0 a0_1).bind fun bt192 => ((impl_Sync.f bt192.1 bt192.2).bind fun bt196 => ((laws_eqDisk.f k bt196.1 bt196.2 bt165.1 bt165.2).bind fun t201 => (if t201 = true then ((laws_heldDisk.f k bt189.2 bt175.2 1).bind fun t202 => (if t202 < 0 then (some false) else (if t202 = bt189.1 then (some true) else (some false)))) else (some false))))) else (some false))))) else (some false))))) else (some false)))) else (some false)))))))) = some r := H
  have A2 := Aside0.mk A20
  clear A20
  by_cases c3 : t160 < 0
  · rw [if_pos c3] at H
    have c3b0 : decide (t160 < 0) = true := decide_eq_true c3
    clear c3
    obtain rfl := Option.some.inj H
    go_enter Try.func12, Try.ntmps12
    go_wp2_with (first | ((with_reducible refine gate_dst (N := 1) rfl ?_); refine box_event ?hg (N := 1) ?hd (cs := #[.slice A0_0 l0_0.length c0_0, .int .i64 a0_1]) (t := 32) ?hr ?_; (case hd => rfl); (case hg => rfl); (case hr => first | (go_simp; done) | (go_simp; rfl)); intro gb159 hg w4 hbox hb; have BK159 := Aside0.mk (hbox); have GW159 := Aside0.mk ((by rw [hg]; exact (below_size (bI HB.out)) : w.heap.size ≤ gb159)); have GE159 := Aside0.mk ((by rw [hg]; exact (below_size (bI HB.out)) : w.heap.size ≤ gb159)); have GI159 := GeI.mk GE159.out; replace HB := Aside0.mk (below_step (bI HB.out) hb); clear hb hbox hg; have hcz5_0 : w4.cell? ⟨gb159, 0, none⟩ = some (.slice A0_0 l0_0.length c0_0) := (blk_cell BK159.out 0).trans rfl; have hcz5_1 : w4.cell? ⟨gb159, 1, none⟩ = some (.int .i64 a0_1) := (blk_cell BK159.out 1).trans rfl; have hfz5_0 := blk_frozen BK159.out 0; have hfz5_1 := blk_frozen BK159.out 1) | ((with_reducible refine gate_callee (f := 24) rfl ?_); refine goesL_ (some 13) rfl rfl Try.func24 (by kernel_rfl) rfl #[.agg #[.slice A0_0 l0_0.length c0_0, .int .i64 a0_1], .int .i64 1048576] rfl (by (try simp only [List.map_toArray, List.map_cons, List.map_nil]); first | done | rfl | (simp only [List.length_drop, List.length_take]; rfl)) ?_; (with_reducible refine (laws_szDisk.calls _ _ l0_0 a0_1 1048576 t160 _ ?side1 ?side2 A2.out).mono ?_); (case side1 => repeat (first | exact (Kd.C_below HR0_0.out HB.out) | (with_reducible refine Kd.C_alloc ?_ _) | (with_reducible refine Kd.C_drewN ?_ _) | (with_reducible refine Kd.C_drew ?_))); (case side2 => exact HC0_0.out); rintro e w6 ⟨rfl, hb⟩; refine ⟨_, rfl, ?_⟩; replace BK159 := Aside0.mk (blk_below (g := gb159) (o := .cells #[.slice A0_0 l0_0.length c0_0, .int .i64 a0_1] 32 (0, 0)) (kI BK159.out) hb); replace HB := Aside0.mk (below_step (bI HB.out) hb); (try clear hb); (try clear hb2); (try clear hk); (try clear hi)))
    go_ret
    exact ⟨by first | rfl | (simp [errW_none, errW_some] <;> rfl) | (simp [*, errW_none, errW_some] <;> rfl), bI HB.out⟩
  · rw [if_neg c3] at H
    have c3b0 : decide (t160 < 0) = false := decide_eq_false c3
    clear c3
    replace H := Option.bind_eq_some_iff.mp H
    obtain ⟨⟨t161, t164⟩, A70, H⟩ := H
    replace H : ((spec_Sync.f t161 t164).bind fun bt165 => ((laws_toDisk.f k l0_0 a0_1).bind fun bt170 => ((impl_Sync.f bt170.1 bt170.2).bind fun bt175 => ((laws_eqDisk.f k bt175.1 bt175.2 bt165.1 bt165.2).bind fun t180 => (if t180 = true then ((laws_toDisk.f k l0_0 a0_1).bind fun bt181 => ((laws_eqDisk.f k bt170.1 bt170.2 bt181.1 bt181.2).bind fun t185 => (if t185 = true then ((laws_markDisk.f k bt170.1 bt170.2 1).bind fun bt186 => (if bt186.1 < 0 then (some false) else ((laws_eqDisk.f k bt175.1 bt175.2 bt165.1 bt165.2).bind fun t188 => (if t188 = true then ((laws_markDisk.f k bt175.1 bt175.2 1).bind fun bt189 => ((laws_heldDisk.f k bt189.2 bt175.2 1).bind fun t191 => (if t191 < 0 then (some false) else (if t191 = bt189.1 then ((laws_toDisk.f k l0_0 a0_1).bind fun bt192 => ((impl_Sync.f bt192.1 bt192.2).bind fun bt196 => ((laws_eqDisk.f k bt196.1 bt196.2 bt165.1 bt165.2).bind fun t201 => (if t201 = true then ((laws_heldDisk.f k bt189.2 bt175.2 1).bind fun t202 => (if t202 < 0 then (some false) else (if t202 = bt189.1 then (some true) else (some false)))) else (some false))))) else (some false))))) else (some false))))) else (some false)))) else (some false)))))) = some r := H
    have A7 := Aside0.mk A70
    clear A70
    replace H := Option.bind_eq_some_iff.mp H
    obtain ⟨⟨t165, t168⟩, A80, H⟩ := H
    replace H : ((laws_toDisk.f k l0_0 a0_1).bind fun bt170 => ((impl_Sync.f bt170.1 bt170.2).bind fun bt175 => ((laws_eqDisk.f k bt175.1 bt175.2 t165 t168).bind fun t180 => (if t180 = true then ((laws_toDisk.f k l0_0 a0_1).bind fun bt181 => ((laws_eqDisk.f k bt170.1 bt170.2 bt181.1 bt181.2).bind fun t185 => (if t185 = true then ((laws_markDisk.f k bt170.1 bt170.2 1).bind fun bt186 => (if bt186.1 < 0 then (some false) else ((laws_eqDisk.f k bt175.1 bt175.2 t165 t168).bind fun t188 => (if t188 = true then ((laws_markDisk.f k bt175.1 bt175.2 1).bind fun bt189 => ((laws_heldDisk.f k bt189.2 bt175.2 1).bind fun t191 => (if t191 < 0 then (some false) else (if t191 = bt189.1 then ((laws_toDisk.f k l0_0 a0_1).bind fun bt192 => ((impl_Sync.f bt192.1 bt192.2).bind fun bt196 => ((laws_eqDisk.f k bt196.1 bt196.2 t165 t168).bind fun t201 => (if t201 = true then ((laws_heldDisk.f k bt189.2 bt175.2 1).bind fun t202 => (if t202 < 0 then (some false) else (if t202 = bt189.1 then (some true) else (some false)))) else (some false))))) else (some false))))) else (some false))))) else (some false)))) else (some false))))) = some r := H
    have A8 := Aside0.mk A80
    clear A80
    replace H := Option.bind_eq_some_iff.mp H
    obtain ⟨⟨t170, t173⟩, A90, H⟩ := H
    replace H : ((impl_Sync.f t170 t173).bind fun bt175 => ((laws_eqDisk.f k bt175.1 bt175.2 t165 t168).bind fun t180 => (if t180 = true then ((laws_toDisk.f k l0_0 a0_1).bind fun bt181 => ((laws_eqDisk.f k t170 t173 bt181.1 bt181.2).bind fun t185 => (if t185 = true then ((laws_markDisk.f k t170 t173 1).bind fun bt186 => (if bt186.1 < 0 then (some false) else ((laws_eqDisk.f k bt175.1 bt175.2 t165 t168).bind fun t188 => (if t188 = true then ((laws_markDisk.f k bt175.1 bt175.2 1).bind fun bt189 => ((laws_heldDisk.f k bt189.2 bt175.2 1).bind fun t191 => (if t191 < 0 then (some false) else (if t191 = bt189.1 then ((laws_toDisk.f k l0_0 a0_1).bind fun bt192 => ((impl_Sync.f bt192.1 bt192.2).bind fun bt196 => ((laws_eqDisk.f k bt196.1 bt196.2 t165 t168).bind fun t201 => (if t201 = true then ((laws_heldDisk.f k bt189.2 bt175.2 1).bind fun t202 => (if t202 < 0 then (some false) else (if t202 = bt189.1 then (some true) else (some false)))) else (some false))))) else (some false))))) else (some false))))) else (some false)))) else (some false)))) = some r := H
    have A9 := Aside0.mk A90
    clear A90
    replace H := Option.bind_eq_some_iff.mp H
    obtain ⟨⟨t175, t178⟩, A100, H⟩ := H
    replace H : ((laws_eqDisk.f k t175 t178 t165 t168).bind fun t180 => (if t180 = true then ((laws_toDisk.f k l0_0 a0_1).bind fun bt181 => ((laws_eqDisk.f k t170 t173 bt181.1 bt181.2).bind fun t185 => (if t185 = true then ((laws_markDisk.f k t170 t173 1).bind fun bt186 => (if bt186.1 < 0 then (some false) else ((laws_eqDisk.f k t175 t178 t165 t168).bind fun t188 => (if t188 = true then ((laws_markDisk.f k t175 t178 1).bind fun bt189 => ((laws_heldDisk.f k bt189.2 t178 1).bind fun t191 => (if t191 < 0 then (some false) else (if t191 = bt189.1 then ((laws_toDisk.f k l0_0 a0_1).bind fun bt192 => ((impl_Sync.f bt192.1 bt192.2).bind fun bt196 => ((laws_eqDisk.f k bt196.1 bt196.2 t165 t168).bind fun t201 => (if t201 = true then ((laws_heldDisk.f k bt189.2 t178 1).bind fun t202 => (if t202 < 0 then (some false) else (if t202 = bt189.1 then (some true) else (some false)))) else (some false))))) else (some false))))) else (some false))))) else (some false)))) else (some false))) = some r := H
    have A10 := Aside0.mk A100
    clear A100
    replace H := Option.bind_eq_some_iff.mp H
    obtain ⟨t180, A110, H⟩ := H
    replace H : (if t180 = true then ((laws_toDisk.f k l0_0 a0_1).bind fun bt181 => ((laws_eqDisk.f k t170 t173 bt181.1 bt181.2).bind fun t185 => (if t185 = true then ((laws_markDisk.f k t170 t173 1).bind fun bt186 => (if bt186.1 < 0 then (some false) else ((laws_eqDisk.f k t175 t178 t165 t168).bind fun t188 => (if t188 = true then ((laws_markDisk.f k t175 t178 1).bind fun bt189 => ((laws_heldDisk.f k bt189.2 t178 1).bind fun t191 => (if t191 < 0 then (some false) else (if t191 = bt189.1 then ((laws_toDisk.f k l0_0 a0_1).bind fun bt192 => ((impl_Sync.f bt192.1 bt192.2).bind fun bt196 => ((laws_eqDisk.f k bt196.1 bt196.2 t165 t168).bind fun t201 => (if t201 = true then ((laws_heldDisk.f k bt189.2 t178 1).bind fun t202 => (if t202 < 0 then (some false) else (if t202 = bt189.1 then (some true) else (some false)))) else (some false))))) else (some false))))) else (some false))))) else (some false)))) else (some false)) = some r := H
    have A11 := Aside0.mk A110
    clear A110
    by_cases c12 : t180 = true
    · subst c12
      have H1 : ((laws_toDisk.f k l0_0 a0_1).bind fun bt181 => ((laws_eqDisk.f k t170 t173 bt181.1 bt181.2).bind fun t185 => (if t185 = true then ((laws_markDisk.f k t170 t173 1).bind fun bt186 => (if bt186.1 < 0 then (some false) else ((laws_eqDisk.f k t175 t178 t165 t168).bind fun t188 => (if t188 = true then ((laws_markDisk.f k t175 t178 1).bind fun bt189 => ((laws_heldDisk.f k bt189.2 t178 1).bind fun t191 => (if t191 < 0 then (some false) else (if t191 = bt189.1 then ((laws_toDisk.f k l0_0 a0_1).bind fun bt192 => ((impl_Sync.f bt192.1 bt192.2).bind fun bt196 => ((laws_eqDisk.f k bt196.1 bt196.2 t165 t168).bind fun t201 => (if t201 = true then ((laws_heldDisk.f k bt189.2 t178 1).bind fun t202 => (if t202 < 0 then (some false) else (if t202 = bt189.1 then (some true) else (some false)))) else (some false))))) else (some false))))) else (some false))))) else (some false)))) = some r := by rw [if_pos rfl] at H; exact H
      clear H
      have H := H1
      clear H1
      replace H := Option.bind_eq_some_iff.mp H
      obtain ⟨⟨t181, t184⟩, A130, H⟩ := H
      replace H : ((laws_eqDisk.f k t170 t173 t181 t184).bind fun t185 => (if t185 = true then ((laws_markDisk.f k t170 t173 1).bind fun bt186 => (if bt186.1 < 0 then (some false) else ((laws_eqDisk.f k t175 t178 t165 t168).bind fun t188 => (if t188 = true then ((laws_markDisk.f k t175 t178 1).bind fun bt189 => ((laws_heldDisk.f k bt189.2 t178 1).bind fun t191 => (if t191 < 0 then (some false) else (if t191 = bt189.1 then ((laws_toDisk.f k l0_0 a0_1).bind fun bt192 => ((impl_Sync.f bt192.1 bt192.2).bind fun bt196 => ((laws_eqDisk.f k bt196.1 bt196.2 t165 t168).bind fun t201 => (if t201 = true then ((laws_heldDisk.f k bt189.2 t178 1).bind fun t202 => (if t202 < 0 then (some false) else (if t202 = bt189.1 then (some true) else (some false)))) else (some false))))) else (some false))))) else (some false))))) else (some false))) = some r := H
      have A13 := Aside0.mk A130
      clear A130
      replace H := Option.bind_eq_some_iff.mp H
      obtain ⟨t185, A140, H⟩ := H
      replace H : (if t185 = true then ((laws_markDisk.f k t170 t173 1).bind fun bt186 => (if bt186.1 < 0 then (some false) else ((laws_eqDisk.f k t175 t178 t165 t168).bind fun t188 => (if t188 = true then ((laws_markDisk.f k t175 t178 1).bind fun bt189 => ((laws_heldDisk.f k bt189.2 t178 1).bind fun t191 => (if t191 < 0 then (some false) else (if t191 = bt189.1 then ((laws_toDisk.f k l0_0 a0_1).bind fun bt192 => ((impl_Sync.f bt192.1 bt192.2).bind fun bt196 => ((laws_eqDisk.f k bt196.1 bt196.2 t165 t168).bind fun t201 => (if t201 = true then ((laws_heldDisk.f k bt189.2 t178 1).bind fun t202 => (if t202 < 0 then (some false) else (if t202 = bt189.1 then (some true) else (some false)))) else (some false))))) else (some false))))) else (some false))))) else (some false)) = some r := H
      have A14 := Aside0.mk A140
      clear A140
      by_cases c15 : t185 = true
      rotate_left
      · replace c15 := Bool.eq_false_iff.mpr c15
        subst c15
        have H1 : (some false) = some r := by rw [if_neg (show ¬ (false = true) by decide)] at H; exact H
        clear H
        have H := H1
        clear H1
        exact absurd (hrt.out.symm.trans (Option.some.inj H).symm) (by decide)
      subst c15
      have H1 : ((laws_markDisk.f k t170 t173 1).bind fun bt186 => (if bt186.1 < 0 then (some false) else ((laws_eqDisk.f k t175 t178 t165 t168).bind fun t188 => (if t188 = true then ((laws_markDisk.f k t175 t178 1).bind fun bt189 => ((laws_heldDisk.f k bt189.2 t178 1).bind fun t191 => (if t191 < 0 then (some false) else (if t191 = bt189.1 then ((laws_toDisk.f k l0_0 a0_1).bind fun bt192 => ((impl_Sync.f bt192.1 bt192.2).bind fun bt196 => ((laws_eqDisk.f k bt196.1 bt196.2 t165 t168).bind fun t201 => (if t201 = true then ((laws_heldDisk.f k bt189.2 t178 1).bind fun t202 => (if t202 < 0 then (some false) else (if t202 = bt189.1 then (some true) else (some false)))) else (some false))))) else (some false))))) else (some false))))) = some r := by rw [if_pos rfl] at H; exact H
      clear H
      have H := H1
      clear H1
      replace H := Option.bind_eq_some_iff.mp H
      obtain ⟨⟨t186, t187⟩, A160, H⟩ := H
      replace H : (if t186 < 0 then (some false) else ((laws_eqDisk.f k t175 t178 t165 t168).bind fun t188 => (if t188 = true then ((laws_markDisk.f k t175 t178 1).bind fun bt189 => ((laws_heldDisk.f k bt189.2 t178 1).bind fun t191 => (if t191 < 0 then (some false) else (if t191 = bt189.1 then ((laws_toDisk.f k l0_0 a0_1).bind fun bt192 => ((impl_Sync.f bt192.1 bt192.2).bind fun bt196 => ((laws_eqDisk.f k bt196.1 bt196.2 t165 t168).bind fun t201 => (if t201 = true then ((laws_heldDisk.f k bt189.2 t178 1).bind fun t202 => (if t202 < 0 then (some false) else (if t202 = bt189.1 then (some true) else (some false)))) else (some false))))) else (some false))))) else (some false)))) = some r := H
      have A16 := Aside0.mk A160
      clear A160
      by_cases c17 : t186 < 0
      · rw [if_pos c17] at H
        have c17b0 : decide (t186 < 0) = true := decide_eq_true c17
        clear c17
        exact absurd (hrt.out.symm.trans (Option.some.inj H).symm) (by decide)
      rw [if_neg c17] at H
      have c17b0 : decide (t186 < 0) = false := decide_eq_false c17
      clear c17
      replace H := Option.bind_eq_some_iff.mp H
      obtain ⟨t188, A180, H⟩ := H
      replace H : (if t188 = true then ((laws_markDisk.f k t175 t178 1).bind fun bt189 => ((laws_heldDisk.f k bt189.2 t178 1).bind fun t191 => (if t191 < 0 then (some false) else (if t191 = bt189.1 then ((laws_toDisk.f k l0_0 a0_1).bind fun bt192 => ((impl_Sync.f bt192.1 bt192.2).bind fun bt196 => ((laws_eqDisk.f k bt196.1 bt196.2 t165 t168).bind fun t201 => (if t201 = true then ((laws_heldDisk.f k bt189.2 t178 1).bind fun t202 => (if t202 < 0 then (some false) else (if t202 = bt189.1 then (some true) else (some false)))) else (some false))))) else (some false))))) else (some false)) = some r := H
      have A18 := Aside0.mk A180
      clear A180
      by_cases c19 : t188 = true
      rotate_left
      · replace c19 := Bool.eq_false_iff.mpr c19
        subst c19
        have H1 : (some false) = some r := by rw [if_neg (show ¬ (false = true) by decide)] at H; exact H
        clear H
        have H := H1
        clear H1
        exact absurd (hrt.out.symm.trans (Option.some.inj H).symm) (by decide)
      subst c19
      have H1 : ((laws_markDisk.f k t175 t178 1).bind fun bt189 => ((laws_heldDisk.f k bt189.2 t178 1).bind fun t191 => (if t191 < 0 then (some false) else (if t191 = bt189.1 then ((laws_toDisk.f k l0_0 a0_1).bind fun bt192 => ((impl_Sync.f bt192.1 bt192.2).bind fun bt196 => ((laws_eqDisk.f k bt196.1 bt196.2 t165 t168).bind fun t201 => (if t201 = true then ((laws_heldDisk.f k bt189.2 t178 1).bind fun t202 => (if t202 < 0 then (some false) else (if t202 = bt189.1 then (some true) else (some false)))) else (some false))))) else (some false))))) = some r := by rw [if_pos rfl] at H; exact H
      clear H
      have H := H1
      clear H1
      replace H := Option.bind_eq_some_iff.mp H
      obtain ⟨⟨t189, t190⟩, A200, H⟩ := H
      replace H : ((laws_heldDisk.f k t190 t178 1).bind fun t191 => (if t191 < 0 then (some false) else (if t191 = t189 then ((laws_toDisk.f k l0_0 a0_1).bind fun bt192 => ((impl_Sync.f bt192.1 bt192.2).bind fun bt196 => ((laws_eqDisk.f k bt196.1 bt196.2 t165 t168).bind fun t201 => (if t201 = true then ((laws_heldDisk.f k t190 t178 1).bind fun t202 => (if t202 < 0 then (some false) else (if t202 = t189 then (some true) else (some false)))) else (some false))))) else (some false)))) = some r := H
      have A20 := Aside0.mk A200
      clear A200
      replace H := Option.bind_eq_some_iff.mp H
      obtain ⟨t191, A210, H⟩ := H
      replace H : (if t191 < 0 then (some false) else (if t191 = t189 then ((laws_toDisk.f k l0_0 a0_1).bind fun bt192 => ((impl_Sync.f bt192.1 bt192.2).bind fun bt196 => ((laws_eqDisk.f k bt196.1 bt196.2 t165 t168).bind fun t201 => (if t201 = true then ((laws_heldDisk.f k t190 t178 1).bind fun t202 => (if t202 < 0 then (some false) else (if t202 = t189 then (some true) else (some false)))) else (some false))))) else (some false))) = some r := H
      have A21 := Aside0.mk A210
      clear A210
      by_cases c22 : t191 < 0
      · rw [if_pos c22] at H
        have c22b0 : decide (t191 < 0) = true := decide_eq_true c22
        clear c22
        exact absurd (hrt.out.symm.trans (Option.some.inj H).symm) (by decide)
      rw [if_neg c22] at H
      have c22b0 : decide (t191 < 0) = false := decide_eq_false c22
      clear c22
      by_cases c23 : t191 = t189
      rotate_left
      · rw [if_neg c23] at H
        have c23b0 : (t191 == t189) = false := beq_eq_false_iff_ne.mpr c23
        have c23b1 : (t191 != t189) = true := bne_iff_ne.mpr c23
        exact absurd (hrt.out.symm.trans (Option.some.inj H).symm) (by decide)
      rw [if_pos c23] at H
      have c23b0 : (t191 == t189) = true := beq_iff_eq.mpr c23
      have c23b1 : (t191 != t189) = false := bne_eq_false_iff_eq.mpr c23
      clear c23
      replace H := Option.bind_eq_some_iff.mp H
      obtain ⟨⟨t192, t195⟩, A240, H⟩ := H
      replace H : ((impl_Sync.f t192 t195).bind fun bt196 => ((laws_eqDisk.f k bt196.1 bt196.2 t165 t168).bind fun t201 => (if t201 = true then ((laws_heldDisk.f k t190 t178 1).bind fun t202 => (if t202 < 0 then (some false) else (if t202 = t189 then (some true) else (some false)))) else (some false)))) = some r := H
      have A24 := Aside0.mk A240
      clear A240
      replace H := Option.bind_eq_some_iff.mp H
      obtain ⟨⟨t196, t199⟩, A250, H⟩ := H
      replace H : ((laws_eqDisk.f k t196 t199 t165 t168).bind fun t201 => (if t201 = true then ((laws_heldDisk.f k t190 t178 1).bind fun t202 => (if t202 < 0 then (some false) else (if t202 = t189 then (some true) else (some false)))) else (some false))) = some r := H
      have A25 := Aside0.mk A250
      clear A250
      replace H := Option.bind_eq_some_iff.mp H
      obtain ⟨t201, A260, H⟩ := H
      replace H : (if t201 = true then ((laws_heldDisk.f k t190 t178 1).bind fun t202 => (if t202 < 0 then (some false) else (if t202 = t189 then (some true) else (some false)))) else (some false)) = some r := H
      have A26 := Aside0.mk A260
      clear A260
      by_cases c27 : t201 = true
      rotate_left
      · replace c27 := Bool.eq_false_iff.mpr c27
        subst c27
        have H1 : (some false) = some r := by rw [if_neg (show ¬ (false = true) by decide)] at H; exact H
        clear H
        have H := H1
        clear H1
        exact absurd (hrt.out.symm.trans (Option.some.inj H).symm) (by decide)
      subst c27
      have H1 : ((laws_heldDisk.f k t190 t178 1).bind fun t202 => (if t202 < 0 then (some false) else (if t202 = t189 then (some true) else (some false)))) = some r := by rw [if_pos rfl] at H; exact H
      clear H
      have H := H1
      clear H1
      replace H := Option.bind_eq_some_iff.mp H
      obtain ⟨t202, A280, H⟩ := H
      replace H : (if t202 < 0 then (some false) else (if t202 = t189 then (some true) else (some false))) = some r := H
      have A28 := Aside0.mk A280
      clear A280
      by_cases c29 : t202 < 0
      · rw [if_pos c29] at H
        have c29b0 : decide (t202 < 0) = true := decide_eq_true c29
        clear c29
        exact absurd (hrt.out.symm.trans (Option.some.inj H).symm) (by decide)
      rw [if_neg c29] at H
      have c29b0 : decide (t202 < 0) = false := decide_eq_false c29
      clear c29
      by_cases c30 : t202 = t189
      rotate_left
      · rw [if_neg c30] at H
        have c30b0 : (t202 == t189) = false := beq_eq_false_iff_ne.mpr c30
        have c30b1 : (t202 != t189) = true := bne_iff_ne.mpr c30
        exact absurd (hrt.out.symm.trans (Option.some.inj H).symm) (by decide)
      rw [if_pos c30] at H
      have c30b0 : (t202 == t189) = true := beq_iff_eq.mpr c30
      have c30b1 : (t202 != t189) = false := bne_eq_false_iff_eq.mpr c30
      clear c30
      obtain rfl := Option.some.inj H
      go_enter Try.func12, Try.ntmps12
      try go_wp2_with (first | ((with_reducible refine gate_dst (N := 1) rfl ?_); refine box_event ?hg (N := 1) ?hd (cs := #[.slice A0_0 l0_0.length c0_0, .int .i64 a0_1]) (t := 32) ?hr ?_; (case hd => rfl); (case hg => rfl); (case hr => first | (go_simp; done) | (go_simp; rfl)); intro gb159 hg w31 hbox hb; have BK159 := Aside0.mk (hbox); have GW159 := Aside0.mk ((by rw [hg]; exact (below_size (bI HB.out)) : w.heap.size ≤ gb159)); have GE159 := Aside0.mk ((by rw [hg]; exact (below_size (bI HB.out)) : w.heap.size ≤ gb159)); have GI159 := GeI.mk GE159.out; replace HB := Aside0.mk (below_step (bI HB.out) hb); clear hb hbox hg; have hcz32_0 : w31.cell? ⟨gb159, 0, none⟩ = some (.slice A0_0 l0_0.length c0_0) := (blk_cell BK159.out 0).trans rfl; have hcz32_1 : w31.cell? ⟨gb159, 1, none⟩ = some (.int .i64 a0_1) := (blk_cell BK159.out 1).trans rfl; have hfz32_0 := blk_frozen BK159.out 0; have hfz32_1 := blk_frozen BK159.out 1) | ((with_reducible refine gate_callee (f := 24) rfl ?_); refine goesL_ (some 13) rfl rfl Try.func24 (by kernel_rfl) rfl #[.agg #[.slice A0_0 l0_0.length c0_0, .int .i64 a0_1], .int .i64 1048576] rfl (by (try simp only [List.map_toArray, List.map_cons, List.map_nil]); first | done | rfl | (simp only [List.length_drop, List.length_take]; rfl)) ?_; (with_reducible refine (laws_szDisk.calls _ _ l0_0 a0_1 1048576 t160 _ ?side1 ?side2 A2.out).mono ?_); (case side1 => repeat (first | exact (Kd.C_below HR0_0.out HB.out) | (with_reducible refine Kd.C_alloc ?_ _) | (with_reducible refine Kd.C_drewN ?_ _) | (with_reducible refine Kd.C_drew ?_))); (case side2 => exact HC0_0.out); rintro e w33 ⟨rfl, hb⟩; refine ⟨_, rfl, ?_⟩; replace BK159 := Aside0.mk (blk_below (g := gb159) (o := .cells #[.slice A0_0 l0_0.length c0_0, .int .i64 a0_1] 32 (0, 0)) (kI BK159.out) hb); replace HB := Aside0.mk (below_step (bI HB.out) hb); (try clear hb); (try clear hb2); (try clear hk); (try clear hi); have hcz34_0 : w33.cell? ⟨gb159, 0, none⟩ = some (.slice A0_0 l0_0.length c0_0) := (blk_cell BK159.out 0).trans rfl; have hcz34_1 : w33.cell? ⟨gb159, 1, none⟩ = some (.int .i64 a0_1) := (blk_cell BK159.out 1).trans rfl; have hfz34_0 := blk_frozen BK159.out 0; have hfz34_1 := blk_frozen BK159.out 1) | ((with_reducible refine gate_callee (f := 26) rfl ?_); refine goesL_ (some 17) rfl rfl Try.func26 (by kernel_rfl) rfl #[.agg #[.slice A0_0 l0_0.length c0_0, .int .i64 a0_1]] rfl (by (try simp only [List.map_toArray, List.map_cons, List.map_nil]); first | done | rfl | (simp only [List.length_drop, List.length_take]; rfl)) ?_; (with_reducible refine (laws_toDisk.calls k _ _ l0_0 a0_1 t161 t164 _ ?side1 ?side2 A7.out).mono ?_); (case side1 => repeat (first | exact (Kd.C_below HR0_0.out HB.out) | (with_reducible refine Kd.C_alloc ?_ _) | (with_reducible refine Kd.C_drewN ?_ _) | (with_reducible refine Kd.C_drew ?_))); (case side2 => exact HC0_0.out); rintro e w35 ⟨v162, rfl, ho0, hb⟩; refine ⟨_, rfl, ?_⟩; have HO163 := Aside0.mk (Kd.R_lower ho0 (below_size (bI HB.out))); replace BK159 := Aside0.mk (blk_below (g := gb159) (o := .cells #[.slice A0_0 l0_0.length c0_0, .int .i64 a0_1] 32 (0, 0)) (kI BK159.out) hb); replace HB := Aside0.mk (below_step (bI HB.out) hb); (try clear hb); (try clear hb2); (try clear hk); (try clear hi); (try clear ho0); obtain ⟨Ao36, co36, eo36⟩ := Kd.R_slice HO163.out; subst eo36) | ((with_reducible refine gate_callee (f := 46) rfl ?_); refine goesL_ (some 18) rfl rfl Try.func46 (by kernel_rfl) rfl #[.agg #[.slice Ao36 t161.length co36, .int .i64 t164]] rfl (by (try simp only [List.map_toArray, List.map_cons, List.map_nil]); first | done | rfl | (simp only [List.length_drop, List.length_take]; rfl)) ?_; (with_reducible refine (spec_Sync.calls _ _ t161 t164 t165 t168 _ ?side1 ?side2 A8.out).mono ?_); (case side1 => repeat (first | exact (Kd.R_reads' HO163.out).2.2 | (with_reducible refine Kd.C_alloc ?_ _) | (with_reducible refine Kd.C_drewN ?_ _) | (with_reducible refine Kd.C_drew ?_))); (case side2 => exact (Kd.R_reads' HO163.out).2.1); rintro e w37 ⟨v166, rfl, ho0, hb⟩; refine ⟨_, rfl, ?_⟩; have HO167 := Aside0.mk (Kd.R_lower (Kd.R_new' ho0 (Kd.R_lt (rI HO163.out))) (below_size (bI HB.out))); replace HO163 := Aside0.mk (Kd.R_elder' (rI HO163.out) (Kd.R_base ho0) hb); replace BK159 := Aside0.mk (blk_below (g := gb159) (o := .cells #[.slice A0_0 l0_0.length c0_0, .int .i64 a0_1] 32 (0, 0)) (kI BK159.out) hb); replace HB := Aside0.mk (below_step (bI HB.out) hb); (try clear hb); (try clear hb2); (try clear hk); (try clear hi); (try clear ho0); clear HO163; have n_ := Aside0.mk (Kd.R_mono (ok' := (fun _ => True)) HO167.out (fun k_ hk => trivial)); clear HO167; have HO167 := n_; clear n_) | ((with_reducible refine gate_dst (N := 4) rfl ?_); refine box_event ?hg (N := 4) ?hd (cs := #[.slice none 0 0, .int .i64 0]) (t := 35) ?hr ?_; (case hd => rfl); (case hg => rfl); (case hr => first | (go_simp; done) | (go_simp; rfl)); intro gb169 hg w38 hbox hb; replace HO167 := Aside0.mk (Kd.R_below (rI HO167.out) hb); have BK169 := Aside0.mk (hbox); have GW169 := Aside0.mk ((by rw [hg]; exact (below_size (bI HB.out)) : w.heap.size ≤ gb169)); have GE169 := Aside0.mk ((by rw [hg]; exact (below_size (bI HB.out)) : w.heap.size ≤ gb169)); have GI169 := GeI.mk GE169.out; replace HB := Aside0.mk (below_step (bI HB.out) hb); have NB159_169 := Aside0.mk ((by rw [hg]; exact Nat.ne_of_lt (blk_lt (g := gb159) (o := .cells #[.slice A0_0 l0_0.length c0_0, .int .i64 a0_1] 32 (0, 0)) (kI BK159.out)) : gb159 ≠ gb169)); have NB169_159 := Aside0.mk ((by rw [hg]; exact Nat.ne_of_gt (blk_lt (g := gb159) (o := .cells #[.slice A0_0 l0_0.length c0_0, .int .i64 a0_1] 32 (0, 0)) (kI BK159.out)) : gb169 ≠ gb159)); replace BK159 := Aside0.mk (blk_below (g := gb159) (o := .cells #[.slice A0_0 l0_0.length c0_0, .int .i64 a0_1] 32 (0, 0)) (kI BK159.out) hb); clear hb hbox hg; obtain ⟨Ao39, co39, eo39⟩ := Kd.R_slice HO167.out; subst eo39; have hnb40 := NB169_159.out; have hnc40 := NB159_169.out; have hcz41_0 : w38.cell? ⟨gb169, 0, none⟩ = some (.slice none 0 0) := (blk_cell BK169.out 0).trans rfl; have hcz41_1 : w38.cell? ⟨gb169, 1, none⟩ = some (.int .i64 0) := (blk_cell BK169.out 1).trans rfl; have hfz41_0 := blk_frozen BK169.out 0; have hfz41_1 := blk_frozen BK169.out 1; have hcz42_0 : w38.cell? ⟨gb159, 0, none⟩ = some (.slice A0_0 l0_0.length c0_0) := (blk_cell BK159.out 0).trans rfl; have hcz42_1 : w38.cell? ⟨gb159, 1, none⟩ = some (.int .i64 a0_1) := (blk_cell BK159.out 1).trans rfl; have hfz42_0 := blk_frozen BK159.out 0; have hfz42_1 := blk_frozen BK159.out 1) | ((with_reducible refine gate_callee (f := 26) rfl ?_); refine goesL_ (some 20) rfl rfl Try.func26 (by kernel_rfl) rfl #[.agg #[.slice A0_0 l0_0.length c0_0, .int .i64 a0_1]] rfl (by (try simp only [List.map_toArray, List.map_cons, List.map_nil]); first | done | rfl | (simp only [List.length_drop, List.length_take]; rfl)) ?_; (with_reducible refine (laws_toDisk.calls k _ _ l0_0 a0_1 t170 t173 _ ?side1 ?side2 A9.out).mono ?_); (case side1 => exact Kd.C_below HR0_0.out (bI HB.out)); (case side2 => exact HC0_0.out); rintro e w43 ⟨v171, rfl, ho0, hb⟩; refine ⟨_, rfl, ?_⟩; have HO172 := Aside0.mk (Kd.R_lower (Kd.R_new' ho0 (Kd.R_lt (rI (Kd.R_mono (Kd.R_far (p := ⟨gb169, 1, none⟩) (Kd.R_far (p := ⟨gb169, 0, none⟩) (Kd.R_types HO167.out BK169.out (by decide)) (fun _ hk => hk.2) (.slice Ao39 t165.length co39)) (fun _ hk => hk.2) (.int .i64 t168)) (fun _ h_ => h_.1))))) (below_size (bI HB.out))); replace HO167 := Aside0.mk (Kd.R_elder' (rI (Kd.R_mono (Kd.R_far (p := ⟨gb169, 1, none⟩) (Kd.R_far (p := ⟨gb169, 0, none⟩) (Kd.R_types HO167.out BK169.out (by decide)) (fun _ hk => hk.2) (.slice Ao39 t165.length co39)) (fun _ hk => hk.2) (.int .i64 t168)) (fun _ h_ => h_.1))) (Kd.R_base ho0) hb); replace BK159 := Aside0.mk (blk_below (g := gb159) (o := .cells #[.slice A0_0 l0_0.length c0_0, .int .i64 a0_1] 32 (0, 0)) (by (with_reducible repeat (first | refine blk_drewN ?_ _ | refine blk_drew ?_ | refine blk_alloc ?_ _)); refine blk_far ?_ NB159_169.out _; (with_reducible repeat (first | refine blk_drewN ?_ _ | refine blk_drew ?_ | refine blk_alloc ?_ _)); refine blk_far ?_ NB159_169.out _; (with_reducible repeat (first | refine blk_drewN ?_ _ | refine blk_drew ?_ | refine blk_alloc ?_ _)); exact BK159.out) hb); replace BK169 := Aside0.mk (blk_below (g := gb169) (o := .cells #[.slice Ao39 t165.length co39, .int .i64 t168] 35 (0, 0)) (by (with_reducible repeat (first | refine blk_drewN ?_ _ | refine blk_drew ?_ | refine blk_alloc ?_ _)); refine blk_put (cs := #[.slice Ao39 t165.length co39, .int .i64 0]) ?_ 1 _ rfl; (with_reducible repeat (first | refine blk_drewN ?_ _ | refine blk_drew ?_ | refine blk_alloc ?_ _)); refine blk_put (cs := #[.slice none 0 0, .int .i64 0]) ?_ 0 _ rfl; (with_reducible repeat (first | refine blk_drewN ?_ _ | refine blk_drew ?_ | refine blk_alloc ?_ _)); exact BK169.out) hb); replace HB := Aside0.mk (below_step (bI HB.out) hb); (try clear hb); (try clear hb2); (try clear hk); (try clear hi); (try clear ho0)) | ((with_reducible refine gate_dst (N := 5) rfl ?_); refine box_event ?hg (N := 5) ?hd (cs := #[.slice none 0 0, .int .i64 0]) (t := 35) ?hr ?_; (case hd => rfl); (case hg => rfl); (case hr => first | (go_simp; done) | (go_simp; rfl)); intro gb174 hg w44 hbox hb; replace HO167 := Aside0.mk (Kd.R_below (rI HO167.out) hb); replace HO172 := Aside0.mk (Kd.R_below (rI HO172.out) hb); have BK174 := Aside0.mk (hbox); have GW174 := Aside0.mk ((by rw [hg]; exact (below_size (bI HB.out)) : w.heap.size ≤ gb174)); have GE174 := Aside0.mk ((by rw [hg]; exact (below_size (bI HB.out)) : w.heap.size ≤ gb174)); have GI174 := GeI.mk GE174.out; replace HB := Aside0.mk (below_step (bI HB.out) hb); have NB159_174 := Aside0.mk ((by rw [hg]; exact Nat.ne_of_lt (blk_lt (g := gb159) (o := .cells #[.slice A0_0 l0_0.length c0_0, .int .i64 a0_1] 32 (0, 0)) (kI BK159.out)) : gb159 ≠ gb174)); have NB174_159 := Aside0.mk ((by rw [hg]; exact Nat.ne_of_gt (blk_lt (g := gb159) (o := .cells #[.slice A0_0 l0_0.length c0_0, .int .i64 a0_1] 32 (0, 0)) (kI BK159.out)) : gb174 ≠ gb159)); replace BK159 := Aside0.mk (blk_below (g := gb159) (o := .cells #[.slice A0_0 l0_0.length c0_0, .int .i64 a0_1] 32 (0, 0)) (kI BK159.out) hb); have NB169_174 := Aside0.mk ((by rw [hg]; exact Nat.ne_of_lt (blk_lt (g := gb169) (o := .cells #[.slice Ao39 t165.length co39, .int .i64 t168] 35 (0, 0)) (kI BK169.out)) : gb169 ≠ gb174)); have NB174_169 := Aside0.mk ((by rw [hg]; exact Nat.ne_of_gt (blk_lt (g := gb169) (o := .cells #[.slice Ao39 t165.length co39, .int .i64 t168] 35 (0, 0)) (kI BK169.out)) : gb174 ≠ gb169)); replace BK169 := Aside0.mk (blk_below (g := gb169) (o := .cells #[.slice Ao39 t165.length co39, .int .i64 t168] 35 (0, 0)) (kI BK169.out) hb); clear hb hbox hg; obtain ⟨Ao45, co45, eo45⟩ := Kd.R_slice HO172.out; subst eo45; have hnb46 := NB174_159.out; have hnc46 := NB159_174.out; have hnb47 := NB174_169.out; have hnc47 := NB169_174.out; have hcz48_0 : w44.cell? ⟨gb174, 0, none⟩ = some (.slice none 0 0) := (blk_cell BK174.out 0).trans rfl; have hcz48_1 : w44.cell? ⟨gb174, 1, none⟩ = some (.int .i64 0) := (blk_cell BK174.out 1).trans rfl; have hfz48_0 := blk_frozen BK174.out 0; have hfz48_1 := blk_frozen BK174.out 1) | ((with_reducible refine gate_callee (f := 47) rfl ?_); refine goesL_ (some 22) rfl rfl Try.func47 (by kernel_rfl) rfl #[.agg #[.slice Ao45 t170.length co45, .int .i64 t173]] rfl (by (try simp only [List.map_toArray, List.map_cons, List.map_nil]); first | done | rfl | (simp only [List.length_drop, List.length_take]; rfl)) ?_; (with_reducible refine (impl_Sync.calls _ _ t170 t173 t175 t178 _ ?side1 ?side2 A10.out).mono ?_); (case side1 => refine (Kd.R_reads' (e := 5) (base := w.heap.size) (ok := fun k_ => (True ∧ some k_ ≠ (.slice Ao39 t165.length co39 : Value).ownBlock)) (n := t170.length) (c := co45) ?_).2.2; exact (rI (Kd.R_mono (Kd.R_far (p := ⟨gb174, 1, none⟩) (Kd.R_far (p := ⟨gb174, 0, none⟩) (Kd.R_types HO172.out BK174.out (by decide)) (fun _ hk => hk.2) (.slice Ao45 t170.length co45)) (fun _ hk => hk.2) (.int .i64 t173)) (fun _ h_ => h_.1)))); (case side2 => exact (Kd.R_reads' HO172.out).2.1); rintro e w49 ⟨v176, rfl, ho0, hb⟩; refine ⟨_, rfl, ?_⟩; have HO177 := Aside0.mk (Kd.R_lower (Kd.R_new' (Kd.R_new' ho0 (Kd.R_lt (rI (Kd.R_mono (Kd.R_far (p := ⟨gb174, 1, none⟩) (Kd.R_far (p := ⟨gb174, 0, none⟩) (Kd.R_types HO167.out BK174.out (by decide)) (fun _ hk => hk.2) (.slice Ao45 t170.length co45)) (fun _ hk => hk.2) (.int .i64 t173)) (fun _ h_ => h_.1))))) (Kd.R_lt (rI (Kd.R_mono (Kd.R_far (p := ⟨gb174, 1, none⟩) (Kd.R_far (p := ⟨gb174, 0, none⟩) (Kd.R_types HO172.out BK174.out (by decide)) (fun _ hk => hk.2) (.slice Ao45 t170.length co45)) (fun _ hk => hk.2) (.int .i64 t173)) (fun _ h_ => h_.1))))) (below_size (bI HB.out))); replace HO167 := Aside0.mk (Kd.R_elder' (rI (Kd.R_mono (Kd.R_far (p := ⟨gb174, 1, none⟩) (Kd.R_far (p := ⟨gb174, 0, none⟩) (Kd.R_types HO167.out BK174.out (by decide)) (fun _ hk => hk.2) (.slice Ao45 t170.length co45)) (fun _ hk => hk.2) (.int .i64 t173)) (fun _ h_ => h_.1))) (Kd.R_base ho0) hb); replace HO172 := Aside0.mk (Kd.R_elder' (rI (Kd.R_mono (Kd.R_far (p := ⟨gb174, 1, none⟩) (Kd.R_far (p := ⟨gb174, 0, none⟩) (Kd.R_types HO172.out BK174.out (by decide)) (fun _ hk => hk.2) (.slice Ao45 t170.length co45)) (fun _ hk => hk.2) (.int .i64 t173)) (fun _ h_ => h_.1))) (Kd.R_base ho0) hb); replace BK159 := Aside0.mk (blk_below (g := gb159) (o := .cells #[.slice A0_0 l0_0.length c0_0, .int .i64 a0_1] 32 (0, 0)) (by (with_reducible repeat (first | refine blk_drewN ?_ _ | refine blk_drew ?_ | refine blk_alloc ?_ _)); refine blk_far ?_ NB159_174.out _; (with_reducible repeat (first | refine blk_drewN ?_ _ | refine blk_drew ?_ | refine blk_alloc ?_ _)); refine blk_far ?_ NB159_174.out _; (with_reducible repeat (first | refine blk_drewN ?_ _ | refine blk_drew ?_ | refine blk_alloc ?_ _)); exact BK159.out) hb); replace BK169 := Aside0.mk (blk_below (g := gb169) (o := .cells #[.slice Ao39 t165.length co39, .int .i64 t168] 35 (0, 0)) (by (with_reducible repeat (first | refine blk_drewN ?_ _ | refine blk_drew ?_ | refine blk_alloc ?_ _)); refine blk_far ?_ NB169_174.out _; (with_reducible repeat (first | refine blk_drewN ?_ _ | refine blk_drew ?_ | refine blk_alloc ?_ _)); refine blk_far ?_ NB169_174.out _; (with_reducible repeat (first | refine blk_drewN ?_ _ | refine blk_drew ?_ | refine blk_alloc ?_ _)); exact BK169.out) hb); replace BK174 := Aside0.mk (blk_below (g := gb174) (o := .cells #[.slice Ao45 t170.length co45, .int .i64 t173] 35 (0, 0)) (by (with_reducible repeat (first | refine blk_drewN ?_ _ | refine blk_drew ?_ | refine blk_alloc ?_ _)); refine blk_put (cs := #[.slice Ao45 t170.length co45, .int .i64 0]) ?_ 1 _ rfl; (with_reducible repeat (first | refine blk_drewN ?_ _ | refine blk_drew ?_ | refine blk_alloc ?_ _)); refine blk_put (cs := #[.slice none 0 0, .int .i64 0]) ?_ 0 _ rfl; (with_reducible repeat (first | refine blk_drewN ?_ _ | refine blk_drew ?_ | refine blk_alloc ?_ _)); exact BK174.out) hb); replace HB := Aside0.mk (below_step (bI HB.out) hb); (try clear hb); (try clear hb2); (try clear hk); (try clear hi); (try clear ho0)) | ((with_reducible refine gate_dst (N := 6) rfl ?_); refine box_event ?hg (N := 6) ?hd (cs := #[.slice none 0 0, .int .i64 0]) (t := 35) ?hr ?_; (case hd => rfl); (case hg => rfl); (case hr => first | (go_simp; done) | (go_simp; rfl)); intro gb179 hg w50 hbox hb; replace HO167 := Aside0.mk (Kd.R_below (rI HO167.out) hb); replace HO172 := Aside0.mk (Kd.R_below (rI HO172.out) hb); replace HO177 := Aside0.mk (Kd.R_below (rI HO177.out) hb); have BK179 := Aside0.mk (hbox); have GW179 := Aside0.mk ((by rw [hg]; exact (below_size (bI HB.out)) : w.heap.size ≤ gb179)); have GE179 := Aside0.mk ((by rw [hg]; exact (below_size (bI HB.out)) : w.heap.size ≤ gb179)); have GI179 := GeI.mk GE179.out; replace HB := Aside0.mk (below_step (bI HB.out) hb); have NB159_179 := Aside0.mk ((by rw [hg]; exact Nat.ne_of_lt (blk_lt (g := gb159) (o := .cells #[.slice A0_0 l0_0.length c0_0, .int .i64 a0_1] 32 (0, 0)) (kI BK159.out)) : gb159 ≠ gb179)); have NB179_159 := Aside0.mk ((by rw [hg]; exact Nat.ne_of_gt (blk_lt (g := gb159) (o := .cells #[.slice A0_0 l0_0.length c0_0, .int .i64 a0_1] 32 (0, 0)) (kI BK159.out)) : gb179 ≠ gb159)); replace BK159 := Aside0.mk (blk_below (g := gb159) (o := .cells #[.slice A0_0 l0_0.length c0_0, .int .i64 a0_1] 32 (0, 0)) (kI BK159.out) hb); have NB169_179 := Aside0.mk ((by rw [hg]; exact Nat.ne_of_lt (blk_lt (g := gb169) (o := .cells #[.slice Ao39 t165.length co39, .int .i64 t168] 35 (0, 0)) (kI BK169.out)) : gb169 ≠ gb179)); have NB179_169 := Aside0.mk ((by rw [hg]; exact Nat.ne_of_gt (blk_lt (g := gb169) (o := .cells #[.slice Ao39 t165.length co39, .int .i64 t168] 35 (0, 0)) (kI BK169.out)) : gb179 ≠ gb169)); replace BK169 := Aside0.mk (blk_below (g := gb169) (o := .cells #[.slice Ao39 t165.length co39, .int .i64 t168] 35 (0, 0)) (kI BK169.out) hb); have NB174_179 := Aside0.mk ((by rw [hg]; exact Nat.ne_of_lt (blk_lt (g := gb174) (o := .cells #[.slice Ao45 t170.length co45, .int .i64 t173] 35 (0, 0)) (kI BK174.out)) : gb174 ≠ gb179)); have NB179_174 := Aside0.mk ((by rw [hg]; exact Nat.ne_of_gt (blk_lt (g := gb174) (o := .cells #[.slice Ao45 t170.length co45, .int .i64 t173] 35 (0, 0)) (kI BK174.out)) : gb179 ≠ gb174)); replace BK174 := Aside0.mk (blk_below (g := gb174) (o := .cells #[.slice Ao45 t170.length co45, .int .i64 t173] 35 (0, 0)) (kI BK174.out) hb); clear hb hbox hg; obtain ⟨Ao51, co51, eo51⟩ := Kd.R_slice HO177.out; subst eo51; have hnb52 := NB179_159.out; have hnc52 := NB159_179.out; have hnb53 := NB179_169.out; have hnc53 := NB169_179.out; have hnb54 := NB179_174.out; have hnc54 := NB174_179.out; have hcz55_0 : w50.cell? ⟨gb179, 0, none⟩ = some (.slice none 0 0) := (blk_cell BK179.out 0).trans rfl; have hcz55_1 : w50.cell? ⟨gb179, 1, none⟩ = some (.int .i64 0) := (blk_cell BK179.out 1).trans rfl; have hfz55_0 := blk_frozen BK179.out 0; have hfz55_1 := blk_frozen BK179.out 1; have hcz56_0 : w50.cell? ⟨gb169, 0, none⟩ = some (.slice Ao39 t165.length co39) := (blk_cell BK169.out 0).trans rfl; have hcz56_1 : w50.cell? ⟨gb169, 1, none⟩ = some (.int .i64 t168) := (blk_cell BK169.out 1).trans rfl; have hfz56_0 := blk_frozen BK169.out 0; have hfz56_1 := blk_frozen BK169.out 1) | ((with_reducible refine gate_callee (f := 28) rfl ?_); refine goesL_ (some 25) rfl rfl Try.func28 (by kernel_rfl) rfl #[.agg #[.slice Ao51 t175.length co51, .int .i64 t178], .agg #[.slice Ao39 t165.length co39, .int .i64 t168]] rfl (by (try simp only [List.map_toArray, List.map_cons, List.map_nil]); first | done | rfl | (simp only [List.length_drop, List.length_take]; rfl)) ?_; (with_reducible refine (laws_eqDisk.calls k _ _ t175 t178 _ _ t165 t168 true _ ?side1 ?side2 ?side3 ?side4 A11.out).mono ?_); (case side1 => refine (Kd.R_reads' (e := 5) (base := w.heap.size) (ok := fun k_ => ((True ∧ some k_ ≠ (.slice Ao39 t165.length co39 : Value).ownBlock) ∧ some k_ ≠ (.slice Ao45 t170.length co45 : Value).ownBlock)) (n := t175.length) (c := co51) ?_).2.2; exact (rI (Kd.R_mono (Kd.R_far (p := ⟨gb179, 1, none⟩) (Kd.R_far (p := ⟨gb179, 0, none⟩) (Kd.R_types HO177.out BK179.out (by decide)) (fun _ hk => hk.2) (.slice Ao51 t175.length co51)) (fun _ hk => hk.2) (.int .i64 t178)) (fun _ h_ => h_.1)))); (case side2 => exact (Kd.R_reads' HO177.out).2.1); (case side3 => refine (Kd.R_reads' (e := 5) (base := w.heap.size) (ok := fun k_ => ((True ∧ some k_ ≠ (.slice Ao45 t170.length co45 : Value).ownBlock) ∧ some k_ ≠ (.slice Ao51 t175.length co51 : Value).ownBlock)) (n := t165.length) (c := co39) ?_).2.2; exact (rI (Kd.R_mono (Kd.R_far (p := ⟨gb179, 1, none⟩) (Kd.R_far (p := ⟨gb179, 0, none⟩) (Kd.R_types HO167.out BK179.out (by decide)) (fun _ hk => hk.2) (.slice Ao51 t175.length co51)) (fun _ hk => hk.2) (.int .i64 t178)) (fun _ h_ => h_.1)))); (case side4 => exact (Kd.R_reads' HO167.out).2.1); rintro e w57 ⟨rfl, hb⟩; refine ⟨_, rfl, ?_⟩; replace HO167 := Aside0.mk (Kd.R_below (rI (Kd.R_mono (Kd.R_far (p := ⟨gb179, 1, none⟩) (Kd.R_far (p := ⟨gb179, 0, none⟩) (Kd.R_types HO167.out BK179.out (by decide)) (fun _ hk => hk.2) (.slice Ao51 t175.length co51)) (fun _ hk => hk.2) (.int .i64 t178)) (fun _ h_ => h_.1))) hb); replace HO172 := Aside0.mk (Kd.R_below (rI (Kd.R_mono (Kd.R_far (p := ⟨gb179, 1, none⟩) (Kd.R_far (p := ⟨gb179, 0, none⟩) (Kd.R_types HO172.out BK179.out (by decide)) (fun _ hk => hk.2) (.slice Ao51 t175.length co51)) (fun _ hk => hk.2) (.int .i64 t178)) (fun _ h_ => h_.1))) hb); replace HO177 := Aside0.mk (Kd.R_below (rI (Kd.R_mono (Kd.R_far (p := ⟨gb179, 1, none⟩) (Kd.R_far (p := ⟨gb179, 0, none⟩) (Kd.R_types HO177.out BK179.out (by decide)) (fun _ hk => hk.2) (.slice Ao51 t175.length co51)) (fun _ hk => hk.2) (.int .i64 t178)) (fun _ h_ => h_.1))) hb); replace BK159 := Aside0.mk (blk_below (g := gb159) (o := .cells #[.slice A0_0 l0_0.length c0_0, .int .i64 a0_1] 32 (0, 0)) (by (with_reducible repeat (first | refine blk_drewN ?_ _ | refine blk_drew ?_ | refine blk_alloc ?_ _)); refine blk_far ?_ NB159_179.out _; (with_reducible repeat (first | refine blk_drewN ?_ _ | refine blk_drew ?_ | refine blk_alloc ?_ _)); refine blk_far ?_ NB159_179.out _; (with_reducible repeat (first | refine blk_drewN ?_ _ | refine blk_drew ?_ | refine blk_alloc ?_ _)); exact BK159.out) hb); replace BK169 := Aside0.mk (blk_below (g := gb169) (o := .cells #[.slice Ao39 t165.length co39, .int .i64 t168] 35 (0, 0)) (by (with_reducible repeat (first | refine blk_drewN ?_ _ | refine blk_drew ?_ | refine blk_alloc ?_ _)); refine blk_far ?_ NB169_179.out _; (with_reducible repeat (first | refine blk_drewN ?_ _ | refine blk_drew ?_ | refine blk_alloc ?_ _)); refine blk_far ?_ NB169_179.out _; (with_reducible repeat (first | refine blk_drewN ?_ _ | refine blk_drew ?_ | refine blk_alloc ?_ _)); exact BK169.out) hb); replace BK174 := Aside0.mk (blk_below (g := gb174) (o := .cells #[.slice Ao45 t170.length co45, .int .i64 t173] 35 (0, 0)) (by (with_reducible repeat (first | refine blk_drewN ?_ _ | refine blk_drew ?_ | refine blk_alloc ?_ _)); refine blk_far ?_ NB174_179.out _; (with_reducible repeat (first | refine blk_drewN ?_ _ | refine blk_drew ?_ | refine blk_alloc ?_ _)); refine blk_far ?_ NB174_179.out _; (with_reducible repeat (first | refine blk_drewN ?_ _ | refine blk_drew ?_ | refine blk_alloc ?_ _)); exact BK174.out) hb); replace BK179 := Aside0.mk (blk_below (g := gb179) (o := .cells #[.slice Ao51 t175.length co51, .int .i64 t178] 35 (0, 0)) (by (with_reducible repeat (first | refine blk_drewN ?_ _ | refine blk_drew ?_ | refine blk_alloc ?_ _)); refine blk_put (cs := #[.slice Ao51 t175.length co51, .int .i64 0]) ?_ 1 _ rfl; (with_reducible repeat (first | refine blk_drewN ?_ _ | refine blk_drew ?_ | refine blk_alloc ?_ _)); refine blk_put (cs := #[.slice none 0 0, .int .i64 0]) ?_ 0 _ rfl; (with_reducible repeat (first | refine blk_drewN ?_ _ | refine blk_drew ?_ | refine blk_alloc ?_ _)); exact BK179.out) hb); replace HB := Aside0.mk (below_step (bI HB.out) hb); (try clear hb); (try clear hb2); (try clear hk); (try clear hi)))
      replace HO167 := Aside0.mk (Kd.R_drew HO167.out)
      replace HO172 := Aside0.mk (Kd.R_drew HO172.out)
      replace HO177 := Aside0.mk (Kd.R_drew HO177.out)
      replace BK159 := Aside0.mk (blk_drew BK159.out)
      replace BK169 := Aside0.mk (blk_drew BK169.out)
      replace BK174 := Aside0.mk (blk_drew BK174.out)
      replace BK179 := Aside0.mk (blk_drew BK179.out)
      replace HB := Aside0.mk (below_drew1 HB.out)
      refine start_ (n := 5) (S := fun w' => w'.cell? ⟨gb174, 0, none⟩ = some (.slice Ao45 t170.length co45) ∧ w'.cell? ⟨gb174, 1, none⟩ = some (.int .i64 t173) ∧ w'.cell? ⟨gb159, 0, none⟩ = some (.slice A0_0 l0_0.length c0_0) ∧ w'.cell? ⟨gb159, 1, none⟩ = some (.int .i64 a0_1)) (ds := []) #[false, false, false, false, false] (by kernel_rfl) rfl rfl ⟨(blk_cell BK174.out 0).trans rfl, (blk_cell BK174.out 1).trans rfl, (blk_cell BK159.out 0).trans rfl, (blk_cell BK159.out 1).trans rfl⟩ (fun hHeld => ?_)
      generalize w57.drew = w58 at HO167 HO172 HO177 BK159 BK169 BK174 BK179 HB hHeld ⊢
      refine take_ (i := 0) (N := some 27) (v := ?_) (a' := ?_) #[true, false, false, false, false] rfl rfl (by kernel_rfl) (fun _ _ _ h => h) (Or.inl ⟨by rfl, ?_⟩) hHeld ?_ ?_
      rotate_left
      · rintro w' ⟨s0, s1, s2, s3⟩
        go_simp
        with_reducible rfl
      rotate_left
      · simp only [Act.put, List.setIfInBounds_toArray, List.set_cons_zero, List.set_cons_succ, i64_w, i32_w]
        rfl
      refine take_ (i := 1) (N := some 28) (v := ?_) (a' := ?_) #[true, true, false, false, false] rfl rfl (by kernel_rfl) (fun _ _ _ h => h) (Or.inl ⟨by rfl, ?_⟩) hHeld ?_ ?_
      rotate_left
      · rintro w' ⟨s0, s1, s2, s3⟩
        go_simp
        with_reducible rfl
      rotate_left
      · simp only [Act.put, List.setIfInBounds_toArray, List.set_cons_zero, List.set_cons_succ, i64_w, i32_w]
        rfl
      refine one_ (i := 2) (N := some 29) #[true, true, true, false, false] rfl rfl (by kernel_rfl) (by decide) (fun K hK => ?_)
      refine goes_ Try.func26 (by kernel_rfl) rfl #[.agg #[.slice A0_0 l0_0.length c0_0, .int .i64 a0_1]] (by rfl) rfl rfl (by (try simp only [List.map_toArray, List.map_cons, List.map_nil]); first | done | rfl | (simp only [List.length_drop, List.length_take]; rfl)) ?_
      with_reducible refine (laws_toDisk.calls k _ _ l0_0 a0_1 t181 t184 _ ?side1 ?side2 A13.out).mono ?_
      (case side1 => repeat (first | exact (Kd.C_below HR0_0.out HB.out) | (with_reducible refine Kd.C_alloc ?_ _) | (with_reducible refine Kd.C_drewN ?_ _) | (with_reducible refine Kd.C_drew ?_)))
      (case side2 => exact HC0_0.out)
      rintro e w59 ⟨v182, rfl, ho0, hb⟩
      refine ⟨_, rfl, ?_⟩
      have HO183 := Aside0.mk (Kd.R_lower (Kd.R_new' (Kd.R_new' (Kd.R_new' ho0 (Kd.R_lt (rI HO167.out))) (Kd.R_lt (rI HO172.out))) (Kd.R_lt (rI HO177.out))) (below_size (bI HB.out)))
      replace HO167 := Aside0.mk (Kd.R_elder' (rI HO167.out) (Kd.R_base ho0) hb)
      replace HO172 := Aside0.mk (Kd.R_elder' (rI HO172.out) (Kd.R_base ho0) hb)
      replace HO177 := Aside0.mk (Kd.R_elder' (rI HO177.out) (Kd.R_base ho0) hb)
      replace BK159 := Aside0.mk (blk_below (g := gb159) (o := .cells #[.slice A0_0 l0_0.length c0_0, .int .i64 a0_1] 32 (0, 0)) (kI BK159.out) hb)
      replace BK169 := Aside0.mk (blk_below (g := gb169) (o := .cells #[.slice Ao39 t165.length co39, .int .i64 t168] 35 (0, 0)) (kI BK169.out) hb)
      replace BK174 := Aside0.mk (blk_below (g := gb174) (o := .cells #[.slice Ao45 t170.length co45, .int .i64 t173] 35 (0, 0)) (kI BK174.out) hb)
      replace BK179 := Aside0.mk (blk_below (g := gb179) (o := .cells #[.slice Ao51 t175.length co51, .int .i64 t178] 35 (0, 0)) (kI BK179.out) hb)
      replace HB := Aside0.mk (below_step (bI HB.out) hb)
      (try clear hb)
      (try clear hb2)
      (try clear hk)
      (try clear hi)
      (try clear ho0)
      obtain ⟨Ao60, co60, eo60⟩ := Kd.R_slice HO183.out
      (first | subst eo60 | (injection eo60 with f1_ f2_ f3_; have f4_ := f1_.symm; have f5_ := f3_.symm; clear f1_ f2_ f3_; subst f4_; subst f5_))
      refine hK.out _ _ ⟨(blk_cell BK174.out 0).trans rfl, (blk_cell BK174.out 1).trans rfl, (blk_cell BK159.out 0).trans rfl, (blk_cell BK159.out 1).trans rfl⟩ (fun hHeld => ?_)
      clear hK K
      refine norm_ (a' := ?_) ?_ ?_
      rotate_left
      · show Act.put _ (some 29) _ = _
        simp only [Act.put, List.setIfInBounds_toArray, List.set_cons_zero, List.set_cons_succ, i64_w, i32_w]
        rfl
      refine one_ (i := 3) (N := some 30) #[true, true, true, true, false] rfl rfl (by kernel_rfl) (by decide) (fun K hK => ?_)
      refine goes_ Try.func28 (by kernel_rfl) rfl #[.agg #[.slice Ao45 t170.length co45, .int .i64 t173], .agg #[.slice Ao60 t181.length co60, .int .i64 t184]] (by rfl) rfl rfl (by (try simp only [List.map_toArray, List.map_cons, List.map_nil]); first | done | rfl | (simp only [List.length_drop, List.length_take]; rfl)) ?_
      with_reducible refine (laws_eqDisk.calls k _ _ t170 t173 _ _ t181 t184 true _ ?side1 ?side2 ?side3 ?side4 A14.out).mono ?_
      (case side1 => repeat (first | exact (Kd.R_reads' HO172.out).2.2 | (with_reducible refine Kd.C_alloc ?_ _) | (with_reducible refine Kd.C_drewN ?_ _) | (with_reducible refine Kd.C_drew ?_)))
      (case side2 => exact (Kd.R_reads' HO172.out).2.1)
      (case side3 => repeat (first | exact (Kd.R_reads' HO183.out).2.2 | (with_reducible refine Kd.C_alloc ?_ _) | (with_reducible refine Kd.C_drewN ?_ _) | (with_reducible refine Kd.C_drew ?_)))
      (case side4 => exact (Kd.R_reads' HO183.out).2.1)
      rintro e w61 ⟨rfl, hb⟩
      refine ⟨_, rfl, ?_⟩
      replace HO167 := Aside0.mk (Kd.R_below (rI HO167.out) hb)
      replace HO172 := Aside0.mk (Kd.R_below (rI HO172.out) hb)
      replace HO177 := Aside0.mk (Kd.R_below (rI HO177.out) hb)
      replace HO183 := Aside0.mk (Kd.R_below (rI HO183.out) hb)
      replace BK159 := Aside0.mk (blk_below (g := gb159) (o := .cells #[.slice A0_0 l0_0.length c0_0, .int .i64 a0_1] 32 (0, 0)) (kI BK159.out) hb)
      replace BK169 := Aside0.mk (blk_below (g := gb169) (o := .cells #[.slice Ao39 t165.length co39, .int .i64 t168] 35 (0, 0)) (kI BK169.out) hb)
      replace BK174 := Aside0.mk (blk_below (g := gb174) (o := .cells #[.slice Ao45 t170.length co45, .int .i64 t173] 35 (0, 0)) (kI BK174.out) hb)
      replace BK179 := Aside0.mk (blk_below (g := gb179) (o := .cells #[.slice Ao51 t175.length co51, .int .i64 t178] 35 (0, 0)) (kI BK179.out) hb)
      replace HB := Aside0.mk (below_step (bI HB.out) hb)
      (try clear hb)
      (try clear hb2)
      (try clear hk)
      (try clear hi)
      refine hK.out _ _ ⟨(blk_cell BK174.out 0).trans rfl, (blk_cell BK174.out 1).trans rfl, (blk_cell BK159.out 0).trans rfl, (blk_cell BK159.out 1).trans rfl⟩ (fun hHeld => ?_)
      clear hK K
      refine norm_ (a' := ?_) ?_ ?_
      rotate_left
      · show Act.put _ (some 30) _ = _
        simp only [Act.put, List.setIfInBounds_toArray, List.set_cons_zero, List.set_cons_succ, i64_w, i32_w]
        rfl
      refine pure_ (i := 4) (N := some 31) (v := ?_) (a' := ?_) #[true, true, true, true, true] rfl rfl (by kernel_rfl) (fun _ _ _ h => h) (Or.inl ⟨by rfl, ?_⟩) ?_ ?_
      rotate_left
      · intro w'
        go_simp
        with_reducible rfl
      rotate_left
      · simp only [Act.put, List.setIfInBounds_toArray, List.set_cons_zero, List.set_cons_succ, i64_w, i32_w]
        rfl
      refine done_ (by kernel_rfl) ?_
      have hcz62_0 : w61.cell? ⟨gb174, 0, none⟩ = some (.slice Ao45 t170.length co45) := (blk_cell BK174.out 0).trans rfl
      have hcz62_1 : w61.cell? ⟨gb174, 1, none⟩ = some (.int .i64 t173) := (blk_cell BK174.out 1).trans rfl
      have hfz62_0 := blk_frozen BK174.out 0
      have hfz62_1 := blk_frozen BK174.out 1
      clear HO183
      have n_ := Aside0.mk (Kd.R_mono (ok' := (fun k_ => some k_ ≠ (.slice Ao45 t170.length co45 : Value).ownBlock ∧ some k_ ≠ (.slice Ao51 t175.length co51 : Value).ownBlock)) HO167.out (fun k_ hk => ⟨hk.1.1.2, hk.1.2⟩))
      clear HO167
      have HO167 := n_
      clear n_
      have n_ := Aside0.mk (Kd.R_mono (ok' := (fun k_ => some k_ ≠ (.slice Ao39 t165.length co39 : Value).ownBlock ∧ some k_ ≠ (.slice Ao51 t175.length co51 : Value).ownBlock)) HO172.out (fun k_ hk => ⟨hk.1.1.2, hk.1.2⟩))
      clear HO172
      have HO172 := n_
      clear n_
      have n_ := Aside0.mk (Kd.R_mono (ok' := (fun k_ => some k_ ≠ (.slice Ao39 t165.length co39 : Value).ownBlock ∧ some k_ ≠ (.slice Ao45 t170.length co45 : Value).ownBlock)) HO177.out (fun k_ hk => ⟨hk.1.1.2, hk.1.2⟩))
      clear HO177
      have HO177 := n_
      clear n_
      try go_wp2_with (first | ((with_reducible refine gate_callee (f := 48) rfl ?_); refine goesL_ (some 34) rfl rfl Try.func48 (by kernel_rfl) rfl #[.agg #[.slice Ao45 t170.length co45, .int .i64 t173], .int .i64 1] rfl (by (try simp only [List.map_toArray, List.map_cons, List.map_nil]); first | done | rfl | (simp only [List.length_drop, List.length_take]; rfl)) ?_; (with_reducible refine (laws_markDisk.calls k (fun k_ => some k_ = (.slice Ao45 t170.length co45 : Value).ownBlock) (.slice Ao45 t170.length co45) t170 t173 1 t186 t187 w _ ?side1 ?side2 A16.out).mono ?_); (case side1 => exact bI HB.out); (case side2 => exact Kd.R_tight rfl HO172.out); rintro e w63 ⟨rfl, hy0, hb, hkp⟩; refine ⟨_, rfl, ?_⟩; replace BK159 := Aside0.mk (blk_kept (kI BK159.out) hkp (fun hs_ => (fun e_ => (Kd.R_ne HO172.out BK159.out (by decide)) e_) hs_)); replace HO167 := Aside0.mk (Kd.R_mono (ok' := fun k_ => some k_ ≠ (.slice Ao45 t170.length co45 : Value).ownBlock ∧ some k_ ≠ (.slice Ao51 t175.length co51 : Value).ownBlock) (Kd.R_keptB (HO167.out) hkp (fun k_ hk_ hs_ => (hk_.1) hs_)) (fun k_ hk_ => ⟨hk_.1.1, hk_.1.2⟩)); replace BK169 := Aside0.mk (blk_kept (kI BK169.out) hkp (fun hs_ => (fun e_ => (Kd.R_ne HO172.out BK169.out (by decide)) e_) hs_)); replace BK174 := Aside0.mk (blk_kept (kI BK174.out) hkp (fun hs_ => (fun e_ => (Kd.R_ne HO172.out BK174.out (by decide)) e_) hs_)); replace HO177 := Aside0.mk (Kd.R_mono (ok' := fun k_ => some k_ ≠ (.slice Ao39 t165.length co39 : Value).ownBlock ∧ some k_ ≠ (.slice Ao45 t170.length co45 : Value).ownBlock) (Kd.R_keptB (HO177.out) hkp (fun k_ hk_ hs_ => (hk_.2) hs_)) (fun k_ hk_ => ⟨hk_.1.1, hk_.1.2⟩)); replace BK179 := Aside0.mk (blk_kept (kI BK179.out) hkp (fun hs_ => (fun e_ => (Kd.R_ne HO172.out BK179.out (by decide)) e_) hs_)); replace HO172 := Aside0.mk (Kd.R_reok rfl hy0 (fun k_ e_ => HO172.out.1 k_ e_)); replace HB := Aside0.mk (hb); (try clear hb); (try clear hkp); (try clear hy0); have hcz64_0 : w63.cell? ⟨gb179, 0, none⟩ = some (.slice Ao51 t175.length co51) := (blk_cell BK179.out 0).trans rfl; have hcz64_1 : w63.cell? ⟨gb179, 1, none⟩ = some (.int .i64 t178) := (blk_cell BK179.out 1).trans rfl; have hfz64_0 := blk_frozen BK179.out 0; have hfz64_1 := blk_frozen BK179.out 1; have hcz65_0 : w63.cell? ⟨gb169, 0, none⟩ = some (.slice Ao39 t165.length co39) := (blk_cell BK169.out 0).trans rfl; have hcz65_1 : w63.cell? ⟨gb169, 1, none⟩ = some (.int .i64 t168) := (blk_cell BK169.out 1).trans rfl; have hfz65_0 := blk_frozen BK169.out 0; have hfz65_1 := blk_frozen BK169.out 1; clear HO172; have n_ := Aside0.mk (Kd.R_mono (ok' := (fun k_ => some k_ ≠ (.slice Ao51 t175.length co51 : Value).ownBlock)) HO167.out (fun k_ hk => hk.2)); clear HO167; have HO167 := n_; clear n_; have n_ := Aside0.mk (Kd.R_mono (ok' := (fun k_ => some k_ ≠ (.slice Ao39 t165.length co39 : Value).ownBlock)) HO177.out (fun k_ hk => hk.1)); clear HO177; have HO177 := n_; clear n_) | (go_at_call 28; (with_reducible refine (laws_eqDisk.calls k _ _ t175 t178 _ _ t165 t168 true _ ?side1 ?side2 ?side3 ?side4 A18.out).mono ?_); (case side1 => repeat (first | exact (Kd.R_reads' HO177.out).2.2 | (with_reducible refine Kd.C_alloc ?_ _) | (with_reducible refine Kd.C_drewN ?_ _) | (with_reducible refine Kd.C_drew ?_))); (case side2 => exact (Kd.R_reads' HO177.out).2.1); (case side3 => repeat (first | exact (Kd.R_reads' HO167.out).2.2 | (with_reducible refine Kd.C_alloc ?_ _) | (with_reducible refine Kd.C_drewN ?_ _) | (with_reducible refine Kd.C_drew ?_))); (case side4 => exact (Kd.R_reads' HO167.out).2.1); rintro e w66 ⟨rfl, hb⟩; replace HO167 := Aside0.mk (Kd.R_below (rI HO167.out) hb); replace HO177 := Aside0.mk (Kd.R_below (rI HO177.out) hb); replace BK159 := Aside0.mk (blk_below (g := gb159) (o := .cells #[.slice A0_0 l0_0.length c0_0, .int .i64 a0_1] 32 (0, 0)) (kI BK159.out) hb); replace BK169 := Aside0.mk (blk_below (g := gb169) (o := .cells #[.slice Ao39 t165.length co39, .int .i64 t168] 35 (0, 0)) (kI BK169.out) hb); replace BK174 := Aside0.mk (blk_below (g := gb174) (o := .cells #[.slice Ao45 t170.length co45, .int .i64 t173] 35 (0, 0)) (kI BK174.out) hb); replace BK179 := Aside0.mk (blk_below (g := gb179) (o := .cells #[.slice Ao51 t175.length co51, .int .i64 t178] 35 (0, 0)) (kI BK179.out) hb); replace HB := Aside0.mk (below_step (bI HB.out) hb); (try clear hb); (try clear hb2); (try clear hk); (try clear hi); have hcz67_0 : w66.cell? ⟨gb179, 0, none⟩ = some (.slice Ao51 t175.length co51) := (blk_cell BK179.out 0).trans rfl; have hcz67_1 : w66.cell? ⟨gb179, 1, none⟩ = some (.int .i64 t178) := (blk_cell BK179.out 1).trans rfl; have hfz67_0 := blk_frozen BK179.out 0; have hfz67_1 := blk_frozen BK179.out 1) | ((with_reducible refine gate_callee (f := 48) rfl ?_); refine goesL_ (some 45) rfl rfl Try.func48 (by kernel_rfl) rfl #[.agg #[.slice Ao51 t175.length co51, .int .i64 t178], .int .i64 1] rfl (by (try simp only [List.map_toArray, List.map_cons, List.map_nil]); first | done | rfl | (simp only [List.length_drop, List.length_take]; rfl)) ?_; (with_reducible refine (laws_markDisk.calls k (fun k_ => some k_ = (.slice Ao51 t175.length co51 : Value).ownBlock) (.slice Ao51 t175.length co51) t175 t178 1 t189 t190 w _ ?side1 ?side2 A20.out).mono ?_); (case side1 => exact bI HB.out); (case side2 => exact Kd.R_tight rfl HO177.out); rintro e w68 ⟨rfl, hy0, hb, hkp⟩; refine ⟨_, rfl, ?_⟩; replace BK159 := Aside0.mk (blk_kept (kI BK159.out) hkp (fun hs_ => (fun e_ => (Kd.R_ne HO177.out BK159.out (by decide)) e_) hs_)); replace HO167 := Aside0.mk (Kd.R_mono (ok' := fun k_ => some k_ ≠ (.slice Ao51 t175.length co51 : Value).ownBlock) (Kd.R_keptB (HO167.out) hkp (fun k_ hk_ hs_ => (hk_) hs_)) (fun k_ hk_ => hk_.1)); replace BK169 := Aside0.mk (blk_kept (kI BK169.out) hkp (fun hs_ => (fun e_ => (Kd.R_ne HO177.out BK169.out (by decide)) e_) hs_)); replace BK174 := Aside0.mk (blk_kept (kI BK174.out) hkp (fun hs_ => (fun e_ => (Kd.R_ne HO177.out BK174.out (by decide)) e_) hs_)); replace BK179 := Aside0.mk (blk_kept (kI BK179.out) hkp (fun hs_ => (fun e_ => (Kd.R_ne HO177.out BK179.out (by decide)) e_) hs_)); replace HO177 := Aside0.mk (Kd.R_reok rfl hy0 (fun k_ e_ => HO177.out.1 k_ e_)); replace HB := Aside0.mk (hb); (try clear hb); (try clear hkp); (try clear hy0); have hcz69_0 : w68.cell? ⟨gb179, 0, none⟩ = some (.slice Ao51 t175.length co51) := (blk_cell BK179.out 0).trans rfl; have hcz69_1 : w68.cell? ⟨gb179, 1, none⟩ = some (.int .i64 t178) := (blk_cell BK179.out 1).trans rfl; have hfz69_0 := blk_frozen BK179.out 0; have hfz69_1 := blk_frozen BK179.out 1) | ((with_reducible refine gate_callee (f := 49) rfl ?_); refine goesL_ (some 48) rfl rfl Try.func49 (by kernel_rfl) rfl #[.agg #[.slice Ao51 t190.length co51, .int .i64 t178], .int .i64 1] rfl (by (try simp only [List.map_toArray, List.map_cons, List.map_nil]); first | done | (rw [show t190.length = t175.length from (Kd.R_reads' HO177.out).1.symm] <;> rfl) | rfl | (simp only [List.length_drop, List.length_take]; rfl)) ?_; (with_reducible refine (laws_heldDisk.calls k _ _ t190 t178 1 t191 _ ?side1 ?side2 A21.out).mono ?_); (case side1 => repeat (first | exact (Kd.R_reads' HO177.out).2.2 | (with_reducible refine Kd.C_alloc ?_ _) | (with_reducible refine Kd.C_drewN ?_ _) | (with_reducible refine Kd.C_drew ?_))); (case side2 => rw [show t190.length = t175.length from (Kd.R_reads' HO177.out).1.symm]; exact (Kd.R_reads' HO177.out).2.1); rintro e w70 ⟨rfl, hb⟩; refine ⟨_, rfl, ?_⟩; replace HO167 := Aside0.mk (Kd.R_below (rI HO167.out) hb); replace HO177 := Aside0.mk (Kd.R_below (rI HO177.out) hb); replace BK159 := Aside0.mk (blk_below (g := gb159) (o := .cells #[.slice A0_0 l0_0.length c0_0, .int .i64 a0_1] 32 (0, 0)) (kI BK159.out) hb); replace BK169 := Aside0.mk (blk_below (g := gb169) (o := .cells #[.slice Ao39 t165.length co39, .int .i64 t168] 35 (0, 0)) (kI BK169.out) hb); replace BK174 := Aside0.mk (blk_below (g := gb174) (o := .cells #[.slice Ao45 t170.length co45, .int .i64 t173] 35 (0, 0)) (kI BK174.out) hb); replace BK179 := Aside0.mk (blk_below (g := gb179) (o := .cells #[.slice Ao51 t175.length co51, .int .i64 t178] 35 (0, 0)) (kI BK179.out) hb); replace HB := Aside0.mk (below_step (bI HB.out) hb); (try clear hb); (try clear hb2); (try clear hk); (try clear hi); have hcz71_0 : w70.cell? ⟨gb159, 0, none⟩ = some (.slice A0_0 l0_0.length c0_0) := (blk_cell BK159.out 0).trans rfl; have hcz71_1 : w70.cell? ⟨gb159, 1, none⟩ = some (.int .i64 a0_1) := (blk_cell BK159.out 1).trans rfl; have hfz71_0 := blk_frozen BK159.out 0; have hfz71_1 := blk_frozen BK159.out 1) | ((with_reducible refine gate_callee (f := 26) rfl ?_); refine goesL_ (some 55) rfl rfl Try.func26 (by kernel_rfl) rfl #[.agg #[.slice A0_0 l0_0.length c0_0, .int .i64 a0_1]] rfl (by (try simp only [List.map_toArray, List.map_cons, List.map_nil]); first | done | rfl | (simp only [List.length_drop, List.length_take]; rfl)) ?_; (with_reducible refine (laws_toDisk.calls k _ _ l0_0 a0_1 t192 t195 _ ?side1 ?side2 A24.out).mono ?_); (case side1 => repeat (first | exact (Kd.C_below HR0_0.out HB.out) | (with_reducible refine Kd.C_alloc ?_ _) | (with_reducible refine Kd.C_drewN ?_ _) | (with_reducible refine Kd.C_drew ?_))); (case side2 => exact HC0_0.out); rintro e w72 ⟨v193, rfl, ho0, hb⟩; refine ⟨_, rfl, ?_⟩; have HO194 := Aside0.mk (Kd.R_lower (Kd.R_new' (Kd.R_new' ho0 (Kd.R_lt (rI HO167.out))) (Kd.R_lt (rI HO177.out))) (below_size (bI HB.out))); replace HO167 := Aside0.mk (Kd.R_elder' (rI HO167.out) (Kd.R_base ho0) hb); replace HO177 := Aside0.mk (Kd.R_elder' (rI HO177.out) (Kd.R_base ho0) hb); replace BK159 := Aside0.mk (blk_below (g := gb159) (o := .cells #[.slice A0_0 l0_0.length c0_0, .int .i64 a0_1] 32 (0, 0)) (kI BK159.out) hb); replace BK169 := Aside0.mk (blk_below (g := gb169) (o := .cells #[.slice Ao39 t165.length co39, .int .i64 t168] 35 (0, 0)) (kI BK169.out) hb); replace BK174 := Aside0.mk (blk_below (g := gb174) (o := .cells #[.slice Ao45 t170.length co45, .int .i64 t173] 35 (0, 0)) (kI BK174.out) hb); replace BK179 := Aside0.mk (blk_below (g := gb179) (o := .cells #[.slice Ao51 t175.length co51, .int .i64 t178] 35 (0, 0)) (kI BK179.out) hb); replace HB := Aside0.mk (below_step (bI HB.out) hb); (try clear hb); (try clear hb2); (try clear hk); (try clear hi); (try clear ho0); obtain ⟨Ao73, co73, eo73⟩ := Kd.R_slice HO194.out; subst eo73) | ((with_reducible refine gate_callee (f := 47) rfl ?_); refine goesL_ (some 56) rfl rfl Try.func47 (by kernel_rfl) rfl #[.agg #[.slice Ao73 t192.length co73, .int .i64 t195]] rfl (by (try simp only [List.map_toArray, List.map_cons, List.map_nil]); first | done | rfl | (simp only [List.length_drop, List.length_take]; rfl)) ?_; (with_reducible refine (impl_Sync.calls _ _ t192 t195 t196 t199 _ ?side1 ?side2 A25.out).mono ?_); (case side1 => repeat (first | exact (Kd.R_reads' HO194.out).2.2 | (with_reducible refine Kd.C_alloc ?_ _) | (with_reducible refine Kd.C_drewN ?_ _) | (with_reducible refine Kd.C_drew ?_))); (case side2 => exact (Kd.R_reads' HO194.out).2.1); rintro e w74 ⟨v197, rfl, ho0, hb⟩; refine ⟨_, rfl, ?_⟩; have HO198 := Aside0.mk (Kd.R_lower (Kd.R_new' (Kd.R_new' (Kd.R_new' ho0 (Kd.R_lt (rI HO167.out))) (Kd.R_lt (rI HO177.out))) (Kd.R_lt (rI HO194.out))) (below_size (bI HB.out))); replace HO167 := Aside0.mk (Kd.R_elder' (rI HO167.out) (Kd.R_base ho0) hb); replace HO177 := Aside0.mk (Kd.R_elder' (rI HO177.out) (Kd.R_base ho0) hb); replace HO194 := Aside0.mk (Kd.R_elder' (rI HO194.out) (Kd.R_base ho0) hb); replace BK159 := Aside0.mk (blk_below (g := gb159) (o := .cells #[.slice A0_0 l0_0.length c0_0, .int .i64 a0_1] 32 (0, 0)) (kI BK159.out) hb); replace BK169 := Aside0.mk (blk_below (g := gb169) (o := .cells #[.slice Ao39 t165.length co39, .int .i64 t168] 35 (0, 0)) (kI BK169.out) hb); replace BK174 := Aside0.mk (blk_below (g := gb174) (o := .cells #[.slice Ao45 t170.length co45, .int .i64 t173] 35 (0, 0)) (kI BK174.out) hb); replace BK179 := Aside0.mk (blk_below (g := gb179) (o := .cells #[.slice Ao51 t175.length co51, .int .i64 t178] 35 (0, 0)) (kI BK179.out) hb); replace HB := Aside0.mk (below_step (bI HB.out) hb); (try clear hb); (try clear hb2); (try clear hk); (try clear hi); (try clear ho0); clear HO194; have n_ := Aside0.mk (Kd.R_mono (ok' := (fun k_ => some k_ ≠ (.slice Ao51 t175.length co51 : Value).ownBlock ∧ some k_ ≠ (v197 : Value).ownBlock)) HO167.out (fun k_ hk => ⟨hk.1.1, hk.2⟩)); clear HO167; have HO167 := n_; clear n_; have n_ := Aside0.mk (Kd.R_mono (ok' := (fun k_ => some k_ ≠ (.slice Ao39 t165.length co39 : Value).ownBlock ∧ some k_ ≠ (v197 : Value).ownBlock)) HO177.out (fun k_ hk => ⟨hk.1.1, hk.2⟩)); clear HO177; have HO177 := n_; clear n_; have n_ := Aside0.mk (Kd.R_mono (ok' := (fun k_ => some k_ ≠ (.slice Ao39 t165.length co39 : Value).ownBlock ∧ some k_ ≠ (.slice Ao51 t175.length co51 : Value).ownBlock)) HO198.out (fun k_ hk => ⟨hk.1.1.2, hk.1.2⟩)); clear HO198; have HO198 := n_; clear n_) | ((with_reducible refine gate_dst (N := 10) rfl ?_); refine box_event ?hg (N := 10) ?hd (cs := #[.slice none 0 0, .int .i64 0]) (t := 35) ?hr ?_; (case hd => rfl); (case hg => rfl); (case hr => first | (go_simp; done) | (go_simp; rfl)); intro gb200 hg w75 hbox hb; replace HO167 := Aside0.mk (Kd.R_below (rI HO167.out) hb); replace HO177 := Aside0.mk (Kd.R_below (rI HO177.out) hb); replace HO198 := Aside0.mk (Kd.R_below (rI HO198.out) hb); have BK200 := Aside0.mk (hbox); have GW200 := Aside0.mk ((by rw [hg]; exact (below_size (bI HB.out)) : w.heap.size ≤ gb200)); have GE200 := Aside0.mk ((by rw [hg]; exact (below_size (bI HB.out)) : w.heap.size ≤ gb200)); have GI200 := GeI.mk GE200.out; replace HB := Aside0.mk (below_step (bI HB.out) hb); have NB159_200 := Aside0.mk ((by rw [hg]; exact Nat.ne_of_lt (blk_lt (g := gb159) (o := .cells #[.slice A0_0 l0_0.length c0_0, .int .i64 a0_1] 32 (0, 0)) (kI BK159.out)) : gb159 ≠ gb200)); have NB200_159 := Aside0.mk ((by rw [hg]; exact Nat.ne_of_gt (blk_lt (g := gb159) (o := .cells #[.slice A0_0 l0_0.length c0_0, .int .i64 a0_1] 32 (0, 0)) (kI BK159.out)) : gb200 ≠ gb159)); replace BK159 := Aside0.mk (blk_below (g := gb159) (o := .cells #[.slice A0_0 l0_0.length c0_0, .int .i64 a0_1] 32 (0, 0)) (kI BK159.out) hb); have NB169_200 := Aside0.mk ((by rw [hg]; exact Nat.ne_of_lt (blk_lt (g := gb169) (o := .cells #[.slice Ao39 t165.length co39, .int .i64 t168] 35 (0, 0)) (kI BK169.out)) : gb169 ≠ gb200)); have NB200_169 := Aside0.mk ((by rw [hg]; exact Nat.ne_of_gt (blk_lt (g := gb169) (o := .cells #[.slice Ao39 t165.length co39, .int .i64 t168] 35 (0, 0)) (kI BK169.out)) : gb200 ≠ gb169)); replace BK169 := Aside0.mk (blk_below (g := gb169) (o := .cells #[.slice Ao39 t165.length co39, .int .i64 t168] 35 (0, 0)) (kI BK169.out) hb); have NB174_200 := Aside0.mk ((by rw [hg]; exact Nat.ne_of_lt (blk_lt (g := gb174) (o := .cells #[.slice Ao45 t170.length co45, .int .i64 t173] 35 (0, 0)) (kI BK174.out)) : gb174 ≠ gb200)); have NB200_174 := Aside0.mk ((by rw [hg]; exact Nat.ne_of_gt (blk_lt (g := gb174) (o := .cells #[.slice Ao45 t170.length co45, .int .i64 t173] 35 (0, 0)) (kI BK174.out)) : gb200 ≠ gb174)); replace BK174 := Aside0.mk (blk_below (g := gb174) (o := .cells #[.slice Ao45 t170.length co45, .int .i64 t173] 35 (0, 0)) (kI BK174.out) hb); have NB179_200 := Aside0.mk ((by rw [hg]; exact Nat.ne_of_lt (blk_lt (g := gb179) (o := .cells #[.slice Ao51 t175.length co51, .int .i64 t178] 35 (0, 0)) (kI BK179.out)) : gb179 ≠ gb200)); have NB200_179 := Aside0.mk ((by rw [hg]; exact Nat.ne_of_gt (blk_lt (g := gb179) (o := .cells #[.slice Ao51 t175.length co51, .int .i64 t178] 35 (0, 0)) (kI BK179.out)) : gb200 ≠ gb179)); replace BK179 := Aside0.mk (blk_below (g := gb179) (o := .cells #[.slice Ao51 t175.length co51, .int .i64 t178] 35 (0, 0)) (kI BK179.out) hb); clear hb hbox hg; obtain ⟨Ao76, co76, eo76⟩ := Kd.R_slice HO198.out; subst eo76; have hnb77 := NB200_159.out; have hnc77 := NB159_200.out; have hnb78 := NB200_169.out; have hnc78 := NB169_200.out; have hnb79 := NB200_174.out; have hnc79 := NB174_200.out; have hnb80 := NB200_179.out; have hnc80 := NB179_200.out; have hcz81_0 : w75.cell? ⟨gb200, 0, none⟩ = some (.slice none 0 0) := (blk_cell BK200.out 0).trans rfl; have hcz81_1 : w75.cell? ⟨gb200, 1, none⟩ = some (.int .i64 0) := (blk_cell BK200.out 1).trans rfl; have hfz81_0 := blk_frozen BK200.out 0; have hfz81_1 := blk_frozen BK200.out 1; have hcz82_0 : w75.cell? ⟨gb169, 0, none⟩ = some (.slice Ao39 t165.length co39) := (blk_cell BK169.out 0).trans rfl; have hcz82_1 : w75.cell? ⟨gb169, 1, none⟩ = some (.int .i64 t168) := (blk_cell BK169.out 1).trans rfl; have hfz82_0 := blk_frozen BK169.out 0; have hfz82_1 := blk_frozen BK169.out 1) | ((with_reducible refine gate_callee (f := 28) rfl ?_); refine goesL_ (some 59) rfl rfl Try.func28 (by kernel_rfl) rfl #[.agg #[.slice Ao76 t196.length co76, .int .i64 t199], .agg #[.slice Ao39 t165.length co39, .int .i64 t168]] rfl (by (try simp only [List.map_toArray, List.map_cons, List.map_nil]); first | done | rfl | (simp only [List.length_drop, List.length_take]; rfl)) ?_; (with_reducible refine (laws_eqDisk.calls k _ _ t196 t199 _ _ t165 t168 true _ ?side1 ?side2 ?side3 ?side4 A26.out).mono ?_); (case side1 => refine (Kd.R_reads' (e := 5) (base := w.heap.size) (ok := fun k_ => (some k_ ≠ (.slice Ao39 t165.length co39 : Value).ownBlock ∧ some k_ ≠ (.slice Ao51 t175.length co51 : Value).ownBlock)) (n := t196.length) (c := co76) ?_).2.2; exact (rI (Kd.R_mono (Kd.R_far (p := ⟨gb200, 1, none⟩) (Kd.R_far (p := ⟨gb200, 0, none⟩) (Kd.R_types HO198.out BK200.out (by decide)) (fun _ hk => hk.2) (.slice Ao76 t196.length co76)) (fun _ hk => hk.2) (.int .i64 t199)) (fun _ h_ => h_.1)))); (case side2 => exact (Kd.R_reads' HO198.out).2.1); (case side3 => refine (Kd.R_reads' (e := 5) (base := w.heap.size) (ok := fun k_ => (some k_ ≠ (.slice Ao51 t175.length co51 : Value).ownBlock ∧ some k_ ≠ (.slice Ao76 t196.length co76 : Value).ownBlock)) (n := t165.length) (c := co39) ?_).2.2; exact (rI (Kd.R_mono (Kd.R_far (p := ⟨gb200, 1, none⟩) (Kd.R_far (p := ⟨gb200, 0, none⟩) (Kd.R_types HO167.out BK200.out (by decide)) (fun _ hk => hk.2) (.slice Ao76 t196.length co76)) (fun _ hk => hk.2) (.int .i64 t199)) (fun _ h_ => h_.1)))); (case side4 => exact (Kd.R_reads' HO167.out).2.1); rintro e w83 ⟨rfl, hb⟩; refine ⟨_, rfl, ?_⟩; replace HO167 := Aside0.mk (Kd.R_below (rI (Kd.R_mono (Kd.R_far (p := ⟨gb200, 1, none⟩) (Kd.R_far (p := ⟨gb200, 0, none⟩) (Kd.R_types HO167.out BK200.out (by decide)) (fun _ hk => hk.2) (.slice Ao76 t196.length co76)) (fun _ hk => hk.2) (.int .i64 t199)) (fun _ h_ => h_.1))) hb); replace HO177 := Aside0.mk (Kd.R_below (rI (Kd.R_mono (Kd.R_far (p := ⟨gb200, 1, none⟩) (Kd.R_far (p := ⟨gb200, 0, none⟩) (Kd.R_types HO177.out BK200.out (by decide)) (fun _ hk => hk.2) (.slice Ao76 t196.length co76)) (fun _ hk => hk.2) (.int .i64 t199)) (fun _ h_ => h_.1))) hb); replace HO198 := Aside0.mk (Kd.R_below (rI (Kd.R_mono (Kd.R_far (p := ⟨gb200, 1, none⟩) (Kd.R_far (p := ⟨gb200, 0, none⟩) (Kd.R_types HO198.out BK200.out (by decide)) (fun _ hk => hk.2) (.slice Ao76 t196.length co76)) (fun _ hk => hk.2) (.int .i64 t199)) (fun _ h_ => h_.1))) hb); replace BK159 := Aside0.mk (blk_below (g := gb159) (o := .cells #[.slice A0_0 l0_0.length c0_0, .int .i64 a0_1] 32 (0, 0)) (by (with_reducible repeat (first | refine blk_drewN ?_ _ | refine blk_drew ?_ | refine blk_alloc ?_ _)); refine blk_far ?_ NB159_200.out _; (with_reducible repeat (first | refine blk_drewN ?_ _ | refine blk_drew ?_ | refine blk_alloc ?_ _)); refine blk_far ?_ NB159_200.out _; (with_reducible repeat (first | refine blk_drewN ?_ _ | refine blk_drew ?_ | refine blk_alloc ?_ _)); exact BK159.out) hb); replace BK169 := Aside0.mk (blk_below (g := gb169) (o := .cells #[.slice Ao39 t165.length co39, .int .i64 t168] 35 (0, 0)) (by (with_reducible repeat (first | refine blk_drewN ?_ _ | refine blk_drew ?_ | refine blk_alloc ?_ _)); refine blk_far ?_ NB169_200.out _; (with_reducible repeat (first | refine blk_drewN ?_ _ | refine blk_drew ?_ | refine blk_alloc ?_ _)); refine blk_far ?_ NB169_200.out _; (with_reducible repeat (first | refine blk_drewN ?_ _ | refine blk_drew ?_ | refine blk_alloc ?_ _)); exact BK169.out) hb); replace BK174 := Aside0.mk (blk_below (g := gb174) (o := .cells #[.slice Ao45 t170.length co45, .int .i64 t173] 35 (0, 0)) (by (with_reducible repeat (first | refine blk_drewN ?_ _ | refine blk_drew ?_ | refine blk_alloc ?_ _)); refine blk_far ?_ NB174_200.out _; (with_reducible repeat (first | refine blk_drewN ?_ _ | refine blk_drew ?_ | refine blk_alloc ?_ _)); refine blk_far ?_ NB174_200.out _; (with_reducible repeat (first | refine blk_drewN ?_ _ | refine blk_drew ?_ | refine blk_alloc ?_ _)); exact BK174.out) hb); replace BK179 := Aside0.mk (blk_below (g := gb179) (o := .cells #[.slice Ao51 t175.length co51, .int .i64 t178] 35 (0, 0)) (by (with_reducible repeat (first | refine blk_drewN ?_ _ | refine blk_drew ?_ | refine blk_alloc ?_ _)); refine blk_far ?_ NB179_200.out _; (with_reducible repeat (first | refine blk_drewN ?_ _ | refine blk_drew ?_ | refine blk_alloc ?_ _)); refine blk_far ?_ NB179_200.out _; (with_reducible repeat (first | refine blk_drewN ?_ _ | refine blk_drew ?_ | refine blk_alloc ?_ _)); exact BK179.out) hb); replace BK200 := Aside0.mk (blk_below (g := gb200) (o := .cells #[.slice Ao76 t196.length co76, .int .i64 t199] 35 (0, 0)) (by (with_reducible repeat (first | refine blk_drewN ?_ _ | refine blk_drew ?_ | refine blk_alloc ?_ _)); refine blk_put (cs := #[.slice Ao76 t196.length co76, .int .i64 0]) ?_ 1 _ rfl; (with_reducible repeat (first | refine blk_drewN ?_ _ | refine blk_drew ?_ | refine blk_alloc ?_ _)); refine blk_put (cs := #[.slice none 0 0, .int .i64 0]) ?_ 0 _ rfl; (with_reducible repeat (first | refine blk_drewN ?_ _ | refine blk_drew ?_ | refine blk_alloc ?_ _)); exact BK200.out) hb); replace HB := Aside0.mk (below_step (bI HB.out) hb); (try clear hb); (try clear hb2); (try clear hk); (try clear hi); have hcz84_0 : w83.cell? ⟨gb179, 0, none⟩ = some (.slice Ao51 t175.length co51) := (blk_cell BK179.out 0).trans rfl; have hcz84_1 : w83.cell? ⟨gb179, 1, none⟩ = some (.int .i64 t178) := (blk_cell BK179.out 1).trans rfl; have hfz84_0 := blk_frozen BK179.out 0; have hfz84_1 := blk_frozen BK179.out 1; clear HO167; clear HO198; have n_ := Aside0.mk (Kd.R_mono (ok' := (fun _ => True)) HO177.out (fun k_ hk => trivial)); clear HO177; have HO177 := n_; clear n_) | ((with_reducible refine gate_callee (f := 49) rfl ?_); refine goesL_ (some 63) rfl rfl Try.func49 (by kernel_rfl) rfl #[.agg #[.slice Ao51 t190.length co51, .int .i64 t178], .int .i64 1] rfl (by (try simp only [List.map_toArray, List.map_cons, List.map_nil]); first | done | (rw [show t190.length = t175.length from (Kd.R_reads' HO177.out).1.symm] <;> rfl) | rfl | (simp only [List.length_drop, List.length_take]; rfl)) ?_; (with_reducible refine (laws_heldDisk.calls k _ _ t190 t178 1 t202 _ ?side1 ?side2 A28.out).mono ?_); (case side1 => repeat (first | exact (Kd.R_reads' HO177.out).2.2 | (with_reducible refine Kd.C_alloc ?_ _) | (with_reducible refine Kd.C_drewN ?_ _) | (with_reducible refine Kd.C_drew ?_))); (case side2 => rw [show t190.length = t175.length from (Kd.R_reads' HO177.out).1.symm]; exact (Kd.R_reads' HO177.out).2.1); rintro e w85 ⟨rfl, hb⟩; refine ⟨_, rfl, ?_⟩; replace HO177 := Aside0.mk (Kd.R_below (rI HO177.out) hb); replace BK159 := Aside0.mk (blk_below (g := gb159) (o := .cells #[.slice A0_0 l0_0.length c0_0, .int .i64 a0_1] 32 (0, 0)) (kI BK159.out) hb); replace BK169 := Aside0.mk (blk_below (g := gb169) (o := .cells #[.slice Ao39 t165.length co39, .int .i64 t168] 35 (0, 0)) (kI BK169.out) hb); replace BK174 := Aside0.mk (blk_below (g := gb174) (o := .cells #[.slice Ao45 t170.length co45, .int .i64 t173] 35 (0, 0)) (kI BK174.out) hb); replace BK179 := Aside0.mk (blk_below (g := gb179) (o := .cells #[.slice Ao51 t175.length co51, .int .i64 t178] 35 (0, 0)) (kI BK179.out) hb); replace BK200 := Aside0.mk (blk_below (g := gb200) (o := .cells #[.slice Ao76 t196.length co76, .int .i64 t199] 35 (0, 0)) (kI BK200.out) hb); replace HB := Aside0.mk (below_step (bI HB.out) hb); (try clear hb); (try clear hb2); (try clear hk); (try clear hi)))
      go_ret
      exact ⟨by first | rfl | (simp [errW_none, errW_some] <;> rfl) | (simp [*, errW_none, errW_some] <;> rfl), bI HB.out⟩
    · replace c12 := Bool.eq_false_iff.mpr c12
      subst c12
      have H1 : (some false) = some r := by rw [if_neg (show ¬ (false = true) by decide)] at H; exact H
      clear H
      have H := H1
      clear H1
      exact absurd (hrt.out.symm.trans (Option.some.inj H).symm) (by decide)

end Go.Proofs.Ytlkmjjojjlihaaa.PFnExactSync
