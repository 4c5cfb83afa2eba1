-- By a program of this session, out of the translation (the print of the kit, with turns of its own). Lean checks it.
import Derived.Test.YtcmldmlmhpfjhaaDoorPFnExactQcBytesx0
import Derived.Test.YtcmldmlmhpfjhaaDoorPFnExactQcBytesx6
import Derived.Test.YtcmldmlmhpfjhaaDoorPFnExactQcBytesx10
namespace Go.Proofs.YtcmldmlmhpfjhaaDoor.PFnExactQcBytes
open Go.RowKit Go.Proofs.YtcmldmlmhpfjhaaDoorW.PrintWords Go.Proofs.YtcmldmlmhpfjhaaDoorW.PrintLast Go.Proofs.YtcmldmlmhpfjhaaDoorW.PrintMore
attribute [local go_sem] max2_int min2_int max_two min_two max_three min_three max_four min_four   -- for this text's walks alone
set_option linter.unusedVariables false
set_option linter.unusedSimpArgs false

/-! ### impl_PutNum: function 91 -/
def impl_PutNum.l0 : Nat → Int → List Int → Option (List Int)
  | 0, _, _ => none
  | k + 1, x0, x3 => if x0 ≥ 128 then (if x3.length < 140737488355328 then (impl_PutNum.l0 k (wrap64 (Int.tdiv x0 128)) (x3 ++ [(wrap64 ((Int.tmod x0 128) + 128)) % 256])) else (none)) else (if x3.length < 140737488355328 then (some (x3 ++ [(x0) % 256])) else (none))
def impl_PutNum.f (k : Nat) (a0 : Int) : Option (List Int) := (impl_within.f a0 0 2147483647).bind fun t370 => (if t370 = true then (impl_PutNum.l0 k a0 ([] : List Int)) else (some ([] : List Int)))
theorem impl_PutNum.mono_l : ∀ k, (∀ y0 y1, LeO (impl_PutNum.l0 k y0 y1) (impl_PutNum.l0 (k + 1) y0 y1))
  | 0 => fun _ _ r h => by simp [impl_PutNum.l0] at h
  | k + 1 => by
    have ih0 := impl_PutNum.mono_l k
    · intro y0 y1
      unfold impl_PutNum.l0
      repeat' first
      | (with_reducible exact ih0 _ _)
      | (with_reducible exact LeO.refl _)
      | (with_reducible exact LeO.none _)
      | (with_reducible refine LeO.ite ?_ ?_)
      | (with_reducible refine LeO.bind ?_ (fun _ => ?_))
      | exact ih0 _ _
      | exact LeO.none _
      | refine LeO.ite ?_ ?_
      | refine LeO.bind ?_ (fun _ => ?_)
theorem impl_PutNum.mono : ∀ a0 k, LeO (impl_PutNum.f k a0) (impl_PutNum.f (k + 1) a0) := by
  intro a0 k
  have ih0 := impl_PutNum.mono_l k
  unfold impl_PutNum.f
  repeat' first
      | (with_reducible exact ih0 _ _)
      | (with_reducible exact LeO.refl _)
      | (with_reducible exact LeO.none _)
      | (with_reducible refine LeO.ite ?_ ?_)
      | (with_reducible refine LeO.bind ?_ (fun _ => ?_))
      | exact ih0 _ _
      | exact LeO.none _
      | refine LeO.ite ?_ ?_
      | refine LeO.bind ?_ (fun _ => ?_)
set_option maxHeartbeats 8000000 in
set_option maxRecDepth 100000 in
theorem impl_PutNum.calls (k : Nat) (a0 : Int) (r : List Int) (w : World) (h : impl_PutNum.f k a0 = some r) :
    Calls Tryd.prog 91 #[.int .i64 a0] w fun e w' => ∃ v0_ : Value, e = .returned (v0_) ∧ Kd.R (Kd.int .u8) 5 w' w.heap.size (fun _ => True) v0_ r ∧ Below w.heap.size w w' := by
  have HB := Aside0.mk (Below.refl w.heap.size w)
  have H : ((impl_within.f a0 0 2147483647).bind fun t370 => (if t370 = true then (impl_PutNum.l0 k a0 ([] : List Int)) else (some ([] : List Int)))) = some r := h
  clear h
  obtain ⟨t370, A20, H⟩ := Option.bind_eq_some_iff.mp H
  try dsimp only at H
  have A2 := Aside0.mk A20
  clear A20
  by_cases c3 : t370 = true
  · subst c3
    rw [if_pos rfl] at H
    have H' := Aside0.mk H
    clear H
    go_enter Tryd.func91, Tryd.ntmps91
    go_wp2_with (first | ((with_reducible refine gate_callee (f := 77) rfl ?_); refine gB (some 5) Tryd.func77 #[.int .i64 a0, .int .i64 0, .int .i64 2147483647] ?_; (with_reducible refine (impl_within.calls a0 0 2147483647 true _ A2.out).mono ?_); rintro e w' ⟨rfl, ⟨nd, rfl⟩⟩; refine ⟨_, rfl, ?_⟩))
    go_loopg [0, 3] k (fun kq v0 v3 w' => ∃ (x0_1 : Int) (x3_1 : List Int), v0 = .int .i64 x0_1 ∧ Aside0 (impl_PutNum.l0 kq x0_1 x3_1 = some r) ∧ Aside0 (kq ≤ k) ∧ Aside0 (Kd.R (Kd.int .u8) 5 w' w.heap.size (fun _ => True) v3 x3_1) ∧ Aside0 (Below w.heap.size w w'))
    case atStart => exact ⟨(a0), (([] : List Int)), y0_10, H', ⟨Nat.le_refl _⟩, ⟨y0_0⟩, ⟨bI HB.out⟩⟩
    case round =>
      clear H'
      try clear p2
      try clear c3
      obtain ⟨x0_1, x3_1, rfl, HA, HK1, HO_3, HB⟩ := hrel
      cases gk with
      | zero => exact absurd HA.out (by simp [impl_PutNum.l0])
      | succ k1 =>
        have H := HA.out
        clear HA
        simp only [impl_PutNum.l0] at H
        by_cases c4 : x0_1 ≥ 128
        · rw [if_pos c4] at H
          have c4b0 : decide (128 ≤ x0_1) = true := decide_eq_true c4
          clear c4
          by_cases c5 : x3_1.length < 140737488355328
          rotate_left
          · rw [if_neg c5] at H
            exact absurd H (by simp)
          rw [if_pos c5] at H
          have LMc5 := Aside0.mk c5
          clear c5
          obtain ⟨y371, hy371⟩ : ∃ y_ : List Int, y_ = (x3_1 ++ [(wrap64 ((Int.tmod x0_1 128) + 128)) % 256]) := ⟨_, rfl⟩
          replace H : (impl_PutNum.l0 k1 (wrap64 (Int.tdiv x0_1 128)) y371) = some r := by first | (rw [hy371]; with_reducible exact H) | (have H2_ := (Option.bind_some _ _).symm.trans H; rw [hy371]; with_reducible exact H2_) | (have H2_ := (Option.bind_some _ _).symm.trans H; with_reducible exact H2_) | with_reducible exact H | (rw [hy371]; exact H) | exact H
          have Ny371 := Aside0.mk hy371
          clear hy371
          have H' := Aside0.mk H
          clear H
          go_wp2_with (first | ((with_reducible refine gate_builtin (b := .append) (xs := #[.tmp 9, .tmp 14]) rfl ?_); at_builtin; refine Kd.R_append (Kd.int .u8) (w0 := w) w.heap.size rfl (.tmp 9) (.tmp 14) 74 5 (.int .u8 0) 1 rfl Tryd.underlying74 info5 rfl (by decide) (by omega) u3 x3_1 ((wrap64 ((Int.tmod x0_1 128) + 128)) % 256) [.int .u8 ((wrap64 ((Int.tmod x0_1 128) + 128)) % 256)] (fun _ => True) (fun _ => False) rfl rfl ?aP (fun _ hk => hk.elim) ?aF ?aO ?aB ?aS ?aL ?_; (case aP => exact rfl); (case aB => exact (bI HB.out)); (case aF => exact (fun _ _ => trivial)); (case aO => exact (rI HO_3.out)); (case aS => exact (below_size (bI HB.out))); (case aL => have := LMc5.out; omega); intro v372 w6 ho hb hg hat; rw [← Ny371.out] at ho; have n0_ := Aside0.mk (hb); have n1_ := Aside0.mk (ho); clear HB; clear HO_3; have HB := n0_; have HO373 := n1_; clear n0_ n1_; clear ho hb hg hat))
          go_roundg k1
          case measure => have := HK1.out; omega
          case rel => exact ⟨(wrap64 (Int.tdiv x0_1 128)), (y371), y0_10, H', ⟨y0_14⟩, ⟨by (with_reducible repeat (first | apply Kd.R_alloc | apply Kd.R_drewN | apply Kd.R_drew)); exact HO373.out⟩, ⟨bI HB.out⟩⟩
        · rw [if_neg c4] at H
          have c4b0 : decide (128 ≤ x0_1) = false := decide_eq_false c4
          clear c4
          by_cases c7 : x3_1.length < 140737488355328
          rotate_left
          · rw [if_neg c7] at H
            exact absurd H (by simp)
          rw [if_pos c7] at H
          have LMc7 := Aside0.mk c7
          clear c7
          obtain ⟨y374, hy374⟩ : ∃ y_ : List Int, y_ = (x3_1 ++ [(x0_1) % 256]) := ⟨_, rfl⟩
          replace H : (some y374) = some r := by first | (rw [hy374]; with_reducible exact H) | (have H2_ := (Option.bind_some _ _).symm.trans H; rw [hy374]; with_reducible exact H2_) | (have H2_ := (Option.bind_some _ _).symm.trans H; with_reducible exact H2_) | with_reducible exact H | (rw [hy374]; exact H) | exact H
          have Ny374 := Aside0.mk hy374
          clear hy374
          obtain rfl := Option.some.inj H
          go_wp2_with (first | ((with_reducible refine gate_builtin (b := .append) (xs := #[.tmp 18, .tmp 21]) rfl ?_); at_builtin; refine Kd.R_append (Kd.int .u8) (w0 := w) w.heap.size rfl (.tmp 18) (.tmp 21) 74 5 (.int .u8 0) 1 rfl Tryd.underlying74 info5 rfl (by decide) (by omega) u3 x3_1 ((x0_1) % 256) [.int .u8 ((x0_1) % 256)] (fun _ => True) (fun _ => False) rfl rfl ?aP (fun _ hk => hk.elim) ?aF ?aO ?aB ?aS ?aL ?_; (case aP => exact rfl); (case aB => exact (bI HB.out)); (case aF => exact (fun _ _ => trivial)); (case aO => exact (rI HO_3.out)); (case aS => exact (below_size (bI HB.out))); (case aL => have := LMc7.out; omega); intro v375 w8 ho hb hg hat; rw [← Ny374.out] at ho; have n0_ := Aside0.mk (hb); have n1_ := Aside0.mk (ho); clear HB; clear HO_3; have HB := n0_; have HO376 := n1_; clear n0_ n1_; clear ho hb hg hat))
          go_ret
          exact ⟨_, y0_7, by (with_reducible repeat (first | apply Kd.R_alloc | apply Kd.R_drewN | apply Kd.R_drew)); exact HO376.out, bI HB.out⟩
  · replace c3 := Bool.eq_false_iff.mpr c3
    subst c3
    rw [if_neg (show ¬ (false = true) by decide)] at H
    obtain rfl := Option.some.inj H
    go_enter Tryd.func91, Tryd.ntmps91
    go_wp2_with (first | ((with_reducible refine gate_callee (f := 77) rfl ?_); refine gB (some 5) Tryd.func77 #[.int .i64 a0, .int .i64 0, .int .i64 2147483647] ?_; (with_reducible refine (impl_within.calls a0 0 2147483647 false _ A2.out).mono ?_); rintro e w' ⟨rfl, ⟨nd, rfl⟩⟩; refine ⟨_, rfl, ?_⟩))
    go_ret
    exact ⟨_, y0_7, y0_0, bI HB.out⟩

/-! ### impl_PutText: function 92 -/
def impl_PutText.f (k : Nat) (a0 : ByteArray) : Option (List Int) := (impl_PutNum.f k (a0.size : Int)).bind fun t377 => (if t377.length + a0.size < 140737488355328 then (some (t377 ++ bytesOf a0)) else (none))
theorem impl_PutText.mono : ∀ a0 k, LeO (impl_PutText.f k a0) (impl_PutText.f (k + 1) a0) := by
  intro a0 k
  unfold impl_PutText.f
  repeat' first
      | (with_reducible exact impl_PutNum.mono _ _)
      | (with_reducible exact LeO.refl _)
      | (with_reducible exact LeO.none _)
      | (with_reducible refine LeO.ite ?_ ?_)
      | (with_reducible refine LeO.bind ?_ (fun _ => ?_))
      | exact impl_PutNum.mono _ _
      | exact LeO.none _
      | refine LeO.ite ?_ ?_
      | refine LeO.bind ?_ (fun _ => ?_)
set_option maxHeartbeats 8000000 in
set_option maxRecDepth 100000 in
theorem impl_PutText.calls (k : Nat) (a0 : ByteArray) (r : List Int) (w : World) (h : impl_PutText.f k a0 = some r) :
    Calls Tryd.prog 92 #[.string a0] w fun e w' => ∃ v0_ : Value, e = .returned (v0_) ∧ Kd.R (Kd.int .u8) 5 w' w.heap.size (fun _ => True) v0_ r ∧ Below w.heap.size w w' := by
  have HB := Aside0.mk (Below.refl w.heap.size w)
  have H : ((impl_PutNum.f k (a0.size : Int)).bind fun t377 => (if t377.length + a0.size < 140737488355328 then (some (t377 ++ bytesOf a0)) else (none))) = some r := h
  clear h
  obtain ⟨t377, A20, H⟩ := Option.bind_eq_some_iff.mp H
  try dsimp only at H
  have A2 := Aside0.mk A20
  clear A20
  by_cases c3 : t377.length + a0.size < 140737488355328
  · rw [if_pos c3] at H
    have LMc3 := Aside0.mk c3
    clear c3
    obtain ⟨y380, hy380⟩ : ∃ y_ : List Int, y_ = (t377 ++ bytesOf a0) := ⟨_, rfl⟩
    replace H : (some y380) = some r := by first | (rw [hy380]; with_reducible exact H) | (have H2_ := (Option.bind_some _ _).symm.trans H; rw [hy380]; with_reducible exact H2_) | (have H2_ := (Option.bind_some _ _).symm.trans H; with_reducible exact H2_) | with_reducible exact H | (rw [hy380]; exact H) | exact H
    have Ny380 := Aside0.mk hy380
    clear hy380
    obtain rfl := Option.some.inj H
    go_enter Tryd.func92, Tryd.ntmps92
    go_wp2_with (first | ((with_reducible refine gate_callee (f := 91) rfl ?_); refine gB (some 5) Tryd.func91 #[.int .i64 (a0.size : Int)] ?_; (with_reducible refine (impl_PutNum.calls k (a0.size : Int) t377 _ A2.out).mono ?_); rintro e w4 ⟨v378, rfl, ho0, hb⟩; refine ⟨_, rfl, ?_⟩; have HO379 := Aside0.mk (Kd.R_lower ho0 (below_size (bI HB.out))); replace HB := bs HB hb; (try clear hb); (try clear ho0)) | (at_builtin; refine print_append_str (w0 := w) w.heap.size rfl (.tmp 5) _ 74 9 5 rfl Tryd.underlying74 Tryd.underlying9 info5 v378 t377 a0 rfl rfl ?aO ?aB ?aS ?aL ?_; (case aB => exact (bI HB.out)); (case aO => exact (Kd.own_of_R (rI HO379.out))); (case aS => exact (below_size (bI HB.out))); (case aL => have := LMc3.out; omega); intro v381 w5 ho0 hb hg; have ho := Kd.R_of_own (h1 := fun _ => rfl) (ok := fun _ => True) ho0 (fun _ _ => trivial); clear ho0; have hat := True.intro; rw [← Ny380.out] at ho; change Kd.R (Kd.int .u8) 5 w5 w.heap.size (fun _ => True) v381 y380 at ho; have n0_ := Aside0.mk (hb); have n1_ := Aside0.mk (ho); clear HB; clear HO379; have HB := n0_; have HO382 := n1_; clear n0_ n1_; clear ho hb hg hat))
    go_ret
    exact ⟨_, y0_7, by (with_reducible repeat (first | apply Kd.R_alloc | apply Kd.R_drewN | apply Kd.R_drew)); exact HO382.out, bI HB.out⟩
  · rw [if_neg c3] at H
    exact absurd H (by simp)

/-! ### impl_putNums: function 93 -/
def impl_putNums.l0 : Nat → List Int → List Int → Int → Int → Option (List Int)
  | 0, _, _, _, _ => none
  | k + 1, x3, x6, x7, x8 => if x8 < x7 then (if 0 ≤ x8 then (if x8 < (x6.length : Int) then ((impl_PutNum.f k (rd x6 x8)).bind fun t384 => (if x3.length + t384.length < 140737488355328 then (impl_putNums.l0 k (x3 ++ t384) x6 x7 (wrap64 (x8 + 1))) else (none))) else (none)) else (none)) else (some x3)
def impl_putNums.f (k : Nat) (l0 : List Int) : Option (List Int) := impl_putNums.l0 k ([] : List Int) l0 (l0.length : Int) 0
theorem impl_putNums.mono_l : ∀ k, (∀ y0 y1 y2 y3, LeO (impl_putNums.l0 k y0 y1 y2 y3) (impl_putNums.l0 (k + 1) y0 y1 y2 y3))
  | 0 => fun _ _ _ _ r h => by simp [impl_putNums.l0] at h
  | k + 1 => by
    have ih0 := impl_putNums.mono_l k
    · intro y0 y1 y2 y3
      unfold impl_putNums.l0
      repeat' first
      | (with_reducible exact ih0 _ _ _ _)
      | (with_reducible exact impl_PutNum.mono _ _)
      | (with_reducible exact LeO.refl _)
      | (with_reducible exact LeO.none _)
      | (with_reducible refine LeO.ite ?_ ?_)
      | (with_reducible refine LeO.bind ?_ (fun _ => ?_))
      | exact ih0 _ _ _ _
      | exact impl_PutNum.mono _ _
      | exact LeO.none _
      | refine LeO.ite ?_ ?_
      | refine LeO.bind ?_ (fun _ => ?_)
theorem impl_putNums.mono : ∀ a0 k, LeO (impl_putNums.f k a0) (impl_putNums.f (k + 1) a0) := by
  intro a0 k
  have ih0 := impl_putNums.mono_l k
  unfold impl_putNums.f
  repeat' first
      | (with_reducible exact ih0 _ _ _ _)
      | (with_reducible exact impl_PutNum.mono _ _)
      | (with_reducible exact LeO.refl _)
      | (with_reducible exact LeO.none _)
      | (with_reducible refine LeO.ite ?_ ?_)
      | (with_reducible refine LeO.bind ?_ (fun _ => ?_))
      | exact ih0 _ _ _ _
      | exact impl_PutNum.mono _ _
      | exact LeO.none _
      | refine LeO.ite ?_ ?_
      | refine LeO.bind ?_ (fun _ => ?_)
set_option maxHeartbeats 8000000 in
set_option maxRecDepth 100000 in
theorem impl_putNums.calls (k : Nat) (A0 : Option Addr) (c0 : Nat) (l0 : List Int) (r : List Int) (w : World) (hr0 : Kd.C (Kd.int .i64) w A0 l0.length l0) (hc0 : l0.length ≤ c0) (h : impl_putNums.f k l0 = some r) :
    Calls Tryd.prog 93 #[.slice A0 l0.length c0] w fun e w' => ∃ v0_ : Value, e = .returned (v0_) ∧ Kd.R (Kd.int .u8) 5 w' w.heap.size (fun _ => True) v0_ r ∧ Below w.heap.size w w' := by
  have HR0 := Aside0.mk hr0
  have HC0 := Aside0.mk hc0
  clear hr0 hc0
  have HB := Aside0.mk (Below.refl w.heap.size w)
  have H : (impl_putNums.l0 k ([] : List Int) l0 (l0.length : Int) 0) = some r := h
  clear h
  have H' := Aside0.mk H
  clear H
  go_enter Tryd.func93, Tryd.ntmps93
  go_wp2
  go_loopg [3, 8] k (fun kq v3 v8 w' => ∃ (x3_1 : List Int) (x8_1 : Int), v8 = .int .i64 x8_1 ∧ Aside0 (impl_putNums.l0 kq x3_1 l0 (l0.length : Int) x8_1 = some r) ∧ Aside0 (kq ≤ k) ∧ Aside0 (Kd.R (Kd.int .u8) 5 w' w.heap.size (fun _ => True) v3 x3_1) ∧ Aside0 (Below w.heap.size w w'))
  case atStart => exact ⟨(([] : List Int)), (0), y0_10, H', ⟨Nat.le_refl _⟩, ⟨y0_0⟩, ⟨bI HB.out⟩⟩
  case round =>
    clear H'
    obtain ⟨x3_1, x8_1, rfl, HA, HK1, HO_3, HB⟩ := hrel
    cases gk with
    | zero => exact absurd HA.out (by simp [impl_putNums.l0])
    | succ k1 =>
      have H := HA.out
      clear HA
      simp only [impl_putNums.l0] at H
      by_cases c2 : x8_1 < (l0.length : Int)
      · rw [if_pos c2] at H
        have c2b0 : decide (x8_1 < (l0.length : Int)) = true := decide_eq_true c2
        clear c2
        by_cases c3 : 0 ≤ x8_1
        rotate_left
        · rw [if_neg c3] at H
          exact absurd H (by simp)
        rw [if_pos c3] at H
        have c3b0 : decide (0 ≤ x8_1) = true := decide_eq_true c3
        clear c3
        by_cases c4 : x8_1 < (l0.length : Int)
        rotate_left
        · rw [if_neg c4] at H
          exact absurd H (by simp)
        rw [if_pos c4] at H
        have c4b0 : decide (x8_1 < (l0.length : Int)) = true := decide_eq_true c4
        clear c4
        obtain ⟨t384, A50, H⟩ := Option.bind_eq_some_iff.mp H
        try dsimp only at H
        have A5 := Aside0.mk A50
        clear A50
        by_cases c6 : x3_1.length + t384.length < 140737488355328
        rotate_left
        · rw [if_neg c6] at H
          exact absurd H (by simp)
        rw [if_pos c6] at H
        have LMc6 := Aside0.mk c6
        clear c6
        obtain ⟨y387, hy387⟩ : ∃ y_ : List Int, y_ = (x3_1 ++ t384) := ⟨_, rfl⟩
        replace H : (impl_putNums.l0 k1 y387 l0 (l0.length : Int) (wrap64 (x8_1 + 1))) = some r := by first | (rw [hy387]; with_reducible exact H) | (have H2_ := (Option.bind_some _ _).symm.trans H; rw [hy387]; with_reducible exact H2_) | (have H2_ := (Option.bind_some _ _).symm.trans H; with_reducible exact H2_) | with_reducible exact H | (rw [hy387]; exact H) | exact H
        have Ny387 := Aside0.mk hy387
        clear hy387
        have H' := Aside0.mk H
        clear H
        have p383 : 0 ≤ (x8_1 : Int) := of_decide_eq_true y0_9
        have q383 : x8_1 < (l0.length : Int) := of_decide_eq_true y0_9
        obtain ⟨ad383, e383, hx383_0⟩ := Kd.at_int HR0.out x8_1 p383 q383
        cases e383
        replace hx383_0 := bx HB hx383_0
        replace p383 := eq_true p383
        replace q383 := eq_true q383
        go_wp2_with (first | ((with_reducible refine gate_callee (f := 91) rfl ?_); refine gB (some 14) Tryd.func91 #[.int .i64 (rd l0 x8_1)] ?_; (with_reducible refine (impl_PutNum.calls k1 (rd l0 x8_1) t384 _ A5.out).mono ?_); rintro e w7 ⟨v385, rfl, ho0, hb⟩; refine ⟨_, rfl, ?_⟩; have HO386 := Aside0.mk (Kd.R_lower (Kd.R_new' ho0 (Kd.R_lt (rI HO_3.out))) (below_size (bI HB.out))); replace HO_3 := Aside0.mk (Kd.R_elder' (rI HO_3.out) (Kd.R_base ho0) hb); replace HB := bs HB hb; (try clear hb); (try clear ho0); obtain ⟨Ao9, co9, eo9⟩ := Kd.R_slice HO386.out; subst eo9) | ((with_reducible refine gate_builtin (b := .append) (xs := #[.tmp 12, .tmp 14]) rfl ?_); at_builtin; refine Kd.R_append_rows (Kd.int .u8) (w0 := w) w.heap.size rfl (.tmp 12) (.tmp 14) 74 5 (.int .u8 0) 1 rfl Tryd.underlying74 info5 rfl (by decide) (by omega) u3 x3_1 t384 _ _ _ (fun k_ => some k_ ≠ (.slice Ao9 t384.length co9 : Value).ownBlock) (fun _ => False) rfl rfl ?aO ?aR (fun _ _ h => h) (fun _ h => h.elim) ?aF ?aB ?aS ?aL ?_; (case aR => repeat (first | exact (Kd.R_reads' HO386.out).2.2 | (with_reducible refine Kd.C_alloc ?_ _) | (with_reducible refine Kd.C_drewN ?_ _) | (with_reducible refine Kd.C_drew ?_))); (case aB => exact (bI HB.out)); (case aF => exact (fun k_ hk => Kd.fresh' (Kd.R_lt (rI HO386.out)) k_ hk)); (case aO => exact (rI (Kd.R_mono HO_3.out (fun _ hk => hk.2)))); (case aS => exact (below_size (bI HB.out))); (case aL => have := LMc6.out; omega); intro v388 w8 ho hb hg hat; rw [← Ny387.out] at ho; have n0_ := Aside0.mk (Kd.R_after (ok := (fun _ => True)) (rI HO386.out) hg hat); have n1_ := Aside0.mk (hb); have n2_ := Aside0.mk (ho); clear HO386; clear HB; clear HO_3; have HO386 := n0_; have HB := n1_; have HO389 := n2_; clear n0_ n1_ n2_; clear ho hb hg hat))
        go_roundg k1
        case measure => have := HK1.out; omega
        case rel => exact ⟨(y387), (wrap64 (x8_1 + 1)), y0_10, H', ⟨y0_14⟩, ⟨by (with_reducible repeat (first | apply Kd.R_alloc | apply Kd.R_drewN | apply Kd.R_drew)); exact Kd.R_mono HO389.out (fun _ hk => trivial)⟩, ⟨bI HB.out⟩⟩
      · rw [if_neg c2] at H
        have c2b0 : decide (x8_1 < (l0.length : Int)) = false := decide_eq_false c2
        clear c2
        obtain rfl := Option.some.inj H
        go_wp2
        go_ret
        exact ⟨_, y0_7, y0_4, bI HB.out⟩

/-! ### impl_QcBytes: function 49 -/
def impl_QcBytes.f (k : Nat) (a0_0 : Int) (a0_1 : Int) (a1_0 : Int) (a1_1 : ByteArray) (l1_2 : List Int) : Option (List Int) := (impl_QcOk.f k a0_0 a0_1 a1_0 a1_1 l1_2).bind fun t392 => (if t392 = true then ((impl_PutNum.f k a1_0).bind fun t393 => ((impl_PutText.f k a1_1).bind fun t396 => (if t393.length + t396.length < 140737488355328 then ((some (t393 ++ t396 : List Int)).bind fun y399 => ((impl_PutNum.f k (l1_2.length : Int)).bind fun t402 => (if y399.length + t402.length < 140737488355328 then ((some (y399 ++ t402 : List Int)).bind fun y405 => ((impl_putNums.f k l1_2).bind fun t408 => (if y405.length + t408.length < 140737488355328 then (some (y405 ++ t408)) else (none)))) else (none)))) else (none)))) else (some ([] : List Int)))
theorem impl_QcBytes.mono : ∀ a0 a1 a2 a3 a4 k, LeO (impl_QcBytes.f k a0 a1 a2 a3 a4) (impl_QcBytes.f (k + 1) a0 a1 a2 a3 a4) := by
  intro a0 a1 a2 a3 a4 k
  unfold impl_QcBytes.f
  repeat' first
      | (with_reducible exact impl_PutNum.mono _ _)
      | (with_reducible exact impl_PutText.mono _ _)
      | (with_reducible exact impl_QcOk.mono _ _ _ _ _ _)
      | (with_reducible exact impl_putNums.mono _ _)
      | (with_reducible exact LeO.refl _)
      | (with_reducible exact LeO.none _)
      | (with_reducible refine LeO.ite ?_ ?_)
      | (with_reducible refine LeO.bind ?_ (fun _ => ?_))
      | exact impl_PutNum.mono _ _
      | exact impl_PutText.mono _ _
      | exact impl_QcOk.mono _ _ _ _ _ _
      | exact impl_putNums.mono _ _
      | exact LeO.none _
      | refine LeO.ite ?_ ?_
      | refine LeO.bind ?_ (fun _ => ?_)
def impl_QcBytes.T3 : Bool × List (List Nat × List Nat) := (true, [([], []), ([0], [0]), ([1], [1]), ([], []), ([3], [3]), ([4, 2], [4]), ([2, 5, 5], [2, 5]), ([6, 6, 0, 1, 2, 3, 4, 5, 6], [6])])
def impl_QcBytes.B3 : List Nat := [0, 1, 3, 0, 8, 31, 63, 127]
theorem impl_QcBytes.tab3 : rtab .any (opsOf Tryd.f49 3) = impl_QcBytes.T3 := by kernel_rfl
theorem impl_QcBytes.bits3 : waitsOk impl_QcBytes.T3.2 impl_QcBytes.B3 = true := by kernel_rfl
set_option maxHeartbeats 8000000 in
set_option maxRecDepth 100000 in
theorem impl_QcBytes.calls (k : Nat) (a0_0 : Int) (a0_1 : Int) (a1_0 : Int) (a1_1 : ByteArray) (A1_2 : Option Addr) (c1_2 : Nat) (l1_2 : List Int) (r : List Int) (w : World) (hr1_2 : Kd.C (Kd.int .i64) w A1_2 l1_2.length l1_2) (hc1_2 : l1_2.length ≤ c1_2) (h : impl_QcBytes.f k a0_0 a0_1 a1_0 a1_1 l1_2 = some r) (hG : Glob w := by exact gG HG HB) :
    Calls Tryd.prog 49 #[.agg #[.int .i64 a0_0, .int .i64 a0_1], .agg #[.int .i64 a1_0, .string a1_1, .slice A1_2 l1_2.length c1_2]] w fun e w' => ∃ v0_ : Value, e = .returned (v0_) ∧ Kd.R (Kd.int .u8) 5 w' w.heap.size (fun _ => True) v0_ r ∧ Below w.heap.size w w' := by
  have HG := Aside0.mk hG
  clear hG
  have hu32 := Tryd.underlying32
  have hu41 := Tryd.underlying41
  have HR1_2 := Aside0.mk hr1_2
  have HC1_2 := Aside0.mk hc1_2
  clear hr1_2 hc1_2
  have HB := Aside0.mk (Below.refl w.heap.size w)
  have H : ((impl_QcOk.f k a0_0 a0_1 a1_0 a1_1 l1_2).bind fun t392 => (if t392 = true then ((impl_PutNum.f k a1_0).bind fun t393 => ((impl_PutText.f k a1_1).bind fun t396 => (if t393.length + t396.length < 140737488355328 then ((some (t393 ++ t396 : List Int)).bind fun y399 => ((impl_PutNum.f k (l1_2.length : Int)).bind fun t402 => (if y399.length + t402.length < 140737488355328 then ((some (y399 ++ t402 : List Int)).bind fun y405 => ((impl_putNums.f k l1_2).bind fun t408 => (if y405.length + t408.length < 140737488355328 then (some (y405 ++ t408)) else (none)))) else (none)))) else (none)))) else (some ([] : List Int)))) = some r := h
  clear h
  obtain ⟨t392, A30, H⟩ := Option.bind_eq_some_iff.mp H
  try dsimp only at H
  have A3 := Aside0.mk A30
  clear A30
  by_cases c4 : t392 = true
  · subst c4
    rw [if_pos rfl] at H
    obtain ⟨t393, A50, H⟩ := Option.bind_eq_some_iff.mp H
    try dsimp only at H
    have A5 := Aside0.mk A50
    clear A50
    obtain ⟨t396, A60, H⟩ := Option.bind_eq_some_iff.mp H
    try dsimp only at H
    have A6 := Aside0.mk A60
    clear A60
    by_cases c7 : t393.length + t396.length < 140737488355328
    rotate_left
    · rw [if_neg c7] at H
      exact absurd H (by simp)
    rw [if_pos c7] at H
    have LMc7 := Aside0.mk c7
    clear c7
    obtain ⟨y399, hy399⟩ : ∃ y_ : List Int, y_ = (t393 ++ t396) := ⟨_, rfl⟩
    replace H : ((impl_PutNum.f k (l1_2.length : Int)).bind fun t402 => (if y399.length + t402.length < 140737488355328 then ((some (y399 ++ t402 : List Int)).bind fun y405 => ((impl_putNums.f k l1_2).bind fun t408 => (if y405.length + t408.length < 140737488355328 then (some (y405 ++ t408)) else (none)))) else (none))) = some r := by first | (rw [hy399]; with_reducible exact H) | (have H2_ := (Option.bind_some _ _).symm.trans H; rw [hy399]; with_reducible exact H2_) | (have H2_ := (Option.bind_some _ _).symm.trans H; with_reducible exact H2_) | with_reducible exact H | (rw [hy399]; exact H) | exact H
    have Ny399 := Aside0.mk hy399
    clear hy399
    obtain ⟨t402, A80, H⟩ := Option.bind_eq_some_iff.mp H
    try dsimp only at H
    have A8 := Aside0.mk A80
    clear A80
    by_cases c9 : y399.length + t402.length < 140737488355328
    rotate_left
    · rw [if_neg c9] at H
      exact absurd H (by simp)
    rw [if_pos c9] at H
    have LMc9 := Aside0.mk c9
    clear c9
    obtain ⟨y405, hy405⟩ : ∃ y_ : List Int, y_ = (y399 ++ t402) := ⟨_, rfl⟩
    replace H : ((impl_putNums.f k l1_2).bind fun t408 => (if y405.length + t408.length < 140737488355328 then (some (y405 ++ t408)) else (none))) = some r := by first | (rw [hy405]; with_reducible exact H) | (have H2_ := (Option.bind_some _ _).symm.trans H; rw [hy405]; with_reducible exact H2_) | (have H2_ := (Option.bind_some _ _).symm.trans H; with_reducible exact H2_) | with_reducible exact H | (rw [hy405]; exact H) | exact H
    have Ny405 := Aside0.mk hy405
    clear hy405
    obtain ⟨t408, A100, H⟩ := Option.bind_eq_some_iff.mp H
    try dsimp only at H
    have A10 := Aside0.mk A100
    clear A100
    by_cases c11 : y405.length + t408.length < 140737488355328
    rotate_left
    · rw [if_neg c11] at H
      exact absurd H (by simp)
    rw [if_pos c11] at H
    have LMc11 := Aside0.mk c11
    clear c11
    obtain ⟨y411, hy411⟩ : ∃ y_ : List Int, y_ = (y405 ++ t408) := ⟨_, rfl⟩
    replace H : (some y411) = some r := by first | (rw [hy411]; with_reducible exact H) | (have H2_ := (Option.bind_some _ _).symm.trans H; rw [hy411]; with_reducible exact H2_) | (have H2_ := (Option.bind_some _ _).symm.trans H; with_reducible exact H2_) | with_reducible exact H | (rw [hy411]; exact H) | exact H
    have Ny411 := Aside0.mk hy411
    clear hy411
    obtain rfl := Option.some.inj H
    go_enter Tryd.func49, Tryd.ntmps49
    try go_wp2_with (first | ((with_reducible refine gd 2 ?_); refine bA 2 #[.int .i64 a0_0, .int .i64 a0_1] 32 ?_; intro gb390 hg w12 hbox hb; have BK390 := Aside0.mk (hbox); have GW390 := bg hg HB; have GJ390 := gi GW390; have GE390 := GW390; replace HB := bs HB hb; clear hb hbox hg) | ((with_reducible refine gd 3 ?_); refine bA 3 #[.int .i64 a1_0, .string a1_1, .slice A1_2 l1_2.length c1_2] 41 ?_; intro gb391 hg w13 hbox hb; have BK391 := Aside0.mk (hbox); have GW391 := bg hg HB; have GJ391 := gi GW391; have GE391 := GW391; replace HB := bs HB hb; have NB390_391 := b1 BK390 hg; have NI390_391 := ni NB390_391; have NB391_390 := b2 BK390 hg; have NI391_390 := ni NB391_390; replace BK390 := bk BK390 hb; clear hb hbox hg; have hnb14 := NB390_391.out; have hnc14 := NB391_390.out; obtain ⟨hcz15_0, hcz15_1, hfz15_0, hfz15_1⟩ := cs2 BK390; obtain ⟨hcz16_0, hcz16_1, hcz16_2, hfz16_0, hfz16_1, hfz16_2⟩ := cs3 BK391) | ((with_reducible refine gate_callee (f := 26) rfl ?_); refine gB (some 8) Tryd.func26 #[.agg #[.int .i64 a0_0, .int .i64 a0_1], .agg #[.int .i64 a1_0, .string a1_1, .slice A1_2 l1_2.length c1_2]] ?_; (with_reducible refine (impl_QcOk.calls k a0_0 a0_1 a1_0 a1_1 _ _ l1_2 true _ ?side1 ?side2 A3.out).mono ?_); (case side1 => exact ch HR1_2 HB); (case side2 => exact HC1_2.out); rintro e w17 ⟨rfl, hb⟩; refine ⟨_, rfl, ?_⟩; replace BK390 := bk BK390 hb; replace BK391 := bk BK391 hb; replace HB := bs HB hb; (try clear hb); (try clear hb2); (try clear hk); (try clear hi)))
    replace BK390 := Aside0.mk (blk_drew BK390.out)
    replace BK391 := Aside0.mk (blk_drew BK391.out)
    replace HB := Aside0.mk (below_drew1 HB.out)
    refine start_ (n := 8) (S := fun w' => w'.cell? ⟨gb391, 0, none⟩ = some (.int .i64 a1_0) ∧ w'.cell? ⟨gb391, 1, none⟩ = some (.string a1_1) ∧ w'.cell? ⟨gb391, 2, none⟩ = some (.slice A1_2 l1_2.length c1_2)) (ds := []) #[false, false, false, false, false, false, false, false] (by kernel_rfl) rfl rfl ⟨bc0 BK391.out, bc1 BK391.out, bc2 BK391.out⟩ (fun hHeld => ?_); refine with_tabW impl_QcBytes.tab3 impl_QcBytes.bits3 (fun HT_ HW_ => ?_)
    generalize w17.drew = w18 at BK390 BK391 HB hHeld ⊢
    refine pA 0 (some 10) (bz 8 1) HT_ ?_
    refine pA 3 (some 13) (bz 8 9) HT_ ?_
    refine tA 1 (some 11) (bz 8 11) HT_ HW_ hHeld ?_
    refine tA 4 (some 14) (bz 8 27) HT_ HW_ hHeld ?_
    refine oA 2 (some 12) (bz 8 31) HT_ (fun K hK => ?_)
    refine gA Tryd.func91 #[.int .i64 a1_0] ?_
    with_reducible refine (impl_PutNum.calls k a1_0 t393 _ A5.out).mono ?_
    rintro e w19 ⟨v394, rfl, ho0, hb⟩
    refine ⟨_, rfl, ?_⟩
    have HO395 := Aside0.mk (Kd.R_lower ho0 (below_size (bI HB.out)))
    replace BK390 := bk BK390 hb
    replace BK391 := bk BK391 hb
    replace HB := bs HB hb
    (try clear hb)
    (try clear hb2)
    (try clear hk)
    (try clear hi)
    (try clear ho0)
    refine hK.out _ _ ⟨bc0 BK391.out, bc1 BK391.out, bc2 BK391.out⟩ (fun hHeld => ?_)
    clear hK K
    refine nA (some 12) ?_
    refine oA 5 (some 15) (bz 8 63) HT_ (fun K hK => ?_)
    refine gA Tryd.func92 #[.string a1_1] ?_
    with_reducible refine (impl_PutText.calls k a1_1 t396 _ A6.out).mono ?_
    rintro e w20 ⟨v397, rfl, ho0, hb⟩
    refine ⟨_, rfl, ?_⟩
    have HO398 := Aside0.mk (Kd.R_lower (Kd.R_new' ho0 (Kd.R_lt (rI HO395.out))) (below_size (bI HB.out)))
    replace HO395 := Aside0.mk (Kd.R_elder' (rI HO395.out) (Kd.R_base ho0) hb)
    replace BK390 := bk BK390 hb
    replace BK391 := bk BK391 hb
    replace HB := bs HB hb
    (try clear hb)
    (try clear hb2)
    (try clear hk)
    (try clear hi)
    (try clear ho0)
    obtain ⟨Ao22, co22, eo22⟩ := Kd.R_slice HO398.out
    (first | subst eo22 | (injection eo22 with f1_ f2_ f3_; have f4_ := f1_.symm; have f5_ := f3_.symm; clear f1_ f2_ f3_; subst f4_; subst f5_))
    refine hK.out _ _ ⟨bc0 BK391.out, bc1 BK391.out, bc2 BK391.out⟩ (fun hHeld => ?_)
    clear hK K
    refine nA (some 15) ?_
    refine oA 6 (some 16) (bz 8 127) HT_ (fun K hK => ?_)
    refine Kd.R_append_rows_step (Kd.int .u8) (w0 := w) w.heap.size (by rfl) (.tmp 12) (.tmp 15) 74 5 (.int .u8 0) 1 rfl Tryd.underlying74 info5 rfl (by decide) (by omega) v394 t393 t396 _ _ _ (fun k_ => some k_ ≠ (.slice Ao22 t396.length co22 : Value).ownBlock) (fun _ => False) rfl rfl ?aO ?aR (fun _ _ h => h) (fun _ h => h.elim) ?aF ?aB ?aS ?aL ?_
    (case aR => repeat (first | exact (Kd.R_reads' HO398.out).2.2 | (with_reducible refine Kd.C_alloc ?_ _) | (with_reducible refine Kd.C_drewN ?_ _) | (with_reducible refine Kd.C_drew ?_)))
    (case aB => exact (bI HB.out))
    (case aF => exact (fun k_ hk => Kd.fresh' (Kd.R_lt (rI HO398.out)) k_ hk))
    (case aO => exact (rI (Kd.R_mono HO395.out (fun _ hk => hk.2))))
    (case aS => exact (below_size (bI HB.out)))
    (case aL => have := LMc7.out; omega)
    intro v400 w21 ho hb hg hat
    rw [← Ny399.out] at ho
    have n0_ := bn BK390 hg (Kd.R_ne HO395.out BK390.out (by decide))
    have n1_ := bn BK391 hg (Kd.R_ne HO395.out BK391.out (by decide))
    have n2_ := Aside0.mk (Kd.R_after (ok := (fun _ => True)) (rI HO398.out) hg hat)
    have n3_ := Aside0.mk (hb)
    have n4_ := Aside0.mk (ho)
    clear BK390
    clear BK391
    clear HO398
    clear HB
    clear HO395
    have BK390 := n0_
    have BK391 := n1_
    have HO398 := n2_
    have HB := n3_
    have HO401 := n4_
    clear n0_ n1_ n2_ n3_ n4_
    clear ho hb hg hat
    refine hK.out _ _ ⟨bc0 BK391.out, bc1 BK391.out, bc2 BK391.out⟩ (fun hHeld => ?_)
    clear hK K
    refine nA (some 16) ?_
    refine pA 7 (some 5) (bz 8 255) HT_ ?_
    refine done_ (done_of HT_.out (by kernel_rfl)) ?_
    have hcz23_0 := bc0 BK391.out
    have hcz23_1 := bc1 BK391.out
    have hcz23_2 := bc2 BK391.out
    have hfz23_0 := blk_frozen BK391.out 0
    have hfz23_1 := blk_frozen BK391.out 1
    have hfz23_2 := blk_frozen BK391.out 2
    try go_wp2_with (first | ((with_reducible refine gate_callee (f := 91) rfl ?_); refine gB (some 21) Tryd.func91 #[.int .i64 (l1_2.length : Int)] ?_; (with_reducible refine (impl_PutNum.calls k (l1_2.length : Int) t402 _ A8.out).mono ?_); rintro e w24 ⟨v403, rfl, ho0, hb⟩; refine ⟨_, rfl, ?_⟩; have HO404 := Aside0.mk (Kd.R_lower (Kd.R_new' (Kd.R_new' ho0 (Kd.R_lt (rI HO398.out))) (Kd.R_lt (rI HO401.out))) (below_size (bI HB.out))); replace HO398 := Aside0.mk (Kd.R_elder' (rI HO398.out) (Kd.R_base ho0) hb); replace HO401 := Aside0.mk (Kd.R_elder' (rI HO401.out) (Kd.R_base ho0) hb); replace BK390 := bk BK390 hb; replace BK391 := bk BK391 hb; replace HB := bs HB hb; (try clear hb); (try clear ho0); obtain ⟨Ao26, co26, eo26⟩ := Kd.R_slice HO404.out; subst eo26) | ((with_reducible refine gate_builtin (b := .append) (xs := #[.tmp 17, .tmp 21]) rfl ?_); at_builtin; refine Kd.R_append_rows (Kd.int .u8) (w0 := w) w.heap.size rfl (.tmp 17) (.tmp 21) 74 5 (.int .u8 0) 1 rfl Tryd.underlying74 info5 rfl (by decide) (by omega) v400 y399 t402 _ _ _ (fun k_ => some k_ ≠ (.slice Ao22 t396.length co22 : Value).ownBlock ∧ some k_ ≠ (.slice Ao26 t402.length co26 : Value).ownBlock) (fun _ => False) rfl rfl ?aO ?aR (fun _ _ h => h) (fun _ h => h.elim) ?aF ?aB ?aS ?aL ?_; (case aR => repeat (first | exact (Kd.R_reads' HO404.out).2.2 | (with_reducible refine Kd.C_alloc ?_ _) | (with_reducible refine Kd.C_drewN ?_ _) | (with_reducible refine Kd.C_drew ?_))); (case aB => exact (bI HB.out)); (case aF => exact (fun k_ hk => ⟨Kd.fresh' (Kd.R_lt (rI HO398.out)) k_ hk, Kd.fresh' (Kd.R_lt (rI HO404.out)) k_ hk⟩)); (case aO => exact (rI HO401.out)); (case aS => exact (below_size (bI HB.out))); (case aL => have := LMc9.out; omega); intro v406 w25 ho hb hg hat; rw [← Ny405.out] at ho; have n0_ := bn BK390 hg (Kd.R_ne HO401.out BK390.out (by decide)); have n1_ := bn BK391 hg (Kd.R_ne HO401.out BK391.out (by decide)); have n2_ := Aside0.mk (Kd.R_after (ok := (fun k_ => some k_ ≠ (.slice Ao26 t402.length co26 : Value).ownBlock)) (rI (Kd.R_mono HO398.out (fun _ hk => ⟨hk.2, hk.1.2⟩))) hg hat); have n3_ := Aside0.mk (Kd.R_after (ok := (fun k_ => some k_ ≠ (.slice Ao22 t396.length co22 : Value).ownBlock)) (rI (Kd.R_mono HO404.out (fun _ hk => ⟨hk.1.2, hk.2⟩))) hg hat); have n4_ := Aside0.mk (hb); have n5_ := Aside0.mk (ho); clear BK390; clear BK391; clear HO398; clear HO404; clear HB; clear HO401; have BK390 := n0_; have BK391 := n1_; have HO398 := n2_; have HO404 := n3_; have HB := n4_; have HO407 := n5_; clear n0_ n1_ n2_ n3_ n4_ n5_; clear ho hb hg hat; obtain ⟨hcz27_0, hcz27_1, hcz27_2, hfz27_0, hfz27_1, hfz27_2⟩ := cs3 BK391) | ((with_reducible refine gate_callee (f := 93) rfl ?_); refine gB (some 26) Tryd.func93 #[.slice A1_2 l1_2.length c1_2] ?_; (with_reducible refine (impl_putNums.calls k _ _ l1_2 t408 _ ?side1 ?side2 A10.out).mono ?_); (case side1 => exact ch HR1_2 HB); (case side2 => exact HC1_2.out); rintro e w28 ⟨v409, rfl, ho0, hb⟩; refine ⟨_, rfl, ?_⟩; have n0_ := Aside0.mk (Kd.R_elder' (rI HO398.out) (Kd.R_base ho0) hb); have n1_ := Aside0.mk (Kd.R_elder' (rI HO404.out) (Kd.R_base ho0) hb); have n2_ := Aside0.mk (Kd.R_elder' (rI HO407.out) (Kd.R_base ho0) hb); have n3_ := Aside0.mk (Kd.R_lower (Kd.R_new' (Kd.R_new' (Kd.R_new' ho0 (Kd.R_lt (rI HO398.out))) (Kd.R_lt (rI HO404.out))) (Kd.R_lt (rI HO407.out))) (below_size (bI HB.out))); have n4_ := bk BK390 hb; have n5_ := bk BK391 hb; have n6_ := bs HB hb; clear HO398; clear HO404; clear HO407; clear BK390; clear BK391; clear HB; have HO398 := n0_; have HO404 := n1_; have HO407 := n2_; have HO410 := n3_; have BK390 := n4_; have BK391 := n5_; have HB := n6_; clear n0_ n1_ n2_ n3_ n4_ n5_ n6_; (try clear hb); (try clear ho0); obtain ⟨Ao30, co30, eo30⟩ := Kd.R_slice HO410.out; subst eo30) | ((with_reducible refine gate_builtin (b := .append) (xs := #[.tmp 23, .tmp 26]) rfl ?_); at_builtin; refine Kd.R_append_rows (Kd.int .u8) (w0 := w) w.heap.size rfl (.tmp 23) (.tmp 26) 74 5 (.int .u8 0) 1 rfl Tryd.underlying74 info5 rfl (by decide) (by omega) v406 y405 t408 _ _ _ (fun k_ => some k_ ≠ (.slice Ao22 t396.length co22 : Value).ownBlock ∧ some k_ ≠ (.slice Ao26 t402.length co26 : Value).ownBlock ∧ some k_ ≠ (.slice Ao30 t408.length co30 : Value).ownBlock) (fun _ => False) rfl rfl ?aO ?aR (fun _ _ h => h) (fun _ h => h.elim) ?aF ?aB ?aS ?aL ?_; (case aR => repeat (first | exact (Kd.R_reads' HO410.out).2.2 | (with_reducible refine Kd.C_alloc ?_ _) | (with_reducible refine Kd.C_drewN ?_ _) | (with_reducible refine Kd.C_drew ?_))); (case aB => exact (bI HB.out)); (case aF => exact (fun k_ hk => ⟨Kd.fresh' (Kd.R_lt (rI HO398.out)) k_ hk, Kd.fresh' (Kd.R_lt (rI HO404.out)) k_ hk, Kd.fresh' (Kd.R_lt (rI HO410.out)) k_ hk⟩)); (case aO => exact (rI (Kd.R_mono HO407.out (fun _ hk => ⟨hk.1.1, ⟨hk.1.2, hk.2⟩⟩)))); (case aS => exact (below_size (bI HB.out))); (case aL => have := LMc11.out; omega); intro v412 w29 ho hb hg hat; rw [← Ny411.out] at ho; have n0_ := bn BK390 hg (Kd.R_ne HO407.out BK390.out (by decide)); have n1_ := bn BK391 hg (Kd.R_ne HO407.out BK391.out (by decide)); have n2_ := Aside0.mk (Kd.R_after (ok := (fun k_ => some k_ ≠ (.slice Ao26 t402.length co26 : Value).ownBlock ∧ some k_ ≠ (.slice Ao30 t408.length co30 : Value).ownBlock)) (rI (Kd.R_mono HO398.out (fun _ hk => ⟨⟨hk.1.1, hk.2⟩, hk.1.2⟩))) hg hat); have n3_ := Aside0.mk (Kd.R_after (ok := (fun k_ => some k_ ≠ (.slice Ao22 t396.length co22 : Value).ownBlock ∧ some k_ ≠ (.slice Ao30 t408.length co30 : Value).ownBlock)) (rI (Kd.R_mono HO404.out (fun _ hk => ⟨⟨hk.1.1, hk.2⟩, hk.1.2⟩))) hg hat); have n4_ := Aside0.mk (Kd.R_after (ok := (fun k_ => some k_ ≠ (.slice Ao22 t396.length co22 : Value).ownBlock ∧ some k_ ≠ (.slice Ao26 t402.length co26 : Value).ownBlock)) (rI (Kd.R_mono HO410.out (fun _ hk => ⟨⟨hk.1.1.2, hk.1.2⟩, hk.2⟩))) hg hat); have n5_ := Aside0.mk (hb); have n6_ := Aside0.mk (ho); clear BK390; clear BK391; clear HO398; clear HO404; clear HO410; clear HB; clear HO407; have BK390 := n0_; have BK391 := n1_; have HO398 := n2_; have HO404 := n3_; have HO410 := n4_; have HB := n5_; have HO413 := n6_; clear n0_ n1_ n2_ n3_ n4_ n5_ n6_; clear ho hb hg hat))
    go_ret
    exact ⟨_, y0_7, by (with_reducible repeat (first | apply Kd.R_alloc | apply Kd.R_drewN | apply Kd.R_drew)); exact Kd.R_mono HO413.out (fun _ hk => trivial), bI HB.out⟩
  · replace c4 := Bool.eq_false_iff.mpr c4
    subst c4
    rw [if_neg (show ¬ (false = true) by decide)] at H
    obtain rfl := Option.some.inj H
    go_enter Tryd.func49, Tryd.ntmps49
    go_wp2_with (first | ((with_reducible refine gd 2 ?_); refine bA 2 #[.int .i64 a0_0, .int .i64 a0_1] 32 ?_; intro gb390 hg w31 hbox hb; have BK390 := Aside0.mk (hbox); have GW390 := bg hg HB; have GJ390 := gi GW390; have GE390 := GW390; replace HB := bs HB hb; clear hb hbox hg) | ((with_reducible refine gd 3 ?_); refine bA 3 #[.int .i64 a1_0, .string a1_1, .slice A1_2 l1_2.length c1_2] 41 ?_; intro gb391 hg w32 hbox hb; have BK391 := Aside0.mk (hbox); have GW391 := bg hg HB; have GJ391 := gi GW391; have GE391 := GW391; replace HB := bs HB hb; have NB390_391 := b1 BK390 hg; have NI390_391 := ni NB390_391; have NB391_390 := b2 BK390 hg; have NI391_390 := ni NB391_390; replace BK390 := bk BK390 hb; clear hb hbox hg; have hnb33 := NB390_391.out; have hnc33 := NB391_390.out; obtain ⟨hcz34_0, hcz34_1, hfz34_0, hfz34_1⟩ := cs2 BK390; obtain ⟨hcz35_0, hcz35_1, hcz35_2, hfz35_0, hfz35_1, hfz35_2⟩ := cs3 BK391) | ((with_reducible refine gate_callee (f := 26) rfl ?_); refine gB (some 8) Tryd.func26 #[.agg #[.int .i64 a0_0, .int .i64 a0_1], .agg #[.int .i64 a1_0, .string a1_1, .slice A1_2 l1_2.length c1_2]] ?_; (with_reducible refine (impl_QcOk.calls k a0_0 a0_1 a1_0 a1_1 _ _ l1_2 false _ ?side1 ?side2 A3.out).mono ?_); (case side1 => exact ch HR1_2 HB); (case side2 => exact HC1_2.out); rintro e w36 ⟨rfl, hb⟩; refine ⟨_, rfl, ?_⟩; replace BK390 := bk BK390 hb; replace BK391 := bk BK391 hb; replace HB := bs HB hb; (try clear hb); (try clear hb2); (try clear hk); (try clear hi)))
    go_ret
    exact ⟨_, y0_7, y0_0, bI HB.out⟩

/-! ### laws_eqByteS: function 50 -/
def laws_eqByteS.l0 : Nat → List Int → List Int → Int → Option (Bool)
  | 0, _, _, _ => none
  | k + 1, x0, x1, x5 => if x5 < (x0.length : Int) then (if 0 ≤ x5 then (if x5 < (x1.length : Int) then (if (rd x0 x5) = (rd x1 x5) then (laws_eqByteS.l0 k x0 x1 (wrap64 (x5 + 1))) else (some false)) else (none)) else (none)) else (some true)
def laws_eqByteS.f (k : Nat) (l0 : List Int) (l1 : List Int) : Option (Bool) := if (l0.length : Int) = (l1.length : Int) then (laws_eqByteS.l0 k l0 l1 0) else (some false)
theorem laws_eqByteS.mono_l : ∀ k, (∀ y0 y1 y2, LeO (laws_eqByteS.l0 k y0 y1 y2) (laws_eqByteS.l0 (k + 1) y0 y1 y2))
  | 0 => fun _ _ _ r h => by simp [laws_eqByteS.l0] at h
  | k + 1 => by
    have ih0 := laws_eqByteS.mono_l k
    · intro y0 y1 y2
      unfold laws_eqByteS.l0
      repeat' first
      | (with_reducible exact ih0 _ _ _)
      | (with_reducible exact LeO.refl _)
      | (with_reducible exact LeO.none _)
      | (with_reducible refine LeO.ite ?_ ?_)
      | (with_reducible refine LeO.bind ?_ (fun _ => ?_))
      | exact ih0 _ _ _
      | exact LeO.none _
      | refine LeO.ite ?_ ?_
      | refine LeO.bind ?_ (fun _ => ?_)
theorem laws_eqByteS.mono : ∀ a0 a1 k, LeO (laws_eqByteS.f k a0 a1) (laws_eqByteS.f (k + 1) a0 a1) := by
  intro a0 a1 k
  have ih0 := laws_eqByteS.mono_l k
  unfold laws_eqByteS.f
  repeat' first
      | (with_reducible exact ih0 _ _ _)
      | (with_reducible exact LeO.refl _)
      | (with_reducible exact LeO.none _)
      | (with_reducible refine LeO.ite ?_ ?_)
      | (with_reducible refine LeO.bind ?_ (fun _ => ?_))
      | exact ih0 _ _ _
      | exact LeO.none _
      | refine LeO.ite ?_ ?_
      | refine LeO.bind ?_ (fun _ => ?_)
set_option maxHeartbeats 8000000 in
set_option maxRecDepth 100000 in
theorem laws_eqByteS.calls (k : Nat) (A0 : Option Addr) (c0 : Nat) (l0 : List Int) (A1 : Option Addr) (c1 : Nat) (l1 : List Int) (r : Bool) (w : World) (hr0 : Kd.C (Kd.int .u8) w A0 l0.length l0) (hc0 : l0.length ≤ c0) (hr1 : Kd.C (Kd.int .u8) w A1 l1.length l1) (hc1 : l1.length ≤ c1) (h : laws_eqByteS.f k l0 l1 = some r) :
    Calls Tryd.prog 50 #[.slice A0 l0.length c0, .slice A1 l1.length c1] w fun e w' => e = .returned (.bool r) ∧ Drawn0 w w' := by
  have HR0 := Aside0.mk hr0
  have HC0 := Aside0.mk hc0
  clear hr0 hc0
  have HR1 := Aside0.mk hr1
  have HC1 := Aside0.mk hc1
  clear hr1 hc1
  have H : (if (l0.length : Int) = (l1.length : Int) then (laws_eqByteS.l0 k l0 l1 0) else (some false)) = some r := h
  clear h
  by_cases c3 : (l0.length : Int) = (l1.length : Int)
  · rw [if_pos c3] at H
    have c3b0 : ((l0.length : Int) == (l1.length : Int)) = true := beq_iff_eq.mpr c3
    have c3b1 : ((l0.length : Int) != (l1.length : Int)) = false := bne_eq_false_iff_eq.mpr c3
    have c3b2 : (l0.length == l1.length) = true := by first | simpa using c3 | (simp at c3 ⊢; omega)
    clear c3
    have H' := Aside0.mk H
    clear H
    go_enter Tryd.func50, Tryd.ntmps50
    go_wp2
    repeat (go_quiet (fail); try go_wp2)
    go_loopg [5] k (fun kq v5 w' => ∃ (x5_1 : Int), v5 = .int .i64 x5_1 ∧ Aside0 (laws_eqByteS.l0 kq l0 l1 x5_1 = some r) ∧ Aside0 (kq ≤ k) ∧ Drawn0 w w')
    case atStart => exact ⟨(0), y0_10, H', ⟨Nat.le_refl _⟩, y0_8⟩
    case round =>
      clear H'
      try clear c1
      try clear p2
      try clear c3
      try clear c3b0
      try clear c3b1
      try clear c3b2
      obtain ⟨x5_1, rfl, HA, HK1, ⟨m1, rfl⟩⟩ := hrel
      cases gk with
      | zero => exact absurd HA.out (by simp [laws_eqByteS.l0])
      | succ k1 =>
        have H := HA.out
        clear HA
        simp only [laws_eqByteS.l0] at H
        by_cases c4 : x5_1 < (l0.length : Int)
        · rw [if_pos c4] at H
          have c4b0 : decide (x5_1 < (l0.length : Int)) = true := decide_eq_true c4
          clear c4
          by_cases c5 : 0 ≤ x5_1
          rotate_left
          · rw [if_neg c5] at H
            exact absurd H (by simp)
          rw [if_pos c5] at H
          have c5b0 : decide (0 ≤ x5_1) = true := decide_eq_true c5
          clear c5
          by_cases c6 : x5_1 < (l1.length : Int)
          rotate_left
          · rw [if_neg c6] at H
            exact absurd H (by simp)
          rw [if_pos c6] at H
          have c6b0 : decide (x5_1 < (l1.length : Int)) = true := decide_eq_true c6
          clear c6
          by_cases c7 : (rd l0 x5_1) = (rd l1 x5_1)
          · rw [if_pos c7] at H
            have c7b0 : ((rd l0 x5_1) == (rd l1 x5_1)) = true := beq_iff_eq.mpr c7
            have c7b1 : ((rd l0 x5_1) != (rd l1 x5_1)) = false := bne_eq_false_iff_eq.mpr c7
            clear c7
            have H' := Aside0.mk H
            clear H
            have p414 : 0 ≤ (x5_1 : Int) := of_decide_eq_true y0_9
            have q414 : x5_1 < (l0.length : Int) := of_decide_eq_true y0_9
            obtain ⟨ad414, e414, hx414_0⟩ := Kd.at_int HR0.out x5_1 p414 q414
            cases e414
            replace p414 := eq_true p414
            replace q414 := eq_true q414
            have p415 : 0 ≤ (x5_1 : Int) := of_decide_eq_true y0_9
            have q415 : x5_1 < (l1.length : Int) := of_decide_eq_true y0_9
            obtain ⟨ad415, e415, hx415_0⟩ := Kd.at_int HR1.out x5_1 p415 q415
            cases e415
            replace p415 := eq_true p415
            replace q415 := eq_true q415
            go_wp2
            repeat (go_quiet (fail); try go_wp2)
            go_roundg k1
            case measure => have := HK1.out; omega
            case rel => exact ⟨(wrap64 (x5_1 + 1)), y0_10, H', ⟨y0_14⟩, y0_8⟩
          · rw [if_neg c7] at H
            have c7b0 : ((rd l0 x5_1) == (rd l1 x5_1)) = false := beq_eq_false_iff_ne.mpr c7
            have c7b1 : ((rd l0 x5_1) != (rd l1 x5_1)) = true := bne_iff_ne.mpr c7
            obtain rfl := Option.some.inj H
            have p414 : 0 ≤ (x5_1 : Int) := of_decide_eq_true y0_9
            have q414 : x5_1 < (l0.length : Int) := of_decide_eq_true y0_9
            obtain ⟨ad414, e414, hx414_0⟩ := Kd.at_int HR0.out x5_1 p414 q414
            cases e414
            replace p414 := eq_true p414
            replace q414 := eq_true q414
            have p415 : 0 ≤ (x5_1 : Int) := of_decide_eq_true y0_9
            have q415 : x5_1 < (l1.length : Int) := of_decide_eq_true y0_9
            obtain ⟨ad415, e415, hx415_0⟩ := Kd.at_int HR1.out x5_1 p415 q415
            cases e415
            replace p415 := eq_true p415
            replace q415 := eq_true q415
            go_wp2
            repeat (go_quiet (fail); try go_wp2)
            go_ret
            exact ⟨y0_10, y0_8⟩
        · rw [if_neg c4] at H
          have c4b0 : decide (x5_1 < (l0.length : Int)) = false := decide_eq_false c4
          clear c4
          obtain rfl := Option.some.inj H
          go_wp2
          repeat (go_quiet (fail); try go_wp2)
          go_ret
          exact ⟨y0_10, y0_8⟩
  · rw [if_neg c3] at H
    have c3b0 : ((l0.length : Int) == (l1.length : Int)) = false := beq_eq_false_iff_ne.mpr c3
    have c3b1 : ((l0.length : Int) != (l1.length : Int)) = true := bne_iff_ne.mpr c3
    have c3b2 : (l0.length == l1.length) = false := by first | simpa using c3 | (simp at c3 ⊢; omega)
    obtain rfl := Option.some.inj H
    go_enter Tryd.func50, Tryd.ntmps50
    go_wp2
    repeat (go_quiet (fail); try go_wp2)
    go_ret
    exact ⟨y0_10, y0_8⟩

/-! ### laws_markByteS: function 51 -/
def laws_markByteS.l0 : Nat → List Int → Int → Int → Option (Int × List Int)
  | 0, _, _, _ => none
  | k + 1, x0, x1, x5 => if x5 < (x0.length : Int) then (if 0 ≤ x5 then (laws_markByteS.l0 k (x0.set (x5 : Int).toNat ((x1) % 256)) (wrap64 (x1 + 1)) (wrap64 (x5 + 1))) else (none)) else (some (x1, x0))
def laws_markByteS.f (k : Nat) (l0 : List Int) (a1 : Int) : Option (Int × List Int) := laws_markByteS.l0 k l0 a1 0
theorem laws_markByteS.mono_l : ∀ k, (∀ y0 y1 y2, LeO (laws_markByteS.l0 k y0 y1 y2) (laws_markByteS.l0 (k + 1) y0 y1 y2))
  | 0 => fun _ _ _ r h => by simp [laws_markByteS.l0] at h
  | k + 1 => by
    have ih0 := laws_markByteS.mono_l k
    · intro y0 y1 y2
      unfold laws_markByteS.l0
      repeat' first
      | (with_reducible exact ih0 _ _ _)
      | (with_reducible exact LeO.refl _)
      | (with_reducible exact LeO.none _)
      | (with_reducible refine LeO.ite ?_ ?_)
      | (with_reducible refine LeO.bind ?_ (fun _ => ?_))
      | exact ih0 _ _ _
      | exact LeO.none _
      | refine LeO.ite ?_ ?_
      | refine LeO.bind ?_ (fun _ => ?_)
theorem laws_markByteS.mono : ∀ a0 a1 k, LeO (laws_markByteS.f k a0 a1) (laws_markByteS.f (k + 1) a0 a1) := by
  intro a0 a1 k
  have ih0 := laws_markByteS.mono_l k
  unfold laws_markByteS.f
  repeat' first
      | (with_reducible exact ih0 _ _ _)
      | (with_reducible exact LeO.refl _)
      | (with_reducible exact LeO.none _)
      | (with_reducible refine LeO.ite ?_ ?_)
      | (with_reducible refine LeO.bind ?_ (fun _ => ?_))
      | exact ih0 _ _ _
      | exact LeO.none _
      | refine LeO.ite ?_ ?_
      | refine LeO.bind ?_ (fun _ => ?_)
set_option maxHeartbeats 8000000 in
set_option maxRecDepth 100000 in
theorem laws_markByteS.calls (k : Nat) (P0_ : Nat → Prop) (u9000_ : Value) (l0 : List Int) (a1 : Int) (r1 : Int) (r2 : List Int) (w0 w : World) (hB : Below w0.heap.size w0 w) (ho0 : Kd.R (Kd.int .u8) 5 w w0.heap.size P0_ u9000_ l0) (h : laws_markByteS.f k l0 a1 = some (r1, r2)) :
    Calls Tryd.prog 51 #[u9000_, .int .i64 a1] w fun e w' => e = .returned (.int .i64 r1) ∧ Kd.R (Kd.int .u8) 5 w' w0.heap.size (fun k_ => (P0_ k_ ∨ w.heap.size ≤ k_)) u9000_ r2 ∧ Below w0.heap.size w0 w' ∧ Kept w w' (fun k_ => P0_ k_) := by
  have HO0 := Aside0.mk (show Kd.R (Kd.int .u8) 5 w w0.heap.size (fun k_ => (P0_ k_ ∨ w.heap.size ≤ k_)) u9000_ l0 from Kd.R_mono ho0 (fun k_ hk => (.inl hk)))
  have HK := Aside0.mk (Kept.refl w (fun k_ => P0_ k_))
  have HW0 := Aside0.mk hB.size
  have HB := Aside0.mk hB
  clear hB
  have H : (laws_markByteS.l0 k l0 a1 0) = some (r1, r2) := h
  clear h
  have H' := Aside0.mk H
  clear H
  go_enter Tryd.func51, Tryd.ntmps51
  go_wp2
  go_loopg [1, 5] k (fun kq v1 v5 w' => ∃ (x0_1 : List Int) (x1_1 : Int) (x5_1 : Int), v1 = .int .i64 x1_1 ∧ v5 = .int .i64 x5_1 ∧ Aside0 (laws_markByteS.l0 kq x0_1 x1_1 x5_1 = some (r1, r2)) ∧ Aside0 (kq ≤ k) ∧ Aside0 (Kd.R (Kd.int .u8) 5 w' w0.heap.size (fun k_ => (P0_ k_ ∨ w.heap.size ≤ k_)) u9000_ x0_1) ∧ Aside0 (Kept w w' (fun k_ => P0_ k_)) ∧ Aside0 (Below w0.heap.size w0 w'))
  case atStart => exact ⟨(l0), (a1), (0), y0_10, y0_10, H', ⟨Nat.le_refl _⟩, ⟨by (with_reducible repeat (first | apply Kd.R_alloc | apply Kd.R_drewN | apply Kd.R_drew)); exact HO0.out⟩, ⟨y0_3⟩, ⟨bI HB.out⟩⟩
  case round =>
    clear H'
    try clear p2
    obtain ⟨x0_1, x1_1, x5_1, rfl, rfl, HA, HK1, HO_0, HK, HB⟩ := hrel
    cases gk with
    | zero => exact absurd HA.out (by simp [laws_markByteS.l0])
    | succ k1 =>
      have H := HA.out
      clear HA
      simp only [laws_markByteS.l0] at H
      by_cases c3 : x5_1 < (x0_1.length : Int)
      · rw [if_pos c3] at H
        have c3b0 : decide (x5_1 < (x0_1.length : Int)) = true := decide_eq_true c3
        clear c3
        by_cases c4 : 0 ≤ x5_1
        rotate_left
        · rw [if_neg c4] at H
          exact absurd H (by simp)
        rw [if_pos c4] at H
        have c4b0 : decide (0 ≤ x5_1) = true := decide_eq_true c4
        clear c4
        obtain ⟨y416, hy416⟩ : ∃ y_ : List Int, y_ = (x0_1.set (x5_1 : Int).toNat ((x1_1) % 256)) := ⟨_, rfl⟩
        replace H : (laws_markByteS.l0 k1 y416 (wrap64 (x1_1 + 1)) (wrap64 (x5_1 + 1))) = some (r1, r2) := by first | (rw [hy416]; with_reducible exact H) | (have H2_ := (Option.bind_some _ _).symm.trans H; rw [hy416]; with_reducible exact H2_) | (have H2_ := (Option.bind_some _ _).symm.trans H; with_reducible exact H2_) | with_reducible exact H | (rw [hy416]; exact H) | exact H
        have Ny416 := Aside0.mk hy416
        clear hy416
        have H' := Aside0.mk H
        clear H
        obtain ⟨Ao6, co6, eo6⟩ := Kd.R_slice HO_0.out
        subst eo6
        have p5 : 0 ≤ (x5_1 : Int) := of_decide_eq_true y0_9
        have q5 : (x5_1 : Int) < ((x0_1.length : Int) : Int) := of_decide_eq_true y0_9
        obtain ⟨go5, co5, eo5, gb5, gl5, cl5, HG5⟩ := Kd.R_form HO_0.out (by omega)
        (first | cases eo5 | (injection eo5 with ea_ en_ ec_; (first | subst ea_ | (injection ea_ with ea_; subst ea_)); subst ec_; clear en_))
        have GB5 := Aside0.mk gb5
        have GG5 := Aside0.mk HG5
        clear gb5 gl5 HG5
        have HMgo5 := Aside0.mk (show (P0_ go5 ∨ w.heap.size ≤ go5) from (HO_0.out.1 _ rfl))
        obtain ⟨hx5_0, hf5_0⟩ := Kd.R_celln 0 HO_0.out (x5_1 : Int) p5 q5
        replace p5 := eq_true p5
        replace q5 := eq_true q5
        have HP7 := Kd.R_putg HO_0.out (x5_1 : Int) ((x1_1) % 256)
        go_wp2_with (first | ((with_reducible refine gate_store (t := 5) (p := 16) rfl ?_); refine store_event (t := 5) (p := 16) (v := ?vo_w8) (w1 := (wr.setCell ⟨go5, (x5_1 : Int).toNat, none⟩ (.int .u8 ((x1_1) % 256)))) ?hg ?ho ?hn ?hr ?_; (case ho => rfl); (case hg => rfl); (case hn => rfl); (case hr => first | (go_simp; done) | (go_simp; rfl)); intro w8 hw; have hg : wr.grownBy w8 (some go5) := (by rw [hw]; exact HP7.2); have hp_ : Kd.R (Kd.int .u8) 5 w8 w0.heap.size (fun k_ => (P0_ k_ ∨ w.heap.size ≤ k_)) (.slice (some ⟨go5, 0, none⟩) x0_1.length co6) y416 := (by rw [hw, Ny416.out]; exact HP7.1); clear HP7; replace HB := Aside0.mk ((by rw [hw]; exact below_set (HB.out) GB5.out : Below w0.heap.size w0 w8)); replace HK := Aside0.mk (Kept.of_grown (S := (fun k_ => P0_ k_)) hg y0_3 (fun k_ e_ => (HO_0.out.1 k_ e_))); replace HO_0 := Aside0.mk (hp_); clear hg hw hp_))
        go_roundg k1
        case measure => have := HK1.out; omega
        case rel => exact ⟨(y416), (wrap64 (x1_1 + 1)), (wrap64 (x5_1 + 1)), y0_10, y0_10, H', ⟨y0_14⟩, ⟨y0_5⟩, ⟨y0_3⟩, ⟨bI HB.out⟩⟩
      · rw [if_neg c3] at H
        have c3b0 : decide (x5_1 < (x0_1.length : Int)) = false := decide_eq_false c3
        clear c3
        simp only [Option.some.injEq, Prod.mk.injEq] at H
        obtain ⟨rfl, rfl⟩ := H
        obtain ⟨Ao9, co9, eo9⟩ := Kd.R_slice HO_0.out
        subst eo9
        go_wp2
        go_ret
        exact ⟨y0_7, y0_5, bI HB.out, y0_3⟩

end Go.Proofs.YtcmldmlmhpfjhaaDoor.PFnExactQcBytes
