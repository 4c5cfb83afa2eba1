-- By a program of this session, out of the translation (the print of the kit, with turns of its own). Lean checks it.
import Derived.Test.YtcmldmlmhpfjhaaDoorPFnExactQcBytesx0
import Derived.Test.YtcmldmlmhpfjhaaDoorPFnExactQcBytesx1
import Derived.Test.YtcmldmlmhpfjhaaDoorPFnExactQcBytesx5
namespace Go.Proofs.YtcmldmlmhpfjhaaDoor.PFnExactQcBytes
open Go.RowKit Go.Proofs.YtcmldmlmhpfjhaaDoorW.PrintWords Go.Proofs.YtcmldmlmhpfjhaaDoorW.PrintLast Go.Proofs.YtcmldmlmhpfjhaaDoorW.PrintMore
attribute [local go_sem] max2_int min2_int max_two min_two max_three min_three max_four min_four   -- for this text's walks alone
set_option linter.unusedVariables false
set_option linter.unusedSimpArgs false

/-! ### spec_PutNum: function 89 -/
def spec_PutNum.l0 : Nat → Int → List Int → Option (List Int)
  | 0, _, _ => none
  | k + 1, x0, x3 => if x0 > 127 then (if x3.length < 140737488355328 then (spec_PutNum.l0 k (wrap64 (Int.tdiv x0 128)) (x3 ++ [(wrap64 ((Int.tmod x0 128) + 128)) % 256])) else (none)) else (if x3.length < 140737488355328 then (some (x3 ++ [(x0) % 256])) else (none))
def spec_PutNum.f (k : Nat) (a0 : Int) : Option (List Int) := (some (([] : List Int) : List Int)).bind fun y240 => ((spec_l1In.f a0 0 2147483647).bind fun t243 => (if t243 = true then (spec_PutNum.l0 k a0 y240) else (some y240)))
theorem spec_PutNum.mono_l : ∀ k, (∀ y0 y1, LeO (spec_PutNum.l0 k y0 y1) (spec_PutNum.l0 (k + 1) y0 y1))
  | 0 => fun _ _ r h => by simp [spec_PutNum.l0] at h
  | k + 1 => by
    have ih0 := spec_PutNum.mono_l k
    · intro y0 y1
      unfold spec_PutNum.l0
      repeat' first
      | (with_reducible exact ih0 _ _)
      | (with_reducible exact LeO.refl _)
      | (with_reducible exact LeO.none _)
      | (with_reducible refine LeO.ite ?_ ?_)
      | (with_reducible refine LeO.bind ?_ (fun _ => ?_))
      | exact ih0 _ _
      | exact LeO.none _
      | refine LeO.ite ?_ ?_
      | refine LeO.bind ?_ (fun _ => ?_)
theorem spec_PutNum.mono : ∀ a0 k, LeO (spec_PutNum.f k a0) (spec_PutNum.f (k + 1) a0) := by
  intro a0 k
  have ih0 := spec_PutNum.mono_l k
  unfold spec_PutNum.f
  repeat' first
      | (with_reducible exact ih0 _ _)
      | (with_reducible exact LeO.refl _)
      | (with_reducible exact LeO.none _)
      | (with_reducible refine LeO.ite ?_ ?_)
      | (with_reducible refine LeO.bind ?_ (fun _ => ?_))
      | exact ih0 _ _
      | exact LeO.none _
      | refine LeO.ite ?_ ?_
      | refine LeO.bind ?_ (fun _ => ?_)
set_option maxHeartbeats 8000000 in
set_option maxRecDepth 100000 in
theorem spec_PutNum.calls (k : Nat) (a0 : Int) (r : List Int) (w : World) (h : spec_PutNum.f k a0 = some r) :
    Calls Tryd.prog 89 #[.int .i64 a0] w fun e w' => ∃ v0_ : Value, e = .returned (v0_) ∧ Kd.R (Kd.int .u8) 5 w' w.heap.size (fun _ => True) v0_ r ∧ Below w.heap.size w w' := by
  have HB := Aside0.mk (Below.refl w.heap.size w)
  have H : ((some (([] : List Int) : List Int)).bind fun y240 => ((spec_l1In.f a0 0 2147483647).bind fun t243 => (if t243 = true then (spec_PutNum.l0 k a0 y240) else (some y240)))) = some r := h
  clear h
  obtain ⟨y240, hy240⟩ : ∃ y_ : List Int, y_ = (([] : List Int)) := ⟨_, rfl⟩
  replace H : ((spec_l1In.f a0 0 2147483647).bind fun t243 => (if t243 = true then (spec_PutNum.l0 k a0 y240) else (some y240))) = some r := by first | (rw [hy240]; with_reducible exact H) | (have H2_ := (Option.bind_some _ _).symm.trans H; rw [hy240]; with_reducible exact H2_) | (have H2_ := (Option.bind_some _ _).symm.trans H; with_reducible exact H2_) | with_reducible exact H | (rw [hy240]; exact H) | exact H
  have Ny240 := Aside0.mk hy240
  clear hy240
  obtain ⟨t243, A20, H⟩ := Option.bind_eq_some_iff.mp H
  try dsimp only at H
  have A2 := Aside0.mk A20
  clear A20
  by_cases c3 : t243 = true
  · subst c3
    rw [if_pos rfl] at H
    have H' := Aside0.mk H
    clear H
    go_enter Tryd.func89, Tryd.ntmps89
    go_wp2_with (first | ((with_reducible refine gate_dst (N := 4) rfl ?_); refine Kd.R_lit (Kd.int .u8) _ 5 ?hg (N := 4) ?hd (xs := ([] : List Int)) (inner := []) (ok := fun _ => True) (okp := fun _ => True) ?hr ?hp (fun _ hk => hk) trivial (Below.refl _ _) (Nat.le_refl _) (by simp) ?_; (case hd => rfl); (case hg => rfl); (case hr => first | (go_simp; done) | (go_simp; rfl)); (case hp => exact (Reps.none _ _)); intro v241 w4 ho5 hb hg_ hnew_; clear hg_ hnew_; (first | rw [← Ny240.out] at ho5 | (simp only [Int.reduceToNat] at ho5; rw [← Ny240.out] at ho5)); have HO242 := Aside0.mk (Kd.R_lower ho5 (below_size (bI HB.out))); replace HB := bs HB hb; clear hb ho5) | ((with_reducible refine gate_callee (f := 71) rfl ?_); refine gB (some 6) Tryd.func71 #[.int .i64 a0, .int .i64 0, .int .i64 2147483647] ?_; (with_reducible refine (spec_l1In.calls a0 0 2147483647 true _ A2.out).mono ?_); rintro e w' ⟨rfl, ⟨nd, rfl⟩⟩; refine ⟨_, rfl, ?_⟩))
    go_loopg [0, 3] k (fun kq v0 v3 w' => ∃ (x0_1 : Int) (x3_1 : List Int), v0 = .int .i64 x0_1 ∧ Aside0 (spec_PutNum.l0 kq x0_1 x3_1 = some r) ∧ Aside0 (kq ≤ k) ∧ Aside0 (Kd.R (Kd.int .u8) 5 w' w.heap.size (fun _ => True) v3 x3_1) ∧ Aside0 (Below w.heap.size w w'))
    case atStart => exact ⟨(a0), (y240), y0_10, H', ⟨Nat.le_refl _⟩, ⟨by (with_reducible repeat (first | apply Kd.R_alloc | apply Kd.R_drewN | apply Kd.R_drew)); exact HO242.out⟩, ⟨bI HB.out⟩⟩
    case round =>
      clear H'
      try clear p2
      try clear c3
      obtain ⟨x0_1, x3_1, rfl, HA, HK1, HO_3, HB⟩ := hrel
      cases gk with
      | zero => exact absurd HA.out (by simp [spec_PutNum.l0])
      | succ k1 =>
        have H := HA.out
        clear HA
        simp only [spec_PutNum.l0] at H
        by_cases c6 : x0_1 > 127
        · rw [if_pos c6] at H
          have c6b0 : decide (127 < x0_1) = true := decide_eq_true c6
          clear c6
          by_cases c7 : x3_1.length < 140737488355328
          rotate_left
          · rw [if_neg c7] at H
            exact absurd H (by simp)
          rw [if_pos c7] at H
          have LMc7 := Aside0.mk c7
          clear c7
          obtain ⟨y244, hy244⟩ : ∃ y_ : List Int, y_ = (x3_1 ++ [(wrap64 ((Int.tmod x0_1 128) + 128)) % 256]) := ⟨_, rfl⟩
          replace H : (spec_PutNum.l0 k1 (wrap64 (Int.tdiv x0_1 128)) y244) = some r := by first | (rw [hy244]; with_reducible exact H) | (have H2_ := (Option.bind_some _ _).symm.trans H; rw [hy244]; with_reducible exact H2_) | (have H2_ := (Option.bind_some _ _).symm.trans H; with_reducible exact H2_) | with_reducible exact H | (rw [hy244]; exact H) | exact H
          have Ny244 := Aside0.mk hy244
          clear hy244
          have H' := Aside0.mk H
          clear H
          go_wp2_with (first | ((with_reducible refine gate_builtin (b := .append) (xs := #[.tmp 11, .tmp 16]) rfl ?_); at_builtin; refine Kd.R_append (Kd.int .u8) (w0 := w) w.heap.size rfl (.tmp 11) (.tmp 16) 74 5 (.int .u8 0) 1 rfl Tryd.underlying74 info5 rfl (by decide) (by omega) u3 x3_1 ((wrap64 ((Int.tmod x0_1 128) + 128)) % 256) [.int .u8 ((wrap64 ((Int.tmod x0_1 128) + 128)) % 256)] (fun _ => True) (fun _ => False) rfl rfl ?aP (fun _ hk => hk.elim) ?aF ?aO ?aB ?aS ?aL ?_; (case aP => exact rfl); (case aB => exact (bI HB.out)); (case aF => exact (fun _ _ => trivial)); (case aO => exact (rI HO_3.out)); (case aS => exact (below_size (bI HB.out))); (case aL => have := LMc7.out; omega); intro v245 w8 ho hb hg hat; rw [← Ny244.out] at ho; have n0_ := Aside0.mk (hb); have n1_ := Aside0.mk (ho); clear HB; clear HO_3; have HB := n0_; have HO246 := n1_; clear n0_ n1_; clear ho hb hg hat))
          go_roundg k1
          case measure => have := HK1.out; omega
          case rel => exact ⟨(wrap64 (Int.tdiv x0_1 128)), (y244), y0_10, H', ⟨y0_14⟩, ⟨by (with_reducible repeat (first | apply Kd.R_alloc | apply Kd.R_drewN | apply Kd.R_drew)); exact HO246.out⟩, ⟨bI HB.out⟩⟩
        · rw [if_neg c6] at H
          have c6b0 : decide (127 < x0_1) = false := decide_eq_false c6
          clear c6
          by_cases c9 : x3_1.length < 140737488355328
          rotate_left
          · rw [if_neg c9] at H
            exact absurd H (by simp)
          rw [if_pos c9] at H
          have LMc9 := Aside0.mk c9
          clear c9
          obtain ⟨y247, hy247⟩ : ∃ y_ : List Int, y_ = (x3_1 ++ [(x0_1) % 256]) := ⟨_, rfl⟩
          replace H : (some y247) = some r := by first | (rw [hy247]; with_reducible exact H) | (have H2_ := (Option.bind_some _ _).symm.trans H; rw [hy247]; with_reducible exact H2_) | (have H2_ := (Option.bind_some _ _).symm.trans H; with_reducible exact H2_) | with_reducible exact H | (rw [hy247]; exact H) | exact H
          have Ny247 := Aside0.mk hy247
          clear hy247
          obtain rfl := Option.some.inj H
          go_wp2_with (first | ((with_reducible refine gate_builtin (b := .append) (xs := #[.tmp 20, .tmp 23]) rfl ?_); at_builtin; refine Kd.R_append (Kd.int .u8) (w0 := w) w.heap.size rfl (.tmp 20) (.tmp 23) 74 5 (.int .u8 0) 1 rfl Tryd.underlying74 info5 rfl (by decide) (by omega) u3 x3_1 ((x0_1) % 256) [.int .u8 ((x0_1) % 256)] (fun _ => True) (fun _ => False) rfl rfl ?aP (fun _ hk => hk.elim) ?aF ?aO ?aB ?aS ?aL ?_; (case aP => exact rfl); (case aB => exact (bI HB.out)); (case aF => exact (fun _ _ => trivial)); (case aO => exact (rI HO_3.out)); (case aS => exact (below_size (bI HB.out))); (case aL => have := LMc9.out; omega); intro v248 w10 ho hb hg hat; rw [← Ny247.out] at ho; have n0_ := Aside0.mk (hb); have n1_ := Aside0.mk (ho); clear HB; clear HO_3; have HB := n0_; have HO249 := n1_; clear n0_ n1_; clear ho hb hg hat))
          go_ret
          exact ⟨_, y0_7, by (with_reducible repeat (first | apply Kd.R_alloc | apply Kd.R_drewN | apply Kd.R_drew)); exact HO249.out, bI HB.out⟩
  · replace c3 := Bool.eq_false_iff.mpr c3
    subst c3
    rw [if_neg (show ¬ (false = true) by decide)] at H
    obtain rfl := Option.some.inj H
    go_enter Tryd.func89, Tryd.ntmps89
    go_wp2_with (first | ((with_reducible refine gate_dst (N := 4) rfl ?_); refine Kd.R_lit (Kd.int .u8) _ 5 ?hg (N := 4) ?hd (xs := ([] : List Int)) (inner := []) (ok := fun _ => True) (okp := fun _ => True) ?hr ?hp (fun _ hk => hk) trivial (Below.refl _ _) (Nat.le_refl _) (by simp) ?_; (case hd => rfl); (case hg => rfl); (case hr => first | (go_simp; done) | (go_simp; rfl)); (case hp => exact (Reps.none _ _)); intro v241 w11 ho12 hb hg_ hnew_; clear hg_ hnew_; (first | rw [← Ny240.out] at ho12 | (simp only [Int.reduceToNat] at ho12; rw [← Ny240.out] at ho12)); have HO242 := Aside0.mk (Kd.R_lower ho12 (below_size (bI HB.out))); replace HB := bs HB hb; clear hb ho12) | ((with_reducible refine gate_callee (f := 71) rfl ?_); refine gB (some 6) Tryd.func71 #[.int .i64 a0, .int .i64 0, .int .i64 2147483647] ?_; (with_reducible refine (spec_l1In.calls a0 0 2147483647 false _ A2.out).mono ?_); rintro e w' ⟨rfl, ⟨nd, rfl⟩⟩; refine ⟨_, rfl, ?_⟩))
    go_ret
    exact ⟨_, y0_7, by (with_reducible repeat (first | apply Kd.R_alloc | apply Kd.R_drewN | apply Kd.R_drew)); exact HO242.out, bI HB.out⟩

/-! ### spec_PutText: function 90 -/
def spec_PutText.f (k : Nat) (a0 : ByteArray) : Option (List Int) := (spec_PutNum.f k (a0.size : Int)).bind fun t1 => (if t1.length + a0.size < 140737488355328 then (some (t1 ++ bytesOf a0)) else (none))
theorem spec_PutText.mono : ∀ a0 k, LeO (spec_PutText.f k a0) (spec_PutText.f (k + 1) a0) := by
  intro a0 k
  unfold spec_PutText.f
  repeat' first
      | (with_reducible exact spec_PutNum.mono _ _)
      | (with_reducible exact LeO.refl _)
      | (with_reducible exact LeO.none _)
      | (with_reducible refine LeO.ite ?_ ?_)
      | (with_reducible refine LeO.bind ?_ (fun _ => ?_))
      | exact spec_PutNum.mono _ _
      | exact LeO.none _
      | refine LeO.ite ?_ ?_
      | refine LeO.bind ?_ (fun _ => ?_)
theorem spec_PutText.up {w W : World} (h : Below w.heap.size w W) (e : TypeId) (s : ByteArray) : Below w.heap.size w (Go.Lib.bytesWorld W e s) := bytes_below h (below_size h) e s
set_option maxHeartbeats 8000000 in
set_option maxRecDepth 100000 in
theorem spec_PutText.calls (k : Nat) (a0 : ByteArray) (r : List Int) (w : World) (h : spec_PutText.f k a0 = some r) :
    Calls Tryd.prog 90 #[.string a0] w fun e w' => ∃ v0_ : Value, e = .returned (v0_) ∧ Kd.R (Kd.int .u8) 5 w' w.heap.size (fun _ => True) v0_ r ∧ Below w.heap.size w w' := by
  have HB := Aside0.mk (Below.refl w.heap.size w)
  obtain ⟨t1, A20, H⟩ := Option.bind_eq_some_iff.mp h
  try dsimp only at H
  have A2 := Aside0.mk A20
  clear A20 h
  by_cases c3 : t1.length + a0.size < 140737488355328
  · rw [if_pos c3] at H
    have LMc3 := Aside0.mk c3
    clear c3
    obtain ⟨y1, hy1⟩ : ∃ y_ : List Int, y_ = (t1 ++ bytesOf a0) := ⟨_, rfl⟩
    rw [← hy1] at H
    have Ny1 := Aside0.mk hy1
    clear hy1
    obtain rfl := Option.some.inj H
    clear H
    have kb := fun W => print_bytes (P := Tryd.prog) 9 74 5 Tryd.underlying9 Tryd.underlying74 Tryd.underlying5 a0 W
    go_enter Tryd.func90, Tryd.ntmps90
    go_wp2_with (first | ((with_reducible refine gate_callee (f := 89) rfl ?_); refine gB (some 5) Tryd.func89 #[.int .i64 (a0.size : Int)] ?_; (with_reducible refine (spec_PutNum.calls k (a0.size : Int) t1 _ A2.out).mono ?_); rintro e w4 ⟨v1, rfl, ho0, hb⟩; refine ⟨_, rfl, ?_⟩; have HO1 := Aside0.mk (Kd.R_lower ho0 (below_size (bI HB.out))); replace HB := bs HB hb; clear hb ho0; have HB1 := Aside0.mk (spec_PutText.up HB.out 5 a0); have HO2 := Aside0.mk (Kd.R_below HO1.out (spec_PutText.up (Below.refl _ _) 5 a0))) | (at_builtin; refine Kd.R_append_rows (Kd.int .u8) (w0 := w) w.heap.size rfl (.tmp 5) (.tmp 7) 74 5 (.int .u8 0) 1 rfl Tryd.underlying74 info5 rfl (by decide) (by omega) v1 t1 (bytesOf a0) _ _ _ (fun _ => True) (fun _ => False) rfl rfl ?aO ?aR (fun _ _ h => h) (fun _ h => h.elim) ?aF ?aB ?aS ?aL ?_; (case aR => rw [← bytesOf_length a0]; exact Kd.C_of_reads (d := (0 : Int)) (h1 := fun _ => rfl) (readsInt_of.1 (by rw [bytesOf_length]; exact bytes_reads w4 5 a0 (by have := LMc3.out; omega)))); (case aB => exact HB1.out); (case aF => exact (fun _ _ => trivial)); (case aO => exact HO2.out); (case aS => exact (below_size HB1.out)); (case aL => have := LMc3.out; omega); intro v2 w5 ho hb hg hat; rw [← Ny1.out] at ho))
    go_ret
    exact ⟨_, y0_10, ho, hb⟩
  · rw [if_neg c3] at H
    exact absurd H (by simp)

/-! ### spec_QcBytes: function 48 -/
def spec_QcBytes.l0 : Nat → List Int → Int → Int → ByteArray → List Int → Option (List Int)
  | 0, _, _, _, _, _ => none
  | k + 1, x5, x6, x252000, x252001, x252002 => if x6 < (x252002.length : Int) then (if 0 ≤ x6 then ((spec_PutNum.f k (rd x252002 x6)).bind fun t272 => (if x5.length + t272.length < 140737488355328 then (spec_QcBytes.l0 k (x5 ++ t272) (wrap64 (x6 + 1)) x252000 x252001 x252002) else (none))) else (none)) else (some x5)
def spec_QcBytes.f (k : Nat) (a0_0 : Int) (a0_1 : Int) (a1_0 : Int) (a1_1 : ByteArray) (l1_2 : List Int) : Option (List Int) := (spec_QcOk.f k a0_0 a0_1 a1_0 a1_1 l1_2).bind fun t252 => (if t252 = true then ((spec_PutNum.f k a1_0).bind fun t256 => ((spec_PutText.f k a1_1).bind fun t259 => (if t256.length + t259.length < 140737488355328 then ((some (t256 ++ t259 : List Int)).bind fun y262 => ((spec_PutNum.f k (l1_2.length : Int)).bind fun t265 => (if y262.length + t265.length < 140737488355328 then (spec_QcBytes.l0 k (y262 ++ t265) 0 a1_0 a1_1 l1_2) else (none)))) else (none)))) else (some (([] : List Int))))
theorem spec_QcBytes.mono_l : ∀ k, (∀ y0 y1 y2 y3 y4, LeO (spec_QcBytes.l0 k y0 y1 y2 y3 y4) (spec_QcBytes.l0 (k + 1) y0 y1 y2 y3 y4))
  | 0 => fun _ _ _ _ _ r h => by simp [spec_QcBytes.l0] at h
  | k + 1 => by
    have ih0 := spec_QcBytes.mono_l k
    · intro y0 y1 y2 y3 y4
      unfold spec_QcBytes.l0
      repeat' first
      | (with_reducible exact ih0 _ _ _ _ _)
      | (with_reducible exact spec_PutNum.mono _ _)
      | (with_reducible exact spec_PutText.mono _ _)
      | (with_reducible exact spec_QcOk.mono _ _ _ _ _ _)
      | (with_reducible exact LeO.refl _)
      | (with_reducible exact LeO.none _)
      | (with_reducible refine LeO.ite ?_ ?_)
      | (with_reducible refine LeO.bind ?_ (fun _ => ?_))
      | exact ih0 _ _ _ _ _
      | exact spec_PutNum.mono _ _
      | exact spec_PutText.mono _ _
      | exact spec_QcOk.mono _ _ _ _ _ _
      | exact LeO.none _
      | refine LeO.ite ?_ ?_
      | refine LeO.bind ?_ (fun _ => ?_)
theorem spec_QcBytes.mono : ∀ a0 a1 a2 a3 a4 k, LeO (spec_QcBytes.f k a0 a1 a2 a3 a4) (spec_QcBytes.f (k + 1) a0 a1 a2 a3 a4) := by
  intro a0 a1 a2 a3 a4 k
  have ih0 := spec_QcBytes.mono_l k
  unfold spec_QcBytes.f
  repeat' first
      | (with_reducible exact ih0 _ _ _ _ _)
      | (with_reducible exact spec_PutNum.mono _ _)
      | (with_reducible exact spec_PutText.mono _ _)
      | (with_reducible exact spec_QcOk.mono _ _ _ _ _ _)
      | (with_reducible exact LeO.refl _)
      | (with_reducible exact LeO.none _)
      | (with_reducible refine LeO.ite ?_ ?_)
      | (with_reducible refine LeO.bind ?_ (fun _ => ?_))
      | exact ih0 _ _ _ _ _
      | exact spec_PutNum.mono _ _
      | exact spec_PutText.mono _ _
      | exact spec_QcOk.mono _ _ _ _ _ _
      | exact LeO.none _
      | refine LeO.ite ?_ ?_
      | refine LeO.bind ?_ (fun _ => ?_)
def spec_QcBytes.T3 : Bool × List (List Nat × List Nat) := (true, [([], []), ([0], [0]), ([1], [1]), ([], []), ([3], [3]), ([4, 2], [4]), ([2, 5, 5], [2, 5]), ([6, 6, 0, 1, 2, 3, 4, 5, 6], [6])])
def spec_QcBytes.B3 : List Nat := [0, 1, 3, 0, 8, 31, 63, 127]
theorem spec_QcBytes.tab3 : rtab .any (opsOf Tryd.f48 3) = spec_QcBytes.T3 := by kernel_rfl
theorem spec_QcBytes.bits3 : waitsOk spec_QcBytes.T3.2 spec_QcBytes.B3 = true := by kernel_rfl
set_option maxHeartbeats 8000000 in
set_option maxRecDepth 100000 in
theorem spec_QcBytes.calls (k : Nat) (a0_0 : Int) (a0_1 : Int) (a1_0 : Int) (a1_1 : ByteArray) (A1_2 : Option Addr) (c1_2 : Nat) (l1_2 : List Int) (r : List Int) (w : World) (hr1_2 : Kd.C (Kd.int .i64) w A1_2 l1_2.length l1_2) (hc1_2 : l1_2.length ≤ c1_2) (h : spec_QcBytes.f k a0_0 a0_1 a1_0 a1_1 l1_2 = some r) :
    Calls Tryd.prog 48 #[.agg #[.int .i64 a0_0, .int .i64 a0_1], .agg #[.int .i64 a1_0, .string a1_1, .slice A1_2 l1_2.length c1_2]] w fun e w' => ∃ v0_ : Value, e = .returned (v0_) ∧ Kd.R (Kd.int .u8) 5 w' w.heap.size (fun _ => True) v0_ r ∧ Below w.heap.size w w' := by
  have hu32 := Tryd.underlying32
  have hu41 := Tryd.underlying41
  have HR1_2 := Aside0.mk hr1_2
  have HC1_2 := Aside0.mk hc1_2
  clear hr1_2 hc1_2
  have HB := Aside0.mk (Below.refl w.heap.size w)
  have H : ((spec_QcOk.f k a0_0 a0_1 a1_0 a1_1 l1_2).bind fun t252 => (if t252 = true then ((spec_PutNum.f k a1_0).bind fun t256 => ((spec_PutText.f k a1_1).bind fun t259 => (if t256.length + t259.length < 140737488355328 then ((some (t256 ++ t259 : List Int)).bind fun y262 => ((spec_PutNum.f k (l1_2.length : Int)).bind fun t265 => (if y262.length + t265.length < 140737488355328 then (spec_QcBytes.l0 k (y262 ++ t265) 0 a1_0 a1_1 l1_2) else (none)))) else (none)))) else (some (([] : List Int))))) = some r := h
  clear h
  obtain ⟨t252, A30, H⟩ := Option.bind_eq_some_iff.mp H
  try dsimp only at H
  have A3 := Aside0.mk A30
  clear A30
  by_cases c4 : t252 = true
  · subst c4
    rw [if_pos rfl] at H
    obtain ⟨t256, A50, H⟩ := Option.bind_eq_some_iff.mp H
    try dsimp only at H
    have A5 := Aside0.mk A50
    clear A50
    obtain ⟨t259, A60, H⟩ := Option.bind_eq_some_iff.mp H
    try dsimp only at H
    have A6 := Aside0.mk A60
    clear A60
    by_cases c7 : t256.length + t259.length < 140737488355328
    rotate_left
    · rw [if_neg c7] at H
      exact absurd H (by simp)
    rw [if_pos c7] at H
    have LMc7 := Aside0.mk c7
    clear c7
    obtain ⟨y262, hy262⟩ : ∃ y_ : List Int, y_ = (t256 ++ t259) := ⟨_, rfl⟩
    replace H : ((spec_PutNum.f k (l1_2.length : Int)).bind fun t265 => (if y262.length + t265.length < 140737488355328 then (spec_QcBytes.l0 k (y262 ++ t265) 0 a1_0 a1_1 l1_2) else (none))) = some r := by first | (rw [hy262]; with_reducible exact H) | (have H2_ := (Option.bind_some _ _).symm.trans H; rw [hy262]; with_reducible exact H2_) | (have H2_ := (Option.bind_some _ _).symm.trans H; with_reducible exact H2_) | with_reducible exact H | (rw [hy262]; exact H) | exact H
    have Ny262 := Aside0.mk hy262
    clear hy262
    obtain ⟨t265, A80, H⟩ := Option.bind_eq_some_iff.mp H
    try dsimp only at H
    have A8 := Aside0.mk A80
    clear A80
    by_cases c9 : y262.length + t265.length < 140737488355328
    rotate_left
    · rw [if_neg c9] at H
      exact absurd H (by simp)
    rw [if_pos c9] at H
    have LMc9 := Aside0.mk c9
    clear c9
    obtain ⟨y268, hy268⟩ : ∃ y_ : List Int, y_ = (y262 ++ t265) := ⟨_, rfl⟩
    replace H : (spec_QcBytes.l0 k y268 0 a1_0 a1_1 l1_2) = some r := by first | (rw [hy268]; with_reducible exact H) | (have H2_ := (Option.bind_some _ _).symm.trans H; rw [hy268]; with_reducible exact H2_) | (have H2_ := (Option.bind_some _ _).symm.trans H; with_reducible exact H2_) | with_reducible exact H | (rw [hy268]; exact H) | exact H
    have Ny268 := Aside0.mk hy268
    clear hy268
    have H' := Aside0.mk H
    clear H
    go_enter Tryd.func48, Tryd.ntmps48
    try go_wp2_with (first | ((with_reducible refine gd 2 ?_); refine bA 2 #[.int .i64 a0_0, .int .i64 a0_1] 32 ?_; intro gb250 hg w10 hbox hb; have BK250 := Aside0.mk (hbox); have GW250 := bg hg HB; have GJ250 := gi GW250; have GE250 := GW250; replace HB := bs HB hb; clear hb hbox hg) | ((with_reducible refine gd 3 ?_); refine bA 3 #[.int .i64 a1_0, .string a1_1, .slice A1_2 l1_2.length c1_2] 41 ?_; intro gb251 hg w11 hbox hb; have BK251 := Aside0.mk (hbox); have GW251 := bg hg HB; have GJ251 := gi GW251; have GE251 := GW251; replace HB := bs HB hb; have NB250_251 := b1 BK250 hg; have NI250_251 := ni NB250_251; have NB251_250 := b2 BK250 hg; have NI251_250 := ni NB251_250; replace BK250 := bk BK250 hb; clear hb hbox hg; have hnb12 := NB250_251.out; have hnc12 := NB251_250.out; obtain ⟨hcz13_0, hcz13_1, hfz13_0, hfz13_1⟩ := cs2 BK250; obtain ⟨hcz14_0, hcz14_1, hcz14_2, hfz14_0, hfz14_1, hfz14_2⟩ := cs3 BK251) | ((with_reducible refine gate_callee (f := 24) rfl ?_); refine gB (some 9) Tryd.func24 #[.agg #[.int .i64 a0_0, .int .i64 a0_1], .agg #[.int .i64 a1_0, .string a1_1, .slice A1_2 l1_2.length c1_2]] ?_; (with_reducible refine (spec_QcOk.calls k a0_0 a0_1 a1_0 a1_1 _ _ l1_2 true _ ?side1 ?side2 A3.out).mono ?_); (case side1 => exact ch HR1_2 HB); (case side2 => exact HC1_2.out); rintro e w15 ⟨rfl, hb⟩; refine ⟨_, rfl, ?_⟩; replace BK250 := bk BK250 hb; replace BK251 := bk BK251 hb; replace HB := bs HB hb; (try clear hb); (try clear hb2); (try clear hk); (try clear hi)))
    replace BK250 := Aside0.mk (blk_drew BK250.out)
    replace BK251 := Aside0.mk (blk_drew BK251.out)
    replace HB := Aside0.mk (below_drew1 HB.out)
    refine start_ (n := 8) (S := fun w' => w'.cell? ⟨gb251, 0, none⟩ = some (.int .i64 a1_0) ∧ w'.cell? ⟨gb251, 1, none⟩ = some (.string a1_1) ∧ w'.cell? ⟨gb251, 2, none⟩ = some (.slice A1_2 l1_2.length c1_2)) (ds := []) #[false, false, false, false, false, false, false, false] (by kernel_rfl) rfl rfl ⟨bc0 BK251.out, bc1 BK251.out, bc2 BK251.out⟩ (fun hHeld => ?_); refine with_tabW spec_QcBytes.tab3 spec_QcBytes.bits3 (fun HT_ HW_ => ?_)
    generalize w15.drew = w16 at BK250 BK251 HB hHeld ⊢
    refine pA 0 (some 12) (bz 8 1) HT_ ?_
    refine pA 3 (some 15) (bz 8 9) HT_ ?_
    refine tA 1 (some 13) (bz 8 11) HT_ HW_ hHeld ?_
    refine tA 4 (some 16) (bz 8 27) HT_ HW_ hHeld ?_
    refine oA 2 (some 14) (bz 8 31) HT_ (fun K hK => ?_)
    refine gA Tryd.func89 #[.int .i64 a1_0] ?_
    with_reducible refine (spec_PutNum.calls k a1_0 t256 _ A5.out).mono ?_
    rintro e w17 ⟨v257, rfl, ho0, hb⟩
    refine ⟨_, rfl, ?_⟩
    have HO258 := Aside0.mk (Kd.R_lower ho0 (below_size (bI HB.out)))
    replace BK250 := bk BK250 hb
    replace BK251 := bk BK251 hb
    replace HB := bs HB hb
    (try clear hb)
    (try clear hb2)
    (try clear hk)
    (try clear hi)
    (try clear ho0)
    refine hK.out _ _ ⟨bc0 BK251.out, bc1 BK251.out, bc2 BK251.out⟩ (fun hHeld => ?_)
    clear hK K
    refine nA (some 14) ?_
    refine oA 5 (some 17) (bz 8 63) HT_ (fun K hK => ?_)
    refine gA Tryd.func90 #[.string a1_1] ?_
    with_reducible refine (spec_PutText.calls k a1_1 t259 _ A6.out).mono ?_
    rintro e w18 ⟨v260, rfl, ho0, hb⟩
    refine ⟨_, rfl, ?_⟩
    have HO261 := Aside0.mk (Kd.R_lower (Kd.R_new' ho0 (Kd.R_lt (rI HO258.out))) (below_size (bI HB.out)))
    replace HO258 := Aside0.mk (Kd.R_elder' (rI HO258.out) (Kd.R_base ho0) hb)
    replace BK250 := bk BK250 hb
    replace BK251 := bk BK251 hb
    replace HB := bs HB hb
    (try clear hb)
    (try clear hb2)
    (try clear hk)
    (try clear hi)
    (try clear ho0)
    obtain ⟨Ao20, co20, eo20⟩ := Kd.R_slice HO261.out
    (first | subst eo20 | (injection eo20 with f1_ f2_ f3_; have f4_ := f1_.symm; have f5_ := f3_.symm; clear f1_ f2_ f3_; subst f4_; subst f5_))
    refine hK.out _ _ ⟨bc0 BK251.out, bc1 BK251.out, bc2 BK251.out⟩ (fun hHeld => ?_)
    clear hK K
    refine nA (some 17) ?_
    refine oA 6 (some 18) (bz 8 127) HT_ (fun K hK => ?_)
    refine Kd.R_append_rows_step (Kd.int .u8) (w0 := w) w.heap.size (by rfl) (.tmp 14) (.tmp 17) 74 5 (.int .u8 0) 1 rfl Tryd.underlying74 info5 rfl (by decide) (by omega) v257 t256 t259 _ _ _ (fun k_ => some k_ ≠ (.slice Ao20 t259.length co20 : Value).ownBlock) (fun _ => False) rfl rfl ?aO ?aR (fun _ _ h => h) (fun _ h => h.elim) ?aF ?aB ?aS ?aL ?_
    (case aR => repeat (first | exact (Kd.R_reads' HO261.out).2.2 | (with_reducible refine Kd.C_alloc ?_ _) | (with_reducible refine Kd.C_drewN ?_ _) | (with_reducible refine Kd.C_drew ?_)))
    (case aB => exact (bI HB.out))
    (case aF => exact (fun k_ hk => Kd.fresh' (Kd.R_lt (rI HO261.out)) k_ hk))
    (case aO => exact (rI (Kd.R_mono HO258.out (fun _ hk => hk.2))))
    (case aS => exact (below_size (bI HB.out)))
    (case aL => have := LMc7.out; omega)
    intro v263 w19 ho hb hg hat
    rw [← Ny262.out] at ho
    have n0_ := bn BK250 hg (Kd.R_ne HO258.out BK250.out (by decide))
    have n1_ := bn BK251 hg (Kd.R_ne HO258.out BK251.out (by decide))
    have n2_ := Aside0.mk (Kd.R_after (ok := (fun _ => True)) (rI HO261.out) hg hat)
    have n3_ := Aside0.mk (hb)
    have n4_ := Aside0.mk (ho)
    clear BK250
    clear BK251
    clear HO261
    clear HB
    clear HO258
    have BK250 := n0_
    have BK251 := n1_
    have HO261 := n2_
    have HB := n3_
    have HO264 := n4_
    clear n0_ n1_ n2_ n3_ n4_
    clear ho hb hg hat
    refine hK.out _ _ ⟨bc0 BK251.out, bc1 BK251.out, bc2 BK251.out⟩ (fun hHeld => ?_)
    clear hK K
    refine nA (some 18) ?_
    refine pA 7 (some 5) (bz 8 255) HT_ ?_
    refine done_ (done_of HT_.out (by kernel_rfl)) ?_
    have hcz21_0 := bc0 BK251.out
    have hcz21_1 := bc1 BK251.out
    have hcz21_2 := bc2 BK251.out
    have hfz21_0 := blk_frozen BK251.out 0
    have hfz21_1 := blk_frozen BK251.out 1
    have hfz21_2 := blk_frozen BK251.out 2
    try go_wp2_with (first | ((with_reducible refine gate_callee (f := 89) rfl ?_); refine gB (some 23) Tryd.func89 #[.int .i64 (l1_2.length : Int)] ?_; (with_reducible refine (spec_PutNum.calls k (l1_2.length : Int) t265 _ A8.out).mono ?_); rintro e w22 ⟨v266, rfl, ho0, hb⟩; refine ⟨_, rfl, ?_⟩; have HO267 := Aside0.mk (Kd.R_lower (Kd.R_new' (Kd.R_new' ho0 (Kd.R_lt (rI HO261.out))) (Kd.R_lt (rI HO264.out))) (below_size (bI HB.out))); replace HO261 := Aside0.mk (Kd.R_elder' (rI HO261.out) (Kd.R_base ho0) hb); replace HO264 := Aside0.mk (Kd.R_elder' (rI HO264.out) (Kd.R_base ho0) hb); replace BK250 := bk BK250 hb; replace BK251 := bk BK251 hb; replace HB := bs HB hb; (try clear hb); (try clear ho0); obtain ⟨Ao24, co24, eo24⟩ := Kd.R_slice HO267.out; subst eo24) | ((with_reducible refine gate_builtin (b := .append) (xs := #[.tmp 19, .tmp 23]) rfl ?_); at_builtin; refine Kd.R_append_rows (Kd.int .u8) (w0 := w) w.heap.size rfl (.tmp 19) (.tmp 23) 74 5 (.int .u8 0) 1 rfl Tryd.underlying74 info5 rfl (by decide) (by omega) v263 y262 t265 _ _ _ (fun k_ => some k_ ≠ (.slice Ao20 t259.length co20 : Value).ownBlock ∧ some k_ ≠ (.slice Ao24 t265.length co24 : Value).ownBlock) (fun _ => False) rfl rfl ?aO ?aR (fun _ _ h => h) (fun _ h => h.elim) ?aF ?aB ?aS ?aL ?_; (case aR => repeat (first | exact (Kd.R_reads' HO267.out).2.2 | (with_reducible refine Kd.C_alloc ?_ _) | (with_reducible refine Kd.C_drewN ?_ _) | (with_reducible refine Kd.C_drew ?_))); (case aB => exact (bI HB.out)); (case aF => exact (fun k_ hk => ⟨Kd.fresh' (Kd.R_lt (rI HO261.out)) k_ hk, Kd.fresh' (Kd.R_lt (rI HO267.out)) k_ hk⟩)); (case aO => exact (rI HO264.out)); (case aS => exact (below_size (bI HB.out))); (case aL => have := LMc9.out; omega); intro v269 w23 ho hb hg hat; rw [← Ny268.out] at ho; have n0_ := bn BK250 hg (Kd.R_ne HO264.out BK250.out (by decide)); have n1_ := bn BK251 hg (Kd.R_ne HO264.out BK251.out (by decide)); have n2_ := Aside0.mk (Kd.R_after (ok := (fun k_ => some k_ ≠ (.slice Ao24 t265.length co24 : Value).ownBlock)) (rI (Kd.R_mono HO261.out (fun _ hk => ⟨hk.2, hk.1.2⟩))) hg hat); have n3_ := Aside0.mk (Kd.R_after (ok := (fun k_ => some k_ ≠ (.slice Ao20 t259.length co20 : Value).ownBlock)) (rI (Kd.R_mono HO267.out (fun _ hk => ⟨hk.1.2, hk.2⟩))) hg hat); have n4_ := Aside0.mk (hb); have n5_ := Aside0.mk (ho); clear BK250; clear BK251; clear HO261; clear HO267; clear HB; clear HO264; have BK250 := n0_; have BK251 := n1_; have HO261 := n2_; have HO267 := n3_; have HB := n4_; have HO270 := n5_; clear n0_ n1_ n2_ n3_ n4_ n5_; clear ho hb hg hat))
    go_loopg [5, 6] k (fun kq v5 v6 w' => ∃ (x5_1 : List Int) (x6_1 : Int), v6 = .int .i64 x6_1 ∧ Aside0 (spec_QcBytes.l0 kq x5_1 x6_1 a1_0 a1_1 l1_2 = some r) ∧ Aside0 (kq ≤ k) ∧ Aside0 (Kd.R (Kd.int .u8) 5 w' w.heap.size (fun _ => True) v5 x5_1) ∧ Aside0 (w'.heap[gb250]? = some (.cells #[.int .i64 a0_0, .int .i64 a0_1] 32 (0, 0))) ∧ Aside0 (w'.heap[gb251]? = some (.cells #[.int .i64 a1_0, .string a1_1, (.slice A1_2 l1_2.length c1_2)] 41 (0, 0))) ∧ Aside0 (Below w.heap.size w w'))
    case atStart => exact ⟨(y268), (0), y0_10, H', ⟨Nat.le_refl _⟩, ⟨by (with_reducible repeat (first | apply Kd.R_alloc | apply Kd.R_drewN | apply Kd.R_drew)); exact Kd.R_mono HO270.out (fun _ hk => trivial)⟩, ⟨gI BK250.out⟩, ⟨gI BK251.out⟩, ⟨bI HB.out⟩⟩
    case round =>
      clear H'
      try clear c1
      try clear c2
      try clear p2
      try clear c4
      try clear c7
      try clear c8
      try clear c9
      try clear c12
      try clear c24
      try clear hcz13_0
      try clear hcz13_1
      try clear hcz14_0
      try clear hcz14_1
      try clear hcz14_2
      try clear hcz21_0
      try clear hcz21_1
      try clear hcz21_2
      try clear hfz13_0
      try clear hfz13_1
      try clear hfz14_0
      try clear hfz14_1
      try clear hfz14_2
      try clear hfz21_0
      try clear hfz21_1
      try clear hfz21_2
      obtain ⟨x5_1, x6_1, rfl, HA, HK1, HO_5, BK250, BK251, HB⟩ := hrel
      cases gk with
      | zero => exact absurd HA.out (by simp [spec_QcBytes.l0])
      | succ k1 =>
        have H := HA.out
        clear HA
        simp only [spec_QcBytes.l0] at H
        by_cases c25 : x6_1 < (l1_2.length : Int)
        · rw [if_pos c25] at H
          have c25b0 : decide (x6_1 < (l1_2.length : Int)) = true := decide_eq_true c25
          clear c25
          by_cases c26 : 0 ≤ x6_1
          rotate_left
          · rw [if_neg c26] at H
            exact absurd H (by simp)
          rw [if_pos c26] at H
          have c26b0 : decide (0 ≤ x6_1) = true := decide_eq_true c26
          clear c26
          obtain ⟨t272, A270, H⟩ := Option.bind_eq_some_iff.mp H
          try dsimp only at H
          have A27 := Aside0.mk A270
          clear A270
          by_cases c28 : x5_1.length + t272.length < 140737488355328
          rotate_left
          · rw [if_neg c28] at H
            exact absurd H (by simp)
          rw [if_pos c28] at H
          have LMc28 := Aside0.mk c28
          clear c28
          obtain ⟨y275, hy275⟩ : ∃ y_ : List Int, y_ = (x5_1 ++ t272) := ⟨_, rfl⟩
          replace H : (spec_QcBytes.l0 k1 y275 (wrap64 (x6_1 + 1)) a1_0 a1_1 l1_2) = some r := by first | (rw [hy275]; with_reducible exact H) | (have H2_ := (Option.bind_some _ _).symm.trans H; rw [hy275]; with_reducible exact H2_) | (have H2_ := (Option.bind_some _ _).symm.trans H; with_reducible exact H2_) | with_reducible exact H | (rw [hy275]; exact H) | exact H
          have Ny275 := Aside0.mk hy275
          clear hy275
          have H' := Aside0.mk H
          clear H
          have hnb29 := NB251_250.out
          have hnc29 := NB250_251.out
          have hcz30_0 := bc0 BK251.out
          have hcz30_1 := bc1 BK251.out
          have hcz30_2 := bc2 BK251.out
          have hfz30_0 := blk_frozen BK251.out 0
          have hfz30_1 := blk_frozen BK251.out 1
          have hfz30_2 := blk_frozen BK251.out 2
          have p271 : 0 ≤ (x6_1 : Int) := of_decide_eq_true y0_9
          have q271 : x6_1 < (l1_2.length : Int) := of_decide_eq_true y0_9
          obtain ⟨ad271, e271, hx271_0⟩ := Kd.at_int HR1_2.out x6_1 p271 q271
          cases e271
          replace hx271_0 := bx HB hx271_0
          replace p271 := eq_true p271
          replace q271 := eq_true q271
          go_wp2_with (first | ((with_reducible refine gate_callee (f := 89) rfl ?_); refine gB (some 38) Tryd.func89 #[.int .i64 (rd l1_2 x6_1)] ?_; (with_reducible refine (spec_PutNum.calls k1 (rd l1_2 x6_1) t272 _ A27.out).mono ?_); rintro e w31 ⟨v273, rfl, ho0, hb⟩; refine ⟨_, rfl, ?_⟩; have HO274 := Aside0.mk (Kd.R_lower (Kd.R_new' ho0 (Kd.R_lt (rI HO_5.out))) (below_size (bI HB.out))); replace HO_5 := Aside0.mk (Kd.R_elder' (rI HO_5.out) (Kd.R_base ho0) hb); replace BK250 := bk BK250 hb; replace BK251 := bk BK251 hb; replace HB := bs HB hb; (try clear hb); (try clear ho0); obtain ⟨Ao33, co33, eo33⟩ := Kd.R_slice HO274.out; subst eo33) | ((with_reducible refine gate_builtin (b := .append) (xs := #[.tmp 32, .tmp 38]) rfl ?_); at_builtin; refine Kd.R_append_rows (Kd.int .u8) (w0 := w) w.heap.size rfl (.tmp 32) (.tmp 38) 74 5 (.int .u8 0) 1 rfl Tryd.underlying74 info5 rfl (by decide) (by omega) u5 x5_1 t272 _ _ _ (fun k_ => some k_ ≠ (.slice Ao33 t272.length co33 : Value).ownBlock) (fun _ => False) rfl rfl ?aO ?aR (fun _ _ h => h) (fun _ h => h.elim) ?aF ?aB ?aS ?aL ?_; (case aR => repeat (first | exact (Kd.R_reads' HO274.out).2.2 | (with_reducible refine Kd.C_alloc ?_ _) | (with_reducible refine Kd.C_drewN ?_ _) | (with_reducible refine Kd.C_drew ?_))); (case aB => exact (bI HB.out)); (case aF => exact (fun k_ hk => Kd.fresh' (Kd.R_lt (rI HO274.out)) k_ hk)); (case aO => exact (rI (Kd.R_mono HO_5.out (fun _ hk => hk.2)))); (case aS => exact (below_size (bI HB.out))); (case aL => have := LMc28.out; omega); intro v276 w32 ho hb hg hat; rw [← Ny275.out] at ho; have n0_ := bn BK250 hg (Kd.R_ne HO_5.out BK250.out (by decide)); have n1_ := bn BK251 hg (Kd.R_ne HO_5.out BK251.out (by decide)); have n2_ := Aside0.mk (Kd.R_after (ok := (fun _ => True)) (rI HO274.out) hg hat); have n3_ := Aside0.mk (hb); have n4_ := Aside0.mk (ho); clear BK250; clear BK251; clear HO274; clear HB; clear HO_5; have BK250 := n0_; have BK251 := n1_; have HO274 := n2_; have HB := n3_; have HO277 := n4_; clear n0_ n1_ n2_ n3_ n4_; clear ho hb hg hat))
          go_roundg k1
          case measure => have := HK1.out; omega
          case rel => exact ⟨(y275), (wrap64 (x6_1 + 1)), y0_10, H', ⟨y0_14⟩, ⟨by (with_reducible repeat (first | apply Kd.R_alloc | apply Kd.R_drewN | apply Kd.R_drew)); exact Kd.R_mono HO277.out (fun _ hk => trivial)⟩, ⟨gI BK250.out⟩, ⟨gI BK251.out⟩, ⟨bI HB.out⟩⟩
        · rw [if_neg c25] at H
          have c25b0 : decide (x6_1 < (l1_2.length : Int)) = false := decide_eq_false c25
          clear c25
          obtain rfl := Option.some.inj H
          have hnb34 := NB251_250.out
          have hnc34 := NB250_251.out
          have hcz35_0 := bc0 BK251.out
          have hcz35_1 := bc1 BK251.out
          have hcz35_2 := bc2 BK251.out
          have hfz35_0 := blk_frozen BK251.out 0
          have hfz35_1 := blk_frozen BK251.out 1
          have hfz35_2 := blk_frozen BK251.out 2
          go_wp2
          go_ret
          exact ⟨_, y0_7, y0_6, bI HB.out⟩
  · replace c4 := Bool.eq_false_iff.mpr c4
    subst c4
    rw [if_neg (show ¬ (false = true) by decide)] at H
    obtain ⟨y253, hy253⟩ : ∃ y_ : List Int, y_ = (([] : List Int)) := ⟨_, rfl⟩
    replace H : (some y253) = some r := by first | (rw [hy253]; with_reducible exact H) | (have H2_ := (Option.bind_some _ _).symm.trans H; rw [hy253]; with_reducible exact H2_) | (have H2_ := (Option.bind_some _ _).symm.trans H; with_reducible exact H2_) | with_reducible exact H | (rw [hy253]; exact H) | exact H
    have Ny253 := Aside0.mk hy253
    clear hy253
    obtain rfl := Option.some.inj H
    go_enter Tryd.func48, Tryd.ntmps48
    go_wp2_with (first | ((with_reducible refine gd 2 ?_); refine bA 2 #[.int .i64 a0_0, .int .i64 a0_1] 32 ?_; intro gb250 hg w36 hbox hb; have BK250 := Aside0.mk (hbox); have GW250 := bg hg HB; have GJ250 := gi GW250; have GE250 := GW250; replace HB := bs HB hb; clear hb hbox hg) | ((with_reducible refine gd 3 ?_); refine bA 3 #[.int .i64 a1_0, .string a1_1, .slice A1_2 l1_2.length c1_2] 41 ?_; intro gb251 hg w37 hbox hb; have BK251 := Aside0.mk (hbox); have GW251 := bg hg HB; have GJ251 := gi GW251; have GE251 := GW251; replace HB := bs HB hb; have NB250_251 := b1 BK250 hg; have NI250_251 := ni NB250_251; have NB251_250 := b2 BK250 hg; have NI251_250 := ni NB251_250; replace BK250 := bk BK250 hb; clear hb hbox hg; have hnb38 := NB250_251.out; have hnc38 := NB251_250.out; obtain ⟨hcz39_0, hcz39_1, hfz39_0, hfz39_1⟩ := cs2 BK250; obtain ⟨hcz40_0, hcz40_1, hcz40_2, hfz40_0, hfz40_1, hfz40_2⟩ := cs3 BK251) | ((with_reducible refine gate_callee (f := 24) rfl ?_); refine gB (some 9) Tryd.func24 #[.agg #[.int .i64 a0_0, .int .i64 a0_1], .agg #[.int .i64 a1_0, .string a1_1, .slice A1_2 l1_2.length c1_2]] ?_; (with_reducible refine (spec_QcOk.calls k a0_0 a0_1 a1_0 a1_1 _ _ l1_2 false _ ?side1 ?side2 A3.out).mono ?_); (case side1 => exact ch HR1_2 HB); (case side2 => exact HC1_2.out); rintro e w41 ⟨rfl, hb⟩; refine ⟨_, rfl, ?_⟩; replace BK250 := bk BK250 hb; replace BK251 := bk BK251 hb; replace HB := bs HB hb; (try clear hb); (try clear hb2); (try clear hk); (try clear hi)) | ((with_reducible refine gate_dst (N := 11) rfl ?_); refine Kd.R_lit (Kd.int .u8) _ 5 ?hg (N := 11) ?hd (xs := ([] : List Int)) (inner := []) (ok := fun _ => True) (okp := fun _ => True) ?hr ?hp (fun _ hk => hk) trivial (Below.refl _ _) (Nat.le_refl _) (by simp) ?_; (case hd => rfl); (case hg => rfl); (case hr => first | (go_simp; done) | (go_simp; rfl)); (case hp => exact (Reps.none _ _)); intro v254 w42 ho43 hb hg_ hnew_; clear hg_ hnew_; (first | rw [← Ny253.out] at ho43 | (simp only [Int.reduceToNat] at ho43; rw [← Ny253.out] at ho43)); have HO255 := Aside0.mk (Kd.R_lower ho43 (below_size (bI HB.out))); replace BK250 := bk BK250 hb; replace BK251 := bk BK251 hb; replace HB := bs HB hb; clear hb ho43))
    go_ret
    exact ⟨_, y0_7, by (with_reducible repeat (first | apply Kd.R_alloc | apply Kd.R_drewN | apply Kd.R_drew)); exact HO255.out, bI HB.out⟩

/-! ### impl_within: function 77 -/
def impl_within.f (a0 : Int) (a1 : Int) (a2 : Int) : Option (Bool) := if a0 ≥ a1 then (some (decide (a0 ≤ a2))) else (some false)
set_option maxHeartbeats 8000000 in
set_option maxRecDepth 100000 in
theorem impl_within.calls (a0 : Int) (a1 : Int) (a2 : Int) (r : Bool) (w : World) (h : impl_within.f a0 a1 a2 = some r) :
    Calls Tryd.prog 77 #[.int .i64 a0, .int .i64 a1, .int .i64 a2] w fun e w' => e = .returned (.bool r) ∧ Drawn0 w w' := by
  have H : (if a0 ≥ a1 then (some (decide (a0 ≤ a2))) else (some false)) = some r := h
  clear h
  by_cases c4 : a0 ≥ a1
  · rw [if_pos c4] at H
    have c4b0 : decide (a1 ≤ a0) = true := decide_eq_true c4
    clear c4
    obtain rfl := Option.some.inj H
    go_enter Tryd.func77, Tryd.ntmps77
    go_wp2
    go_ret
    exact ⟨y0_10, y0_8⟩
  · rw [if_neg c4] at H
    have c4b0 : decide (a1 ≤ a0) = false := decide_eq_false c4
    clear c4
    obtain rfl := Option.some.inj H
    go_enter Tryd.func77, Tryd.ntmps77
    go_wp2
    go_ret
    exact ⟨y0_10, y0_8⟩

/-! ### impl_ConfOk: function 76 -/
def impl_ConfOk.f (a0_0 : Int) (a0_1 : Int) : Option (Bool) := (impl_within.f a0_0 4 7).bind fun t279 => (if t279 = true then ((impl_within.f a0_1 1 6).bind fun t280 => (some t280)) else (some false))
set_option maxHeartbeats 8000000 in
set_option maxRecDepth 100000 in
theorem impl_ConfOk.calls (a0_0 : Int) (a0_1 : Int) (r : Bool) (w : World) (h : impl_ConfOk.f a0_0 a0_1 = some r) :
    Calls Tryd.prog 76 #[.agg #[.int .i64 a0_0, .int .i64 a0_1]] w fun e w' => e = .returned (.bool r) ∧ Below w.heap.size w w' := by
  have hu32 := Tryd.underlying32
  have HB := Aside0.mk (Below.refl w.heap.size w)
  have H : ((impl_within.f a0_0 4 7).bind fun t279 => (if t279 = true then ((impl_within.f a0_1 1 6).bind fun t280 => (some t280)) else (some false))) = some r := h
  clear h
  obtain ⟨t279, A20, H⟩ := Option.bind_eq_some_iff.mp H
  try dsimp only at H
  have A2 := Aside0.mk A20
  clear A20
  by_cases c3 : t279 = true
  · subst c3
    rw [if_pos rfl] at H
    obtain ⟨t280, A40, H⟩ := Option.bind_eq_some_iff.mp H
    try dsimp only at H
    have A4 := Aside0.mk A40
    clear A40
    obtain rfl := Option.some.inj H
    go_enter Tryd.func76, Tryd.ntmps76
    go_wp2_with (first | ((with_reducible refine gd 1 ?_); refine bA 1 #[.int .i64 a0_0, .int .i64 a0_1] 32 ?_; intro gb278 hg w5 hbox hb; have BK278 := Aside0.mk (hbox); have GW278 := bg hg HB; have GJ278 := gi GW278; have GE278 := GW278; replace HB := bs HB hb; clear hb hbox hg; obtain ⟨hcz6_0, hcz6_1, hfz6_0, hfz6_1⟩ := cs2 BK278) | ((with_reducible refine gate_callee (f := 77) rfl ?_); refine gB (some 5) Tryd.func77 #[.int .i64 a0_0, .int .i64 4, .int .i64 7] ?_; (with_reducible refine (impl_within.calls a0_0 4 7 true _ A2.out).mono ?_); rintro e w' ⟨rfl, ⟨nd, rfl⟩⟩; refine ⟨_, rfl, ?_⟩) | (go_at_call 77; (with_reducible refine (impl_within.calls a0_1 1 6 t280 _ A4.out).mono ?_); rintro e w' ⟨rfl, ⟨nd, rfl⟩⟩))
    go_ret
    exact ⟨y0_7, bI HB.out⟩
  · replace c3 := Bool.eq_false_iff.mpr c3
    subst c3
    rw [if_neg (show ¬ (false = true) by decide)] at H
    obtain rfl := Option.some.inj H
    go_enter Tryd.func76, Tryd.ntmps76
    go_wp2_with (first | ((with_reducible refine gd 1 ?_); refine bA 1 #[.int .i64 a0_0, .int .i64 a0_1] 32 ?_; intro gb278 hg w7 hbox hb; have BK278 := Aside0.mk (hbox); have GW278 := bg hg HB; have GJ278 := gi GW278; have GE278 := GW278; replace HB := bs HB hb; clear hb hbox hg; obtain ⟨hcz8_0, hcz8_1, hfz8_0, hfz8_1⟩ := cs2 BK278) | ((with_reducible refine gate_callee (f := 77) rfl ?_); refine gB (some 5) Tryd.func77 #[.int .i64 a0_0, .int .i64 4, .int .i64 7] ?_; (with_reducible refine (impl_within.calls a0_0 4 7 false _ A2.out).mono ?_); rintro e w' ⟨rfl, ⟨nd, rfl⟩⟩; refine ⟨_, rfl, ?_⟩))
    go_ret
    exact ⟨y0_7, bI HB.out⟩

/-! ### impl_Faults: function 99 -/
def impl_Faults.f (a0_0 : Int) (a0_1 : Int) : Option (Int) := (impl_ConfOk.f a0_0 a0_1).bind fun t282 => (if t282 = true then (some (wrap64 (Int.tdiv (wrap64 (a0_0 - 1)) 3))) else (some 0))
set_option maxHeartbeats 8000000 in
set_option maxRecDepth 100000 in
theorem impl_Faults.calls (a0_0 : Int) (a0_1 : Int) (r : Int) (w : World) (h : impl_Faults.f a0_0 a0_1 = some r) :
    Calls Tryd.prog 99 #[.agg #[.int .i64 a0_0, .int .i64 a0_1]] w fun e w' => e = .returned (.int .i64 r) ∧ Below w.heap.size w w' := by
  have hu32 := Tryd.underlying32
  have HB := Aside0.mk (Below.refl w.heap.size w)
  have H : ((impl_ConfOk.f a0_0 a0_1).bind fun t282 => (if t282 = true then (some (wrap64 (Int.tdiv (wrap64 (a0_0 - 1)) 3))) else (some 0))) = some r := h
  clear h
  obtain ⟨t282, A20, H⟩ := Option.bind_eq_some_iff.mp H
  try dsimp only at H
  have A2 := Aside0.mk A20
  clear A20
  by_cases c3 : t282 = true
  · subst c3
    rw [if_pos rfl] at H
    obtain rfl := Option.some.inj H
    go_enter Tryd.func99, Tryd.ntmps99
    go_wp2_with (first | ((with_reducible refine gd 1 ?_); refine bA 1 #[.int .i64 a0_0, .int .i64 a0_1] 32 ?_; intro gb281 hg w4 hbox hb; have BK281 := Aside0.mk (hbox); have GW281 := bg hg HB; have GJ281 := gi GW281; have GE281 := GW281; replace HB := bs HB hb; clear hb hbox hg; obtain ⟨hcz5_0, hcz5_1, hfz5_0, hfz5_1⟩ := cs2 BK281) | ((with_reducible refine gate_callee (f := 76) rfl ?_); refine gB (some 4) Tryd.func76 #[.agg #[.int .i64 a0_0, .int .i64 a0_1]] ?_; (with_reducible refine (impl_ConfOk.calls a0_0 a0_1 true _ A2.out).mono ?_); rintro e w6 ⟨rfl, hb⟩; refine ⟨_, rfl, ?_⟩; replace BK281 := bk BK281 hb; replace HB := bs HB hb; (try clear hb); (try clear hb2); (try clear hk); (try clear hi); obtain ⟨hcz7_0, hcz7_1, hfz7_0, hfz7_1⟩ := cs2 BK281))
    go_ret
    exact ⟨y0_7, bI HB.out⟩
  · replace c3 := Bool.eq_false_iff.mpr c3
    subst c3
    rw [if_neg (show ¬ (false = true) by decide)] at H
    obtain rfl := Option.some.inj H
    go_enter Tryd.func99, Tryd.ntmps99
    go_wp2_with (first | ((with_reducible refine gd 1 ?_); refine bA 1 #[.int .i64 a0_0, .int .i64 a0_1] 32 ?_; intro gb281 hg w8 hbox hb; have BK281 := Aside0.mk (hbox); have GW281 := bg hg HB; have GJ281 := gi GW281; have GE281 := GW281; replace HB := bs HB hb; clear hb hbox hg; obtain ⟨hcz9_0, hcz9_1, hfz9_0, hfz9_1⟩ := cs2 BK281) | ((with_reducible refine gate_callee (f := 76) rfl ?_); refine gB (some 4) Tryd.func76 #[.agg #[.int .i64 a0_0, .int .i64 a0_1]] ?_; (with_reducible refine (impl_ConfOk.calls a0_0 a0_1 false _ A2.out).mono ?_); rintro e w10 ⟨rfl, hb⟩; refine ⟨_, rfl, ?_⟩; replace BK281 := bk BK281 hb; replace HB := bs HB hb; (try clear hb); (try clear hb2); (try clear hk); (try clear hi)))
    go_ret
    exact ⟨y0_7, bI HB.out⟩

/-! ### impl_Quorum: function 57 -/
def impl_Quorum.f (a0_0 : Int) (a0_1 : Int) : Option (Int) := (impl_ConfOk.f a0_0 a0_1).bind fun t284 => (if t284 = true then ((impl_Faults.f a0_0 a0_1).bind fun t285 => (some (wrap64 (a0_0 - t285)))) else (some 0))
set_option maxHeartbeats 8000000 in
set_option maxRecDepth 100000 in
theorem impl_Quorum.calls (a0_0 : Int) (a0_1 : Int) (r : Int) (w : World) (h : impl_Quorum.f a0_0 a0_1 = some r) :
    Calls Tryd.prog 57 #[.agg #[.int .i64 a0_0, .int .i64 a0_1]] w fun e w' => e = .returned (.int .i64 r) ∧ Below w.heap.size w w' := by
  have hu32 := Tryd.underlying32
  have HB := Aside0.mk (Below.refl w.heap.size w)
  have H : ((impl_ConfOk.f a0_0 a0_1).bind fun t284 => (if t284 = true then ((impl_Faults.f a0_0 a0_1).bind fun t285 => (some (wrap64 (a0_0 - t285)))) else (some 0))) = some r := h
  clear h
  obtain ⟨t284, A20, H⟩ := Option.bind_eq_some_iff.mp H
  try dsimp only at H
  have A2 := Aside0.mk A20
  clear A20
  by_cases c3 : t284 = true
  · subst c3
    rw [if_pos rfl] at H
    obtain ⟨t285, A40, H⟩ := Option.bind_eq_some_iff.mp H
    try dsimp only at H
    have A4 := Aside0.mk A40
    clear A40
    obtain rfl := Option.some.inj H
    go_enter Tryd.func57, Tryd.ntmps57
    try go_wp2_with (first | ((with_reducible refine gd 1 ?_); refine bA 1 #[.int .i64 a0_0, .int .i64 a0_1] 32 ?_; intro gb283 hg w5 hbox hb; have BK283 := Aside0.mk (hbox); have GW283 := bg hg HB; have GJ283 := gi GW283; have GE283 := GW283; replace HB := bs HB hb; clear hb hbox hg; obtain ⟨hcz6_0, hcz6_1, hfz6_0, hfz6_1⟩ := cs2 BK283) | ((with_reducible refine gate_callee (f := 76) rfl ?_); refine gB (some 4) Tryd.func76 #[.agg #[.int .i64 a0_0, .int .i64 a0_1]] ?_; (with_reducible refine (impl_ConfOk.calls a0_0 a0_1 true _ A2.out).mono ?_); rintro e w7 ⟨rfl, hb⟩; refine ⟨_, rfl, ?_⟩; replace BK283 := bk BK283 hb; replace HB := bs HB hb; (try clear hb); (try clear hb2); (try clear hk); (try clear hi)))
    replace BK283 := Aside0.mk (blk_drew BK283.out)
    replace HB := Aside0.mk (below_drew1 HB.out)
    refine start_ (n := 6) (S := fun w' => w'.cell? ⟨gb283, 0, none⟩ = some (.int .i64 a0_0) ∧ w'.cell? ⟨gb283, 1, none⟩ = some (.int .i64 a0_1)) (ds := []) #[false, false, false, false, false, false] (by kernel_rfl) rfl rfl ⟨bc0 BK283.out, bc1 BK283.out⟩ (fun hHeld => ?_)
    generalize w7.drew = w8 at BK283 HB hHeld ⊢
    refine pure_ (i := 0) (N := some 6) (v := ?_) (a' := ?_) #[true, false, false, false, false, false] rfl rfl (by kernel_rfl) (fun _ _ _ h => h) (Or.inl ⟨by rfl, ?_⟩) ?_ ?_
    rotate_left
    · intro w'
      go_simp
      with_reducible rfl
    rotate_left
    · simp only [Act.put, List.setIfInBounds_toArray, List.set_cons_zero, List.set_cons_succ, i64_w, i32_w]
      rfl
    refine take_ (i := 1) (N := some 7) (v := ?_) (a' := ?_) #[true, true, false, false, false, false] rfl rfl (by kernel_rfl) (fun _ _ _ h => h) (Or.inl ⟨by rfl, ?_⟩) hHeld ?_ ?_
    rotate_left
    · rintro w' ⟨s0, s1⟩
      go_simp
      with_reducible rfl
    rotate_left
    · simp only [Act.put, List.setIfInBounds_toArray, List.set_cons_zero, List.set_cons_succ, i64_w, i32_w]
      rfl
    refine take_ (i := 2) (N := some 8) (v := ?_) (a' := ?_) #[true, true, true, false, false, false] rfl rfl (by kernel_rfl) (fun _ _ _ h => h) (Or.inl ⟨by rfl, ?_⟩) hHeld ?_ ?_
    rotate_left
    · rintro w' ⟨s0, s1⟩
      go_simp
      with_reducible rfl
    rotate_left
    · simp only [Act.put, List.setIfInBounds_toArray, List.set_cons_zero, List.set_cons_succ, i64_w, i32_w]
      rfl
    refine one_ (i := 3) (N := some 9) #[true, true, true, true, false, false] rfl rfl (by kernel_rfl) (by decide) (fun K hK => ?_)
    refine gA Tryd.func99 #[.agg #[.int .i64 a0_0, .int .i64 a0_1]] ?_
    with_reducible refine (impl_Faults.calls a0_0 a0_1 t285 _ A4.out).mono ?_
    rintro e w9 ⟨rfl, hb⟩
    refine ⟨_, rfl, ?_⟩
    replace BK283 := bk BK283 hb
    replace HB := bs HB hb
    (try clear hb)
    (try clear hb2)
    (try clear hk)
    (try clear hi)
    refine hK.out _ _ ⟨bc0 BK283.out, bc1 BK283.out⟩ (fun hHeld => ?_)
    clear hK K
    refine nA (some 9) ?_
    refine pure_ (i := 4) (N := some 10) (v := ?_) (a' := ?_) #[true, true, true, true, true, false] rfl rfl (by kernel_rfl) (fun _ _ _ h => h) (Or.inl ⟨by rfl, ?_⟩) ?_ ?_
    rotate_left
    · intro w'
      go_simp
      with_reducible rfl
    rotate_left
    · simp only [Act.put, List.setIfInBounds_toArray, List.set_cons_zero, List.set_cons_succ, i64_w, i32_w]
      rfl
    refine pure_ (i := 5) (N := some 2) (v := ?_) (a' := ?_) #[true, true, true, true, true, true] rfl rfl (by kernel_rfl) (fun _ _ _ h => h) (Or.inl ⟨by rfl, ?_⟩) ?_ ?_
    rotate_left
    · intro w'
      go_simp
      with_reducible rfl
    rotate_left
    · simp only [Act.put, List.setIfInBounds_toArray, List.set_cons_zero, List.set_cons_succ, i64_w, i32_w]
      rfl
    refine done_ (by kernel_rfl) ?_
    try go_wp2
    go_ret
    exact ⟨y0_7, bI HB.out⟩
  · replace c3 := Bool.eq_false_iff.mpr c3
    subst c3
    rw [if_neg (show ¬ (false = true) by decide)] at H
    obtain rfl := Option.some.inj H
    go_enter Tryd.func57, Tryd.ntmps57
    go_wp2_with (first | ((with_reducible refine gd 1 ?_); refine bA 1 #[.int .i64 a0_0, .int .i64 a0_1] 32 ?_; intro gb283 hg w10 hbox hb; have BK283 := Aside0.mk (hbox); have GW283 := bg hg HB; have GJ283 := gi GW283; have GE283 := GW283; replace HB := bs HB hb; clear hb hbox hg; obtain ⟨hcz11_0, hcz11_1, hfz11_0, hfz11_1⟩ := cs2 BK283) | ((with_reducible refine gate_callee (f := 76) rfl ?_); refine gB (some 4) Tryd.func76 #[.agg #[.int .i64 a0_0, .int .i64 a0_1]] ?_; (with_reducible refine (impl_ConfOk.calls a0_0 a0_1 false _ A2.out).mono ?_); rintro e w12 ⟨rfl, hb⟩; refine ⟨_, rfl, ?_⟩; replace BK283 := bk BK283 hb; replace HB := bs HB hb; (try clear hb); (try clear hb2); (try clear hk); (try clear hi)))
    go_ret
    exact ⟨y0_7, bI HB.out⟩

/-! ### strings_Split: function 131 -/

/-! ### impl_Split: function 107 -/
def impl_Split.f (a0 : ByteArray) (a1 : Int) : Option (List ByteArray) := (strings_Split.f a0 (strOfNums (([a1] : List Int)))).bind fun t289 => (some t289)
set_option maxHeartbeats 8000000 in
set_option maxRecDepth 100000 in
theorem impl_Split.calls (a0 : ByteArray) (a1 : Int) (r : List ByteArray) (w : World) (h : impl_Split.f a0 a1 = some r) (hG : Glob w := by exact gG HG HB) :
    Calls Tryd.prog 107 #[.string a0, .int .u8 a1] w fun e w' => ∃ v0_ : Value, e = .returned (v0_) ∧ Kd.R Kd.string 9 w' w.heap.size (fun _ => True) v0_ r ∧ Below w.heap.size w w' := by
  have HG := Aside0.mk hG
  clear hG
  have HB := Aside0.mk (Below.refl w.heap.size w)
  have H : ((strings_Split.f a0 (strOfNums (([a1] : List Int)))).bind fun t289 => (some t289)) = some r := h
  clear h
  obtain ⟨y286, hy286⟩ : ∃ y_ : List Int, y_ = (([a1] : List Int)) := ⟨_, rfl⟩
  replace H : ((strings_Split.f a0 (strOfNums y286)).bind fun t289 => (some t289)) = some r := by first | (rw [hy286]; with_reducible exact H) | (have H2_ := (Option.bind_some _ _).symm.trans H; rw [hy286]; with_reducible exact H2_) | (have H2_ := (Option.bind_some _ _).symm.trans H; with_reducible exact H2_) | with_reducible exact H | (rw [hy286]; exact H) | exact H
  have Ny286 := Aside0.mk hy286
  clear hy286
  obtain ⟨t289, A30, H⟩ := Option.bind_eq_some_iff.mp H
  try dsimp only at H
  have A3 := Aside0.mk A30
  clear A30
  obtain rfl := Option.some.inj H
  go_enter Tryd.func107, Tryd.ntmps107
  go_wp2_with (first | ((with_reducible refine gate_dst (N := 7) rfl ?_); refine Kd.R_lit (Kd.int .u8) _ 5 ?hg (N := 7) ?hd (xs := ([a1] : List Int)) (inner := [.int .u8 a1]) (ok := fun _ => True) (okp := fun _ => True) ?hr ?hp (fun _ hk => hk) trivial (Below.refl _ _) (Nat.le_refl _) (by simp) ?_; (case hd => rfl); (case hg => rfl); (case hr => first | (go_simp; done) | (go_simp; rfl)); (case hp => exact (Reps.one (show Kd.M (Kd.int .u8) _ _ _ a1 [.int .u8 a1] from rfl) (Reps.none _ _))); intro v287 w4 ho5 hb hg_ hnew_; clear hg_ hnew_; (first | rw [← Ny286.out] at ho5 | (simp only [Int.reduceToNat] at ho5; rw [← Ny286.out] at ho5)); have HO288 := Aside0.mk (Kd.R_lower ho5 (below_size (bI HB.out))); replace HB := bs HB hb; clear hb ho5; have hcv6 := own_string (P := Tryd.prog) Tryd.underlying74 Tryd.underlying5 Tryd.underlying9 (Kd.own_of_R HO288.out)) | ((with_reducible refine gate_callee (f := 131) rfl ?_); refine gB (some 9) Tryd.func131 #[.string a0, .string (strOfNums y286)] ?_; (with_reducible refine (strings_Split.calls a0 (strOfNums y286) t289 _ A3.out).mono ?_); rintro e w7 ⟨v290, rfl, ho0, hb⟩; refine ⟨_, rfl, ?_⟩; replace HO288 := rb HO288 hb; have HO291 := Aside0.mk (Kd.R_lower ho0 (below_size (bI HB.out))); replace HB := bs HB hb; (try clear hb); (try clear ho0)))
  go_ret
  exact ⟨_, y0_7, by (with_reducible repeat (first | apply Kd.R_alloc | apply Kd.R_drewN | apply Kd.R_drew)); exact HO291.out, bI HB.out⟩

/-! ### strings_Cut: function 108 -/

/-! ### strconv_Itoa_150: function 150 -/

/-! ### impl_Digits: function 133 -/
def impl_Digits.f (a0 : Int) : Option (ByteArray) := (strconv_Itoa_150.f a0).bind fun t292 => (some t292)
set_option maxHeartbeats 8000000 in
set_option maxRecDepth 100000 in
theorem impl_Digits.calls (a0 : Int) (r : ByteArray) (w : World) (h : impl_Digits.f a0 = some r) (hG : Glob w := by exact gG HG HB) :
    Calls Tryd.prog 133 #[.int .i64 a0] w fun e w' => e = .returned (.string r) ∧ Below w.heap.size w w' := by
  have HG := Aside0.mk hG
  clear hG
  have HB := Aside0.mk (Below.refl w.heap.size w)
  have H : ((strconv_Itoa_150.f a0).bind fun t292 => (some t292)) = some r := h
  clear h
  obtain ⟨t292, A20, H⟩ := Option.bind_eq_some_iff.mp H
  try dsimp only at H
  have A2 := Aside0.mk A20
  clear A20
  obtain rfl := Option.some.inj H
  go_enter Tryd.func133, Tryd.ntmps133
  go_wp2_with (first | ((with_reducible refine gate_callee (f := 150) rfl ?_); refine gB (some 4) Tryd.func150 #[.int .i64 a0] ?_; (with_reducible refine (strconv_Itoa_150.calls a0 t292 _ A2.out).mono ?_); rintro e w3 ⟨rfl, hb⟩; refine ⟨_, rfl, ?_⟩; replace HB := bs HB hb; (try clear hb); (try clear hb2); (try clear hk); (try clear hi)))
  go_ret
  exact ⟨y0_7, bI HB.out⟩

end Go.Proofs.YtcmldmlmhpfjhaaDoor.PFnExactQcBytes
