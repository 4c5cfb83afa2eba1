-- By a program of this session, out of the translation (the print of the kit, with turns of its own). Lean checks it.
import Derived.Test.YtemjmefacifdeaaGreatDoorPFnExactVotex0
import Derived.Test.YtemjmefacifdeaaGreatDoorPFnExactVotex8
import Derived.Test.YtemjmefacifdeaaGreatDoorPFnExactVotex11
import Derived.Test.YtemjmefacifdeaaGreatDoorPFnExactVotex12
namespace Go.Proofs.YtemjmefacifdeaaGreatDoor.PFnExactVote
open Go.RowKit Go.Proofs.YtemjmefacifdeaaGreatDoorW.PrintWords Go.Proofs.YtemjmefacifdeaaGreatDoorW.PrintLast Go.Proofs.YtemjmefacifdeaaGreatDoorW.PrintMore
attribute [local go_sem] max2_int min2_int max_two min_two max_three min_three max_four min_four   -- for this text's walks alone
set_option linter.unusedVariables false
set_option linter.unusedSimpArgs false

/-! ### impl_SafeOk: function 72 -/
def impl_SafeOk.f (k : Nat) (a0_0 : Int) (a0_1 : Int) (a1_0 : Int) (a1_1 : Int) (a1_2 : Int) (a1_3 : ByteArray) (l1_4 : List Int) (a1_5 : ByteArray) : Option (Bool) := (impl_within.f a1_0 0 60).bind fun t395 => (if t395 = true then ((impl_within.f a1_1 0 60).bind fun t396 => (if t396 = true then ((impl_QcOk.f k a0_0 a0_1 a1_2 a1_3 l1_4).bind fun t397 => (if t397 = true then ((impl_NameOk.f k a1_5).bind fun t398 => (some t398)) else (some false))) else (some false))) else (some false))
theorem impl_SafeOk.mono : ∀ a0 a1 a2 a3 a4 a5 a6 a7 k, LeO (impl_SafeOk.f k a0 a1 a2 a3 a4 a5 a6 a7) (impl_SafeOk.f (k + 1) a0 a1 a2 a3 a4 a5 a6 a7) := by
 intro a0 a1 a2 a3 a4 a5 a6 a7 k
 unfold impl_SafeOk.f
 repeat' first | (with_reducible exact impl_NameOk.mono _ _) | (with_reducible exact impl_QcOk.mono _ _ _ _ _ _) | (with_reducible exact LeO.refl _) | (with_reducible exact LeO.none _) | (with_reducible refine LeO.ite ?_ ?_) | (with_reducible refine LeO.bind ?_ (fun _ => ?_))
set_option maxHeartbeats 8000000 in
set_option maxRecDepth 100000 in
theorem impl_SafeOk.calls (k : Nat) (a0_0 : Int) (a0_1 : Int) (a1_0 : Int) (a1_1 : Int) (a1_2 : Int) (a1_3 : ByteArray) (A1_4 : Option Addr) (c1_4 : Nat) (l1_4 : List Int) (a1_5 : ByteArray) (r : Bool) (w : World) (hr1_4 : Kd.C (Kd.int .i64) w A1_4 l1_4.length l1_4) (hc1_4 : l1_4.length ≤ c1_4) (h : impl_SafeOk.f k a0_0 a0_1 a1_0 a1_1 a1_2 a1_3 l1_4 a1_5 = some r) (hG : Glob w := by exact gG HG HB) :
  Calls Tryz.prog 72 #[.agg #[.int .i64 a0_0, .int .i64 a0_1], .agg #[.int .i64 a1_0, .int .i64 a1_1, .int .i64 a1_2, .string a1_3, .slice A1_4 l1_4.length c1_4, .string a1_5]] w fun e w' => e = .returned (.bool r) ∧ Below w.heap.size w w' := by
 have HG := Aside0.mk hG; clear hG; have hu38 := Tryz.underlying38; have hu35 := Tryz.underlying35; have hu33 := Tryz.underlying33; have HR1_4 := Aside0.mk hr1_4; have HC1_4 := Aside0.mk hc1_4; clear hr1_4 hc1_4; have HB := Aside0.mk (Below.refl w.heap.size w)
 have H : ((impl_within.f a1_0 0 60).bind fun t395 => (if t395 = true then ((impl_within.f a1_1 0 60).bind fun t396 => (if t396 = true then ((impl_QcOk.f k a0_0 a0_1 a1_2 a1_3 l1_4).bind fun t397 => (if t397 = true then ((impl_NameOk.f k a1_5).bind fun t398 => (some t398)) else (some false))) else (some false))) else (some false))) = some r := h
 clear h; obtain ⟨t395, A30, H⟩ := Option.bind_eq_some_iff.mp H
 try dsimp only at H
 have A3 := Aside0.mk A30; clear A30
 by_cases c4 : t395 = true
 ·
  subst c4
  rw [if_pos rfl] at H
  obtain ⟨t396, A50, H⟩ := Option.bind_eq_some_iff.mp H
  try dsimp only at H
  have A5 := Aside0.mk A50; clear A50
  by_cases c6 : t396 = true
  ·
   subst c6
   rw [if_pos rfl] at H
   obtain ⟨t397, A70, H⟩ := Option.bind_eq_some_iff.mp H
   try dsimp only at H
   have A7 := Aside0.mk A70; clear A70
   by_cases c8 : t397 = true
   ·
    subst c8
    rw [if_pos rfl] at H
    obtain ⟨t398, A90, H⟩ := Option.bind_eq_some_iff.mp H
    try dsimp only at H
    have A9 := Aside0.mk A90; clear A90; obtain rfl := Option.some.inj H
    go_enter Tryz.func72, Tryz.ntmps72
    go_wp2_with (first | ((with_reducible refine gd 2 ?_); refine bA 2 #[.int .i64 a0_0, .int .i64 a0_1] 38 ?_; intro gb393 hg w10 hbox hb; have BK393 := Aside0.mk (hbox); have GW393 := bg hg HB; have GJ393 := gi GW393; have GE393 := GW393; replace HB := bs HB hb; clear hb hbox hg) | ((with_reducible refine gd 3 ?_); refine bA 3 #[.int .i64 a1_0, .int .i64 a1_1, .int .i64 a1_2, .string a1_3, .slice A1_4 l1_4.length c1_4, .string a1_5] 35 ?_; intro gb394 hg w11 hbox hb; have BK394 := Aside0.mk (hbox); have GW394 := bg hg HB; have GJ394 := gi GW394; have GE394 := GW394; replace HB := bs HB hb; have NB393_394 := b1 BK393 hg; have NI393_394 := ni NB393_394; have NB394_393 := b2 BK393 hg; have NI394_393 := ni NB394_393; replace BK393 := bk BK393 hb; clear hb hbox hg; have hnb12 := NB394_393.out; have hnc12 := NB393_394.out; have hcz13_0 := bc0 BK394.out; have hcz13_1 := bc1 BK394.out; have hcz13_2 := bc2 BK394.out; have hcz13_3 := bc3 BK394.out; have hcz13_4 := bc4 BK394.out; have hcz13_5 := bc5 BK394.out; have hfz13_0 := blk_frozen BK394.out 0; have hfz13_1 := blk_frozen BK394.out 1; have hfz13_2 := blk_frozen BK394.out 2; have hfz13_3 := blk_frozen BK394.out 3; have hfz13_4 := blk_frozen BK394.out 4; have hfz13_5 := blk_frozen BK394.out 5) | ((with_reducible refine gate_callee (f := 99) rfl ?_); refine gB (some 7) Tryz.func99 #[.int .i64 a1_0, .int .i64 0, .int .i64 60] ?_; (with_reducible refine (impl_within.calls a1_0 0 60 true _ A3.out).mono ?_); rintro e w' ⟨rfl, ⟨nd, rfl⟩⟩; refine ⟨_, rfl, ?_⟩) | (go_at_call 99; (with_reducible refine (impl_within.calls a1_1 0 60 true _ A5.out).mono ?_); rintro e w' ⟨rfl, ⟨nd, rfl⟩⟩; obtain ⟨hcz14_0, hcz14_1, hfz14_0, hfz14_1⟩ := cs2 BK393) | (go_at_call 48; (with_reducible refine (impl_QcOk.calls k a0_0 a0_1 a1_2 a1_3 _ _ l1_4 true _ ?side1 ?side2 A7.out).mono ?_); (case side1 => exact (Kd.C_below HR1_4.out (bI HB.out))); (case side2 => exact HC1_4.out); rintro e w15 ⟨rfl, hb⟩; replace BK393 := bk BK393 hb; replace BK394 := bk BK394 hb; replace HB := bs HB hb; (try clear hb); (try clear hb2); (try clear hk); (try clear hi); have hcz16_0 := bc0 BK394.out; have hcz16_1 := bc1 BK394.out; have hcz16_2 := bc2 BK394.out; have hcz16_3 := bc3 BK394.out; have hcz16_4 := bc4 BK394.out; have hcz16_5 := bc5 BK394.out; have hfz16_0 := blk_frozen BK394.out 0; have hfz16_1 := blk_frozen BK394.out 1; have hfz16_2 := blk_frozen BK394.out 2; have hfz16_3 := blk_frozen BK394.out 3; have hfz16_4 := blk_frozen BK394.out 4; have hfz16_5 := blk_frozen BK394.out 5) | (go_at_call 95; (with_reducible refine (impl_NameOk.calls k a1_5 t398 _ A9.out).mono ?_); rintro e w17 ⟨rfl, hb⟩; replace BK393 := bk BK393 hb; replace BK394 := bk BK394 hb; replace HB := bs HB hb; (try clear hb); (try clear hb2); (try clear hk); (try clear hi)))
    go_ret
    exact ⟨y0_7, bI HB.out⟩
   replace c8 := Bool.eq_false_iff.mpr c8; subst c8
   rw [if_neg (show ¬ (false = true) by decide)] at H
   obtain rfl := Option.some.inj H
   go_enter Tryz.func72, Tryz.ntmps72
   go_wp2_with (first | ((with_reducible refine gd 2 ?_); refine bA 2 #[.int .i64 a0_0, .int .i64 a0_1] 38 ?_; intro gb393 hg w18 hbox hb; have BK393 := Aside0.mk (hbox); have GW393 := bg hg HB; have GJ393 := gi GW393; have GE393 := GW393; replace HB := bs HB hb; clear hb hbox hg) | ((with_reducible refine gd 3 ?_); refine bA 3 #[.int .i64 a1_0, .int .i64 a1_1, .int .i64 a1_2, .string a1_3, .slice A1_4 l1_4.length c1_4, .string a1_5] 35 ?_; intro gb394 hg w19 hbox hb; have BK394 := Aside0.mk (hbox); have GW394 := bg hg HB; have GJ394 := gi GW394; have GE394 := GW394; replace HB := bs HB hb; have NB393_394 := b1 BK393 hg; have NI393_394 := ni NB393_394; have NB394_393 := b2 BK393 hg; have NI394_393 := ni NB394_393; replace BK393 := bk BK393 hb; clear hb hbox hg; have hnb20 := NB394_393.out; have hnc20 := NB393_394.out; have hcz21_0 := bc0 BK394.out; have hcz21_1 := bc1 BK394.out; have hcz21_2 := bc2 BK394.out; have hcz21_3 := bc3 BK394.out; have hcz21_4 := bc4 BK394.out; have hcz21_5 := bc5 BK394.out; have hfz21_0 := blk_frozen BK394.out 0; have hfz21_1 := blk_frozen BK394.out 1; have hfz21_2 := blk_frozen BK394.out 2; have hfz21_3 := blk_frozen BK394.out 3; have hfz21_4 := blk_frozen BK394.out 4; have hfz21_5 := blk_frozen BK394.out 5) | ((with_reducible refine gate_callee (f := 99) rfl ?_); refine gB (some 7) Tryz.func99 #[.int .i64 a1_0, .int .i64 0, .int .i64 60] ?_; (with_reducible refine (impl_within.calls a1_0 0 60 true _ A3.out).mono ?_); rintro e w' ⟨rfl, ⟨nd, rfl⟩⟩; refine ⟨_, rfl, ?_⟩) | (go_at_call 99; (with_reducible refine (impl_within.calls a1_1 0 60 true _ A5.out).mono ?_); rintro e w' ⟨rfl, ⟨nd, rfl⟩⟩; obtain ⟨hcz22_0, hcz22_1, hfz22_0, hfz22_1⟩ := cs2 BK393) | (go_at_call 48; (with_reducible refine (impl_QcOk.calls k a0_0 a0_1 a1_2 a1_3 _ _ l1_4 false _ ?side1 ?side2 A7.out).mono ?_); (case side1 => exact (Kd.C_below HR1_4.out (bI HB.out))); (case side2 => exact HC1_4.out); rintro e w23 ⟨rfl, hb⟩; replace BK393 := bk BK393 hb; replace BK394 := bk BK394 hb; replace HB := bs HB hb; (try clear hb); (try clear hb2); (try clear hk); (try clear hi)))
   go_ret
   exact ⟨y0_7, bI HB.out⟩
  replace c6 := Bool.eq_false_iff.mpr c6; subst c6
  rw [if_neg (show ¬ (false = true) by decide)] at H
  obtain rfl := Option.some.inj H
  go_enter Tryz.func72, Tryz.ntmps72
  go_wp2_with (first | ((with_reducible refine gd 2 ?_); refine bA 2 #[.int .i64 a0_0, .int .i64 a0_1] 38 ?_; intro gb393 hg w24 hbox hb; have BK393 := Aside0.mk (hbox); have GW393 := bg hg HB; have GJ393 := gi GW393; have GE393 := GW393; replace HB := bs HB hb; clear hb hbox hg) | ((with_reducible refine gd 3 ?_); refine bA 3 #[.int .i64 a1_0, .int .i64 a1_1, .int .i64 a1_2, .string a1_3, .slice A1_4 l1_4.length c1_4, .string a1_5] 35 ?_; intro gb394 hg w25 hbox hb; have BK394 := Aside0.mk (hbox); have GW394 := bg hg HB; have GJ394 := gi GW394; have GE394 := GW394; replace HB := bs HB hb; have NB393_394 := b1 BK393 hg; have NI393_394 := ni NB393_394; have NB394_393 := b2 BK393 hg; have NI394_393 := ni NB394_393; replace BK393 := bk BK393 hb; clear hb hbox hg; have hnb26 := NB394_393.out; have hnc26 := NB393_394.out; have hcz27_0 := bc0 BK394.out; have hcz27_1 := bc1 BK394.out; have hcz27_2 := bc2 BK394.out; have hcz27_3 := bc3 BK394.out; have hcz27_4 := bc4 BK394.out; have hcz27_5 := bc5 BK394.out; have hfz27_0 := blk_frozen BK394.out 0; have hfz27_1 := blk_frozen BK394.out 1; have hfz27_2 := blk_frozen BK394.out 2; have hfz27_3 := blk_frozen BK394.out 3; have hfz27_4 := blk_frozen BK394.out 4; have hfz27_5 := blk_frozen BK394.out 5) | ((with_reducible refine gate_callee (f := 99) rfl ?_); refine gB (some 7) Tryz.func99 #[.int .i64 a1_0, .int .i64 0, .int .i64 60] ?_; (with_reducible refine (impl_within.calls a1_0 0 60 true _ A3.out).mono ?_); rintro e w' ⟨rfl, ⟨nd, rfl⟩⟩; refine ⟨_, rfl, ?_⟩) | (go_at_call 99; (with_reducible refine (impl_within.calls a1_1 0 60 false _ A5.out).mono ?_); rintro e w' ⟨rfl, ⟨nd, rfl⟩⟩))
  go_ret
  exact ⟨y0_7, bI HB.out⟩
 replace c4 := Bool.eq_false_iff.mpr c4; subst c4
 rw [if_neg (show ¬ (false = true) by decide)] at H
 obtain rfl := Option.some.inj H
 go_enter Tryz.func72, Tryz.ntmps72
 go_wp2_with (first | ((with_reducible refine gd 2 ?_); refine bA 2 #[.int .i64 a0_0, .int .i64 a0_1] 38 ?_; intro gb393 hg w28 hbox hb; have BK393 := Aside0.mk (hbox); have GW393 := bg hg HB; have GJ393 := gi GW393; have GE393 := GW393; replace HB := bs HB hb; clear hb hbox hg) | ((with_reducible refine gd 3 ?_); refine bA 3 #[.int .i64 a1_0, .int .i64 a1_1, .int .i64 a1_2, .string a1_3, .slice A1_4 l1_4.length c1_4, .string a1_5] 35 ?_; intro gb394 hg w29 hbox hb; have BK394 := Aside0.mk (hbox); have GW394 := bg hg HB; have GJ394 := gi GW394; have GE394 := GW394; replace HB := bs HB hb; have NB393_394 := b1 BK393 hg; have NI393_394 := ni NB393_394; have NB394_393 := b2 BK393 hg; have NI394_393 := ni NB394_393; replace BK393 := bk BK393 hb; clear hb hbox hg; have hnb30 := NB394_393.out; have hnc30 := NB393_394.out; have hcz31_0 := bc0 BK394.out; have hcz31_1 := bc1 BK394.out; have hcz31_2 := bc2 BK394.out; have hcz31_3 := bc3 BK394.out; have hcz31_4 := bc4 BK394.out; have hcz31_5 := bc5 BK394.out; have hfz31_0 := blk_frozen BK394.out 0; have hfz31_1 := blk_frozen BK394.out 1; have hfz31_2 := blk_frozen BK394.out 2; have hfz31_3 := blk_frozen BK394.out 3; have hfz31_4 := blk_frozen BK394.out 4; have hfz31_5 := blk_frozen BK394.out 5) | ((with_reducible refine gate_callee (f := 99) rfl ?_); refine gB (some 7) Tryz.func99 #[.int .i64 a1_0, .int .i64 0, .int .i64 60] ?_; (with_reducible refine (impl_within.calls a1_0 0 60 false _ A3.out).mono ?_); rintro e w' ⟨rfl, ⟨nd, rfl⟩⟩; refine ⟨_, rfl, ?_⟩))
 go_ret
 exact ⟨y0_7, bI HB.out⟩

/-! ### bytealg_LastIndexByteString: function 131 -/
def bytealg_LastIndexByteString.l0 : Nat → ByteArray → Int → Int → Option (Int)
 | 0, _, _, _ => none
 | k + 1, x0, x1, x5 => if x5 ≥ 0 then (if 0 ≤ x5 then (if x5 < (x0.size : Int) then (if (bt x0 x5) = x1 then (some x5) else (bytealg_LastIndexByteString.l0 k x0 x1 (wrap64 (x5 - 1)))) else (none)) else (none)) else (some (-1))
def bytealg_LastIndexByteString.f (k : Nat) (a0 : ByteArray) (a1 : Int) : Option (Int) := bytealg_LastIndexByteString.l0 k a0 a1 (wrap64 ((a0.size : Int) - 1))
theorem bytealg_LastIndexByteString.mono_l : ∀ k, (∀ y0 y1 y2, LeO (bytealg_LastIndexByteString.l0 k y0 y1 y2) (bytealg_LastIndexByteString.l0 (k + 1) y0 y1 y2))
 | 0 => fun _ _ _ r h => by simp [bytealg_LastIndexByteString.l0] at h
 | k + 1 => by
  have ih0 := bytealg_LastIndexByteString.mono_l k
  intro y0 y1 y2
  unfold bytealg_LastIndexByteString.l0
  repeat' first | (with_reducible exact ih0 _ _ _) | (with_reducible exact LeO.refl _) | (with_reducible exact LeO.none _) | (with_reducible refine LeO.ite ?_ ?_) | (with_reducible refine LeO.bind ?_ (fun _ => ?_))
theorem bytealg_LastIndexByteString.mono : ∀ a0 a1 k, LeO (bytealg_LastIndexByteString.f k a0 a1) (bytealg_LastIndexByteString.f (k + 1) a0 a1) := by
 intro a0 a1 k
 have ih0 := bytealg_LastIndexByteString.mono_l k
 unfold bytealg_LastIndexByteString.f
 repeat' first | (with_reducible exact ih0 _ _ _) | (with_reducible exact LeO.refl _) | (with_reducible exact LeO.none _) | (with_reducible refine LeO.ite ?_ ?_) | (with_reducible refine LeO.bind ?_ (fun _ => ?_))
set_option maxHeartbeats 8000000 in
set_option maxRecDepth 100000 in
theorem bytealg_LastIndexByteString.calls (k : Nat) (a0 : ByteArray) (a1 : Int) (r : Int) (w : World) (h : bytealg_LastIndexByteString.f k a0 a1 = some r) :
  Calls Tryz.prog 131 #[.string a0, .int .u8 a1] w fun e w' => e = .returned (.int .i64 r) ∧ Drawn0 w w' := by
 have H : (bytealg_LastIndexByteString.l0 k a0 a1 (wrap64 ((a0.size : Int) - 1))) = some r := h; clear h; have H' := Aside0.mk H; clear H
 go_enter Tryz.func131, Tryz.ntmps131
 go_wp2
 go_loopg [5] k (fun kq v5 w' => ∃ (x5_1 : Int), v5 = .int .i64 x5_1 ∧ Aside0 (bytealg_LastIndexByteString.l0 kq a0 a1 x5_1 = some r) ∧ Aside0 (kq ≤ k) ∧ Drawn0 w w')
 case atStart => exact ⟨(wrap64 ((a0.size : Int) - 1)), y0_10, H', ⟨Nat.le_refl _⟩, y0_8⟩
 case round =>
  clear H'
  try clear c1
  try clear p2
  obtain ⟨x5_1, rfl, HA, HK1, ⟨m1, rfl⟩⟩ := hrel; cases gk with
  | zero => exact absurd HA.out (by simp [bytealg_LastIndexByteString.l0])
  | succ k1 =>
   have H := HA.out; clear HA
   simp only [bytealg_LastIndexByteString.l0] at H
   by_cases c3 : x5_1 ≥ 0
   ·
    rw [if_pos c3] at H
    have c3b0 : decide (0 ≤ x5_1) = true := decide_eq_true c3; clear c3
    by_cases c4 : 0 ≤ x5_1
    rotate_left
    ·
     rw [if_neg c4] at H
     exact absurd H (by simp)
    rw [if_pos c4] at H
    have c4b0 : decide (0 ≤ x5_1) = true := decide_eq_true c4; clear c4
    by_cases c5 : x5_1 < (a0.size : Int)
    rotate_left
    ·
     rw [if_neg c5] at H
     exact absurd H (by simp)
    rw [if_pos c5] at H
    have c5b0 : decide (x5_1 < (a0.size : Int)) = true := decide_eq_true c5; clear c5
    by_cases c7 : (bt a0 x5_1) = a1
    ·
     rw [if_pos c7] at H
     have c7b0 : ((bt a0 x5_1) == a1) = true := beq_iff_eq.mpr c7; have c7b1 : ((bt a0 x5_1) != a1) = false := bne_eq_false_iff_eq.mpr c7; clear c7; obtain rfl := Option.some.inj H; have p6 : 0 ≤ (x5_1 : Int) := of_decide_eq_true y0_9; have q6 : x5_1 < (a0.size : Int) := of_decide_eq_true y0_9; have hx6 := bt_at a0 x5_1; replace p6 := eq_true p6; replace q6 := eq_true q6
     go_wp2
     go_ret
     exact ⟨y0_10, y0_8⟩
    rw [if_neg c7] at H
    have c7b0 : ((bt a0 x5_1) == a1) = false := beq_eq_false_iff_ne.mpr c7; have c7b1 : ((bt a0 x5_1) != a1) = true := bne_iff_ne.mpr c7; have H' := Aside0.mk H; clear H; have p6 : 0 ≤ (x5_1 : Int) := of_decide_eq_true y0_9; have q6 : x5_1 < (a0.size : Int) := of_decide_eq_true y0_9; have hx6 := bt_at a0 x5_1; replace p6 := eq_true p6; replace q6 := eq_true q6
    go_wp2
    go_roundg k1
    case measure => have := HK1.out; omega
    case rel => exact ⟨(wrap64 (x5_1 - 1)), y0_10, H', ⟨y0_14⟩, y0_8⟩
   rw [if_neg c3] at H
   have c3b0 : decide (0 ≤ x5_1) = false := decide_eq_false c3; clear c3; obtain rfl := Option.some.inj H
   go_wp2
   go_ret
   exact ⟨y0_10, y0_8⟩

/-! ### strings_LastIndexByte: function 105 -/
def strings_LastIndexByte.f (k : Nat) (a0 : ByteArray) (a1 : Int) : Option (Int) := (bytealg_LastIndexByteString.f k a0 a1).bind fun t399 => (some t399)
theorem strings_LastIndexByte.mono : ∀ a0 a1 k, LeO (strings_LastIndexByte.f k a0 a1) (strings_LastIndexByte.f (k + 1) a0 a1) := by
 intro a0 a1 k
 unfold strings_LastIndexByte.f
 repeat' first | (with_reducible exact bytealg_LastIndexByteString.mono _ _ _) | (with_reducible exact LeO.refl _) | (with_reducible exact LeO.none _) | (with_reducible refine LeO.ite ?_ ?_) | (with_reducible refine LeO.bind ?_ (fun _ => ?_))
set_option maxHeartbeats 8000000 in
set_option maxRecDepth 100000 in
theorem strings_LastIndexByte.calls (k : Nat) (a0 : ByteArray) (a1 : Int) (r : Int) (w : World) (h : strings_LastIndexByte.f k a0 a1 = some r) :
  Calls Tryz.prog 105 #[.string a0, .int .u8 a1] w fun e w' => e = .returned (.int .i64 r) ∧ Drawn0 w w' := by
 have H : ((bytealg_LastIndexByteString.f k a0 a1).bind fun t399 => (some t399)) = some r := h
 clear h; obtain ⟨t399, A30, H⟩ := Option.bind_eq_some_iff.mp H
 try dsimp only at H
 have A3 := Aside0.mk A30; clear A30; obtain rfl := Option.some.inj H
 go_enter Tryz.func105, Tryz.ntmps105
 go_wp2_with (first | ((with_reducible refine gate_callee (f := 131) rfl ?_); refine gB (some 7) Tryz.func131 #[.string a0, .int .u8 a1] ?_; (with_reducible refine (bytealg_LastIndexByteString.calls k a0 a1 t399 _ A3.out).mono ?_); rintro e w' ⟨rfl, ⟨nd, rfl⟩⟩; refine ⟨_, rfl, ?_⟩))
 go_ret
 exact ⟨y0_10, y0_8⟩

/-! ### impl_UpOf: function 73 -/
def impl_UpOf.f (k : Nat) (a0 : ByteArray) : Option (ByteArray) := (impl_NameOk.f k a0).bind fun t400 => (if t400 = true then (if a0.toList = ([] : List UInt8) then (some (⟨#[]⟩ : ByteArray)) else ((strings_LastIndexByte.f k a0 47).bind fun t401 => (if 0 ≤ t401 then (if t401 ≤ (a0.size : Int) then (some (a0.extract 0 (t401 : Int).toNat)) else (none)) else (none)))) else (some (⟨#[]⟩ : ByteArray)))
theorem impl_UpOf.mono : ∀ a0 k, LeO (impl_UpOf.f k a0) (impl_UpOf.f (k + 1) a0) := by
 intro a0 k
 unfold impl_UpOf.f
 repeat' first | (with_reducible exact impl_NameOk.mono _ _) | (with_reducible exact strings_LastIndexByte.mono _ _ _) | (with_reducible exact LeO.refl _) | (with_reducible exact LeO.none _) | (with_reducible refine LeO.ite ?_ ?_) | (with_reducible refine LeO.bind ?_ (fun _ => ?_))
set_option maxHeartbeats 8000000 in
set_option maxRecDepth 100000 in
theorem impl_UpOf.calls (k : Nat) (a0 : ByteArray) (r : ByteArray) (w : World) (h : impl_UpOf.f k a0 = some r) (hG : Glob w := by exact gG HG HB) :
  Calls Tryz.prog 73 #[.string a0] w fun e w' => e = .returned (.string r) ∧ Below w.heap.size w w' := by
 have HG := Aside0.mk hG; clear hG; have HB := Aside0.mk (Below.refl w.heap.size w)
 have H : ((impl_NameOk.f k a0).bind fun t400 => (if t400 = true then (if a0.toList = ([] : List UInt8) then (some (⟨#[]⟩ : ByteArray)) else ((strings_LastIndexByte.f k a0 47).bind fun t401 => (if 0 ≤ t401 then (if t401 ≤ (a0.size : Int) then (some (a0.extract 0 (t401 : Int).toNat)) else (none)) else (none)))) else (some (⟨#[]⟩ : ByteArray)))) = some r := h
 clear h; obtain ⟨t400, A20, H⟩ := Option.bind_eq_some_iff.mp H
 try dsimp only at H
 have A2 := Aside0.mk A20; clear A20
 by_cases c3 : t400 = true
 ·
  subst c3
  rw [if_pos rfl] at H
  by_cases c4 : a0.toList = ([] : List UInt8)
  ·
   rw [if_pos c4] at H
   have c4b0 : (a0.toList == ([] : List UInt8)) = true := beq_iff_eq.mpr c4; have c4b1 : (a0.toList != ([] : List UInt8)) = false := bne_eq_false_iff_eq.mpr c4; clear c4; obtain rfl := Option.some.inj H
   go_enter Tryz.func73, Tryz.ntmps73
   go_wp2_with (first | ((with_reducible refine gate_callee (f := 95) rfl ?_); refine gB (some 4) Tryz.func95 #[.string a0] ?_; (with_reducible refine (impl_NameOk.calls k a0 true _ A2.out).mono ?_); rintro e w5 ⟨rfl, hb⟩; refine ⟨_, rfl, ?_⟩; replace HB := bs HB hb; (try clear hb); (try clear hb2); (try clear hk); (try clear hi)))
   go_ret
   exact ⟨y0_7, bI HB.out⟩
  rw [if_neg c4] at H
  have c4b0 : (a0.toList == ([] : List UInt8)) = false := beq_eq_false_iff_ne.mpr c4; have c4b1 : (a0.toList != ([] : List UInt8)) = true := bne_iff_ne.mpr c4; obtain ⟨t401, A60, H⟩ := Option.bind_eq_some_iff.mp H
  try dsimp only at H
  have A6 := Aside0.mk A60; clear A60
  by_cases c7 : 0 ≤ t401
  rotate_left
  ·
   rw [if_neg c7] at H
   exact absurd H (by simp)
  rw [if_pos c7] at H
  have c7b0 := eq_true c7; have c7b1 : decide (0 ≤ t401) = true := decide_eq_true c7; clear c7
  by_cases c8 : t401 ≤ (a0.size : Int)
  rotate_left
  ·
   rw [if_neg c8] at H
   exact absurd H (by simp)
  rw [if_pos c8] at H
  have c8b0 := eq_true c8; have c8b1 : decide (t401 ≤ (a0.size : Int)) = true := decide_eq_true c8; clear c8; obtain rfl := Option.some.inj H
  go_enter Tryz.func73, Tryz.ntmps73
  go_wp2_with (first | ((with_reducible refine gate_callee (f := 95) rfl ?_); refine gB (some 4) Tryz.func95 #[.string a0] ?_; (with_reducible refine (impl_NameOk.calls k a0 true _ A2.out).mono ?_); rintro e w9 ⟨rfl, hb⟩; refine ⟨_, rfl, ?_⟩; replace HB := bs HB hb; (try clear hb); (try clear hb2); (try clear hk); (try clear hi)) | ((with_reducible refine gate_callee (f := 105) rfl ?_); refine gB (some 12) Tryz.func105 #[.string a0, .int .u8 47] ?_; (with_reducible refine (strings_LastIndexByte.calls k a0 47 t401 _ A6.out).mono ?_); rintro e w' ⟨rfl, ⟨nd, rfl⟩⟩; refine ⟨_, rfl, ?_⟩))
  go_ret
  exact ⟨y0_7, bI HB.out⟩
 replace c3 := Bool.eq_false_iff.mpr c3; subst c3
 rw [if_neg (show ¬ (false = true) by decide)] at H
 obtain rfl := Option.some.inj H
 go_enter Tryz.func73, Tryz.ntmps73
 go_wp2_with (first | ((with_reducible refine gate_callee (f := 95) rfl ?_); refine gB (some 4) Tryz.func95 #[.string a0] ?_; (with_reducible refine (impl_NameOk.calls k a0 false _ A2.out).mono ?_); rintro e w10 ⟨rfl, hb⟩; refine ⟨_, rfl, ?_⟩; replace HB := bs HB hb; (try clear hb); (try clear hb2); (try clear hk); (try clear hi)))
 go_ret
 exact ⟨y0_7, bI HB.out⟩

end Go.Proofs.YtemjmefacifdeaaGreatDoor.PFnExactVote
