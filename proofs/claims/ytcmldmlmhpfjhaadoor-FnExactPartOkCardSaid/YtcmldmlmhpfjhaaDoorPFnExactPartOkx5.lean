-- By a program of this session, out of the translation (the print of the kit, with turns of its own). Lean checks it.
import Derived.Test.YtcmldmlmhpfjhaaDoorPFnExactPartOkx0
import Derived.Test.YtcmldmlmhpfjhaaDoorPFnExactPartOkx4
namespace Go.Proofs.YtcmldmlmhpfjhaaDoor.PFnExactPartOk
open Go.RowKit Go.Proofs.YtcmldmlmhpfjhaaDoorW.PrintWords Go.Proofs.YtcmldmlmhpfjhaaDoorW.PrintLast Go.Proofs.YtcmldmlmhpfjhaaDoorW.PrintMore
attribute [local go_sem] max2_int min2_int max_two min_two max_three min_three max_four min_four   -- for this text's walks alone
set_option linter.unusedVariables false
set_option linter.unusedSimpArgs false

/-! ### laws_toPart: function 20 -/
def laws_toPart.f (k : Nat) (a0_0 : Int) (a0_1 : ByteArray) (l0_2 : List Int) : Option (Int × ByteArray × List Int) := (laws_toIntS.f k l0_2).bind fun t226 => (some (a0_0, a0_1, t226))
theorem laws_toPart.mono : ∀ a0 a1 a2 k, LeO (laws_toPart.f k a0 a1 a2) (laws_toPart.f (k + 1) a0 a1 a2) := by
  intro a0 a1 a2 k
  unfold laws_toPart.f
  repeat' first
      | (with_reducible exact laws_toIntS.mono _ _)
      | (with_reducible exact LeO.refl _)
      | (with_reducible exact LeO.none _)
      | (with_reducible refine LeO.ite ?_ ?_)
      | (with_reducible refine LeO.bind ?_ (fun _ => ?_))
      | exact laws_toIntS.mono _ _
      | exact LeO.none _
      | refine LeO.ite ?_ ?_
      | refine LeO.bind ?_ (fun _ => ?_)
set_option maxHeartbeats 8000000 in
set_option maxRecDepth 100000 in
theorem laws_toPart.calls (k : Nat) (a0_0 : Int) (a0_1 : ByteArray) (A0_2 : Option Addr) (c0_2 : Nat) (l0_2 : List Int) (r1 : Int) (r2 : ByteArray) (r3 : List Int) (w : World) (hr0_2 : Kd.C (Kd.int .i64) w A0_2 l0_2.length l0_2) (hc0_2 : l0_2.length ≤ c0_2) (h : laws_toPart.f k a0_0 a0_1 l0_2 = some (r1, r2, r3)) :
    Calls Tryd.prog 20 #[.agg #[.int .i64 a0_0, .string a0_1, .slice A0_2 l0_2.length c0_2]] w fun e w' => ∃ v2_ : Value, e = .returned (.agg #[.int .i64 r1, .string r2, v2_]) ∧ Kd.R (Kd.int .i64) 3 w' w.heap.size (fun _ => True) v2_ r3 ∧ Below w.heap.size w w' := by
  have hu29 := Tryd.underlying29
  have hu34 := Tryd.underlying34
  have HR0_2 := Aside0.mk hr0_2
  have HC0_2 := Aside0.mk hc0_2
  clear hr0_2 hc0_2
  have HB := Aside0.mk (Below.refl w.heap.size w)
  have H : ((laws_toIntS.f k l0_2).bind fun t226 => (some (a0_0, a0_1, t226))) = some (r1, r2, r3) := h
  clear h
  obtain ⟨t226, A20, H⟩ := Option.bind_eq_some_iff.mp H
  try dsimp only at H
  have A2 := Aside0.mk A20
  clear A20
  simp only [Option.some.injEq, Prod.mk.injEq] at H
  obtain ⟨rfl, rfl, rfl⟩ := H
  go_enter Tryd.func20, Tryd.ntmps20
  go_wp2_with (first | ((with_reducible refine gd 1 ?_); refine bA 1 #[.int .i64 a0_0, .string a0_1, .slice A0_2 l0_2.length c0_2] 29 ?_; intro gb223 hg w3 hbox hb; have BK223 := Aside0.mk (hbox); have GW223 := bg hg HB; have GJ223 := gi GW223; have GE223 := GW223; replace HB := bs HB hb; clear hb hbox hg) | ((with_reducible refine gd 2 ?_); refine bA 2 #[.int .i64 0, .string (⟨#[]⟩ : ByteArray), .slice none 0 0] 34 ?_; intro gb224 hg w4 hbox hb; have BK224 := Aside0.mk (hbox); have GW224 := bg hg HB; have GJ224 := gi GW224; have GE224 := GW224; replace HB := bs HB hb; have NB223_224 := b1 BK223 hg; have NI223_224 := ni NB223_224; have NB224_223 := b2 BK223 hg; have NI224_223 := ni NB224_223; replace BK223 := bk BK223 hb; clear hb hbox hg) | ((with_reducible refine gd 3 ?_); refine bA 3 #[.int .i64 0, .string (⟨#[]⟩ : ByteArray), .slice none 0 0] 34 ?_; intro gb225 hg w5 hbox hb; have BK225 := Aside0.mk (hbox); have GW225 := bg hg HB; have GJ225 := gi GW225; have GE225 := GW225; replace HB := bs HB hb; have NB223_225 := b1 BK223 hg; have NI223_225 := ni NB223_225; have NB225_223 := b2 BK223 hg; have NI225_223 := ni NB225_223; replace BK223 := bk BK223 hb; have NB224_225 := b1 BK224 hg; have NI224_225 := ni NB224_225; have NB225_224 := b2 BK224 hg; have NI225_224 := ni NB225_224; replace BK224 := bk BK224 hb; clear hb hbox hg; have hnb6 := NB223_224.out; have hnc6 := NB224_223.out; have hnb7 := NB223_225.out; have hnc7 := NB225_223.out; obtain ⟨hcz8_0, hcz8_1, hcz8_2, hfz8_0, hfz8_1, hfz8_2⟩ := cs3 BK223; have hnb9 := NB225_224.out; have hnc9 := NB224_225.out; obtain ⟨hcz10_0, hcz10_1, hcz10_2, hfz10_0, hfz10_1, hfz10_2⟩ := cs3 BK225) | ((with_reducible refine gate_callee (f := 75) rfl ?_); refine gB (some 12) Tryd.func75 #[.slice A0_2 l0_2.length c0_2] ?_; (with_reducible refine (laws_toIntS.calls k _ _ l0_2 t226 _ ?side1 ?side2 A2.out).mono ?_); (case side1 => exact Kd.C_below HR0_2.out (bI HB.out)); (case side2 => exact HC0_2.out); rintro e w11 ⟨v227, rfl, ho0, hb⟩; refine ⟨_, rfl, ?_⟩; have HO228 := Aside0.mk (Kd.R_lower ho0 (below_size (bI HB.out))); replace BK223 := Aside0.mk (blk_below (g := gb223) (o := .cells #[.int .i64 a0_0, .string a0_1, .slice A0_2 l0_2.length c0_2] 29 (0, 0)) (gI BK223.out) hb); replace BK224 := Aside0.mk (blk_below (g := gb224) (o := .cells #[.int .i64 0, .string (⟨#[]⟩ : ByteArray), .slice none 0 0] 34 (0, 0)) (gI BK224.out) hb); replace BK225 := bp BK225 hb #[.int .i64 a0_0, .string a0_1, .slice none 0 0]; replace HB := bs HB hb; (try clear hb); (try clear ho0); obtain ⟨Ao12, co12, eo12⟩ := Kd.R_slice HO228.out; subst eo12; obtain ⟨hcz13_0, hcz13_1, hcz13_2, hfz13_0, hfz13_1, hfz13_2⟩ := cs3 BK225; obtain ⟨hcz14_0, hcz14_1, hcz14_2, hfz14_0, hfz14_1, hfz14_2⟩ := cs3 BK224))
  refine bodyPost_ret (results_cell_row rfl _ _ gb224 34 #[.int .i64 a0_0, .string a0_1, .slice Ao12 t226.length co12] (0, 0) _ rfl (pI BK224) Tryd.underlying34 rfl (by kernel_rfl)) rfl ?_
  exact ⟨_, y0_4, by (with_reducible repeat (first | apply Kd.R_alloc | apply Kd.R_drewN | apply Kd.R_drew)); exact Kd.R_mono (Kd.R_far (p := ⟨gb224, 2, none⟩) (Kd.R_far (p := ⟨gb224, 1, none⟩) (Kd.R_far (p := ⟨gb224, 0, none⟩) (Kd.R_far (p := ⟨gb225, 2, none⟩) (Kd.R_types (Kd.R_types HO228.out BK225.out (by decide)) BK224.out (by decide)) (fun _ hk => hk.1.2) (.slice Ao12 t226.length co12)) (fun _ hk => hk.2) (.int .i64 a0_0)) (fun _ hk => hk.2) (.string a0_1)) (fun _ hk => hk.2) (.slice Ao12 t226.length co12)) (fun _ hk => trivial), bI HB.out⟩

/-! ### impl_within: function 77 -/
def impl_within.f (a0 : Int) (a1 : Int) (a2 : Int) : Option (Bool) := if a0 ≥ a1 then (some (decide (a0 ≤ a2))) else (some false)
set_option maxHeartbeats 8000000 in
set_option maxRecDepth 100000 in
theorem impl_within.calls (a0 : Int) (a1 : Int) (a2 : Int) (r : Bool) (w : World) (h : impl_within.f a0 a1 a2 = some r) :
    Calls Tryd.prog 77 #[.int .i64 a0, .int .i64 a1, .int .i64 a2] w fun e w' => e = .returned (.bool r) ∧ Drawn0 w w' := by
  have H : (if a0 ≥ a1 then (some (decide (a0 ≤ a2))) else (some false)) = some r := h
  clear h
  by_cases c4 : a0 ≥ a1
  · rw [if_pos c4] at H
    have c4b0 : decide (a1 ≤ a0) = true := decide_eq_true c4
    clear c4
    obtain rfl := Option.some.inj H
    go_enter Tryd.func77, Tryd.ntmps77
    go_wp2
    go_ret
    exact ⟨y0_7, y0_5⟩
  · rw [if_neg c4] at H
    have c4b0 : decide (a1 ≤ a0) = false := decide_eq_false c4
    clear c4
    obtain rfl := Option.some.inj H
    go_enter Tryd.func77, Tryd.ntmps77
    go_wp2
    go_ret
    exact ⟨y0_7, y0_5⟩

/-! ### impl_ConfOk: function 76 -/
def impl_ConfOk.f (a0_0 : Int) (a0_1 : Int) : Option (Bool) := (impl_within.f a0_0 4 7).bind fun t230 => (if t230 = true then ((impl_within.f a0_1 1 6).bind fun t231 => (some t231)) else (some false))
set_option maxHeartbeats 8000000 in
set_option maxRecDepth 100000 in
theorem impl_ConfOk.calls (a0_0 : Int) (a0_1 : Int) (r : Bool) (w : World) (h : impl_ConfOk.f a0_0 a0_1 = some r) :
    Calls Tryd.prog 76 #[.agg #[.int .i64 a0_0, .int .i64 a0_1]] w fun e w' => e = .returned (.bool r) ∧ Below w.heap.size w w' := by
  have hu32 := Tryd.underlying32
  have HB := Aside0.mk (Below.refl w.heap.size w)
  have H : ((impl_within.f a0_0 4 7).bind fun t230 => (if t230 = true then ((impl_within.f a0_1 1 6).bind fun t231 => (some t231)) else (some false))) = some r := h
  clear h
  obtain ⟨t230, A20, H⟩ := Option.bind_eq_some_iff.mp H
  try dsimp only at H
  have A2 := Aside0.mk A20
  clear A20
  by_cases c3 : t230 = true
  · subst c3
    rw [if_pos rfl] at H
    obtain ⟨t231, A40, H⟩ := Option.bind_eq_some_iff.mp H
    try dsimp only at H
    have A4 := Aside0.mk A40
    clear A40
    obtain rfl := Option.some.inj H
    go_enter Tryd.func76, Tryd.ntmps76
    go_wp2_with (first | ((with_reducible refine gd 1 ?_); refine bA 1 #[.int .i64 a0_0, .int .i64 a0_1] 32 ?_; intro gb229 hg w5 hbox hb; have BK229 := Aside0.mk (hbox); have GW229 := bg hg HB; have GJ229 := gi GW229; have GE229 := GW229; replace HB := bs HB hb; clear hb hbox hg; obtain ⟨hcz6_0, hcz6_1, hfz6_0, hfz6_1⟩ := cs2 BK229) | ((with_reducible refine gate_callee (f := 77) rfl ?_); refine gB (some 5) Tryd.func77 #[.int .i64 a0_0, .int .i64 4, .int .i64 7] ?_; (with_reducible refine (impl_within.calls a0_0 4 7 true _ A2.out).mono ?_); rintro e w' ⟨rfl, ⟨nd, rfl⟩⟩; refine ⟨_, rfl, ?_⟩) | (go_at_call 77; (with_reducible refine (impl_within.calls a0_1 1 6 t231 _ A4.out).mono ?_); rintro e w' ⟨rfl, ⟨nd, rfl⟩⟩))
    go_ret
    exact ⟨y0_4, bI HB.out⟩
  · replace c3 := Bool.eq_false_iff.mpr c3
    subst c3
    rw [if_neg (show ¬ (false = true) by decide)] at H
    obtain rfl := Option.some.inj H
    go_enter Tryd.func76, Tryd.ntmps76
    go_wp2_with (first | ((with_reducible refine gd 1 ?_); refine bA 1 #[.int .i64 a0_0, .int .i64 a0_1] 32 ?_; intro gb229 hg w7 hbox hb; have BK229 := Aside0.mk (hbox); have GW229 := bg hg HB; have GJ229 := gi GW229; have GE229 := GW229; replace HB := bs HB hb; clear hb hbox hg; obtain ⟨hcz8_0, hcz8_1, hfz8_0, hfz8_1⟩ := cs2 BK229) | ((with_reducible refine gate_callee (f := 77) rfl ?_); refine gB (some 5) Tryd.func77 #[.int .i64 a0_0, .int .i64 4, .int .i64 7] ?_; (with_reducible refine (impl_within.calls a0_0 4 7 false _ A2.out).mono ?_); rintro e w' ⟨rfl, ⟨nd, rfl⟩⟩; refine ⟨_, rfl, ?_⟩))
    go_ret
    exact ⟨y0_4, bI HB.out⟩

/-! ### strings_Split: function 131 -/

/-! ### impl_Split: function 107 -/
def impl_Split.f (a0 : ByteArray) (a1 : Int) : Option (List ByteArray) := (strings_Split.f a0 (strOfNums (([a1] : List Int)))).bind fun t235 => (some t235)
set_option maxHeartbeats 8000000 in
set_option maxRecDepth 100000 in
theorem impl_Split.calls (a0 : ByteArray) (a1 : Int) (r : List ByteArray) (w : World) (h : impl_Split.f a0 a1 = some r) (hG : Glob w := by exact gG HG HB) :
    Calls Tryd.prog 107 #[.string a0, .int .u8 a1] w fun e w' => ∃ v0_ : Value, e = .returned (v0_) ∧ Kd.R Kd.string 9 w' w.heap.size (fun _ => True) v0_ r ∧ Below w.heap.size w w' := by
  have HG := Aside0.mk hG
  clear hG
  have HB := Aside0.mk (Below.refl w.heap.size w)
  have H : ((strings_Split.f a0 (strOfNums (([a1] : List Int)))).bind fun t235 => (some t235)) = some r := h
  clear h
  obtain ⟨y232, hy232⟩ : ∃ y_ : List Int, y_ = (([a1] : List Int)) := ⟨_, rfl⟩
  replace H : ((strings_Split.f a0 (strOfNums y232)).bind fun t235 => (some t235)) = some r := by first | (rw [hy232]; with_reducible exact H) | (have H2_ := (Option.bind_some _ _).symm.trans H; rw [hy232]; with_reducible exact H2_) | (have H2_ := (Option.bind_some _ _).symm.trans H; with_reducible exact H2_) | with_reducible exact H | (rw [hy232]; exact H) | exact H
  have Ny232 := Aside0.mk hy232
  clear hy232
  obtain ⟨t235, A30, H⟩ := Option.bind_eq_some_iff.mp H
  try dsimp only at H
  have A3 := Aside0.mk A30
  clear A30
  obtain rfl := Option.some.inj H
  go_enter Tryd.func107, Tryd.ntmps107
  go_wp2_with (first | ((with_reducible refine gate_dst (N := 7) rfl ?_); refine Kd.R_lit (Kd.int .u8) _ 5 ?hg (N := 7) ?hd (xs := ([a1] : List Int)) (inner := [.int .u8 a1]) (ok := fun _ => True) (okp := fun _ => True) ?hr ?hp (fun _ hk => hk) trivial (Below.refl _ _) (Nat.le_refl _) (by simp) ?_; (case hd => rfl); (case hg => rfl); (case hr => first | (go_simp; done) | (go_simp; rfl)); (case hp => exact (Reps.one (show Kd.M (Kd.int .u8) _ _ _ a1 [.int .u8 a1] from rfl) (Reps.none _ _))); intro v233 w4 ho5 hb hg_ hnew_; clear hg_ hnew_; (first | rw [← Ny232.out] at ho5 | (simp only [Int.reduceToNat] at ho5; rw [← Ny232.out] at ho5)); have HO234 := Aside0.mk (Kd.R_lower ho5 (below_size (bI HB.out))); replace HB := bs HB hb; clear hb ho5; have hcv6 := own_string (P := Tryd.prog) Tryd.underlying74 Tryd.underlying5 Tryd.underlying9 (Kd.own_of_R HO234.out)) | ((with_reducible refine gate_callee (f := 131) rfl ?_); refine gB (some 9) Tryd.func131 #[.string a0, .string (strOfNums y232)] ?_; (with_reducible refine (strings_Split.calls a0 (strOfNums y232) t235 _ A3.out).mono ?_); rintro e w7 ⟨v236, rfl, ho0, hb⟩; refine ⟨_, rfl, ?_⟩; replace HO234 := rb HO234 hb; have HO237 := Aside0.mk (Kd.R_lower ho0 (below_size (bI HB.out))); replace HB := bs HB hb; (try clear hb); (try clear ho0)))
  go_ret
  exact ⟨_, y0_4, by (with_reducible repeat (first | apply Kd.R_alloc | apply Kd.R_drewN | apply Kd.R_drew)); exact HO237.out, bI HB.out⟩

/-! ### strings_Cut: function 108 -/

/-! ### strconv_Itoa_150: function 150 -/

/-! ### impl_Digits: function 133 -/
def impl_Digits.f (a0 : Int) : Option (ByteArray) := (strconv_Itoa_150.f a0).bind fun t238 => (some t238)
set_option maxHeartbeats 8000000 in
set_option maxRecDepth 100000 in
theorem impl_Digits.calls (a0 : Int) (r : ByteArray) (w : World) (h : impl_Digits.f a0 = some r) (hG : Glob w := by exact gG HG HB) :
    Calls Tryd.prog 133 #[.int .i64 a0] w fun e w' => e = .returned (.string r) ∧ Below w.heap.size w w' := by
  have HG := Aside0.mk hG
  clear hG
  have HB := Aside0.mk (Below.refl w.heap.size w)
  have H : ((strconv_Itoa_150.f a0).bind fun t238 => (some t238)) = some r := h
  clear h
  obtain ⟨t238, A20, H⟩ := Option.bind_eq_some_iff.mp H
  try dsimp only at H
  have A2 := Aside0.mk A20
  clear A20
  obtain rfl := Option.some.inj H
  go_enter Tryd.func133, Tryd.ntmps133
  go_wp2_with (first | ((with_reducible refine gate_callee (f := 150) rfl ?_); refine gB (some 4) Tryd.func150 #[.int .i64 a0] ?_; (with_reducible refine (strconv_Itoa_150.calls a0 t238 _ A2.out).mono ?_); rintro e w3 ⟨rfl, hb⟩; refine ⟨_, rfl, ?_⟩; replace HB := bs HB hb; (try clear hb); (try clear hb2); (try clear hk); (try clear hi)))
  go_ret
  exact ⟨y0_4, bI HB.out⟩

/-! ### impl_Number: function 109 -/
mutual
def impl_Number.j0 : Nat → ByteArray → Bool → Option (Int × Bool)
  | 0, _, _ => none
  | k + 1, x0, x13 => if x13 = true then (some (0, false)) else (impl_Number.l0 k x0 0 0)
def impl_Number.l0 : Nat → ByteArray → Int → Int → Option (Int × Bool)
  | 0, _, _, _ => none
  | k + 1, x0, x4, x5 => if x5 < (x0.size : Int) then (if 0 ≤ x5 then (if (bt x0 x5) < 48 then (some (0, false)) else (if (bt x0 x5) > 57 then (some (0, false)) else (impl_Number.l0 k x0 (wrap64 ((wrap64 (10 * x4)) + (((bt x0 x5) - 48) % 256))) (wrap64 (x5 + 1))))) else (none)) else ((impl_Digits.f x4).bind fun t239 => (if t239.toList = x0.toList then (some (x4, true)) else (some (0, false))))
end
def impl_Number.f (k : Nat) (a0 : ByteArray) : Option (Int × Bool) := if (a0.size : Int) < 1 then (impl_Number.j0 k a0 true) else (impl_Number.j0 k a0 (decide ((a0.size : Int) > 6)))
theorem impl_Number.mono_l : ∀ k, (∀ y0 y1, LeO (impl_Number.j0 k y0 y1) (impl_Number.j0 (k + 1) y0 y1)) ∧ (∀ y0 y1 y2, LeO (impl_Number.l0 k y0 y1 y2) (impl_Number.l0 (k + 1) y0 y1 y2))
  | 0 => ⟨fun _ _ r h => by simp [impl_Number.j0] at h, fun _ _ _ r h => by simp [impl_Number.l0] at h⟩
  | k + 1 => by
    obtain ⟨ih0, ih1⟩ := impl_Number.mono_l k
    refine ⟨?_, ?_⟩
    · intro y0 y1
      unfold impl_Number.j0
      repeat' first
      | (with_reducible exact ih0 _ _)
      | (with_reducible exact ih1 _ _ _)
      | (with_reducible exact LeO.refl _)
      | (with_reducible exact LeO.none _)
      | (with_reducible refine LeO.ite ?_ ?_)
      | (with_reducible refine LeO.bind ?_ (fun _ => ?_))
      | exact ih0 _ _
      | exact ih1 _ _ _
      | exact LeO.none _
      | refine LeO.ite ?_ ?_
      | refine LeO.bind ?_ (fun _ => ?_)
    · intro y0 y1 y2
      unfold impl_Number.l0
      repeat' first
      | (with_reducible exact ih0 _ _)
      | (with_reducible exact ih1 _ _ _)
      | (with_reducible exact LeO.refl _)
      | (with_reducible exact LeO.none _)
      | (with_reducible refine LeO.ite ?_ ?_)
      | (with_reducible refine LeO.bind ?_ (fun _ => ?_))
      | exact ih0 _ _
      | exact ih1 _ _ _
      | exact LeO.none _
      | refine LeO.ite ?_ ?_
      | refine LeO.bind ?_ (fun _ => ?_)
theorem impl_Number.mono : ∀ a0 k, LeO (impl_Number.f k a0) (impl_Number.f (k + 1) a0) := by
  intro a0 k
  obtain ⟨ih0, ih1⟩ := impl_Number.mono_l k
  unfold impl_Number.f
  repeat' first
      | (with_reducible exact ih0 _ _)
      | (with_reducible exact ih1 _ _ _)
      | (with_reducible exact LeO.refl _)
      | (with_reducible exact LeO.none _)
      | (with_reducible refine LeO.ite ?_ ?_)
      | (with_reducible refine LeO.bind ?_ (fun _ => ?_))
      | exact ih0 _ _
      | exact ih1 _ _ _
      | exact LeO.none _
      | refine LeO.ite ?_ ?_
      | refine LeO.bind ?_ (fun _ => ?_)
set_option maxHeartbeats 8000000 in
set_option maxRecDepth 100000 in
theorem impl_Number.calls (k : Nat) (a0 : ByteArray) (r1 : Int) (r2 : Bool) (w : World) (h : impl_Number.f k a0 = some (r1, r2)) (hG : Glob w := by exact gG HG HB) :
    Calls Tryd.prog 109 #[.string a0] w fun e w' => e = .returned (.tuple #[.int .i64 r1, .bool r2]) ∧ Below w.heap.size w w' := by
  have HG := Aside0.mk hG
  clear hG
  have HB := Aside0.mk (Below.refl w.heap.size w)
  have H : (if (a0.size : Int) < 1 then (impl_Number.j0 k a0 true) else (impl_Number.j0 k a0 (decide ((a0.size : Int) > 6)))) = some (r1, r2) := h
  clear h
  have HC2 := Aside0.mk H
  clear H
  go_enter Tryd.func109, Tryd.ntmps109
  go_upto_region 1 with (fail)
  go_cut [13] (fun v13 wc => ∃ (kq : Nat) (x13_1 : Bool), v13 = .bool x13_1 ∧ Aside0 (impl_Number.j0 kq a0 x13_1 = some (r1, r2)) ∧ Aside0 (kq ≤ k) ∧ Aside0 (Below w.heap.size w wc))
  case first =>
    have H := HC2.out
    clear HC2
    by_cases c3 : (a0.size : Int) < 1
    · rw [if_pos c3] at H
      have c3b0 : decide ((a0.size : Int) < 1) = true := decide_eq_true c3
      have c3b1 : decide (a0.size < 1) = true := decide_eq_true (by omega)
      clear c3
      (first | rw [c3b0] | (simp only [i64_w, i32_w]; rw [c3b0]) | skip)
      have H' := Aside0.mk H
      clear H
      go_wp2
      go_meet
      case rel => exact ⟨_, (true), y0_7, H', ⟨y0_8⟩, ⟨bI HB.out⟩⟩
    · rw [if_neg c3] at H
      have c3b0 : decide ((a0.size : Int) < 1) = false := decide_eq_false c3
      have c3b1 : decide (a0.size < 1) = false := decide_eq_false (by omega)
      clear c3
      (first | rw [c3b0] | (simp only [i64_w, i32_w]; rw [c3b0]) | skip)
      have H' := Aside0.mk H
      clear H
      go_wp2
      go_meet
      case rel => exact ⟨_, (decide ((a0.size : Int) > 6)), y0_7, H', ⟨y0_8⟩, ⟨bI HB.out⟩⟩
  case rest =>
    clear HC2
    try clear c1
    try clear p2
    try clear c3
    try clear c3b0
    try clear c3b1
    obtain ⟨kq, x13_1, rfl, HA, HJ1, HB⟩ := hcut
    cases kq with
    | zero => exact absurd HA.out (by simp [impl_Number.j0])
    | succ kj1 =>
      have H := HA.out
      clear HA
      simp only [impl_Number.j0] at H
      by_cases c4 : x13_1 = true
      · subst c4
        rw [if_pos rfl] at H
        simp only [Option.some.injEq, Prod.mk.injEq] at H
        obtain ⟨rfl, rfl⟩ := H
        go_wp2
        go_ret2
        exact ⟨y0_4, bI HB.out⟩
      · replace c4 := Bool.eq_false_iff.mpr c4
        subst c4
        rw [if_neg (show ¬ (false = true) by decide)] at H
        have H' := Aside0.mk H
        clear H
        go_wp2
        go_loopg [4, 5] kj1 (fun kq v4 v5 w' => ∃ (x4_2 : Int) (x5_2 : Int), v4 = .int .i64 x4_2 ∧ v5 = .int .i64 x5_2 ∧ Aside0 (impl_Number.l0 kq a0 x4_2 x5_2 = some (r1, r2)) ∧ Aside0 (kq ≤ kj1) ∧ Aside0 (Below w.heap.size w w'))
        case atStart => exact ⟨(0), (0), y0_7, y0_7, H', ⟨Nat.le_refl _⟩, ⟨bI HB.out⟩⟩
        case round =>
          clear H'
          try clear c1
          try clear p2
          try clear c3
          try clear c3b0
          try clear c3b1
          try clear c4
          try clear p2
          obtain ⟨x4_2, x5_2, rfl, rfl, HA, HK2, HB⟩ := hrel
          cases gk with
          | zero => exact absurd HA.out (by simp [impl_Number.l0])
          | succ k2 =>
            have H := HA.out
            clear HA
            simp only [impl_Number.l0] at H
            by_cases c5 : x5_2 < (a0.size : Int)
            · rw [if_pos c5] at H
              have c5b0 : decide (x5_2 < (a0.size : Int)) = true := decide_eq_true c5
              clear c5
              by_cases c6 : 0 ≤ x5_2
              rotate_left
              · rw [if_neg c6] at H
                exact absurd H (by simp)
              rw [if_pos c6] at H
              have c6b0 : decide (0 ≤ x5_2) = true := decide_eq_true c6
              clear c6
              by_cases c8 : (bt a0 x5_2) < 48
              · rw [if_pos c8] at H
                have c8b0 : decide ((bt a0 x5_2) < 48) = true := decide_eq_true c8
                clear c8
                simp only [Option.some.injEq, Prod.mk.injEq] at H
                obtain ⟨rfl, rfl⟩ := H
                have p7 : 0 ≤ (x5_2 : Int) := of_decide_eq_true y0_6
                have q7 : x5_2 < (a0.size : Int) := of_decide_eq_true y0_6
                have hx7 := bt_at a0 x5_2
                replace p7 := eq_true p7
                replace q7 := eq_true q7
                go_wp2
                go_ret2
                exact ⟨y0_4, bI HB.out⟩
              · rw [if_neg c8] at H
                have c8b0 : decide ((bt a0 x5_2) < 48) = false := decide_eq_false c8
                clear c8
                by_cases c10 : (bt a0 x5_2) > 57
                · rw [if_pos c10] at H
                  have c10b0 : decide (57 < (bt a0 x5_2)) = true := decide_eq_true c10
                  clear c10
                  simp only [Option.some.injEq, Prod.mk.injEq] at H
                  obtain ⟨rfl, rfl⟩ := H
                  have p7 : 0 ≤ (x5_2 : Int) := of_decide_eq_true y0_6
                  have q7 : x5_2 < (a0.size : Int) := of_decide_eq_true y0_6
                  have hx7 := bt_at a0 x5_2
                  replace p7 := eq_true p7
                  replace q7 := eq_true q7
                  have p9 : 0 ≤ (x5_2 : Int) := of_decide_eq_true y0_6
                  have q9 : x5_2 < (a0.size : Int) := of_decide_eq_true y0_6
                  have hx9 := bt_at a0 x5_2
                  replace p9 := eq_true p9
                  replace q9 := eq_true q9
                  go_wp2
                  go_ret2
                  exact ⟨y0_4, bI HB.out⟩
                · rw [if_neg c10] at H
                  have c10b0 : decide (57 < (bt a0 x5_2)) = false := decide_eq_false c10
                  clear c10
                  have H' := Aside0.mk H
                  clear H
                  have p7 : 0 ≤ (x5_2 : Int) := of_decide_eq_true y0_6
                  have q7 : x5_2 < (a0.size : Int) := of_decide_eq_true y0_6
                  have hx7 := bt_at a0 x5_2
                  replace p7 := eq_true p7
                  replace q7 := eq_true q7
                  have p9 : 0 ≤ (x5_2 : Int) := of_decide_eq_true y0_6
                  have q9 : x5_2 < (a0.size : Int) := of_decide_eq_true y0_6
                  have hx9 := bt_at a0 x5_2
                  replace p9 := eq_true p9
                  replace q9 := eq_true q9
                  have p11 : 0 ≤ (x5_2 : Int) := of_decide_eq_true y0_6
                  have q11 : x5_2 < (a0.size : Int) := of_decide_eq_true y0_6
                  have hx11 := bt_at a0 x5_2
                  replace p11 := eq_true p11
                  replace q11 := eq_true q11
                  go_wp2
                  go_roundg k2
                  case measure => have := HJ1.out; have := HK2.out; omega
                  case rel => exact ⟨(wrap64 ((wrap64 (10 * x4_2)) + (((bt a0 x5_2) - 48) % 256))), (wrap64 (x5_2 + 1)), y0_7, y0_7, H', ⟨by have := HJ1.out; have := HK2.out; omega⟩, ⟨bI HB.out⟩⟩
            · rw [if_neg c5] at H
              have c5b0 : decide (x5_2 < (a0.size : Int)) = false := decide_eq_false c5
              clear c5
              obtain ⟨t239, A120, H⟩ := Option.bind_eq_some_iff.mp H
              try dsimp only at H
              have A12 := Aside0.mk A120
              clear A120
              by_cases c13 : t239.toList = a0.toList
              · rw [if_pos c13] at H
                have c13b0 : (t239.toList == a0.toList) = true := beq_iff_eq.mpr c13
                have c13b1 : (t239.toList != a0.toList) = false := bne_eq_false_iff_eq.mpr c13
                clear c13
                simp only [Option.some.injEq, Prod.mk.injEq] at H
                obtain ⟨rfl, rfl⟩ := H
                go_wp2_with (first | ((with_reducible refine gate_callee (f := 133) rfl ?_); refine gB (some 39) Tryd.func133 #[.int .i64 x4_2] ?_; (with_reducible refine (impl_Digits.calls x4_2 t239 _ A12.out).mono ?_); rintro e w14 ⟨rfl, hb⟩; refine ⟨_, rfl, ?_⟩; replace HB := bs HB hb; (try clear hb); (try clear hb2); (try clear hk); (try clear hi)))
                go_ret2
                exact ⟨y0_4, bI HB.out⟩
              · rw [if_neg c13] at H
                have c13b0 : (t239.toList == a0.toList) = false := beq_eq_false_iff_ne.mpr c13
                have c13b1 : (t239.toList != a0.toList) = true := bne_iff_ne.mpr c13
                simp only [Option.some.injEq, Prod.mk.injEq] at H
                obtain ⟨rfl, rfl⟩ := H
                go_wp2_with (first | ((with_reducible refine gate_callee (f := 133) rfl ?_); refine gB (some 39) Tryd.func133 #[.int .i64 x4_2] ?_; (with_reducible refine (impl_Digits.calls x4_2 t239 _ A12.out).mono ?_); rintro e w15 ⟨rfl, hb⟩; refine ⟨_, rfl, ?_⟩; replace HB := bs HB hb; (try clear hb); (try clear hb2); (try clear hk); (try clear hi)))
                go_ret2
                exact ⟨y0_4, bI HB.out⟩

/-! ### impl_TxOk: function 151 -/
def impl_TxOk.f (a0_0 : Int) (a0_1 : Int) (a0_2 : Int) (a0_3 : Int) : Option (Bool) := (impl_within.f a0_0 0 3).bind fun t241 => (if t241 = true then ((impl_within.f a0_1 0 3).bind fun t242 => (if t242 = true then ((impl_within.f a0_2 0 1000).bind fun t243 => (if t243 = true then ((impl_within.f a0_3 0 99).bind fun t244 => (some t244)) else (some false))) else (some false))) else (some false))
set_option maxHeartbeats 8000000 in
set_option maxRecDepth 100000 in
theorem impl_TxOk.calls (a0_0 : Int) (a0_1 : Int) (a0_2 : Int) (a0_3 : Int) (r : Bool) (w : World) (h : impl_TxOk.f a0_0 a0_1 a0_2 a0_3 = some r) :
    Calls Tryd.prog 151 #[.agg #[.int .i64 a0_0, .int .i64 a0_1, .int .i64 a0_2, .int .i64 a0_3]] w fun e w' => e = .returned (.bool r) ∧ Below w.heap.size w w' := by
  have hu150 := Tryd.underlying150
  have HB := Aside0.mk (Below.refl w.heap.size w)
  have H : ((impl_within.f a0_0 0 3).bind fun t241 => (if t241 = true then ((impl_within.f a0_1 0 3).bind fun t242 => (if t242 = true then ((impl_within.f a0_2 0 1000).bind fun t243 => (if t243 = true then ((impl_within.f a0_3 0 99).bind fun t244 => (some t244)) else (some false))) else (some false))) else (some false))) = some r := h
  clear h
  obtain ⟨t241, A20, H⟩ := Option.bind_eq_some_iff.mp H
  try dsimp only at H
  have A2 := Aside0.mk A20
  clear A20
  by_cases c3 : t241 = true
  · subst c3
    rw [if_pos rfl] at H
    obtain ⟨t242, A40, H⟩ := Option.bind_eq_some_iff.mp H
    try dsimp only at H
    have A4 := Aside0.mk A40
    clear A40
    by_cases c5 : t242 = true
    · subst c5
      rw [if_pos rfl] at H
      obtain ⟨t243, A60, H⟩ := Option.bind_eq_some_iff.mp H
      try dsimp only at H
      have A6 := Aside0.mk A60
      clear A60
      by_cases c7 : t243 = true
      · subst c7
        rw [if_pos rfl] at H
        obtain ⟨t244, A80, H⟩ := Option.bind_eq_some_iff.mp H
        try dsimp only at H
        have A8 := Aside0.mk A80
        clear A80
        obtain rfl := Option.some.inj H
        go_enter Tryd.func151, Tryd.ntmps151
        go_wp2_with (first | ((with_reducible refine gd 1 ?_); refine bA 1 #[.int .i64 a0_0, .int .i64 a0_1, .int .i64 a0_2, .int .i64 a0_3] 150 ?_; intro gb240 hg w9 hbox hb; have BK240 := Aside0.mk (hbox); have GW240 := bg hg HB; have GJ240 := gi GW240; have GE240 := GW240; replace HB := bs HB hb; clear hb hbox hg; obtain ⟨hcz10_0, hcz10_1, hcz10_2, hcz10_3, hfz10_0, hfz10_1, hfz10_2, hfz10_3⟩ := cs4 BK240) | ((with_reducible refine gate_callee (f := 77) rfl ?_); refine gB (some 5) Tryd.func77 #[.int .i64 a0_0, .int .i64 0, .int .i64 3] ?_; (with_reducible refine (impl_within.calls a0_0 0 3 true _ A2.out).mono ?_); rintro e w' ⟨rfl, ⟨nd, rfl⟩⟩; refine ⟨_, rfl, ?_⟩) | (go_at_call 77; (with_reducible refine (impl_within.calls a0_1 0 3 true _ A4.out).mono ?_); rintro e w' ⟨rfl, ⟨nd, rfl⟩⟩) | (go_at_call 77; (with_reducible refine (impl_within.calls a0_2 0 1000 true _ A6.out).mono ?_); rintro e w' ⟨rfl, ⟨nd, rfl⟩⟩) | (go_at_call 77; (with_reducible refine (impl_within.calls a0_3 0 99 t244 _ A8.out).mono ?_); rintro e w' ⟨rfl, ⟨nd, rfl⟩⟩))
        go_ret
        exact ⟨y0_4, bI HB.out⟩
      · replace c7 := Bool.eq_false_iff.mpr c7
        subst c7
        rw [if_neg (show ¬ (false = true) by decide)] at H
        obtain rfl := Option.some.inj H
        go_enter Tryd.func151, Tryd.ntmps151
        go_wp2_with (first | ((with_reducible refine gd 1 ?_); refine bA 1 #[.int .i64 a0_0, .int .i64 a0_1, .int .i64 a0_2, .int .i64 a0_3] 150 ?_; intro gb240 hg w11 hbox hb; have BK240 := Aside0.mk (hbox); have GW240 := bg hg HB; have GJ240 := gi GW240; have GE240 := GW240; replace HB := bs HB hb; clear hb hbox hg; obtain ⟨hcz12_0, hcz12_1, hcz12_2, hcz12_3, hfz12_0, hfz12_1, hfz12_2, hfz12_3⟩ := cs4 BK240) | ((with_reducible refine gate_callee (f := 77) rfl ?_); refine gB (some 5) Tryd.func77 #[.int .i64 a0_0, .int .i64 0, .int .i64 3] ?_; (with_reducible refine (impl_within.calls a0_0 0 3 true _ A2.out).mono ?_); rintro e w' ⟨rfl, ⟨nd, rfl⟩⟩; refine ⟨_, rfl, ?_⟩) | (go_at_call 77; (with_reducible refine (impl_within.calls a0_1 0 3 true _ A4.out).mono ?_); rintro e w' ⟨rfl, ⟨nd, rfl⟩⟩) | (go_at_call 77; (with_reducible refine (impl_within.calls a0_2 0 1000 false _ A6.out).mono ?_); rintro e w' ⟨rfl, ⟨nd, rfl⟩⟩))
        go_ret
        exact ⟨y0_4, bI HB.out⟩
    · replace c5 := Bool.eq_false_iff.mpr c5
      subst c5
      rw [if_neg (show ¬ (false = true) by decide)] at H
      obtain rfl := Option.some.inj H
      go_enter Tryd.func151, Tryd.ntmps151
      go_wp2_with (first | ((with_reducible refine gd 1 ?_); refine bA 1 #[.int .i64 a0_0, .int .i64 a0_1, .int .i64 a0_2, .int .i64 a0_3] 150 ?_; intro gb240 hg w13 hbox hb; have BK240 := Aside0.mk (hbox); have GW240 := bg hg HB; have GJ240 := gi GW240; have GE240 := GW240; replace HB := bs HB hb; clear hb hbox hg; obtain ⟨hcz14_0, hcz14_1, hcz14_2, hcz14_3, hfz14_0, hfz14_1, hfz14_2, hfz14_3⟩ := cs4 BK240) | ((with_reducible refine gate_callee (f := 77) rfl ?_); refine gB (some 5) Tryd.func77 #[.int .i64 a0_0, .int .i64 0, .int .i64 3] ?_; (with_reducible refine (impl_within.calls a0_0 0 3 true _ A2.out).mono ?_); rintro e w' ⟨rfl, ⟨nd, rfl⟩⟩; refine ⟨_, rfl, ?_⟩) | (go_at_call 77; (with_reducible refine (impl_within.calls a0_1 0 3 false _ A4.out).mono ?_); rintro e w' ⟨rfl, ⟨nd, rfl⟩⟩))
      go_ret
      exact ⟨y0_4, bI HB.out⟩
  · replace c3 := Bool.eq_false_iff.mpr c3
    subst c3
    rw [if_neg (show ¬ (false = true) by decide)] at H
    obtain rfl := Option.some.inj H
    go_enter Tryd.func151, Tryd.ntmps151
    go_wp2_with (first | ((with_reducible refine gd 1 ?_); refine bA 1 #[.int .i64 a0_0, .int .i64 a0_1, .int .i64 a0_2, .int .i64 a0_3] 150 ?_; intro gb240 hg w15 hbox hb; have BK240 := Aside0.mk (hbox); have GW240 := bg hg HB; have GJ240 := gi GW240; have GE240 := GW240; replace HB := bs HB hb; clear hb hbox hg; obtain ⟨hcz16_0, hcz16_1, hcz16_2, hcz16_3, hfz16_0, hfz16_1, hfz16_2, hfz16_3⟩ := cs4 BK240) | ((with_reducible refine gate_callee (f := 77) rfl ?_); refine gB (some 5) Tryd.func77 #[.int .i64 a0_0, .int .i64 0, .int .i64 3] ?_; (with_reducible refine (impl_within.calls a0_0 0 3 false _ A2.out).mono ?_); rintro e w' ⟨rfl, ⟨nd, rfl⟩⟩; refine ⟨_, rfl, ?_⟩))
    go_ret
    exact ⟨y0_4, bI HB.out⟩

/-! ### impl_TxText: function 152 -/
def impl_TxText.f (a0_0 : Int) (a0_1 : Int) (a0_2 : Int) (a0_3 : Int) : Option (ByteArray) := (impl_TxOk.f a0_0 a0_1 a0_2 a0_3).bind fun t246 => (if t246 = true then ((impl_Digits.f a0_0).bind fun t247 => (if t247.size + 1 ≤ 9223372036854775807 then ((impl_Digits.f a0_1).bind fun t248 => (if (t247 ++ (⟨#[62]⟩ : ByteArray)).size + t248.size ≤ 9223372036854775807 then (if ((t247 ++ (⟨#[62]⟩ : ByteArray)) ++ t248).size + 1 ≤ 9223372036854775807 then ((impl_Digits.f a0_2).bind fun t249 => (if (((t247 ++ (⟨#[62]⟩ : ByteArray)) ++ t248) ++ (⟨#[58]⟩ : ByteArray)).size + t249.size ≤ 9223372036854775807 then (if ((((t247 ++ (⟨#[62]⟩ : ByteArray)) ++ t248) ++ (⟨#[58]⟩ : ByteArray)) ++ t249).size + 1 ≤ 9223372036854775807 then ((impl_Digits.f a0_3).bind fun t250 => (if (((((t247 ++ (⟨#[62]⟩ : ByteArray)) ++ t248) ++ (⟨#[58]⟩ : ByteArray)) ++ t249) ++ (⟨#[35]⟩ : ByteArray)).size + t250.size ≤ 9223372036854775807 then (some ((((((t247 ++ (⟨#[62]⟩ : ByteArray)) ++ t248) ++ (⟨#[58]⟩ : ByteArray)) ++ t249) ++ (⟨#[35]⟩ : ByteArray)) ++ t250)) else (none))) else (none)) else (none))) else (none)) else (none))) else (none))) else (some (⟨#[]⟩ : ByteArray)))
def impl_TxText.T3 : Bool × List (List Nat × List Nat) := (true, [([], []), ([0], [0]), ([1], [1]), ([2], [2]), ([], []), ([4], [4]), ([5, 2], [5]), ([3, 6], [3, 6]), ([7], [7]), ([], []), ([9], [9]), ([10, 6], [10]), ([8, 11], [8, 11]), ([12], [12]), ([], []), ([14], [14]), ([15, 11], [15]), ([13, 16], [13, 16]), ([17, 16, 0, 1, 2, 3, 4, 5, 6, 7, 8, 9, 10, 11, 12, 13, 14, 15, 16, 17], [17])])
def impl_TxText.B3 : List Nat := [0, 1, 3, 7, 0, 16, 55, 127, 255, 0, 512, 1655, 4095, 8191, 0, 16384, 52855, 131071, 262143]
theorem impl_TxText.tab3 : rtab .any (opsOf Tryd.f152 3) = impl_TxText.T3 := by kernel_rfl
theorem impl_TxText.bits3 : waitsOk impl_TxText.T3.2 impl_TxText.B3 = true := by kernel_rfl
set_option maxHeartbeats 8000000 in
set_option maxRecDepth 100000 in
theorem impl_TxText.calls (a0_0 : Int) (a0_1 : Int) (a0_2 : Int) (a0_3 : Int) (r : ByteArray) (w : World) (h : impl_TxText.f a0_0 a0_1 a0_2 a0_3 = some r) (hG : Glob w := by exact gG HG HB) :
    Calls Tryd.prog 152 #[.agg #[.int .i64 a0_0, .int .i64 a0_1, .int .i64 a0_2, .int .i64 a0_3]] w fun e w' => e = .returned (.string r) ∧ Below w.heap.size w w' := by
  have HG := Aside0.mk hG
  clear hG
  have hu150 := Tryd.underlying150
  have HB := Aside0.mk (Below.refl w.heap.size w)
  have H : ((impl_TxOk.f a0_0 a0_1 a0_2 a0_3).bind fun t246 => (if t246 = true then ((impl_Digits.f a0_0).bind fun t247 => (if t247.size + 1 ≤ 9223372036854775807 then ((impl_Digits.f a0_1).bind fun t248 => (if (t247 ++ (⟨#[62]⟩ : ByteArray)).size + t248.size ≤ 9223372036854775807 then (if ((t247 ++ (⟨#[62]⟩ : ByteArray)) ++ t248).size + 1 ≤ 9223372036854775807 then ((impl_Digits.f a0_2).bind fun t249 => (if (((t247 ++ (⟨#[62]⟩ : ByteArray)) ++ t248) ++ (⟨#[58]⟩ : ByteArray)).size + t249.size ≤ 9223372036854775807 then (if ((((t247 ++ (⟨#[62]⟩ : ByteArray)) ++ t248) ++ (⟨#[58]⟩ : ByteArray)) ++ t249).size + 1 ≤ 9223372036854775807 then ((impl_Digits.f a0_3).bind fun t250 => (if (((((t247 ++ (⟨#[62]⟩ : ByteArray)) ++ t248) ++ (⟨#[58]⟩ : ByteArray)) ++ t249) ++ (⟨#[35]⟩ : ByteArray)).size + t250.size ≤ 9223372036854775807 then (some ((((((t247 ++ (⟨#[62]⟩ : ByteArray)) ++ t248) ++ (⟨#[58]⟩ : ByteArray)) ++ t249) ++ (⟨#[35]⟩ : ByteArray)) ++ t250)) else (none))) else (none)) else (none))) else (none)) else (none))) else (none))) else (some (⟨#[]⟩ : ByteArray)))) = some r := h
  clear h
  obtain ⟨t246, A20, H⟩ := Option.bind_eq_some_iff.mp H
  try dsimp only at H
  have A2 := Aside0.mk A20
  clear A20
  by_cases c3 : t246 = true
  · subst c3
    rw [if_pos rfl] at H
    obtain ⟨t247, A40, H⟩ := Option.bind_eq_some_iff.mp H
    try dsimp only at H
    have A4 := Aside0.mk A40
    clear A40
    by_cases c5 : t247.size + 1 ≤ 9223372036854775807
    rotate_left
    · rw [if_neg c5] at H
      exact absurd H (by simp)
    rw [if_pos c5] at H
    have c5b0 := eq_true c5
    have c5b1 : decide (t247.size + 1 ≤ 9223372036854775807) = true := decide_eq_true c5
    try have c5b2 : (9223372036854775807 < t247.size + 1) = False := eq_false (Nat.not_lt.2 c5)
    obtain ⟨t248, A60, H⟩ := Option.bind_eq_some_iff.mp H
    try dsimp only at H
    have A6 := Aside0.mk A60
    clear A60
    by_cases c7 : (t247 ++ (⟨#[62]⟩ : ByteArray)).size + t248.size ≤ 9223372036854775807
    rotate_left
    · rw [if_neg c7] at H
      exact absurd H (by simp)
    rw [if_pos c7] at H
    have c7b0 := eq_true c7
    have c7b1 : decide ((t247 ++ (⟨#[62]⟩ : ByteArray)).size + t248.size ≤ 9223372036854775807) = true := decide_eq_true c7
    try have c7b2 : (9223372036854775807 < (t247 ++ (⟨#[62]⟩ : ByteArray)).size + t248.size) = False := eq_false (Nat.not_lt.2 c7)
    (try have c7b3 : (9223372036854775807 < t247.size + 1 + t248.size) = False := eq_false (by have h_ := c7; simp only [ByteArray.size_append, ByteArray.size_extract, show (⟨#[62]⟩ : ByteArray).size = 1 from rfl] at h_; omega))
    by_cases c8 : ((t247 ++ (⟨#[62]⟩ : ByteArray)) ++ t248).size + 1 ≤ 9223372036854775807
    rotate_left
    · rw [if_neg c8] at H
      exact absurd H (by simp)
    rw [if_pos c8] at H
    have c8b0 := eq_true c8
    have c8b1 : decide (((t247 ++ (⟨#[62]⟩ : ByteArray)) ++ t248).size + 1 ≤ 9223372036854775807) = true := decide_eq_true c8
    try have c8b2 : (9223372036854775807 < ((t247 ++ (⟨#[62]⟩ : ByteArray)) ++ t248).size + 1) = False := eq_false (Nat.not_lt.2 c8)
    (try have c8b3 : (9223372036854775807 < t247.size + 1 + t248.size + 1) = False := eq_false (by have h_ := c8; simp only [ByteArray.size_append, ByteArray.size_extract, show (⟨#[62]⟩ : ByteArray).size = 1 from rfl] at h_; omega))
    obtain ⟨t249, A90, H⟩ := Option.bind_eq_some_iff.mp H
    try dsimp only at H
    have A9 := Aside0.mk A90
    clear A90
    by_cases c10 : (((t247 ++ (⟨#[62]⟩ : ByteArray)) ++ t248) ++ (⟨#[58]⟩ : ByteArray)).size + t249.size ≤ 9223372036854775807
    rotate_left
    · rw [if_neg c10] at H
      exact absurd H (by simp)
    rw [if_pos c10] at H
    have c10b0 := eq_true c10
    have c10b1 : decide ((((t247 ++ (⟨#[62]⟩ : ByteArray)) ++ t248) ++ (⟨#[58]⟩ : ByteArray)).size + t249.size ≤ 9223372036854775807) = true := decide_eq_true c10
    try have c10b2 : (9223372036854775807 < (((t247 ++ (⟨#[62]⟩ : ByteArray)) ++ t248) ++ (⟨#[58]⟩ : ByteArray)).size + t249.size) = False := eq_false (Nat.not_lt.2 c10)
    (try have c10b3 : (9223372036854775807 < t247.size + 1 + t248.size + 1 + t249.size) = False := eq_false (by have h_ := c10; simp only [ByteArray.size_append, ByteArray.size_extract, show (⟨#[58]⟩ : ByteArray).size = 1 from rfl, show (⟨#[62]⟩ : ByteArray).size = 1 from rfl] at h_; omega))
    by_cases c11 : ((((t247 ++ (⟨#[62]⟩ : ByteArray)) ++ t248) ++ (⟨#[58]⟩ : ByteArray)) ++ t249).size + 1 ≤ 9223372036854775807
    rotate_left
    · rw [if_neg c11] at H
      exact absurd H (by simp)
    rw [if_pos c11] at H
    have c11b0 := eq_true c11
    have c11b1 : decide (((((t247 ++ (⟨#[62]⟩ : ByteArray)) ++ t248) ++ (⟨#[58]⟩ : ByteArray)) ++ t249).size + 1 ≤ 9223372036854775807) = true := decide_eq_true c11
    try have c11b2 : (9223372036854775807 < ((((t247 ++ (⟨#[62]⟩ : ByteArray)) ++ t248) ++ (⟨#[58]⟩ : ByteArray)) ++ t249).size + 1) = False := eq_false (Nat.not_lt.2 c11)
    (try have c11b3 : (9223372036854775807 < t247.size + 1 + t248.size + 1 + t249.size + 1) = False := eq_false (by have h_ := c11; simp only [ByteArray.size_append, ByteArray.size_extract, show (⟨#[58]⟩ : ByteArray).size = 1 from rfl, show (⟨#[62]⟩ : ByteArray).size = 1 from rfl] at h_; omega))
    obtain ⟨t250, A120, H⟩ := Option.bind_eq_some_iff.mp H
    try dsimp only at H
    have A12 := Aside0.mk A120
    clear A120
    by_cases c13 : (((((t247 ++ (⟨#[62]⟩ : ByteArray)) ++ t248) ++ (⟨#[58]⟩ : ByteArray)) ++ t249) ++ (⟨#[35]⟩ : ByteArray)).size + t250.size ≤ 9223372036854775807
    rotate_left
    · rw [if_neg c13] at H
      exact absurd H (by simp)
    rw [if_pos c13] at H
    have c13b0 := eq_true c13
    have c13b1 : decide ((((((t247 ++ (⟨#[62]⟩ : ByteArray)) ++ t248) ++ (⟨#[58]⟩ : ByteArray)) ++ t249) ++ (⟨#[35]⟩ : ByteArray)).size + t250.size ≤ 9223372036854775807) = true := decide_eq_true c13
    try have c13b2 : (9223372036854775807 < (((((t247 ++ (⟨#[62]⟩ : ByteArray)) ++ t248) ++ (⟨#[58]⟩ : ByteArray)) ++ t249) ++ (⟨#[35]⟩ : ByteArray)).size + t250.size) = False := eq_false (Nat.not_lt.2 c13)
    (try have c13b3 : (9223372036854775807 < t247.size + 1 + t248.size + 1 + t249.size + 1 + t250.size) = False := eq_false (by have h_ := c13; simp only [ByteArray.size_append, ByteArray.size_extract, show (⟨#[35]⟩ : ByteArray).size = 1 from rfl, show (⟨#[58]⟩ : ByteArray).size = 1 from rfl, show (⟨#[62]⟩ : ByteArray).size = 1 from rfl] at h_; omega))
    obtain rfl := Option.some.inj H
    go_enter Tryd.func152, Tryd.ntmps152
    try go_wp2_with (first | ((with_reducible refine gd 1 ?_); refine bA 1 #[.int .i64 a0_0, .int .i64 a0_1, .int .i64 a0_2, .int .i64 a0_3] 150 ?_; intro gb245 hg w14 hbox hb; have BK245 := Aside0.mk (hbox); have GW245 := bg hg HB; have GJ245 := gi GW245; have GE245 := GW245; replace HB := bs HB hb; clear hb hbox hg; obtain ⟨hcz15_0, hcz15_1, hcz15_2, hcz15_3, hfz15_0, hfz15_1, hfz15_2, hfz15_3⟩ := cs4 BK245) | ((with_reducible refine gate_callee (f := 151) rfl ?_); refine gB (some 4) Tryd.func151 #[.agg #[.int .i64 a0_0, .int .i64 a0_1, .int .i64 a0_2, .int .i64 a0_3]] ?_; (with_reducible refine (impl_TxOk.calls a0_0 a0_1 a0_2 a0_3 true _ A2.out).mono ?_); rintro e w16 ⟨rfl, hb⟩; refine ⟨_, rfl, ?_⟩; replace BK245 := bk BK245 hb; replace HB := bs HB hb; (try clear hb); (try clear hb2); (try clear hk); (try clear hi)))
    replace BK245 := Aside0.mk (blk_drew BK245.out)
    replace HB := Aside0.mk (below_drew1 HB.out)
    refine start_ (n := 19) (S := fun w' => w'.cell? ⟨gb245, 0, none⟩ = some (.int .i64 a0_0) ∧ w'.cell? ⟨gb245, 1, none⟩ = some (.int .i64 a0_1) ∧ w'.cell? ⟨gb245, 2, none⟩ = some (.int .i64 a0_2) ∧ w'.cell? ⟨gb245, 3, none⟩ = some (.int .i64 a0_3)) (ds := []) #[false, false, false, false, false, false, false, false, false, false, false, false, false, false, false, false, false, false, false] (by kernel_rfl) rfl rfl ⟨bc0 BK245.out, bc1 BK245.out, bc2 BK245.out, bc3 BK245.out⟩ (fun hHeld => ?_); refine with_tabW impl_TxText.tab3 impl_TxText.bits3 (fun HT_ HW_ => ?_)
    generalize w16.drew = w17 at BK245 HB hHeld ⊢
    refine pA 0 (some 6) (bz 19 1) HT_ ?_
    refine pA 4 (some 10) (bz 19 17) HT_ ?_
    refine pA 9 (some 15) (bz 19 529) HT_ ?_
    refine pA 14 (some 20) (bz 19 0x4211) HT_ ?_
    refine tA 1 (some 7) (bz 19 0x4213) HT_ HW_ hHeld ?_
    refine tA 5 (some 11) (bz 19 0x4233) HT_ HW_ hHeld ?_
    refine tA 10 (some 16) (bz 19 0x4633) HT_ HW_ hHeld ?_
    refine tA 15 (some 21) (bz 19 0xc633) HT_ HW_ hHeld ?_
    refine oA 2 (some 8) (bz 19 0xc637) HT_ (fun K hK => ?_)
    refine gA Tryd.func133 #[.int .i64 a0_0] ?_
    with_reducible refine (impl_Digits.calls a0_0 t247 _ A4.out).mono ?_
    rintro e w18 ⟨rfl, hb⟩
    refine ⟨_, rfl, ?_⟩
    replace BK245 := bk BK245 hb
    replace HB := bs HB hb
    (try clear hb)
    (try clear hb2)
    (try clear hk)
    (try clear hi)
    refine hK.out _ _ ⟨bc0 BK245.out, bc1 BK245.out, bc2 BK245.out, bc3 BK245.out⟩ (fun hHeld => ?_)
    clear hK K
    refine nA (some 8) ?_
    refine pA 3 (some 9) (bz 19 0xc63f) HT_ ?_
    refine oA 6 (some 12) (bz 19 0xc67f) HT_ (fun K hK => ?_)
    refine gA Tryd.func133 #[.int .i64 a0_1] ?_
    with_reducible refine (impl_Digits.calls a0_1 t248 _ A6.out).mono ?_
    rintro e w19 ⟨rfl, hb⟩
    refine ⟨_, rfl, ?_⟩
    replace BK245 := bk BK245 hb
    replace HB := bs HB hb
    (try clear hb)
    (try clear hb2)
    (try clear hk)
    (try clear hi)
    refine hK.out _ _ ⟨bc0 BK245.out, bc1 BK245.out, bc2 BK245.out, bc3 BK245.out⟩ (fun hHeld => ?_)
    clear hK K
    refine nA (some 12) ?_
    refine pA 7 (some 13) (bz 19 0xc6ff) HT_ ?_
    refine pA 8 (some 14) (bz 19 0xc7ff) HT_ ?_
    refine oA 11 (some 17) (bz 19 0xcfff) HT_ (fun K hK => ?_)
    refine gA Tryd.func133 #[.int .i64 a0_2] ?_
    with_reducible refine (impl_Digits.calls a0_2 t249 _ A9.out).mono ?_
    rintro e w20 ⟨rfl, hb⟩
    refine ⟨_, rfl, ?_⟩
    replace BK245 := bk BK245 hb
    replace HB := bs HB hb
    (try clear hb)
    (try clear hb2)
    (try clear hk)
    (try clear hi)
    refine hK.out _ _ ⟨bc0 BK245.out, bc1 BK245.out, bc2 BK245.out, bc3 BK245.out⟩ (fun hHeld => ?_)
    clear hK K
    refine nA (some 17) ?_
    refine pA 12 (some 18) (bz 19 0xdfff) HT_ ?_
    refine pA 13 (some 19) (bz 19 0xffff) HT_ ?_
    refine oA 16 (some 22) (bz 19 0x1ffff) HT_ (fun K hK => ?_)
    refine gA Tryd.func133 #[.int .i64 a0_3] ?_
    with_reducible refine (impl_Digits.calls a0_3 t250 _ A12.out).mono ?_
    rintro e w21 ⟨rfl, hb⟩
    refine ⟨_, rfl, ?_⟩
    replace BK245 := bk BK245 hb
    replace HB := bs HB hb
    (try clear hb)
    (try clear hb2)
    (try clear hk)
    (try clear hi)
    refine hK.out _ _ ⟨bc0 BK245.out, bc1 BK245.out, bc2 BK245.out, bc3 BK245.out⟩ (fun hHeld => ?_)
    clear hK K
    refine nA (some 22) ?_
    refine pA 17 (some 23) (bz 19 0x3ffff) HT_ ?_
    refine pA 18 (some 2) (bz 19 0x7ffff) HT_ ?_
    refine done_ (done_of HT_.out (by kernel_rfl)) ?_
    try go_wp2
    go_ret
    exact ⟨y0_4, bI HB.out⟩
  · replace c3 := Bool.eq_false_iff.mpr c3
    subst c3
    rw [if_neg (show ¬ (false = true) by decide)] at H
    obtain rfl := Option.some.inj H
    go_enter Tryd.func152, Tryd.ntmps152
    go_wp2_with (first | ((with_reducible refine gd 1 ?_); refine bA 1 #[.int .i64 a0_0, .int .i64 a0_1, .int .i64 a0_2, .int .i64 a0_3] 150 ?_; intro gb245 hg w22 hbox hb; have BK245 := Aside0.mk (hbox); have GW245 := bg hg HB; have GJ245 := gi GW245; have GE245 := GW245; replace HB := bs HB hb; clear hb hbox hg; obtain ⟨hcz23_0, hcz23_1, hcz23_2, hcz23_3, hfz23_0, hfz23_1, hfz23_2, hfz23_3⟩ := cs4 BK245) | ((with_reducible refine gate_callee (f := 151) rfl ?_); refine gB (some 4) Tryd.func151 #[.agg #[.int .i64 a0_0, .int .i64 a0_1, .int .i64 a0_2, .int .i64 a0_3]] ?_; (with_reducible refine (impl_TxOk.calls a0_0 a0_1 a0_2 a0_3 false _ A2.out).mono ?_); rintro e w24 ⟨rfl, hb⟩; refine ⟨_, rfl, ?_⟩; replace BK245 := bk BK245 hb; replace HB := bs HB hb; (try clear hb); (try clear hb2); (try clear hk); (try clear hi)))
    go_ret
    exact ⟨y0_4, bI HB.out⟩

end Go.Proofs.YtcmldmlmhpfjhaaDoor.PFnExactPartOk
