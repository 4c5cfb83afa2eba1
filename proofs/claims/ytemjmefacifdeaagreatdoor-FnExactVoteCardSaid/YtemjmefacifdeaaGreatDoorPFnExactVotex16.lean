-- By a program of this session, out of the translation (the print of the kit, with turns of its own). Lean checks it.
import Derived.Test.YtemjmefacifdeaaGreatDoorPFnExactVotex0
import Derived.Test.YtemjmefacifdeaaGreatDoorPFnExactVotex10
import Derived.Test.YtemjmefacifdeaaGreatDoorPFnExactVotex15
namespace Go.Proofs.YtemjmefacifdeaaGreatDoor.PFnExactVote
open Go.RowKit Go.Proofs.YtemjmefacifdeaaGreatDoorW.PrintWords Go.Proofs.YtemjmefacifdeaaGreatDoorW.PrintLast Go.Proofs.YtemjmefacifdeaaGreatDoorW.PrintMore
attribute [local go_sem] max2_int min2_int max_two min_two max_three min_three max_four min_four   -- for this text's walks alone
set_option linter.unusedVariables false
set_option linter.unusedSimpArgs false

/-! ### impl_copyInts: function 113 -/
def impl_copyInts.f (l0 : List Int) : Option (List Int) := if ([] : List Int).length + l0.length < 17592186044416 then (some (([] : List Int) ++ l0)) else (none)
set_option maxHeartbeats 8000000 in
set_option maxRecDepth 100000 in
theorem impl_copyInts.calls (A0 : Option Addr) (c0 : Nat) (l0 : List Int) (r : List Int) (w : World) (hr0 : Kd.C (Kd.int .i64) w A0 l0.length l0) (hc0 : l0.length ≤ c0) (h : impl_copyInts.f l0 = some r) :
  Calls Tryz.prog 113 #[.slice A0 l0.length c0] w fun e w' => ∃ v0_ : Value, e = .returned (v0_) ∧ Kd.R (Kd.int .i64) 3 w' w.heap.size (fun _ => True) v0_ r ∧ Below w.heap.size w w' := by
 have HR0 := Aside0.mk hr0; have HC0 := Aside0.mk hc0; clear hr0 hc0; have HB := Aside0.mk (Below.refl w.heap.size w); have H : (if ([] : List Int).length + l0.length < 17592186044416 then (some (([] : List Int) ++ l0)) else (none)) = some r := h; clear h
 by_cases c2 : ([] : List Int).length + l0.length < 17592186044416
 ·
  rw [if_pos c2] at H
  have LMc2 := Aside0.mk c2; clear c2; obtain ⟨y413, hy413⟩ : ∃ y_ : List Int, y_ = (([] : List Int) ++ l0) := ⟨_, rfl⟩
  replace H : (some y413) = some r := by first | (rw [hy413]; with_reducible exact H) | (have H2_ := (Option.bind_some _ _).symm.trans H; rw [hy413]; with_reducible exact H2_) | (have H2_ := (Option.bind_some _ _).symm.trans H; with_reducible exact H2_) | with_reducible exact H | (rw [hy413]; exact H) | exact H
  have Ny413 := Aside0.mk hy413; clear hy413; obtain rfl := Option.some.inj H
  go_enter Tryz.func113, Tryz.ntmps113
  go_wp2_with (first | ((with_reducible refine gate_builtin (b := .append) (xs := #[.const (.slice none 0 0), .tmp 3]) rfl ?_); at_builtin; refine Kd.R_append_rows (Kd.int .i64) (w0 := w) w.heap.size rfl (.const (.slice none 0 0)) (.tmp 3) 24 3 (.int .i64 0) 8 rfl Tryz.underlying24 info3 rfl (by decide) (by omega) (.slice none 0 0) ([] : List Int) l0 _ _ _ (fun _ => True) (fun _ => False) rfl rfl ?aO ?aR (fun _ _ h => h) (fun _ h => h.elim) ?aF ?aB ?aS ?aL ?_; (case aR => exact cI HR0.out); (case aB => exact (bI HB.out)); (case aF => exact (fun _ _ => trivial)); (case aO => exact ((Kd.R_nil _ _ _ _ (fun _ => True)))); (case aS => exact (below_size (bI HB.out))); (case aL => have := LMc2.out; omega); intro v414 w3 ho hb hg hat; rw [← Ny413.out] at ho; replace HB := Aside0.mk (hb); have HO415 := Aside0.mk (ho); clear ho hb hg hat))
  go_ret
  exact ⟨_, y0_7, by (with_reducible repeat (first | apply Kd.R_alloc | apply Kd.R_drewN | apply Kd.R_drew)); exact HO415.out, bI HB.out⟩
 rw [if_neg c2] at H
 exact absurd H (by simp)

/-! ### impl_copyQc: function 83 -/
def impl_copyQc.f (a0_0 : Int) (a0_1 : ByteArray) (l0_2 : List Int) : Option (Int × ByteArray × List Int) := (impl_copyInts.f l0_2).bind fun t418 => (some (a0_0, a0_1, t418))
set_option maxHeartbeats 8000000 in
set_option maxRecDepth 100000 in
theorem impl_copyQc.calls (a0_0 : Int) (a0_1 : ByteArray) (A0_2 : Option Addr) (c0_2 : Nat) (l0_2 : List Int) (r1 : Int) (r2 : ByteArray) (r3 : List Int) (w : World) (hr0_2 : Kd.C (Kd.int .i64) w A0_2 l0_2.length l0_2) (hc0_2 : l0_2.length ≤ c0_2) (h : impl_copyQc.f a0_0 a0_1 l0_2 = some (r1, r2, r3)) :
  Calls Tryz.prog 83 #[.agg #[.int .i64 a0_0, .string a0_1, .slice A0_2 l0_2.length c0_2]] w fun e w' => ∃ v2_ : Value, e = .returned (.agg #[.int .i64 r1, .string r2, v2_]) ∧ Kd.R (Kd.int .i64) 3 w' w.heap.size (fun _ => True) v2_ r3 ∧ Below w.heap.size w w' := by
 have hu33 := Tryz.underlying33; have HR0_2 := Aside0.mk hr0_2; have HC0_2 := Aside0.mk hc0_2; clear hr0_2 hc0_2; have HB := Aside0.mk (Below.refl w.heap.size w)
 have H : ((impl_copyInts.f l0_2).bind fun t418 => (some (a0_0, a0_1, t418))) = some (r1, r2, r3) := h
 clear h; obtain ⟨t418, A20, H⟩ := Option.bind_eq_some_iff.mp H
 try dsimp only at H
 have A2 := Aside0.mk A20; clear A20
 simp only [Option.some.injEq, Prod.mk.injEq] at H
 obtain ⟨rfl, rfl, rfl⟩ := H
 go_enter Tryz.func83, Tryz.ntmps83
 go_wp2_with (first | ((with_reducible refine gd 1 ?_); refine bA 1 #[.int .i64 a0_0, .string a0_1, .slice A0_2 l0_2.length c0_2] 33 ?_; intro gb416 hg w3 hbox hb; have BK416 := Aside0.mk (hbox); have GW416 := bg hg HB; have GJ416 := gi GW416; have GE416 := GW416; replace HB := bs HB hb; clear hb hbox hg) | ((with_reducible refine gd 2 ?_); refine bA 2 #[.int .i64 0, .string (⟨#[]⟩ : ByteArray), .slice none 0 0] 33 ?_; intro gb417 hg w4 hbox hb; have BK417 := Aside0.mk (hbox); have GW417 := bg hg HB; have GJ417 := gi GW417; have GE417 := GW417; replace HB := bs HB hb; have NB416_417 := b1 BK416 hg; have NI416_417 := ni NB416_417; have NB417_416 := b2 BK416 hg; have NI417_416 := ni NB417_416; replace BK416 := bk BK416 hb; clear hb hbox hg; have hnb5 := NB416_417.out; have hnc5 := NB417_416.out; obtain ⟨hcz6_0, hcz6_1, hcz6_2, hfz6_0, hfz6_1, hfz6_2⟩ := cs3 BK416) | ((with_reducible refine gate_callee (f := 113) rfl ?_); refine gB (some 5) Tryz.func113 #[.slice A0_2 l0_2.length c0_2] ?_; (with_reducible refine (impl_copyInts.calls _ _ l0_2 t418 _ ?side1 ?side2 A2.out).mono ?_); (case side1 => exact ch HR0_2 HB); (case side2 => exact HC0_2.out); rintro e w7 ⟨v419, rfl, ho0, hb⟩; refine ⟨_, rfl, ?_⟩; have HO420 := Aside0.mk (Kd.R_lower ho0 (below_size (bI HB.out))); replace BK416 := bk BK416 hb; replace BK417 := bk BK417 hb; replace HB := bs HB hb; (try clear hb); (try clear ho0); obtain ⟨Ao8, co8, eo8⟩ := Kd.R_slice HO420.out; subst eo8; obtain ⟨hcz9_0, hcz9_1, hcz9_2, hfz9_0, hfz9_1, hfz9_2⟩ := cs3 BK416; obtain ⟨hcz10_0, hcz10_1, hcz10_2, hfz10_0, hfz10_1, hfz10_2⟩ := cs3 BK417))
 refine bodyPost_ret (results_cell_row rfl _ _ gb417 33 #[.int .i64 a0_0, .string a0_1, .slice Ao8 t418.length co8] (0, 0) _ rfl (pI BK417) Tryz.underlying33 rfl (by kernel_rfl)) rfl ?_
 exact ⟨_, y0_7, by (with_reducible repeat (first | apply Kd.R_alloc | apply Kd.R_drewN | apply Kd.R_drew)); exact Kd.R_mono (Kd.R_far (p := ⟨gb417, 2, none⟩) (Kd.R_far (p := ⟨gb417, 1, none⟩) (Kd.R_far (p := ⟨gb417, 0, none⟩) (Kd.R_far (p := ⟨gb416, 2, none⟩) (Kd.R_types (Kd.R_types HO420.out BK416.out (by decide)) BK417.out (by decide)) (fun _ hk => hk.1.2) (.slice Ao8 t418.length co8)) (fun _ hk => hk.2) (.int .i64 a0_0)) (fun _ hk => hk.2) (.string a0_1)) (fun _ hk => hk.2) (.slice Ao8 t418.length co8)) (fun _ hk => trivial), bI HB.out⟩

/-! ### impl_copySafe: function 63 -/
def impl_copySafe.f (a0_0 : Int) (a0_1 : Int) (a0_2 : Int) (a0_3 : ByteArray) (l0_4 : List Int) (a0_5 : ByteArray) : Option (Int × Int × Int × ByteArray × List Int × ByteArray) := (impl_copyQc.f a0_2 a0_3 l0_4).bind fun bt423 => (some (a0_0, a0_1, bt423.1, bt423.2.1, bt423.2.2, a0_5))
set_option maxHeartbeats 8000000 in
set_option maxRecDepth 100000 in
theorem impl_copySafe.calls (a0_0 : Int) (a0_1 : Int) (a0_2 : Int) (a0_3 : ByteArray) (A0_4 : Option Addr) (c0_4 : Nat) (l0_4 : List Int) (a0_5 : ByteArray) (r1 : Int) (r2 : Int) (r3 : Int) (r4 : ByteArray) (r5 : List Int) (r6 : ByteArray) (w : World) (hr0_4 : Kd.C (Kd.int .i64) w A0_4 l0_4.length l0_4) (hc0_4 : l0_4.length ≤ c0_4) (h : impl_copySafe.f a0_0 a0_1 a0_2 a0_3 l0_4 a0_5 = some (r1, r2, r3, r4, r5, r6)) :
  Calls Tryz.prog 63 #[.agg #[.int .i64 a0_0, .int .i64 a0_1, .int .i64 a0_2, .string a0_3, .slice A0_4 l0_4.length c0_4, .string a0_5]] w fun e w' => ∃ v4_ : Value, e = .returned (.agg #[.int .i64 r1, .int .i64 r2, .int .i64 r3, .string r4, v4_, .string r6]) ∧ Kd.R (Kd.int .i64) 3 w' w.heap.size (fun _ => True) v4_ r5 ∧ Below w.heap.size w w' := by
 have hu35 := Tryz.underlying35; have hu33 := Tryz.underlying33; have HR0_4 := Aside0.mk hr0_4; have HC0_4 := Aside0.mk hc0_4; clear hr0_4 hc0_4; have HB := Aside0.mk (Below.refl w.heap.size w)
 have H : ((impl_copyQc.f a0_2 a0_3 l0_4).bind fun bt423 => (some (a0_0, a0_1, bt423.1, bt423.2.1, bt423.2.2, a0_5))) = some (r1, r2, r3, r4, r5, r6) := h
 clear h; obtain ⟨⟨t423, t424, t425⟩, A20, H⟩ := Option.bind_eq_some_iff.mp H
 try dsimp only at H
 have A2 := Aside0.mk A20; clear A20
 simp only [Option.some.injEq, Prod.mk.injEq] at H
 obtain ⟨rfl, rfl, rfl, rfl, rfl, rfl⟩ := H
 go_enter Tryz.func63, Tryz.ntmps63
 go_wp2_with (first | ((with_reducible refine gd 1 ?_); refine bA 1 #[.int .i64 a0_0, .int .i64 a0_1, .int .i64 a0_2, .string a0_3, .slice A0_4 l0_4.length c0_4, .string a0_5] 35 ?_; intro gb421 hg w3 hbox hb; have BK421 := Aside0.mk (hbox); have GW421 := bg hg HB; have GJ421 := gi GW421; have GE421 := GW421; replace HB := bs HB hb; clear hb hbox hg) | ((with_reducible refine gd 2 ?_); refine bA 2 #[.int .i64 0, .int .i64 0, .int .i64 0, .string (⟨#[]⟩ : ByteArray), .slice none 0 0, .string (⟨#[]⟩ : ByteArray)] 35 ?_; intro gb422 hg w4 hbox hb; have BK422 := Aside0.mk (hbox); have GW422 := bg hg HB; have GJ422 := gi GW422; have GE422 := GW422; replace HB := bs HB hb; have NB421_422 := b1 BK421 hg; have NI421_422 := ni NB421_422; have NB422_421 := b2 BK421 hg; have NI422_421 := ni NB422_421; replace BK421 := bk BK421 hb; clear hb hbox hg; have hnb5 := NB421_422.out; have hnc5 := NB422_421.out; have hcz6_0 := bc0 BK421.out; have hcz6_1 := bc1 BK421.out; have hcz6_2 := bc2 BK421.out; have hcz6_3 := bc3 BK421.out; have hcz6_4 := bc4 BK421.out; have hcz6_5 := bc5 BK421.out; have hfz6_0 := blk_frozen BK421.out 0; have hfz6_1 := blk_frozen BK421.out 1; have hfz6_2 := blk_frozen BK421.out 2; have hfz6_3 := blk_frozen BK421.out 3; have hfz6_4 := blk_frozen BK421.out 4; have hfz6_5 := blk_frozen BK421.out 5) | ((with_reducible refine gate_callee (f := 83) rfl ?_); refine gB (some 5) Tryz.func83 #[.agg #[.int .i64 a0_2, .string a0_3, .slice A0_4 l0_4.length c0_4]] ?_; (with_reducible refine (impl_copyQc.calls a0_2 a0_3 _ _ l0_4 t423 t424 t425 _ ?side1 ?side2 A2.out).mono ?_); (case side1 => exact ch HR0_4 HB); (case side2 => exact HC0_4.out); rintro e w7 ⟨v426, rfl, ho0, hb⟩; refine ⟨_, rfl, ?_⟩; have HO427 := Aside0.mk (Kd.R_lower ho0 (below_size (bI HB.out))); replace BK421 := bk BK421 hb; replace BK422 := bk BK422 hb; replace HB := bs HB hb; (try clear hb); (try clear ho0); have hcz8_0 := bc0 BK421.out; have hcz8_1 := bc1 BK421.out; have hcz8_2 := bc2 BK421.out; have hcz8_3 := bc3 BK421.out; have hcz8_4 := bc4 BK421.out; have hcz8_5 := bc5 BK421.out; have hfz8_0 := blk_frozen BK421.out 0; have hfz8_1 := blk_frozen BK421.out 1; have hfz8_2 := blk_frozen BK421.out 2; have hfz8_3 := blk_frozen BK421.out 3; have hfz8_4 := blk_frozen BK421.out 4; have hfz8_5 := blk_frozen BK421.out 5; obtain ⟨Ao9, co9, eo9⟩ := Kd.R_slice HO427.out; subst eo9; have hcz10_0 := bc0 BK422.out; have hcz10_1 := bc1 BK422.out; have hcz10_2 := bc2 BK422.out; have hcz10_3 := bc3 BK422.out; have hcz10_4 := bc4 BK422.out; have hcz10_5 := bc5 BK422.out; have hfz10_0 := blk_frozen BK422.out 0; have hfz10_1 := blk_frozen BK422.out 1; have hfz10_2 := blk_frozen BK422.out 2; have hfz10_3 := blk_frozen BK422.out 3; have hfz10_4 := blk_frozen BK422.out 4; have hfz10_5 := blk_frozen BK422.out 5))
 refine bodyPost_ret (results_cell_row rfl _ _ gb422 35 #[.int .i64 a0_0, .int .i64 a0_1, .int .i64 t423, .string t424, .slice Ao9 t425.length co9, .string a0_5] (0, 0) _ rfl (pI BK422) Tryz.underlying35 rfl (by kernel_rfl)) rfl ?_
 exact ⟨_, y0_7, by (with_reducible repeat (first | apply Kd.R_alloc | apply Kd.R_drewN | apply Kd.R_drew)); exact Kd.R_mono (Kd.R_far (p := ⟨gb422, 5, none⟩) (Kd.R_far (p := ⟨gb422, 4, none⟩) (Kd.R_far (p := ⟨gb422, 3, none⟩) (Kd.R_far (p := ⟨gb422, 2, none⟩) (Kd.R_far (p := ⟨gb422, 1, none⟩) (Kd.R_far (p := ⟨gb422, 0, none⟩) (Kd.R_far (p := ⟨gb421, 4, none⟩) (Kd.R_far (p := ⟨gb421, 3, none⟩) (Kd.R_far (p := ⟨gb421, 2, none⟩) (Kd.R_types (Kd.R_types HO427.out BK421.out (by decide)) BK422.out (by decide)) (fun _ hk => hk.1.2) (.int .i64 t423)) (fun _ hk => hk.1.2) (.string t424)) (fun _ hk => hk.1.2) (.slice Ao9 t425.length co9)) (fun _ hk => hk.2) (.int .i64 a0_0)) (fun _ hk => hk.2) (.int .i64 a0_1)) (fun _ hk => hk.2) (.int .i64 t423)) (fun _ hk => hk.2) (.string t424)) (fun _ hk => hk.2) (.slice Ao9 t425.length co9)) (fun _ hk => hk.2) (.string a0_5)) (fun _ hk => trivial), bI HB.out⟩

/-! ### impl_Vote: function 17 -/
def impl_Vote.f (k : Nat) (a0_0 : Int) (a0_1 : Int) (a1_0 : Int) (a1_1 : Int) (a1_2 : Int) (a1_3 : ByteArray) (l1_4 : List Int) (a1_5 : ByteArray) (a2_0 : ByteArray) (a2_1 : Int) (a2_2 : ByteArray) (l2_3 : List Int) : Option (Int × Int × Int × ByteArray × List Int × ByteArray × Bool) := (impl_copySafe.f a1_0 a1_1 a1_2 a1_3 l1_4 a1_5).bind fun bt432 => ((impl_MayVote.f k a0_0 a0_1 a1_0 a1_1 a1_2 a1_3 l1_4 a1_5 a2_0 a2_1 a2_2 l2_3).bind fun t441 => (if t441 = true then ((impl_ViewOf.f k a2_0).bind fun t442 => (some (t442, bt432.2.1, bt432.2.2.1, bt432.2.2.2.1, bt432.2.2.2.2.1, bt432.2.2.2.2.2, true))) else (some (bt432.1, bt432.2.1, bt432.2.2.1, bt432.2.2.2.1, bt432.2.2.2.2.1, bt432.2.2.2.2.2, false))))
theorem impl_Vote.mono : ∀ a0 a1 a2 a3 a4 a5 a6 a7 a8 a9 a10 a11 k, LeO (impl_Vote.f k a0 a1 a2 a3 a4 a5 a6 a7 a8 a9 a10 a11) (impl_Vote.f (k + 1) a0 a1 a2 a3 a4 a5 a6 a7 a8 a9 a10 a11) := by
 intro a0 a1 a2 a3 a4 a5 a6 a7 a8 a9 a10 a11 k
 unfold impl_Vote.f
 repeat' first | (with_reducible exact impl_MayVote.mono _ _ _ _ _ _ _ _ _ _ _ _ _) | (with_reducible exact impl_ViewOf.mono _ _) | (with_reducible exact LeO.refl _) | (with_reducible exact LeO.none _) | (with_reducible refine LeO.ite ?_ ?_) | (with_reducible refine LeO.bind ?_ (fun _ => ?_))
set_option maxHeartbeats 8000000 in
set_option maxRecDepth 100000 in
theorem impl_Vote.calls (k : Nat) (a0_0 : Int) (a0_1 : Int) (a1_0 : Int) (a1_1 : Int) (a1_2 : Int) (a1_3 : ByteArray) (A1_4 : Option Addr) (c1_4 : Nat) (l1_4 : List Int) (a1_5 : ByteArray) (a2_0 : ByteArray) (a2_1 : Int) (a2_2 : ByteArray) (A2_3 : Option Addr) (c2_3 : Nat) (l2_3 : List Int) (r1 : Int) (r2 : Int) (r3 : Int) (r4 : ByteArray) (r5 : List Int) (r6 : ByteArray) (r7 : Bool) (w : World) (hr1_4 : Kd.C (Kd.int .i64) w A1_4 l1_4.length l1_4) (hc1_4 : l1_4.length ≤ c1_4) (hr2_3 : Kd.C (Kd.int .i64) w A2_3 l2_3.length l2_3) (hc2_3 : l2_3.length ≤ c2_3) (h : impl_Vote.f k a0_0 a0_1 a1_0 a1_1 a1_2 a1_3 l1_4 a1_5 a2_0 a2_1 a2_2 l2_3 = some (r1, r2, r3, r4, r5, r6, r7)) (hG : Glob w := by exact gG HG HB) :
  Calls Tryz.prog 17 #[.agg #[.int .i64 a0_0, .int .i64 a0_1], .agg #[.int .i64 a1_0, .int .i64 a1_1, .int .i64 a1_2, .string a1_3, .slice A1_4 l1_4.length c1_4, .string a1_5], .agg #[.string a2_0, .int .i64 a2_1, .string a2_2, .slice A2_3 l2_3.length c2_3]] w fun e w' => ∃ v4_ : Value, e = .returned (.tuple #[.agg #[.int .i64 r1, .int .i64 r2, .int .i64 r3, .string r4, v4_, .string r6], .bool r7]) ∧ Kd.R (Kd.int .i64) 3 w' w.heap.size (fun _ => True) v4_ r5 ∧ Below w.heap.size w w' := by
 have HG := Aside0.mk hG; clear hG; have hu38 := Tryz.underlying38; have hu35 := Tryz.underlying35; have hu42 := Tryz.underlying42; have HR1_4 := Aside0.mk hr1_4; have HC1_4 := Aside0.mk hc1_4; clear hr1_4 hc1_4; have HR2_3 := Aside0.mk hr2_3; have HC2_3 := Aside0.mk hc2_3; clear hr2_3 hc2_3; have HB := Aside0.mk (Below.refl w.heap.size w)
 have H : ((impl_copySafe.f a1_0 a1_1 a1_2 a1_3 l1_4 a1_5).bind fun bt432 => ((impl_MayVote.f k a0_0 a0_1 a1_0 a1_1 a1_2 a1_3 l1_4 a1_5 a2_0 a2_1 a2_2 l2_3).bind fun t441 => (if t441 = true then ((impl_ViewOf.f k a2_0).bind fun t442 => (some (t442, bt432.2.1, bt432.2.2.1, bt432.2.2.2.1, bt432.2.2.2.2.1, bt432.2.2.2.2.2, true))) else (some (bt432.1, bt432.2.1, bt432.2.2.1, bt432.2.2.2.1, bt432.2.2.2.2.1, bt432.2.2.2.2.2, false))))) = some (r1, r2, r3, r4, r5, r6, r7) := h
 clear h; obtain ⟨⟨t432, t433, t434, t435, t436, t439⟩, A40, H⟩ := Option.bind_eq_some_iff.mp H
 try dsimp only at H
 have A4 := Aside0.mk A40; clear A40; obtain ⟨t441, A50, H⟩ := Option.bind_eq_some_iff.mp H
 try dsimp only at H
 have A5 := Aside0.mk A50; clear A50
 by_cases c6 : t441 = true
 ·
  subst c6
  rw [if_pos rfl] at H
  obtain ⟨t442, A70, H⟩ := Option.bind_eq_some_iff.mp H
  try dsimp only at H
  have A7 := Aside0.mk A70; clear A70
  simp only [Option.some.injEq, Prod.mk.injEq] at H
  obtain ⟨rfl, rfl, rfl, rfl, rfl, rfl, rfl⟩ := H
  go_enter Tryz.func17, Tryz.ntmps17
  go_wp2_with (first | ((with_reducible refine gd 3 ?_); refine bA 3 #[.int .i64 a0_0, .int .i64 a0_1] 38 ?_; intro gb428 hg w8 hbox hb; have BK428 := Aside0.mk (hbox); have GW428 := bg hg HB; have GJ428 := gi GW428; have GE428 := GW428; replace HB := bs HB hb; clear hb hbox hg) | ((with_reducible refine gd 4 ?_); refine bA 4 #[.int .i64 a1_0, .int .i64 a1_1, .int .i64 a1_2, .string a1_3, .slice A1_4 l1_4.length c1_4, .string a1_5] 35 ?_; intro gb429 hg w9 hbox hb; have BK429 := Aside0.mk (hbox); have GW429 := bg hg HB; have GJ429 := gi GW429; have GE429 := GW429; replace HB := bs HB hb; have NB428_429 := b1 BK428 hg; have NI428_429 := ni NB428_429; have NB429_428 := b2 BK428 hg; have NI429_428 := ni NB429_428; replace BK428 := bk BK428 hb; clear hb hbox hg) | ((with_reducible refine gd 5 ?_); refine bA 5 #[.string a2_0, .int .i64 a2_1, .string a2_2, .slice A2_3 l2_3.length c2_3] 42 ?_; intro gb430 hg w10 hbox hb; have BK430 := Aside0.mk (hbox); have GW430 := bg hg HB; have GJ430 := gi GW430; have GE430 := GW430; replace HB := bs HB hb; have NB428_430 := b1 BK428 hg; have NI428_430 := ni NB428_430; have NB430_428 := b2 BK428 hg; have NI430_428 := ni NB430_428; replace BK428 := bk BK428 hb; have NB429_430 := b1 BK429 hg; have NI429_430 := ni NB429_430; have NB430_429 := b2 BK429 hg; have NI430_429 := ni NB430_429; replace BK429 := bk BK429 hb; clear hb hbox hg) | ((with_reducible refine gd 6 ?_); refine bA 6 #[.int .i64 0, .int .i64 0, .int .i64 0, .string (⟨#[]⟩ : ByteArray), .slice none 0 0, .string (⟨#[]⟩ : ByteArray)] 35 ?_; intro gb431 hg w11 hbox hb; have BK431 := Aside0.mk (hbox); have GW431 := bg hg HB; have GJ431 := gi GW431; have GE431 := GW431; replace HB := bs HB hb; have NB428_431 := b1 BK428 hg; have NI428_431 := ni NB428_431; have NB431_428 := b2 BK428 hg; have NI431_428 := ni NB431_428; replace BK428 := bk BK428 hb; have NB429_431 := b1 BK429 hg; have NI429_431 := ni NB429_431; have NB431_429 := b2 BK429 hg; have NI431_429 := ni NB431_429; replace BK429 := bk BK429 hb; have NB430_431 := b1 BK430 hg; have NI430_431 := ni NB430_431; have NB431_430 := b2 BK430 hg; have NI431_430 := ni NB431_430; replace BK430 := bk BK430 hb; clear hb hbox hg; have hnb12 := NB429_428.out; have hnc12 := NB428_429.out; have hnb13 := NB429_430.out; have hnc13 := NB430_429.out; have hnb14 := NB429_431.out; have hnc14 := NB431_429.out; have hcz15_0 := bc0 BK429.out; have hcz15_1 := bc1 BK429.out; have hcz15_2 := bc2 BK429.out; have hcz15_3 := bc3 BK429.out; have hcz15_4 := bc4 BK429.out; have hcz15_5 := bc5 BK429.out; have hfz15_0 := blk_frozen BK429.out 0; have hfz15_1 := blk_frozen BK429.out 1; have hfz15_2 := blk_frozen BK429.out 2; have hfz15_3 := blk_frozen BK429.out 3; have hfz15_4 := blk_frozen BK429.out 4; have hfz15_5 := blk_frozen BK429.out 5) | ((with_reducible refine gate_callee (f := 63) rfl ?_); refine gB (some 10) Tryz.func63 #[.agg #[.int .i64 a1_0, .int .i64 a1_1, .int .i64 a1_2, .string a1_3, .slice A1_4 l1_4.length c1_4, .string a1_5]] ?_; (with_reducible refine (impl_copySafe.calls a1_0 a1_1 a1_2 a1_3 _ _ l1_4 a1_5 t432 t433 t434 t435 t436 t439 _ ?side1 ?side2 A4.out).mono ?_); (case side1 => exact ch HR1_4 HB); (case side2 => exact HC1_4.out); rintro e w16 ⟨v437, rfl, ho0, hb⟩; refine ⟨_, rfl, ?_⟩; have HO438 := Aside0.mk (Kd.R_lower ho0 (below_size (bI HB.out))); replace BK428 := bk BK428 hb; replace BK429 := bk BK429 hb; replace BK430 := bk BK430 hb; replace BK431 := bk BK431 hb; replace HB := bs HB hb; (try clear hb); (try clear ho0)) | ((with_reducible refine gd 8 ?_); refine bA 8 #[.int .i64 0, .int .i64 0, .int .i64 0, .string (⟨#[]⟩ : ByteArray), .slice none 0 0, .string (⟨#[]⟩ : ByteArray)] 35 ?_; intro gb440 hg w17 hbox hb; replace HO438 := rb HO438 hb; have BK440 := Aside0.mk (hbox); have GW440 := bg hg HB; have GJ440 := gi GW440; have GE440 := GW440; replace HB := bs HB hb; have NB428_440 := b1 BK428 hg; have NI428_440 := ni NB428_440; have NB440_428 := b2 BK428 hg; have NI440_428 := ni NB440_428; replace BK428 := bk BK428 hb; have NB429_440 := b1 BK429 hg; have NI429_440 := ni NB429_440; have NB440_429 := b2 BK429 hg; have NI440_429 := ni NB440_429; replace BK429 := bk BK429 hb; have NB430_440 := b1 BK430 hg; have NI430_440 := ni NB430_440; have NB440_430 := b2 BK430 hg; have NI440_430 := ni NB440_430; replace BK430 := bk BK430 hb; have NB431_440 := b1 BK431 hg; have NI431_440 := ni NB431_440; have NB440_431 := b2 BK431 hg; have NI440_431 := ni NB440_431; replace BK431 := bk BK431 hb; clear hb hbox hg; have hnb18 := NB440_428.out; have hnc18 := NB428_440.out; have hnb19 := NB440_429.out; have hnc19 := NB429_440.out; have hnb20 := NB440_430.out; have hnc20 := NB430_440.out; have hnb21 := NB440_431.out; have hnc21 := NB431_440.out; have hcz22_0 := bc0 BK440.out; have hcz22_1 := bc1 BK440.out; have hcz22_2 := bc2 BK440.out; have hcz22_3 := bc3 BK440.out; have hcz22_4 := bc4 BK440.out; have hcz22_5 := bc5 BK440.out; have hfz22_0 := blk_frozen BK440.out 0; have hfz22_1 := blk_frozen BK440.out 1; have hfz22_2 := blk_frozen BK440.out 2; have hfz22_3 := blk_frozen BK440.out 3; have hfz22_4 := blk_frozen BK440.out 4; have hfz22_5 := blk_frozen BK440.out 5; obtain ⟨Ao23, co23, eo23⟩ := Kd.R_slice HO438.out; subst eo23; have hnb24 := NB428_430.out; have hnc24 := NB430_428.out; have hnb25 := NB428_431.out; have hnc25 := NB431_428.out; obtain ⟨hcz26_0, hcz26_1, hfz26_0, hfz26_1⟩ := cs2 BK428; have hcz27_0 := bc0 BK429.out; have hcz27_1 := bc1 BK429.out; have hcz27_2 := bc2 BK429.out; have hcz27_3 := bc3 BK429.out; have hcz27_4 := bc4 BK429.out; have hcz27_5 := bc5 BK429.out; have hfz27_0 := blk_frozen BK429.out 0; have hfz27_1 := blk_frozen BK429.out 1; have hfz27_2 := blk_frozen BK429.out 2; have hfz27_3 := blk_frozen BK429.out 3; have hfz27_4 := blk_frozen BK429.out 4; have hfz27_5 := blk_frozen BK429.out 5; have hnb28 := NB430_431.out; have hnc28 := NB431_430.out; obtain ⟨hcz29_0, hcz29_1, hcz29_2, hcz29_3, hfz29_0, hfz29_1, hfz29_2, hfz29_3⟩ := cs4 BK430) | ((with_reducible refine gate_callee (f := 42) rfl ?_); refine gB (some 14) Tryz.func42 #[.agg #[.int .i64 a0_0, .int .i64 a0_1], .agg #[.int .i64 a1_0, .int .i64 a1_1, .int .i64 a1_2, .string a1_3, .slice A1_4 l1_4.length c1_4, .string a1_5], .agg #[.string a2_0, .int .i64 a2_1, .string a2_2, .slice A2_3 l2_3.length c2_3]] ?_; (with_reducible refine (impl_MayVote.calls k a0_0 a0_1 a1_0 a1_1 a1_2 a1_3 _ _ l1_4 a1_5 a2_0 a2_1 a2_2 _ _ l2_3 true _ ?side1 ?side2 ?side3 ?side4 A5.out).mono ?_); (case side1 => exact Kd.C_below HR1_4.out (bI HB.out)); (case side2 => exact HC1_4.out); (case side3 => exact Kd.C_below HR2_3.out (bI HB.out)); (case side4 => exact HC2_3.out); rintro e w30 ⟨rfl, hb⟩; refine ⟨_, rfl, ?_⟩; replace HO438 := Aside0.mk (Kd.R_below (rI (Kd.R_mono (Kd.R_far (p := ⟨gb440, 5, none⟩) (Kd.R_far (p := ⟨gb440, 4, none⟩) (Kd.R_far (p := ⟨gb440, 3, none⟩) (Kd.R_far (p := ⟨gb440, 2, none⟩) (Kd.R_far (p := ⟨gb440, 1, none⟩) (Kd.R_far (p := ⟨gb440, 0, none⟩) (Kd.R_types HO438.out BK440.out (by decide)) (fun _ hk => hk.2) (.int .i64 t432)) (fun _ hk => hk.2) (.int .i64 t433)) (fun _ hk => hk.2) (.int .i64 t434)) (fun _ hk => hk.2) (.string t435)) (fun _ hk => hk.2) (.slice Ao23 t436.length co23)) (fun _ hk => hk.2) (.string t439)) (fun _ h_ => h_.1))) hb); replace BK428 := Aside0.mk (blk_below (g := gb428) (o := .cells #[.int .i64 a0_0, .int .i64 a0_1] 38 (0, 0)) (gI BK428.out) hb); replace BK429 := Aside0.mk (blk_below (g := gb429) (o := .cells #[.int .i64 a1_0, .int .i64 a1_1, .int .i64 a1_2, .string a1_3, .slice A1_4 l1_4.length c1_4, .string a1_5] 35 (0, 0)) (gI BK429.out) hb); replace BK430 := Aside0.mk (blk_below (g := gb430) (o := .cells #[.string a2_0, .int .i64 a2_1, .string a2_2, .slice A2_3 l2_3.length c2_3] 42 (0, 0)) (gI BK430.out) hb); replace BK431 := Aside0.mk (blk_below (g := gb431) (o := .cells #[.int .i64 0, .int .i64 0, .int .i64 0, .string (⟨#[]⟩ : ByteArray), .slice none 0 0, .string (⟨#[]⟩ : ByteArray)] 35 (0, 0)) (gI BK431.out) hb); replace BK440 := bp BK440 hb #[.int .i64 t432, .int .i64 t433, .int .i64 t434, .string t435, .slice Ao23 t436.length co23, .string t439]; replace HB := bs HB hb; (try clear hb); (try clear hb2); (try clear hk); (try clear hi); obtain ⟨hcz31_0, hcz31_1, hcz31_2, hcz31_3, hfz31_0, hfz31_1, hfz31_2, hfz31_3⟩ := cs4 BK430) | ((with_reducible refine gate_callee (f := 44) rfl ?_); refine gB (some 19) Tryz.func44 #[.string a2_0] ?_; (with_reducible refine (impl_ViewOf.calls k a2_0 t442 _ A7.out).mono ?_); rintro e w32 ⟨rfl, hb⟩; refine ⟨_, rfl, ?_⟩; replace HO438 := rb HO438 hb; replace BK428 := bk BK428 hb; replace BK429 := bk BK429 hb; replace BK430 := bk BK430 hb; replace BK431 := bk BK431 hb; replace BK440 := bk BK440 hb; replace HB := bs HB hb; (try clear hb); (try clear hb2); (try clear hk); (try clear hi); have hcz33_0 := bc0 BK440.out; have hcz33_1 := bc1 BK440.out; have hcz33_2 := bc2 BK440.out; have hcz33_3 := bc3 BK440.out; have hcz33_4 := bc4 BK440.out; have hcz33_5 := bc5 BK440.out; have hfz33_0 := blk_frozen BK440.out 0; have hfz33_1 := blk_frozen BK440.out 1; have hfz33_2 := blk_frozen BK440.out 2; have hfz33_3 := blk_frozen BK440.out 3; have hfz33_4 := blk_frozen BK440.out 4; have hfz33_5 := blk_frozen BK440.out 5; have hcz34_0 := bc0 BK431.out; have hcz34_1 := bc1 BK431.out; have hcz34_2 := bc2 BK431.out; have hcz34_3 := bc3 BK431.out; have hcz34_4 := bc4 BK431.out; have hcz34_5 := bc5 BK431.out; have hfz34_0 := blk_frozen BK431.out 0; have hfz34_1 := blk_frozen BK431.out 1; have hfz34_2 := blk_frozen BK431.out 2; have hfz34_3 := blk_frozen BK431.out 3; have hfz34_4 := blk_frozen BK431.out 4; have hfz34_5 := blk_frozen BK431.out 5))
  refine bodyPost_ret (results_ct rfl _ _ gb431 35 #[.int .i64 t442, .int .i64 t433, .int .i64 t434, .string t435, .slice Ao23 t436.length co23, .string t439] (0, 0) _ rfl (pI BK431) Tryz.underlying35 rfl (by kernel_rfl)) rfl ?_
  exact ⟨_, y0_7, by (with_reducible repeat (first | apply Kd.R_alloc | apply Kd.R_drewN | apply Kd.R_drew)); exact Kd.R_mono (Kd.R_far (p := ⟨gb431, 5, none⟩) (Kd.R_far (p := ⟨gb431, 4, none⟩) (Kd.R_far (p := ⟨gb431, 3, none⟩) (Kd.R_far (p := ⟨gb431, 2, none⟩) (Kd.R_far (p := ⟨gb431, 1, none⟩) (Kd.R_far (p := ⟨gb431, 0, none⟩) (Kd.R_far (p := ⟨gb440, 0, none⟩) (Kd.R_types (Kd.R_types HO438.out BK440.out (by decide)) BK431.out (by decide)) (fun _ hk => hk.1.2) (.int .i64 t442)) (fun _ hk => hk.2) (.int .i64 t442)) (fun _ hk => hk.2) (.int .i64 t433)) (fun _ hk => hk.2) (.int .i64 t434)) (fun _ hk => hk.2) (.string t435)) (fun _ hk => hk.2) (.slice Ao23 t436.length co23)) (fun _ hk => hk.2) (.string t439)) (fun _ hk => trivial), bI HB.out⟩
 replace c6 := Bool.eq_false_iff.mpr c6; subst c6
 rw [if_neg (show ¬ (false = true) by decide)] at H
 simp only [Option.some.injEq, Prod.mk.injEq] at H
 obtain ⟨rfl, rfl, rfl, rfl, rfl, rfl, rfl⟩ := H
 go_enter Tryz.func17, Tryz.ntmps17
 go_wp2_with (first | ((with_reducible refine gd 3 ?_); refine bA 3 #[.int .i64 a0_0, .int .i64 a0_1] 38 ?_; intro gb428 hg w35 hbox hb; have BK428 := Aside0.mk (hbox); have GW428 := bg hg HB; have GJ428 := gi GW428; have GE428 := GW428; replace HB := bs HB hb; clear hb hbox hg) | ((with_reducible refine gd 4 ?_); refine bA 4 #[.int .i64 a1_0, .int .i64 a1_1, .int .i64 a1_2, .string a1_3, .slice A1_4 l1_4.length c1_4, .string a1_5] 35 ?_; intro gb429 hg w36 hbox hb; have BK429 := Aside0.mk (hbox); have GW429 := bg hg HB; have GJ429 := gi GW429; have GE429 := GW429; replace HB := bs HB hb; have NB428_429 := b1 BK428 hg; have NI428_429 := ni NB428_429; have NB429_428 := b2 BK428 hg; have NI429_428 := ni NB429_428; replace BK428 := bk BK428 hb; clear hb hbox hg) | ((with_reducible refine gd 5 ?_); refine bA 5 #[.string a2_0, .int .i64 a2_1, .string a2_2, .slice A2_3 l2_3.length c2_3] 42 ?_; intro gb430 hg w37 hbox hb; have BK430 := Aside0.mk (hbox); have GW430 := bg hg HB; have GJ430 := gi GW430; have GE430 := GW430; replace HB := bs HB hb; have NB428_430 := b1 BK428 hg; have NI428_430 := ni NB428_430; have NB430_428 := b2 BK428 hg; have NI430_428 := ni NB430_428; replace BK428 := bk BK428 hb; have NB429_430 := b1 BK429 hg; have NI429_430 := ni NB429_430; have NB430_429 := b2 BK429 hg; have NI430_429 := ni NB430_429; replace BK429 := bk BK429 hb; clear hb hbox hg) | ((with_reducible refine gd 6 ?_); refine bA 6 #[.int .i64 0, .int .i64 0, .int .i64 0, .string (⟨#[]⟩ : ByteArray), .slice none 0 0, .string (⟨#[]⟩ : ByteArray)] 35 ?_; intro gb431 hg w38 hbox hb; have BK431 := Aside0.mk (hbox); have GW431 := bg hg HB; have GJ431 := gi GW431; have GE431 := GW431; replace HB := bs HB hb; have NB428_431 := b1 BK428 hg; have NI428_431 := ni NB428_431; have NB431_428 := b2 BK428 hg; have NI431_428 := ni NB431_428; replace BK428 := bk BK428 hb; have NB429_431 := b1 BK429 hg; have NI429_431 := ni NB429_431; have NB431_429 := b2 BK429 hg; have NI431_429 := ni NB431_429; replace BK429 := bk BK429 hb; have NB430_431 := b1 BK430 hg; have NI430_431 := ni NB430_431; have NB431_430 := b2 BK430 hg; have NI431_430 := ni NB431_430; replace BK430 := bk BK430 hb; clear hb hbox hg; have hnb39 := NB429_428.out; have hnc39 := NB428_429.out; have hnb40 := NB429_430.out; have hnc40 := NB430_429.out; have hnb41 := NB429_431.out; have hnc41 := NB431_429.out; have hcz42_0 := bc0 BK429.out; have hcz42_1 := bc1 BK429.out; have hcz42_2 := bc2 BK429.out; have hcz42_3 := bc3 BK429.out; have hcz42_4 := bc4 BK429.out; have hcz42_5 := bc5 BK429.out; have hfz42_0 := blk_frozen BK429.out 0; have hfz42_1 := blk_frozen BK429.out 1; have hfz42_2 := blk_frozen BK429.out 2; have hfz42_3 := blk_frozen BK429.out 3; have hfz42_4 := blk_frozen BK429.out 4; have hfz42_5 := blk_frozen BK429.out 5) | ((with_reducible refine gate_callee (f := 63) rfl ?_); refine gB (some 10) Tryz.func63 #[.agg #[.int .i64 a1_0, .int .i64 a1_1, .int .i64 a1_2, .string a1_3, .slice A1_4 l1_4.length c1_4, .string a1_5]] ?_; (with_reducible refine (impl_copySafe.calls a1_0 a1_1 a1_2 a1_3 _ _ l1_4 a1_5 t432 t433 t434 t435 t436 t439 _ ?side1 ?side2 A4.out).mono ?_); (case side1 => exact ch HR1_4 HB); (case side2 => exact HC1_4.out); rintro e w43 ⟨v437, rfl, ho0, hb⟩; refine ⟨_, rfl, ?_⟩; have HO438 := Aside0.mk (Kd.R_lower ho0 (below_size (bI HB.out))); replace BK428 := bk BK428 hb; replace BK429 := bk BK429 hb; replace BK430 := bk BK430 hb; replace BK431 := bk BK431 hb; replace HB := bs HB hb; (try clear hb); (try clear ho0)) | ((with_reducible refine gd 8 ?_); refine bA 8 #[.int .i64 0, .int .i64 0, .int .i64 0, .string (⟨#[]⟩ : ByteArray), .slice none 0 0, .string (⟨#[]⟩ : ByteArray)] 35 ?_; intro gb440 hg w44 hbox hb; replace HO438 := rb HO438 hb; have BK440 := Aside0.mk (hbox); have GW440 := bg hg HB; have GJ440 := gi GW440; have GE440 := GW440; replace HB := bs HB hb; have NB428_440 := b1 BK428 hg; have NI428_440 := ni NB428_440; have NB440_428 := b2 BK428 hg; have NI440_428 := ni NB440_428; replace BK428 := bk BK428 hb; have NB429_440 := b1 BK429 hg; have NI429_440 := ni NB429_440; have NB440_429 := b2 BK429 hg; have NI440_429 := ni NB440_429; replace BK429 := bk BK429 hb; have NB430_440 := b1 BK430 hg; have NI430_440 := ni NB430_440; have NB440_430 := b2 BK430 hg; have NI440_430 := ni NB440_430; replace BK430 := bk BK430 hb; have NB431_440 := b1 BK431 hg; have NI431_440 := ni NB431_440; have NB440_431 := b2 BK431 hg; have NI440_431 := ni NB440_431; replace BK431 := bk BK431 hb; clear hb hbox hg; have hnb45 := NB440_428.out; have hnc45 := NB428_440.out; have hnb46 := NB440_429.out; have hnc46 := NB429_440.out; have hnb47 := NB440_430.out; have hnc47 := NB430_440.out; have hnb48 := NB440_431.out; have hnc48 := NB431_440.out; have hcz49_0 := bc0 BK440.out; have hcz49_1 := bc1 BK440.out; have hcz49_2 := bc2 BK440.out; have hcz49_3 := bc3 BK440.out; have hcz49_4 := bc4 BK440.out; have hcz49_5 := bc5 BK440.out; have hfz49_0 := blk_frozen BK440.out 0; have hfz49_1 := blk_frozen BK440.out 1; have hfz49_2 := blk_frozen BK440.out 2; have hfz49_3 := blk_frozen BK440.out 3; have hfz49_4 := blk_frozen BK440.out 4; have hfz49_5 := blk_frozen BK440.out 5; obtain ⟨Ao50, co50, eo50⟩ := Kd.R_slice HO438.out; subst eo50; have hnb51 := NB428_430.out; have hnc51 := NB430_428.out; have hnb52 := NB428_431.out; have hnc52 := NB431_428.out; obtain ⟨hcz53_0, hcz53_1, hfz53_0, hfz53_1⟩ := cs2 BK428; have hcz54_0 := bc0 BK429.out; have hcz54_1 := bc1 BK429.out; have hcz54_2 := bc2 BK429.out; have hcz54_3 := bc3 BK429.out; have hcz54_4 := bc4 BK429.out; have hcz54_5 := bc5 BK429.out; have hfz54_0 := blk_frozen BK429.out 0; have hfz54_1 := blk_frozen BK429.out 1; have hfz54_2 := blk_frozen BK429.out 2; have hfz54_3 := blk_frozen BK429.out 3; have hfz54_4 := blk_frozen BK429.out 4; have hfz54_5 := blk_frozen BK429.out 5; have hnb55 := NB430_431.out; have hnc55 := NB431_430.out; obtain ⟨hcz56_0, hcz56_1, hcz56_2, hcz56_3, hfz56_0, hfz56_1, hfz56_2, hfz56_3⟩ := cs4 BK430) | ((with_reducible refine gate_callee (f := 42) rfl ?_); refine gB (some 14) Tryz.func42 #[.agg #[.int .i64 a0_0, .int .i64 a0_1], .agg #[.int .i64 a1_0, .int .i64 a1_1, .int .i64 a1_2, .string a1_3, .slice A1_4 l1_4.length c1_4, .string a1_5], .agg #[.string a2_0, .int .i64 a2_1, .string a2_2, .slice A2_3 l2_3.length c2_3]] ?_; (with_reducible refine (impl_MayVote.calls k a0_0 a0_1 a1_0 a1_1 a1_2 a1_3 _ _ l1_4 a1_5 a2_0 a2_1 a2_2 _ _ l2_3 false _ ?side1 ?side2 ?side3 ?side4 A5.out).mono ?_); (case side1 => exact Kd.C_below HR1_4.out (bI HB.out)); (case side2 => exact HC1_4.out); (case side3 => exact Kd.C_below HR2_3.out (bI HB.out)); (case side4 => exact HC2_3.out); rintro e w57 ⟨rfl, hb⟩; refine ⟨_, rfl, ?_⟩; replace HO438 := Aside0.mk (Kd.R_below (rI (Kd.R_mono (Kd.R_far (p := ⟨gb440, 5, none⟩) (Kd.R_far (p := ⟨gb440, 4, none⟩) (Kd.R_far (p := ⟨gb440, 3, none⟩) (Kd.R_far (p := ⟨gb440, 2, none⟩) (Kd.R_far (p := ⟨gb440, 1, none⟩) (Kd.R_far (p := ⟨gb440, 0, none⟩) (Kd.R_types HO438.out BK440.out (by decide)) (fun _ hk => hk.2) (.int .i64 t432)) (fun _ hk => hk.2) (.int .i64 t433)) (fun _ hk => hk.2) (.int .i64 t434)) (fun _ hk => hk.2) (.string t435)) (fun _ hk => hk.2) (.slice Ao50 t436.length co50)) (fun _ hk => hk.2) (.string t439)) (fun _ h_ => h_.1))) hb); replace BK428 := Aside0.mk (blk_below (g := gb428) (o := .cells #[.int .i64 a0_0, .int .i64 a0_1] 38 (0, 0)) (gI BK428.out) hb); replace BK429 := Aside0.mk (blk_below (g := gb429) (o := .cells #[.int .i64 a1_0, .int .i64 a1_1, .int .i64 a1_2, .string a1_3, .slice A1_4 l1_4.length c1_4, .string a1_5] 35 (0, 0)) (gI BK429.out) hb); replace BK430 := Aside0.mk (blk_below (g := gb430) (o := .cells #[.string a2_0, .int .i64 a2_1, .string a2_2, .slice A2_3 l2_3.length c2_3] 42 (0, 0)) (gI BK430.out) hb); replace BK431 := Aside0.mk (blk_below (g := gb431) (o := .cells #[.int .i64 0, .int .i64 0, .int .i64 0, .string (⟨#[]⟩ : ByteArray), .slice none 0 0, .string (⟨#[]⟩ : ByteArray)] 35 (0, 0)) (gI BK431.out) hb); replace BK440 := bp BK440 hb #[.int .i64 t432, .int .i64 t433, .int .i64 t434, .string t435, .slice Ao50 t436.length co50, .string t439]; replace HB := bs HB hb; (try clear hb); (try clear hb2); (try clear hk); (try clear hi); have hcz58_0 := bc0 BK440.out; have hcz58_1 := bc1 BK440.out; have hcz58_2 := bc2 BK440.out; have hcz58_3 := bc3 BK440.out; have hcz58_4 := bc4 BK440.out; have hcz58_5 := bc5 BK440.out; have hfz58_0 := blk_frozen BK440.out 0; have hfz58_1 := blk_frozen BK440.out 1; have hfz58_2 := blk_frozen BK440.out 2; have hfz58_3 := blk_frozen BK440.out 3; have hfz58_4 := blk_frozen BK440.out 4; have hfz58_5 := blk_frozen BK440.out 5; have hcz59_0 := bc0 BK431.out; have hcz59_1 := bc1 BK431.out; have hcz59_2 := bc2 BK431.out; have hcz59_3 := bc3 BK431.out; have hcz59_4 := bc4 BK431.out; have hcz59_5 := bc5 BK431.out; have hfz59_0 := blk_frozen BK431.out 0; have hfz59_1 := blk_frozen BK431.out 1; have hfz59_2 := blk_frozen BK431.out 2; have hfz59_3 := blk_frozen BK431.out 3; have hfz59_4 := blk_frozen BK431.out 4; have hfz59_5 := blk_frozen BK431.out 5))
 refine bodyPost_ret (results_ct rfl _ _ gb431 35 #[.int .i64 t432, .int .i64 t433, .int .i64 t434, .string t435, .slice Ao50 t436.length co50, .string t439] (0, 0) _ rfl (pI BK431) Tryz.underlying35 rfl (by kernel_rfl)) rfl ?_
 exact ⟨_, y0_7, by (with_reducible repeat (first | apply Kd.R_alloc | apply Kd.R_drewN | apply Kd.R_drew)); exact Kd.R_mono (Kd.R_far (p := ⟨gb431, 5, none⟩) (Kd.R_far (p := ⟨gb431, 4, none⟩) (Kd.R_far (p := ⟨gb431, 3, none⟩) (Kd.R_far (p := ⟨gb431, 2, none⟩) (Kd.R_far (p := ⟨gb431, 1, none⟩) (Kd.R_far (p := ⟨gb431, 0, none⟩) (Kd.R_types HO438.out BK431.out (by decide)) (fun _ hk => hk.2) (.int .i64 t432)) (fun _ hk => hk.2) (.int .i64 t433)) (fun _ hk => hk.2) (.int .i64 t434)) (fun _ hk => hk.2) (.string t435)) (fun _ hk => hk.2) (.slice Ao50 t436.length co50)) (fun _ hk => hk.2) (.string t439)) (fun _ hk => trivial), bI HB.out⟩

/-! ### laws_eqIntS: function 76 -/
def laws_eqIntS.l0 : Nat → List Int → List Int → Int → Option (Bool)
 | 0, _, _, _ => none
 | k + 1, x0, x1, x5 => if x5 < (x0.length : Int) then (if 0 ≤ x5 then (if x5 < (x1.length : Int) then (if (rd x0 x5) = (rd x1 x5) then (laws_eqIntS.l0 k x0 x1 (wrap64 (x5 + 1))) else (some false)) else (none)) else (none)) else (some true)
def laws_eqIntS.f (k : Nat) (l0 : List Int) (l1 : List Int) : Option (Bool) := if (l0.length : Int) = (l1.length : Int) then (laws_eqIntS.l0 k l0 l1 0) else (some false)
theorem laws_eqIntS.mono_l : ∀ k, (∀ y0 y1 y2, LeO (laws_eqIntS.l0 k y0 y1 y2) (laws_eqIntS.l0 (k + 1) y0 y1 y2))
 | 0 => fun _ _ _ r h => by simp [laws_eqIntS.l0] at h
 | k + 1 => by
  have ih0 := laws_eqIntS.mono_l k
  intro y0 y1 y2
  unfold laws_eqIntS.l0
  repeat' first | (with_reducible exact ih0 _ _ _) | (with_reducible exact LeO.refl _) | (with_reducible exact LeO.none _) | (with_reducible refine LeO.ite ?_ ?_) | (with_reducible refine LeO.bind ?_ (fun _ => ?_))
theorem laws_eqIntS.mono : ∀ a0 a1 k, LeO (laws_eqIntS.f k a0 a1) (laws_eqIntS.f (k + 1) a0 a1) := by
 intro a0 a1 k
 have ih0 := laws_eqIntS.mono_l k
 unfold laws_eqIntS.f
 repeat' first | (with_reducible exact ih0 _ _ _) | (with_reducible exact LeO.refl _) | (with_reducible exact LeO.none _) | (with_reducible refine LeO.ite ?_ ?_) | (with_reducible refine LeO.bind ?_ (fun _ => ?_))
set_option maxHeartbeats 8000000 in
set_option maxRecDepth 100000 in
theorem laws_eqIntS.calls (k : Nat) (A0 : Option Addr) (c0 : Nat) (l0 : List Int) (A1 : Option Addr) (c1 : Nat) (l1 : List Int) (r : Bool) (w : World) (hr0 : Kd.C (Kd.int .i64) w A0 l0.length l0) (hc0 : l0.length ≤ c0) (hr1 : Kd.C (Kd.int .i64) w A1 l1.length l1) (hc1 : l1.length ≤ c1) (h : laws_eqIntS.f k l0 l1 = some r) :
  Calls Tryz.prog 76 #[.slice A0 l0.length c0, .slice A1 l1.length c1] w fun e w' => e = .returned (.bool r) ∧ Drawn0 w w' := by
 have HR0 := Aside0.mk hr0; have HC0 := Aside0.mk hc0; clear hr0 hc0; have HR1 := Aside0.mk hr1; have HC1 := Aside0.mk hc1; clear hr1 hc1; have H : (if (l0.length : Int) = (l1.length : Int) then (laws_eqIntS.l0 k l0 l1 0) else (some false)) = some r := h; clear h
 by_cases c3 : (l0.length : Int) = (l1.length : Int)
 ·
  rw [if_pos c3] at H
  have c3b0 : ((l0.length : Int) == (l1.length : Int)) = true := beq_iff_eq.mpr c3; have c3b1 : ((l0.length : Int) != (l1.length : Int)) = false := bne_eq_false_iff_eq.mpr c3
  have c3b2 : (l0.length == l1.length) = true := by first | simpa using c3 | (simp at c3 ⊢; omega)
  clear c3; have H' := Aside0.mk H; clear H
  go_enter Tryz.func76, Tryz.ntmps76
  go_wp2
  repeat (go_quiet (fail); try go_wp2)
  go_loopg [5] k (fun kq v5 w' => ∃ (x5_1 : Int), v5 = .int .i64 x5_1 ∧ Aside0 (laws_eqIntS.l0 kq l0 l1 x5_1 = some r) ∧ Aside0 (kq ≤ k) ∧ Drawn0 w w')
  case atStart => exact ⟨(0), y0_10, H', ⟨Nat.le_refl _⟩, y0_8⟩
  case round =>
   clear H'
   try clear c1
   try clear p2
   try clear c3
   try clear c3b0
   try clear c3b1
   try clear c3b2
   obtain ⟨x5_1, rfl, HA, HK1, ⟨m1, rfl⟩⟩ := hrel; cases gk with
   | zero => exact absurd HA.out (by simp [laws_eqIntS.l0])
   | succ k1 =>
    have H := HA.out; clear HA
    simp only [laws_eqIntS.l0] at H
    by_cases c4 : x5_1 < (l0.length : Int)
    ·
     rw [if_pos c4] at H
     have c4b0 : decide (x5_1 < (l0.length : Int)) = true := decide_eq_true c4; clear c4
     by_cases c5 : 0 ≤ x5_1
     rotate_left
     ·
      rw [if_neg c5] at H
      exact absurd H (by simp)
     rw [if_pos c5] at H
     have c5b0 : decide (0 ≤ x5_1) = true := decide_eq_true c5; clear c5
     by_cases c6 : x5_1 < (l1.length : Int)
     rotate_left
     ·
      rw [if_neg c6] at H
      exact absurd H (by simp)
     rw [if_pos c6] at H
     have c6b0 : decide (x5_1 < (l1.length : Int)) = true := decide_eq_true c6; clear c6
     by_cases c7 : (rd l0 x5_1) = (rd l1 x5_1)
     ·
      rw [if_pos c7] at H
      have c7b0 : ((rd l0 x5_1) == (rd l1 x5_1)) = true := beq_iff_eq.mpr c7; have c7b1 : ((rd l0 x5_1) != (rd l1 x5_1)) = false := bne_eq_false_iff_eq.mpr c7; clear c7; have H' := Aside0.mk H; clear H; have p443 : 0 ≤ (x5_1 : Int) := of_decide_eq_true y0_9; have q443 : x5_1 < (l0.length : Int) := of_decide_eq_true y0_9; obtain ⟨ad443, e443, hx443_0⟩ := Kd.at_int HR0.out x5_1 p443 q443; cases e443; replace p443 := eq_true p443; replace q443 := eq_true q443; have p444 : 0 ≤ (x5_1 : Int) := of_decide_eq_true y0_9; have q444 : x5_1 < (l1.length : Int) := of_decide_eq_true y0_9; obtain ⟨ad444, e444, hx444_0⟩ := Kd.at_int HR1.out x5_1 p444 q444; cases e444; replace p444 := eq_true p444; replace q444 := eq_true q444
      go_wp2
      repeat (go_quiet (fail); try go_wp2)
      go_roundg k1
      case measure => have := HK1.out; omega
      case rel => exact ⟨(wrap64 (x5_1 + 1)), y0_10, H', ⟨y0_14⟩, y0_8⟩
     rw [if_neg c7] at H
     have c7b0 : ((rd l0 x5_1) == (rd l1 x5_1)) = false := beq_eq_false_iff_ne.mpr c7; have c7b1 : ((rd l0 x5_1) != (rd l1 x5_1)) = true := bne_iff_ne.mpr c7; obtain rfl := Option.some.inj H; have p443 : 0 ≤ (x5_1 : Int) := of_decide_eq_true y0_9; have q443 : x5_1 < (l0.length : Int) := of_decide_eq_true y0_9; obtain ⟨ad443, e443, hx443_0⟩ := Kd.at_int HR0.out x5_1 p443 q443; cases e443; replace p443 := eq_true p443; replace q443 := eq_true q443; have p444 : 0 ≤ (x5_1 : Int) := of_decide_eq_true y0_9; have q444 : x5_1 < (l1.length : Int) := of_decide_eq_true y0_9; obtain ⟨ad444, e444, hx444_0⟩ := Kd.at_int HR1.out x5_1 p444 q444; cases e444; replace p444 := eq_true p444; replace q444 := eq_true q444
     go_wp2
     repeat (go_quiet (fail); try go_wp2)
     go_ret
     exact ⟨y0_10, y0_8⟩
    rw [if_neg c4] at H
    have c4b0 : decide (x5_1 < (l0.length : Int)) = false := decide_eq_false c4; clear c4; obtain rfl := Option.some.inj H
    go_wp2
    repeat (go_quiet (fail); try go_wp2)
    go_ret
    exact ⟨y0_10, y0_8⟩
 rw [if_neg c3] at H
 have c3b0 : ((l0.length : Int) == (l1.length : Int)) = false := beq_eq_false_iff_ne.mpr c3; have c3b1 : ((l0.length : Int) != (l1.length : Int)) = true := bne_iff_ne.mpr c3
 have c3b2 : (l0.length == l1.length) = false := by first | simpa using c3 | (simp at c3 ⊢; omega)
 obtain rfl := Option.some.inj H
 go_enter Tryz.func76, Tryz.ntmps76
 go_wp2
 repeat (go_quiet (fail); try go_wp2)
 go_ret
 exact ⟨y0_10, y0_8⟩

/-! ### laws_eqQc: function 27 -/
def laws_eqQc.f (k : Nat) (a0_0 : Int) (a0_1 : ByteArray) (l0_2 : List Int) (a1_0 : Int) (a1_1 : ByteArray) (l1_2 : List Int) : Option (Bool) := if a0_0 = a1_0 then (if a0_1.toList = a1_1.toList then ((laws_eqIntS.f k l0_2 l1_2).bind fun t447 => (if t447 = true then (some true) else (some false))) else (some false)) else (some false)
theorem laws_eqQc.mono : ∀ a0 a1 a2 a3 a4 a5 k, LeO (laws_eqQc.f k a0 a1 a2 a3 a4 a5) (laws_eqQc.f (k + 1) a0 a1 a2 a3 a4 a5) := by
 intro a0 a1 a2 a3 a4 a5 k
 unfold laws_eqQc.f
 repeat' first | (with_reducible exact laws_eqIntS.mono _ _ _) | (with_reducible exact LeO.refl _) | (with_reducible exact LeO.none _) | (with_reducible refine LeO.ite ?_ ?_) | (with_reducible refine LeO.bind ?_ (fun _ => ?_))
set_option maxHeartbeats 8000000 in
set_option maxRecDepth 100000 in
theorem laws_eqQc.calls (k : Nat) (a0_0 : Int) (a0_1 : ByteArray) (A0_2 : Option Addr) (c0_2 : Nat) (l0_2 : List Int) (a1_0 : Int) (a1_1 : ByteArray) (A1_2 : Option Addr) (c1_2 : Nat) (l1_2 : List Int) (r : Bool) (w : World) (hr0_2 : Kd.C (Kd.int .i64) w A0_2 l0_2.length l0_2) (hc0_2 : l0_2.length ≤ c0_2) (hr1_2 : Kd.C (Kd.int .i64) w A1_2 l1_2.length l1_2) (hc1_2 : l1_2.length ≤ c1_2) (h : laws_eqQc.f k a0_0 a0_1 l0_2 a1_0 a1_1 l1_2 = some r) :
  Calls Tryz.prog 27 #[.agg #[.int .i64 a0_0, .string a0_1, .slice A0_2 l0_2.length c0_2], .agg #[.int .i64 a1_0, .string a1_1, .slice A1_2 l1_2.length c1_2]] w fun e w' => e = .returned (.bool r) ∧ Below w.heap.size w w' := by
 have hu33 := Tryz.underlying33; have HR0_2 := Aside0.mk hr0_2; have HC0_2 := Aside0.mk hc0_2; clear hr0_2 hc0_2; have HR1_2 := Aside0.mk hr1_2; have HC1_2 := Aside0.mk hc1_2; clear hr1_2 hc1_2; have HB := Aside0.mk (Below.refl w.heap.size w)
 have H : (if a0_0 = a1_0 then (if a0_1.toList = a1_1.toList then ((laws_eqIntS.f k l0_2 l1_2).bind fun t447 => (if t447 = true then (some true) else (some false))) else (some false)) else (some false)) = some r := h
 clear h
 by_cases c3 : a0_0 = a1_0
 ·
  rw [if_pos c3] at H
  have c3b0 : (a0_0 == a1_0) = true := beq_iff_eq.mpr c3; have c3b1 : (a0_0 != a1_0) = false := bne_eq_false_iff_eq.mpr c3; clear c3
  by_cases c4 : a0_1.toList = a1_1.toList
  ·
   rw [if_pos c4] at H
   have c4b0 : (a0_1.toList == a1_1.toList) = true := beq_iff_eq.mpr c4; have c4b1 : (a0_1.toList != a1_1.toList) = false := bne_eq_false_iff_eq.mpr c4; clear c4; obtain ⟨t447, A50, H⟩ := Option.bind_eq_some_iff.mp H
   try dsimp only at H
   have A5 := Aside0.mk A50; clear A50
   by_cases c6 : t447 = true
   ·
    subst c6
    rw [if_pos rfl] at H
    obtain rfl := Option.some.inj H
    go_enter Tryz.func27, Tryz.ntmps27
    go_wp2_with (first | ((with_reducible refine gd 2 ?_); refine bA 2 #[.int .i64 a0_0, .string a0_1, .slice A0_2 l0_2.length c0_2] 33 ?_; intro gb445 hg w7 hbox hb; have BK445 := Aside0.mk (hbox); have GW445 := bg hg HB; have GJ445 := gi GW445; have GE445 := GW445; replace HB := bs HB hb; clear hb hbox hg) | ((with_reducible refine gd 3 ?_); refine bA 3 #[.int .i64 a1_0, .string a1_1, .slice A1_2 l1_2.length c1_2] 33 ?_; intro gb446 hg w8 hbox hb; have BK446 := Aside0.mk (hbox); have GW446 := bg hg HB; have GJ446 := gi GW446; have GE446 := GW446; replace HB := bs HB hb; have NB445_446 := b1 BK445 hg; have NI445_446 := ni NB445_446; have NB446_445 := b2 BK445 hg; have NI446_445 := ni NB446_445; replace BK445 := bk BK445 hb; clear hb hbox hg; have hnb9 := NB445_446.out; have hnc9 := NB446_445.out; obtain ⟨hcz10_0, hcz10_1, hcz10_2, hfz10_0, hfz10_1, hfz10_2⟩ := cs3 BK445; obtain ⟨hcz11_0, hcz11_1, hcz11_2, hfz11_0, hfz11_1, hfz11_2⟩ := cs3 BK446) | ((with_reducible refine gate_callee (f := 76) rfl ?_); refine gB (some 19) Tryz.func76 #[.slice A0_2 l0_2.length c0_2, .slice A1_2 l1_2.length c1_2] ?_; (with_reducible refine (laws_eqIntS.calls k _ _ l0_2 _ _ l1_2 true _ ?side1 ?side2 ?side3 ?side4 A5.out).mono ?_); (case side1 => exact ch HR0_2 HB); (case side2 => exact HC0_2.out); (case side3 => exact ch HR1_2 HB); (case side4 => exact HC1_2.out); rintro e w' ⟨rfl, ⟨nd, rfl⟩⟩; refine ⟨_, rfl, ?_⟩))
    go_ret
    exact ⟨y0_7, bI HB.out⟩
   replace c6 := Bool.eq_false_iff.mpr c6; subst c6
   rw [if_neg (show ¬ (false = true) by decide)] at H
   obtain rfl := Option.some.inj H
   go_enter Tryz.func27, Tryz.ntmps27
   go_wp2_with (first | ((with_reducible refine gd 2 ?_); refine bA 2 #[.int .i64 a0_0, .string a0_1, .slice A0_2 l0_2.length c0_2] 33 ?_; intro gb445 hg w12 hbox hb; have BK445 := Aside0.mk (hbox); have GW445 := bg hg HB; have GJ445 := gi GW445; have GE445 := GW445; replace HB := bs HB hb; clear hb hbox hg) | ((with_reducible refine gd 3 ?_); refine bA 3 #[.int .i64 a1_0, .string a1_1, .slice A1_2 l1_2.length c1_2] 33 ?_; intro gb446 hg w13 hbox hb; have BK446 := Aside0.mk (hbox); have GW446 := bg hg HB; have GJ446 := gi GW446; have GE446 := GW446; replace HB := bs HB hb; have NB445_446 := b1 BK445 hg; have NI445_446 := ni NB445_446; have NB446_445 := b2 BK445 hg; have NI446_445 := ni NB446_445; replace BK445 := bk BK445 hb; clear hb hbox hg; have hnb14 := NB445_446.out; have hnc14 := NB446_445.out; obtain ⟨hcz15_0, hcz15_1, hcz15_2, hfz15_0, hfz15_1, hfz15_2⟩ := cs3 BK445; obtain ⟨hcz16_0, hcz16_1, hcz16_2, hfz16_0, hfz16_1, hfz16_2⟩ := cs3 BK446) | ((with_reducible refine gate_callee (f := 76) rfl ?_); refine gB (some 19) Tryz.func76 #[.slice A0_2 l0_2.length c0_2, .slice A1_2 l1_2.length c1_2] ?_; (with_reducible refine (laws_eqIntS.calls k _ _ l0_2 _ _ l1_2 false _ ?side1 ?side2 ?side3 ?side4 A5.out).mono ?_); (case side1 => exact ch HR0_2 HB); (case side2 => exact HC0_2.out); (case side3 => exact ch HR1_2 HB); (case side4 => exact HC1_2.out); rintro e w' ⟨rfl, ⟨nd, rfl⟩⟩; refine ⟨_, rfl, ?_⟩))
   go_ret
   exact ⟨y0_7, bI HB.out⟩
  rw [if_neg c4] at H
  have c4b0 : (a0_1.toList == a1_1.toList) = false := beq_eq_false_iff_ne.mpr c4; have c4b1 : (a0_1.toList != a1_1.toList) = true := bne_iff_ne.mpr c4; obtain rfl := Option.some.inj H
  go_enter Tryz.func27, Tryz.ntmps27
  go_wp2_with (first | ((with_reducible refine gd 2 ?_); refine bA 2 #[.int .i64 a0_0, .string a0_1, .slice A0_2 l0_2.length c0_2] 33 ?_; intro gb445 hg w17 hbox hb; have BK445 := Aside0.mk (hbox); have GW445 := bg hg HB; have GJ445 := gi GW445; have GE445 := GW445; replace HB := bs HB hb; clear hb hbox hg) | ((with_reducible refine gd 3 ?_); refine bA 3 #[.int .i64 a1_0, .string a1_1, .slice A1_2 l1_2.length c1_2] 33 ?_; intro gb446 hg w18 hbox hb; have BK446 := Aside0.mk (hbox); have GW446 := bg hg HB; have GJ446 := gi GW446; have GE446 := GW446; replace HB := bs HB hb; have NB445_446 := b1 BK445 hg; have NI445_446 := ni NB445_446; have NB446_445 := b2 BK445 hg; have NI446_445 := ni NB446_445; replace BK445 := bk BK445 hb; clear hb hbox hg; have hnb19 := NB445_446.out; have hnc19 := NB446_445.out; obtain ⟨hcz20_0, hcz20_1, hcz20_2, hfz20_0, hfz20_1, hfz20_2⟩ := cs3 BK445; obtain ⟨hcz21_0, hcz21_1, hcz21_2, hfz21_0, hfz21_1, hfz21_2⟩ := cs3 BK446))
  go_ret
  exact ⟨y0_7, bI HB.out⟩
 rw [if_neg c3] at H
 have c3b0 : (a0_0 == a1_0) = false := beq_eq_false_iff_ne.mpr c3; have c3b1 : (a0_0 != a1_0) = true := bne_iff_ne.mpr c3; obtain rfl := Option.some.inj H
 go_enter Tryz.func27, Tryz.ntmps27
 go_wp2_with (first | ((with_reducible refine gd 2 ?_); refine bA 2 #[.int .i64 a0_0, .string a0_1, .slice A0_2 l0_2.length c0_2] 33 ?_; intro gb445 hg w22 hbox hb; have BK445 := Aside0.mk (hbox); have GW445 := bg hg HB; have GJ445 := gi GW445; have GE445 := GW445; replace HB := bs HB hb; clear hb hbox hg) | ((with_reducible refine gd 3 ?_); refine bA 3 #[.int .i64 a1_0, .string a1_1, .slice A1_2 l1_2.length c1_2] 33 ?_; intro gb446 hg w23 hbox hb; have BK446 := Aside0.mk (hbox); have GW446 := bg hg HB; have GJ446 := gi GW446; have GE446 := GW446; replace HB := bs HB hb; have NB445_446 := b1 BK445 hg; have NI445_446 := ni NB445_446; have NB446_445 := b2 BK445 hg; have NI446_445 := ni NB446_445; replace BK445 := bk BK445 hb; clear hb hbox hg; have hnb24 := NB445_446.out; have hnc24 := NB446_445.out; obtain ⟨hcz25_0, hcz25_1, hcz25_2, hfz25_0, hfz25_1, hfz25_2⟩ := cs3 BK445; obtain ⟨hcz26_0, hcz26_1, hcz26_2, hfz26_0, hfz26_1, hfz26_2⟩ := cs3 BK446))
 go_ret
 exact ⟨y0_7, bI HB.out⟩

/-! ### laws_eqSafe: function 18 -/
def laws_eqSafe.f (k : Nat) (a0_0 : Int) (a0_1 : Int) (a0_2 : Int) (a0_3 : ByteArray) (l0_4 : List Int) (a0_5 : ByteArray) (a1_0 : Int) (a1_1 : Int) (a1_2 : Int) (a1_3 : ByteArray) (l1_4 : List Int) (a1_5 : ByteArray) : Option (Bool) := if a0_0 = a1_0 then (if a0_1 = a1_1 then ((laws_eqQc.f k a0_2 a0_3 l0_4 a1_2 a1_3 l1_4).bind fun t450 => (if t450 = true then (if a0_5.toList = a1_5.toList then (some true) else (some false)) else (some false))) else (some false)) else (some false)
theorem laws_eqSafe.mono : ∀ a0 a1 a2 a3 a4 a5 a6 a7 a8 a9 a10 a11 k, LeO (laws_eqSafe.f k a0 a1 a2 a3 a4 a5 a6 a7 a8 a9 a10 a11) (laws_eqSafe.f (k + 1) a0 a1 a2 a3 a4 a5 a6 a7 a8 a9 a10 a11) := by
 intro a0 a1 a2 a3 a4 a5 a6 a7 a8 a9 a10 a11 k
 unfold laws_eqSafe.f
 repeat' first | (with_reducible exact laws_eqQc.mono _ _ _ _ _ _ _) | (with_reducible exact LeO.refl _) | (with_reducible exact LeO.none _) | (with_reducible refine LeO.ite ?_ ?_) | (with_reducible refine LeO.bind ?_ (fun _ => ?_))
set_option maxHeartbeats 8000000 in
set_option maxRecDepth 100000 in
theorem laws_eqSafe.calls (k : Nat) (a0_0 : Int) (a0_1 : Int) (a0_2 : Int) (a0_3 : ByteArray) (A0_4 : Option Addr) (c0_4 : Nat) (l0_4 : List Int) (a0_5 : ByteArray) (a1_0 : Int) (a1_1 : Int) (a1_2 : Int) (a1_3 : ByteArray) (A1_4 : Option Addr) (c1_4 : Nat) (l1_4 : List Int) (a1_5 : ByteArray) (r : Bool) (w : World) (hr0_4 : Kd.C (Kd.int .i64) w A0_4 l0_4.length l0_4) (hc0_4 : l0_4.length ≤ c0_4) (hr1_4 : Kd.C (Kd.int .i64) w A1_4 l1_4.length l1_4) (hc1_4 : l1_4.length ≤ c1_4) (h : laws_eqSafe.f k a0_0 a0_1 a0_2 a0_3 l0_4 a0_5 a1_0 a1_1 a1_2 a1_3 l1_4 a1_5 = some r) :
  Calls Tryz.prog 18 #[.agg #[.int .i64 a0_0, .int .i64 a0_1, .int .i64 a0_2, .string a0_3, .slice A0_4 l0_4.length c0_4, .string a0_5], .agg #[.int .i64 a1_0, .int .i64 a1_1, .int .i64 a1_2, .string a1_3, .slice A1_4 l1_4.length c1_4, .string a1_5]] w fun e w' => e = .returned (.bool r) ∧ Below w.heap.size w w' := by
 have hu35 := Tryz.underlying35; have hu33 := Tryz.underlying33; have HR0_4 := Aside0.mk hr0_4; have HC0_4 := Aside0.mk hc0_4; clear hr0_4 hc0_4; have HR1_4 := Aside0.mk hr1_4; have HC1_4 := Aside0.mk hc1_4; clear hr1_4 hc1_4; have HB := Aside0.mk (Below.refl w.heap.size w)
 have H : (if a0_0 = a1_0 then (if a0_1 = a1_1 then ((laws_eqQc.f k a0_2 a0_3 l0_4 a1_2 a1_3 l1_4).bind fun t450 => (if t450 = true then (if a0_5.toList = a1_5.toList then (some true) else (some false)) else (some false))) else (some false)) else (some false)) = some r := h
 clear h
 by_cases c3 : a0_0 = a1_0
 ·
  rw [if_pos c3] at H
  have c3b0 : (a0_0 == a1_0) = true := beq_iff_eq.mpr c3; have c3b1 : (a0_0 != a1_0) = false := bne_eq_false_iff_eq.mpr c3; clear c3
  by_cases c4 : a0_1 = a1_1
  ·
   rw [if_pos c4] at H
   have c4b0 : (a0_1 == a1_1) = true := beq_iff_eq.mpr c4; have c4b1 : (a0_1 != a1_1) = false := bne_eq_false_iff_eq.mpr c4; clear c4; obtain ⟨t450, A50, H⟩ := Option.bind_eq_some_iff.mp H
   try dsimp only at H
   have A5 := Aside0.mk A50; clear A50
   by_cases c6 : t450 = true
   ·
    subst c6
    rw [if_pos rfl] at H
    by_cases c7 : a0_5.toList = a1_5.toList
    ·
     rw [if_pos c7] at H
     have c7b0 : (a0_5.toList == a1_5.toList) = true := beq_iff_eq.mpr c7; have c7b1 : (a0_5.toList != a1_5.toList) = false := bne_eq_false_iff_eq.mpr c7; clear c7; obtain rfl := Option.some.inj H
     go_enter Tryz.func18, Tryz.ntmps18
     go_wp2_with (first | ((with_reducible refine gd 2 ?_); refine bA 2 #[.int .i64 a0_0, .int .i64 a0_1, .int .i64 a0_2, .string a0_3, .slice A0_4 l0_4.length c0_4, .string a0_5] 35 ?_; intro gb448 hg w8 hbox hb; have BK448 := Aside0.mk (hbox); have GW448 := bg hg HB; have GJ448 := gi GW448; have GE448 := GW448; replace HB := bs HB hb; clear hb hbox hg) | ((with_reducible refine gd 3 ?_); refine bA 3 #[.int .i64 a1_0, .int .i64 a1_1, .int .i64 a1_2, .string a1_3, .slice A1_4 l1_4.length c1_4, .string a1_5] 35 ?_; intro gb449 hg w9 hbox hb; have BK449 := Aside0.mk (hbox); have GW449 := bg hg HB; have GJ449 := gi GW449; have GE449 := GW449; replace HB := bs HB hb; have NB448_449 := b1 BK448 hg; have NI448_449 := ni NB448_449; have NB449_448 := b2 BK448 hg; have NI449_448 := ni NB449_448; replace BK448 := bk BK448 hb; clear hb hbox hg; have hnb10 := NB448_449.out; have hnc10 := NB449_448.out; have hcz11_0 := bc0 BK448.out; have hcz11_1 := bc1 BK448.out; have hcz11_2 := bc2 BK448.out; have hcz11_3 := bc3 BK448.out; have hcz11_4 := bc4 BK448.out; have hcz11_5 := bc5 BK448.out; have hfz11_0 := blk_frozen BK448.out 0; have hfz11_1 := blk_frozen BK448.out 1; have hfz11_2 := blk_frozen BK448.out 2; have hfz11_3 := blk_frozen BK448.out 3; have hfz11_4 := blk_frozen BK448.out 4; have hfz11_5 := blk_frozen BK448.out 5; have hcz12_0 := bc0 BK449.out; have hcz12_1 := bc1 BK449.out; have hcz12_2 := bc2 BK449.out; have hcz12_3 := bc3 BK449.out; have hcz12_4 := bc4 BK449.out; have hcz12_5 := bc5 BK449.out; have hfz12_0 := blk_frozen BK449.out 0; have hfz12_1 := blk_frozen BK449.out 1; have hfz12_2 := blk_frozen BK449.out 2; have hfz12_3 := blk_frozen BK449.out 3; have hfz12_4 := blk_frozen BK449.out 4; have hfz12_5 := blk_frozen BK449.out 5) | ((with_reducible refine gate_callee (f := 27) rfl ?_); refine gB (some 19) Tryz.func27 #[.agg #[.int .i64 a0_2, .string a0_3, .slice A0_4 l0_4.length c0_4], .agg #[.int .i64 a1_2, .string a1_3, .slice A1_4 l1_4.length c1_4]] ?_; (with_reducible refine (laws_eqQc.calls k a0_2 a0_3 _ _ l0_4 a1_2 a1_3 _ _ l1_4 true _ ?side1 ?side2 ?side3 ?side4 A5.out).mono ?_); (case side1 => exact ch HR0_4 HB); (case side2 => exact HC0_4.out); (case side3 => exact ch HR1_4 HB); (case side4 => exact HC1_4.out); rintro e w13 ⟨rfl, hb⟩; refine ⟨_, rfl, ?_⟩; replace BK448 := bk BK448 hb; replace BK449 := bk BK449 hb; replace HB := bs HB hb; (try clear hb); (try clear hb2); (try clear hk); (try clear hi); have hcz14_0 := bc0 BK448.out; have hcz14_1 := bc1 BK448.out; have hcz14_2 := bc2 BK448.out; have hcz14_3 := bc3 BK448.out; have hcz14_4 := bc4 BK448.out; have hcz14_5 := bc5 BK448.out; have hfz14_0 := blk_frozen BK448.out 0; have hfz14_1 := blk_frozen BK448.out 1; have hfz14_2 := blk_frozen BK448.out 2; have hfz14_3 := blk_frozen BK448.out 3; have hfz14_4 := blk_frozen BK448.out 4; have hfz14_5 := blk_frozen BK448.out 5; have hcz15_0 := bc0 BK449.out; have hcz15_1 := bc1 BK449.out; have hcz15_2 := bc2 BK449.out; have hcz15_3 := bc3 BK449.out; have hcz15_4 := bc4 BK449.out; have hcz15_5 := bc5 BK449.out; have hfz15_0 := blk_frozen BK449.out 0; have hfz15_1 := blk_frozen BK449.out 1; have hfz15_2 := blk_frozen BK449.out 2; have hfz15_3 := blk_frozen BK449.out 3; have hfz15_4 := blk_frozen BK449.out 4; have hfz15_5 := blk_frozen BK449.out 5))
     go_ret
     exact ⟨y0_7, bI HB.out⟩
    rw [if_neg c7] at H
    have c7b0 : (a0_5.toList == a1_5.toList) = false := beq_eq_false_iff_ne.mpr c7; have c7b1 : (a0_5.toList != a1_5.toList) = true := bne_iff_ne.mpr c7; obtain rfl := Option.some.inj H
    go_enter Tryz.func18, Tryz.ntmps18
    go_wp2_with (first | ((with_reducible refine gd 2 ?_); refine bA 2 #[.int .i64 a0_0, .int .i64 a0_1, .int .i64 a0_2, .string a0_3, .slice A0_4 l0_4.length c0_4, .string a0_5] 35 ?_; intro gb448 hg w16 hbox hb; have BK448 := Aside0.mk (hbox); have GW448 := bg hg HB; have GJ448 := gi GW448; have GE448 := GW448; replace HB := bs HB hb; clear hb hbox hg) | ((with_reducible refine gd 3 ?_); refine bA 3 #[.int .i64 a1_0, .int .i64 a1_1, .int .i64 a1_2, .string a1_3, .slice A1_4 l1_4.length c1_4, .string a1_5] 35 ?_; intro gb449 hg w17 hbox hb; have BK449 := Aside0.mk (hbox); have GW449 := bg hg HB; have GJ449 := gi GW449; have GE449 := GW449; replace HB := bs HB hb; have NB448_449 := b1 BK448 hg; have NI448_449 := ni NB448_449; have NB449_448 := b2 BK448 hg; have NI449_448 := ni NB449_448; replace BK448 := bk BK448 hb; clear hb hbox hg; have hnb18 := NB448_449.out; have hnc18 := NB449_448.out; have hcz19_0 := bc0 BK448.out; have hcz19_1 := bc1 BK448.out; have hcz19_2 := bc2 BK448.out; have hcz19_3 := bc3 BK448.out; have hcz19_4 := bc4 BK448.out; have hcz19_5 := bc5 BK448.out; have hfz19_0 := blk_frozen BK448.out 0; have hfz19_1 := blk_frozen BK448.out 1; have hfz19_2 := blk_frozen BK448.out 2; have hfz19_3 := blk_frozen BK448.out 3; have hfz19_4 := blk_frozen BK448.out 4; have hfz19_5 := blk_frozen BK448.out 5; have hcz20_0 := bc0 BK449.out; have hcz20_1 := bc1 BK449.out; have hcz20_2 := bc2 BK449.out; have hcz20_3 := bc3 BK449.out; have hcz20_4 := bc4 BK449.out; have hcz20_5 := bc5 BK449.out; have hfz20_0 := blk_frozen BK449.out 0; have hfz20_1 := blk_frozen BK449.out 1; have hfz20_2 := blk_frozen BK449.out 2; have hfz20_3 := blk_frozen BK449.out 3; have hfz20_4 := blk_frozen BK449.out 4; have hfz20_5 := blk_frozen BK449.out 5) | ((with_reducible refine gate_callee (f := 27) rfl ?_); refine gB (some 19) Tryz.func27 #[.agg #[.int .i64 a0_2, .string a0_3, .slice A0_4 l0_4.length c0_4], .agg #[.int .i64 a1_2, .string a1_3, .slice A1_4 l1_4.length c1_4]] ?_; (with_reducible refine (laws_eqQc.calls k a0_2 a0_3 _ _ l0_4 a1_2 a1_3 _ _ l1_4 true _ ?side1 ?side2 ?side3 ?side4 A5.out).mono ?_); (case side1 => exact ch HR0_4 HB); (case side2 => exact HC0_4.out); (case side3 => exact ch HR1_4 HB); (case side4 => exact HC1_4.out); rintro e w21 ⟨rfl, hb⟩; refine ⟨_, rfl, ?_⟩; replace BK448 := bk BK448 hb; replace BK449 := bk BK449 hb; replace HB := bs HB hb; (try clear hb); (try clear hb2); (try clear hk); (try clear hi); have hcz22_0 := bc0 BK448.out; have hcz22_1 := bc1 BK448.out; have hcz22_2 := bc2 BK448.out; have hcz22_3 := bc3 BK448.out; have hcz22_4 := bc4 BK448.out; have hcz22_5 := bc5 BK448.out; have hfz22_0 := blk_frozen BK448.out 0; have hfz22_1 := blk_frozen BK448.out 1; have hfz22_2 := blk_frozen BK448.out 2; have hfz22_3 := blk_frozen BK448.out 3; have hfz22_4 := blk_frozen BK448.out 4; have hfz22_5 := blk_frozen BK448.out 5; have hcz23_0 := bc0 BK449.out; have hcz23_1 := bc1 BK449.out; have hcz23_2 := bc2 BK449.out; have hcz23_3 := bc3 BK449.out; have hcz23_4 := bc4 BK449.out; have hcz23_5 := bc5 BK449.out; have hfz23_0 := blk_frozen BK449.out 0; have hfz23_1 := blk_frozen BK449.out 1; have hfz23_2 := blk_frozen BK449.out 2; have hfz23_3 := blk_frozen BK449.out 3; have hfz23_4 := blk_frozen BK449.out 4; have hfz23_5 := blk_frozen BK449.out 5))
    go_ret
    exact ⟨y0_7, bI HB.out⟩
   replace c6 := Bool.eq_false_iff.mpr c6; subst c6
   rw [if_neg (show ¬ (false = true) by decide)] at H
   obtain rfl := Option.some.inj H
   go_enter Tryz.func18, Tryz.ntmps18
   go_wp2_with (first | ((with_reducible refine gd 2 ?_); refine bA 2 #[.int .i64 a0_0, .int .i64 a0_1, .int .i64 a0_2, .string a0_3, .slice A0_4 l0_4.length c0_4, .string a0_5] 35 ?_; intro gb448 hg w24 hbox hb; have BK448 := Aside0.mk (hbox); have GW448 := bg hg HB; have GJ448 := gi GW448; have GE448 := GW448; replace HB := bs HB hb; clear hb hbox hg) | ((with_reducible refine gd 3 ?_); refine bA 3 #[.int .i64 a1_0, .int .i64 a1_1, .int .i64 a1_2, .string a1_3, .slice A1_4 l1_4.length c1_4, .string a1_5] 35 ?_; intro gb449 hg w25 hbox hb; have BK449 := Aside0.mk (hbox); have GW449 := bg hg HB; have GJ449 := gi GW449; have GE449 := GW449; replace HB := bs HB hb; have NB448_449 := b1 BK448 hg; have NI448_449 := ni NB448_449; have NB449_448 := b2 BK448 hg; have NI449_448 := ni NB449_448; replace BK448 := bk BK448 hb; clear hb hbox hg; have hnb26 := NB448_449.out; have hnc26 := NB449_448.out; have hcz27_0 := bc0 BK448.out; have hcz27_1 := bc1 BK448.out; have hcz27_2 := bc2 BK448.out; have hcz27_3 := bc3 BK448.out; have hcz27_4 := bc4 BK448.out; have hcz27_5 := bc5 BK448.out; have hfz27_0 := blk_frozen BK448.out 0; have hfz27_1 := blk_frozen BK448.out 1; have hfz27_2 := blk_frozen BK448.out 2; have hfz27_3 := blk_frozen BK448.out 3; have hfz27_4 := blk_frozen BK448.out 4; have hfz27_5 := blk_frozen BK448.out 5; have hcz28_0 := bc0 BK449.out; have hcz28_1 := bc1 BK449.out; have hcz28_2 := bc2 BK449.out; have hcz28_3 := bc3 BK449.out; have hcz28_4 := bc4 BK449.out; have hcz28_5 := bc5 BK449.out; have hfz28_0 := blk_frozen BK449.out 0; have hfz28_1 := blk_frozen BK449.out 1; have hfz28_2 := blk_frozen BK449.out 2; have hfz28_3 := blk_frozen BK449.out 3; have hfz28_4 := blk_frozen BK449.out 4; have hfz28_5 := blk_frozen BK449.out 5) | ((with_reducible refine gate_callee (f := 27) rfl ?_); refine gB (some 19) Tryz.func27 #[.agg #[.int .i64 a0_2, .string a0_3, .slice A0_4 l0_4.length c0_4], .agg #[.int .i64 a1_2, .string a1_3, .slice A1_4 l1_4.length c1_4]] ?_; (with_reducible refine (laws_eqQc.calls k a0_2 a0_3 _ _ l0_4 a1_2 a1_3 _ _ l1_4 false _ ?side1 ?side2 ?side3 ?side4 A5.out).mono ?_); (case side1 => exact ch HR0_4 HB); (case side2 => exact HC0_4.out); (case side3 => exact ch HR1_4 HB); (case side4 => exact HC1_4.out); rintro e w29 ⟨rfl, hb⟩; refine ⟨_, rfl, ?_⟩; replace BK448 := bk BK448 hb; replace BK449 := bk BK449 hb; replace HB := bs HB hb; (try clear hb); (try clear hb2); (try clear hk); (try clear hi)))
   go_ret
   exact ⟨y0_7, bI HB.out⟩
  rw [if_neg c4] at H
  have c4b0 : (a0_1 == a1_1) = false := beq_eq_false_iff_ne.mpr c4; have c4b1 : (a0_1 != a1_1) = true := bne_iff_ne.mpr c4; obtain rfl := Option.some.inj H
  go_enter Tryz.func18, Tryz.ntmps18
  go_wp2_with (first | ((with_reducible refine gd 2 ?_); refine bA 2 #[.int .i64 a0_0, .int .i64 a0_1, .int .i64 a0_2, .string a0_3, .slice A0_4 l0_4.length c0_4, .string a0_5] 35 ?_; intro gb448 hg w30 hbox hb; have BK448 := Aside0.mk (hbox); have GW448 := bg hg HB; have GJ448 := gi GW448; have GE448 := GW448; replace HB := bs HB hb; clear hb hbox hg) | ((with_reducible refine gd 3 ?_); refine bA 3 #[.int .i64 a1_0, .int .i64 a1_1, .int .i64 a1_2, .string a1_3, .slice A1_4 l1_4.length c1_4, .string a1_5] 35 ?_; intro gb449 hg w31 hbox hb; have BK449 := Aside0.mk (hbox); have GW449 := bg hg HB; have GJ449 := gi GW449; have GE449 := GW449; replace HB := bs HB hb; have NB448_449 := b1 BK448 hg; have NI448_449 := ni NB448_449; have NB449_448 := b2 BK448 hg; have NI449_448 := ni NB449_448; replace BK448 := bk BK448 hb; clear hb hbox hg; have hnb32 := NB448_449.out; have hnc32 := NB449_448.out; have hcz33_0 := bc0 BK448.out; have hcz33_1 := bc1 BK448.out; have hcz33_2 := bc2 BK448.out; have hcz33_3 := bc3 BK448.out; have hcz33_4 := bc4 BK448.out; have hcz33_5 := bc5 BK448.out; have hfz33_0 := blk_frozen BK448.out 0; have hfz33_1 := blk_frozen BK448.out 1; have hfz33_2 := blk_frozen BK448.out 2; have hfz33_3 := blk_frozen BK448.out 3; have hfz33_4 := blk_frozen BK448.out 4; have hfz33_5 := blk_frozen BK448.out 5; have hcz34_0 := bc0 BK449.out; have hcz34_1 := bc1 BK449.out; have hcz34_2 := bc2 BK449.out; have hcz34_3 := bc3 BK449.out; have hcz34_4 := bc4 BK449.out; have hcz34_5 := bc5 BK449.out; have hfz34_0 := blk_frozen BK449.out 0; have hfz34_1 := blk_frozen BK449.out 1; have hfz34_2 := blk_frozen BK449.out 2; have hfz34_3 := blk_frozen BK449.out 3; have hfz34_4 := blk_frozen BK449.out 4; have hfz34_5 := blk_frozen BK449.out 5))
  go_ret
  exact ⟨y0_7, bI HB.out⟩
 rw [if_neg c3] at H
 have c3b0 : (a0_0 == a1_0) = false := beq_eq_false_iff_ne.mpr c3; have c3b1 : (a0_0 != a1_0) = true := bne_iff_ne.mpr c3; obtain rfl := Option.some.inj H
 go_enter Tryz.func18, Tryz.ntmps18
 go_wp2_with (first | ((with_reducible refine gd 2 ?_); refine bA 2 #[.int .i64 a0_0, .int .i64 a0_1, .int .i64 a0_2, .string a0_3, .slice A0_4 l0_4.length c0_4, .string a0_5] 35 ?_; intro gb448 hg w35 hbox hb; have BK448 := Aside0.mk (hbox); have GW448 := bg hg HB; have GJ448 := gi GW448; have GE448 := GW448; replace HB := bs HB hb; clear hb hbox hg) | ((with_reducible refine gd 3 ?_); refine bA 3 #[.int .i64 a1_0, .int .i64 a1_1, .int .i64 a1_2, .string a1_3, .slice A1_4 l1_4.length c1_4, .string a1_5] 35 ?_; intro gb449 hg w36 hbox hb; have BK449 := Aside0.mk (hbox); have GW449 := bg hg HB; have GJ449 := gi GW449; have GE449 := GW449; replace HB := bs HB hb; have NB448_449 := b1 BK448 hg; have NI448_449 := ni NB448_449; have NB449_448 := b2 BK448 hg; have NI449_448 := ni NB449_448; replace BK448 := bk BK448 hb; clear hb hbox hg; have hnb37 := NB448_449.out; have hnc37 := NB449_448.out; have hcz38_0 := bc0 BK448.out; have hcz38_1 := bc1 BK448.out; have hcz38_2 := bc2 BK448.out; have hcz38_3 := bc3 BK448.out; have hcz38_4 := bc4 BK448.out; have hcz38_5 := bc5 BK448.out; have hfz38_0 := blk_frozen BK448.out 0; have hfz38_1 := blk_frozen BK448.out 1; have hfz38_2 := blk_frozen BK448.out 2; have hfz38_3 := blk_frozen BK448.out 3; have hfz38_4 := blk_frozen BK448.out 4; have hfz38_5 := blk_frozen BK448.out 5; have hcz39_0 := bc0 BK449.out; have hcz39_1 := bc1 BK449.out; have hcz39_2 := bc2 BK449.out; have hcz39_3 := bc3 BK449.out; have hcz39_4 := bc4 BK449.out; have hcz39_5 := bc5 BK449.out; have hfz39_0 := blk_frozen BK449.out 0; have hfz39_1 := blk_frozen BK449.out 1; have hfz39_2 := blk_frozen BK449.out 2; have hfz39_3 := blk_frozen BK449.out 3; have hfz39_4 := blk_frozen BK449.out 4; have hfz39_5 := blk_frozen BK449.out 5))
 go_ret
 exact ⟨y0_7, bI HB.out⟩

/-! ### laws_eqBlock: function 19 -/
def laws_eqBlock.f (k : Nat) (a0_0 : ByteArray) (a0_1 : Int) (a0_2 : ByteArray) (l0_3 : List Int) (a1_0 : ByteArray) (a1_1 : Int) (a1_2 : ByteArray) (l1_3 : List Int) : Option (Bool) := if a0_0.toList = a1_0.toList then ((laws_eqQc.f k a0_1 a0_2 l0_3 a1_1 a1_2 l1_3).bind fun t453 => (if t453 = true then (some true) else (some false))) else (some false)
theorem laws_eqBlock.mono : ∀ a0 a1 a2 a3 a4 a5 a6 a7 k, LeO (laws_eqBlock.f k a0 a1 a2 a3 a4 a5 a6 a7) (laws_eqBlock.f (k + 1) a0 a1 a2 a3 a4 a5 a6 a7) := by
 intro a0 a1 a2 a3 a4 a5 a6 a7 k
 unfold laws_eqBlock.f
 repeat' first | (with_reducible exact laws_eqQc.mono _ _ _ _ _ _ _) | (with_reducible exact LeO.refl _) | (with_reducible exact LeO.none _) | (with_reducible refine LeO.ite ?_ ?_) | (with_reducible refine LeO.bind ?_ (fun _ => ?_))
set_option maxHeartbeats 8000000 in
set_option maxRecDepth 100000 in
theorem laws_eqBlock.calls (k : Nat) (a0_0 : ByteArray) (a0_1 : Int) (a0_2 : ByteArray) (A0_3 : Option Addr) (c0_3 : Nat) (l0_3 : List Int) (a1_0 : ByteArray) (a1_1 : Int) (a1_2 : ByteArray) (A1_3 : Option Addr) (c1_3 : Nat) (l1_3 : List Int) (r : Bool) (w : World) (hr0_3 : Kd.C (Kd.int .i64) w A0_3 l0_3.length l0_3) (hc0_3 : l0_3.length ≤ c0_3) (hr1_3 : Kd.C (Kd.int .i64) w A1_3 l1_3.length l1_3) (hc1_3 : l1_3.length ≤ c1_3) (h : laws_eqBlock.f k a0_0 a0_1 a0_2 l0_3 a1_0 a1_1 a1_2 l1_3 = some r) :
  Calls Tryz.prog 19 #[.agg #[.string a0_0, .int .i64 a0_1, .string a0_2, .slice A0_3 l0_3.length c0_3], .agg #[.string a1_0, .int .i64 a1_1, .string a1_2, .slice A1_3 l1_3.length c1_3]] w fun e w' => e = .returned (.bool r) ∧ Below w.heap.size w w' := by
 have hu42 := Tryz.underlying42; have hu33 := Tryz.underlying33; have HR0_3 := Aside0.mk hr0_3; have HC0_3 := Aside0.mk hc0_3; clear hr0_3 hc0_3; have HR1_3 := Aside0.mk hr1_3; have HC1_3 := Aside0.mk hc1_3; clear hr1_3 hc1_3; have HB := Aside0.mk (Below.refl w.heap.size w)
 have H : (if a0_0.toList = a1_0.toList then ((laws_eqQc.f k a0_1 a0_2 l0_3 a1_1 a1_2 l1_3).bind fun t453 => (if t453 = true then (some true) else (some false))) else (some false)) = some r := h
 clear h
 by_cases c3 : a0_0.toList = a1_0.toList
 ·
  rw [if_pos c3] at H
  have c3b0 : (a0_0.toList == a1_0.toList) = true := beq_iff_eq.mpr c3; have c3b1 : (a0_0.toList != a1_0.toList) = false := bne_eq_false_iff_eq.mpr c3; clear c3; obtain ⟨t453, A40, H⟩ := Option.bind_eq_some_iff.mp H
  try dsimp only at H
  have A4 := Aside0.mk A40; clear A40
  by_cases c5 : t453 = true
  ·
   subst c5
   rw [if_pos rfl] at H
   obtain rfl := Option.some.inj H
   go_enter Tryz.func19, Tryz.ntmps19
   go_wp2_with (first | ((with_reducible refine gd 2 ?_); refine bA 2 #[.string a0_0, .int .i64 a0_1, .string a0_2, .slice A0_3 l0_3.length c0_3] 42 ?_; intro gb451 hg w6 hbox hb; have BK451 := Aside0.mk (hbox); have GW451 := bg hg HB; have GJ451 := gi GW451; have GE451 := GW451; replace HB := bs HB hb; clear hb hbox hg) | ((with_reducible refine gd 3 ?_); refine bA 3 #[.string a1_0, .int .i64 a1_1, .string a1_2, .slice A1_3 l1_3.length c1_3] 42 ?_; intro gb452 hg w7 hbox hb; have BK452 := Aside0.mk (hbox); have GW452 := bg hg HB; have GJ452 := gi GW452; have GE452 := GW452; replace HB := bs HB hb; have NB451_452 := b1 BK451 hg; have NI451_452 := ni NB451_452; have NB452_451 := b2 BK451 hg; have NI452_451 := ni NB452_451; replace BK451 := bk BK451 hb; clear hb hbox hg; have hnb8 := NB451_452.out; have hnc8 := NB452_451.out; obtain ⟨hcz9_0, hcz9_1, hcz9_2, hcz9_3, hfz9_0, hfz9_1, hfz9_2, hfz9_3⟩ := cs4 BK451; obtain ⟨hcz10_0, hcz10_1, hcz10_2, hcz10_3, hfz10_0, hfz10_1, hfz10_2, hfz10_3⟩ := cs4 BK452) | ((with_reducible refine gate_callee (f := 27) rfl ?_); refine gB (some 14) Tryz.func27 #[.agg #[.int .i64 a0_1, .string a0_2, .slice A0_3 l0_3.length c0_3], .agg #[.int .i64 a1_1, .string a1_2, .slice A1_3 l1_3.length c1_3]] ?_; (with_reducible refine (laws_eqQc.calls k a0_1 a0_2 _ _ l0_3 a1_1 a1_2 _ _ l1_3 true _ ?side1 ?side2 ?side3 ?side4 A4.out).mono ?_); (case side1 => exact ch HR0_3 HB); (case side2 => exact HC0_3.out); (case side3 => exact ch HR1_3 HB); (case side4 => exact HC1_3.out); rintro e w11 ⟨rfl, hb⟩; refine ⟨_, rfl, ?_⟩; replace BK451 := bk BK451 hb; replace BK452 := bk BK452 hb; replace HB := bs HB hb; (try clear hb); (try clear hb2); (try clear hk); (try clear hi)))
   go_ret
   exact ⟨y0_7, bI HB.out⟩
  replace c5 := Bool.eq_false_iff.mpr c5; subst c5
  rw [if_neg (show ¬ (false = true) by decide)] at H
  obtain rfl := Option.some.inj H
  go_enter Tryz.func19, Tryz.ntmps19
  go_wp2_with (first | ((with_reducible refine gd 2 ?_); refine bA 2 #[.string a0_0, .int .i64 a0_1, .string a0_2, .slice A0_3 l0_3.length c0_3] 42 ?_; intro gb451 hg w12 hbox hb; have BK451 := Aside0.mk (hbox); have GW451 := bg hg HB; have GJ451 := gi GW451; have GE451 := GW451; replace HB := bs HB hb; clear hb hbox hg) | ((with_reducible refine gd 3 ?_); refine bA 3 #[.string a1_0, .int .i64 a1_1, .string a1_2, .slice A1_3 l1_3.length c1_3] 42 ?_; intro gb452 hg w13 hbox hb; have BK452 := Aside0.mk (hbox); have GW452 := bg hg HB; have GJ452 := gi GW452; have GE452 := GW452; replace HB := bs HB hb; have NB451_452 := b1 BK451 hg; have NI451_452 := ni NB451_452; have NB452_451 := b2 BK451 hg; have NI452_451 := ni NB452_451; replace BK451 := bk BK451 hb; clear hb hbox hg; have hnb14 := NB451_452.out; have hnc14 := NB452_451.out; obtain ⟨hcz15_0, hcz15_1, hcz15_2, hcz15_3, hfz15_0, hfz15_1, hfz15_2, hfz15_3⟩ := cs4 BK451; obtain ⟨hcz16_0, hcz16_1, hcz16_2, hcz16_3, hfz16_0, hfz16_1, hfz16_2, hfz16_3⟩ := cs4 BK452) | ((with_reducible refine gate_callee (f := 27) rfl ?_); refine gB (some 14) Tryz.func27 #[.agg #[.int .i64 a0_1, .string a0_2, .slice A0_3 l0_3.length c0_3], .agg #[.int .i64 a1_1, .string a1_2, .slice A1_3 l1_3.length c1_3]] ?_; (with_reducible refine (laws_eqQc.calls k a0_1 a0_2 _ _ l0_3 a1_1 a1_2 _ _ l1_3 false _ ?side1 ?side2 ?side3 ?side4 A4.out).mono ?_); (case side1 => exact ch HR0_3 HB); (case side2 => exact HC0_3.out); (case side3 => exact ch HR1_3 HB); (case side4 => exact HC1_3.out); rintro e w17 ⟨rfl, hb⟩; refine ⟨_, rfl, ?_⟩; replace BK451 := bk BK451 hb; replace BK452 := bk BK452 hb; replace HB := bs HB hb; (try clear hb); (try clear hb2); (try clear hk); (try clear hi)))
  go_ret
  exact ⟨y0_7, bI HB.out⟩
 rw [if_neg c3] at H
 have c3b0 : (a0_0.toList == a1_0.toList) = false := beq_eq_false_iff_ne.mpr c3; have c3b1 : (a0_0.toList != a1_0.toList) = true := bne_iff_ne.mpr c3; obtain rfl := Option.some.inj H
 go_enter Tryz.func19, Tryz.ntmps19
 go_wp2_with (first | ((with_reducible refine gd 2 ?_); refine bA 2 #[.string a0_0, .int .i64 a0_1, .string a0_2, .slice A0_3 l0_3.length c0_3] 42 ?_; intro gb451 hg w18 hbox hb; have BK451 := Aside0.mk (hbox); have GW451 := bg hg HB; have GJ451 := gi GW451; have GE451 := GW451; replace HB := bs HB hb; clear hb hbox hg) | ((with_reducible refine gd 3 ?_); refine bA 3 #[.string a1_0, .int .i64 a1_1, .string a1_2, .slice A1_3 l1_3.length c1_3] 42 ?_; intro gb452 hg w19 hbox hb; have BK452 := Aside0.mk (hbox); have GW452 := bg hg HB; have GJ452 := gi GW452; have GE452 := GW452; replace HB := bs HB hb; have NB451_452 := b1 BK451 hg; have NI451_452 := ni NB451_452; have NB452_451 := b2 BK451 hg; have NI452_451 := ni NB452_451; replace BK451 := bk BK451 hb; clear hb hbox hg; have hnb20 := NB451_452.out; have hnc20 := NB452_451.out; obtain ⟨hcz21_0, hcz21_1, hcz21_2, hcz21_3, hfz21_0, hfz21_1, hfz21_2, hfz21_3⟩ := cs4 BK451; obtain ⟨hcz22_0, hcz22_1, hcz22_2, hcz22_3, hfz22_0, hfz22_1, hfz22_2, hfz22_3⟩ := cs4 BK452))
 go_ret
 exact ⟨y0_7, bI HB.out⟩

/-! ### laws_markIntS: function 77 -/
def laws_markIntS.l0 : Nat → List Int → Int → Int → Option (Int × List Int)
 | 0, _, _, _ => none
 | k + 1, x0, x1, x5 => if x5 < (x0.length : Int) then (if 0 ≤ x5 then (laws_markIntS.l0 k (x0.set (x5 : Int).toNat x1) (wrap64 (x1 + 1)) (wrap64 (x5 + 1))) else (none)) else (some (x1, x0))
def laws_markIntS.f (k : Nat) (l0 : List Int) (a1 : Int) : Option (Int × List Int) := laws_markIntS.l0 k l0 a1 0
theorem laws_markIntS.mono_l : ∀ k, (∀ y0 y1 y2, LeO (laws_markIntS.l0 k y0 y1 y2) (laws_markIntS.l0 (k + 1) y0 y1 y2))
 | 0 => fun _ _ _ r h => by simp [laws_markIntS.l0] at h
 | k + 1 => by
  have ih0 := laws_markIntS.mono_l k
  intro y0 y1 y2
  unfold laws_markIntS.l0
  repeat' first | (with_reducible exact ih0 _ _ _) | (with_reducible exact LeO.refl _) | (with_reducible exact LeO.none _) | (with_reducible refine LeO.ite ?_ ?_) | (with_reducible refine LeO.bind ?_ (fun _ => ?_))
theorem laws_markIntS.mono : ∀ a0 a1 k, LeO (laws_markIntS.f k a0 a1) (laws_markIntS.f (k + 1) a0 a1) := by
 intro a0 a1 k
 have ih0 := laws_markIntS.mono_l k
 unfold laws_markIntS.f
 repeat' first | (with_reducible exact ih0 _ _ _) | (with_reducible exact LeO.refl _) | (with_reducible exact LeO.none _) | (with_reducible refine LeO.ite ?_ ?_) | (with_reducible refine LeO.bind ?_ (fun _ => ?_))
set_option maxHeartbeats 8000000 in
set_option maxRecDepth 100000 in
theorem laws_markIntS.calls (k : Nat) (P0_ : Nat → Prop) (u9000_ : Value) (l0 : List Int) (a1 : Int) (r1 : Int) (r2 : List Int) (w0 w : World) (hB : Below w0.heap.size w0 w) (ho0 : Kd.R (Kd.int .i64) 3 w w0.heap.size P0_ u9000_ l0) (h : laws_markIntS.f k l0 a1 = some (r1, r2)) :
  Calls Tryz.prog 77 #[u9000_, .int .i64 a1] w fun e w' => e = .returned (.int .i64 r1) ∧ Kd.R (Kd.int .i64) 3 w' w0.heap.size (fun k_ => (P0_ k_ ∨ w.heap.size ≤ k_)) u9000_ r2 ∧ Below w0.heap.size w0 w' ∧ Kept w w' (fun k_ => P0_ k_) := by
 have HO0 := Aside0.mk (show Kd.R (Kd.int .i64) 3 w w0.heap.size (fun k_ => (P0_ k_ ∨ w.heap.size ≤ k_)) u9000_ l0 from Kd.R_mono ho0 (fun k_ hk => (.inl hk)))
 have HK := Aside0.mk (Kept.refl w (fun k_ => P0_ k_))
 have HW0 := Aside0.mk hB.size; have HB := Aside0.mk hB; clear hB; have H : (laws_markIntS.l0 k l0 a1 0) = some (r1, r2) := h; clear h; have H' := Aside0.mk H; clear H
 go_enter Tryz.func77, Tryz.ntmps77
 go_wp2
 go_loopg [1, 5] k (fun kq v1 v5 w' => ∃ (x0_1 : List Int) (x1_1 : Int) (x5_1 : Int), v1 = .int .i64 x1_1 ∧ v5 = .int .i64 x5_1 ∧ Aside0 (laws_markIntS.l0 kq x0_1 x1_1 x5_1 = some (r1, r2)) ∧ Aside0 (kq ≤ k) ∧ Aside0 (Kd.R (Kd.int .i64) 3 w' w0.heap.size (fun k_ => (P0_ k_ ∨ w.heap.size ≤ k_)) u9000_ x0_1) ∧ Aside0 (Kept w w' (fun k_ => P0_ k_)) ∧ Aside0 (Below w0.heap.size w0 w'))
 case atStart => exact ⟨(l0), (a1), (0), y0_10, y0_10, H', ⟨Nat.le_refl _⟩, ⟨by (with_reducible repeat (first | apply Kd.R_alloc | apply Kd.R_drewN | apply Kd.R_drew)); exact HO0.out⟩, ⟨y0_4⟩, ⟨bI HB.out⟩⟩
 case round =>
  clear H'
  try clear p2
  obtain ⟨x0_1, x1_1, x5_1, rfl, rfl, HA, HK1, HO_0, HK, HB⟩ := hrel; cases gk with
  | zero => exact absurd HA.out (by simp [laws_markIntS.l0])
  | succ k1 =>
   have H := HA.out; clear HA
   simp only [laws_markIntS.l0] at H
   by_cases c3 : x5_1 < (x0_1.length : Int)
   ·
    rw [if_pos c3] at H
    have c3b0 : decide (x5_1 < (x0_1.length : Int)) = true := decide_eq_true c3; clear c3
    by_cases c4 : 0 ≤ x5_1
    rotate_left
    ·
     rw [if_neg c4] at H
     exact absurd H (by simp)
    rw [if_pos c4] at H
    have c4b0 : decide (0 ≤ x5_1) = true := decide_eq_true c4; clear c4; obtain ⟨y454, hy454⟩ : ∃ y_ : List Int, y_ = (x0_1.set (x5_1 : Int).toNat x1_1) := ⟨_, rfl⟩
    replace H : (laws_markIntS.l0 k1 y454 (wrap64 (x1_1 + 1)) (wrap64 (x5_1 + 1))) = some (r1, r2) := by first | (rw [hy454]; with_reducible exact H) | (have H2_ := (Option.bind_some _ _).symm.trans H; rw [hy454]; with_reducible exact H2_) | (have H2_ := (Option.bind_some _ _).symm.trans H; with_reducible exact H2_) | with_reducible exact H | (rw [hy454]; exact H) | exact H
    have Ny454 := Aside0.mk hy454; clear hy454; have H' := Aside0.mk H; clear H; obtain ⟨Ao6, co6, eo6⟩ := Kd.R_slice HO_0.out; subst eo6; have p5 : 0 ≤ (x5_1 : Int) := of_decide_eq_true y0_9; have q5 : (x5_1 : Int) < ((x0_1.length : Int) : Int) := of_decide_eq_true y0_9
    obtain ⟨go5, co5, eo5, gb5, gl5, cl5, HG5⟩ := Kd.R_form HO_0.out (by omega)
    (first | cases eo5 | (injection eo5 with ea_ en_ ec_; (first | subst ea_ | (injection ea_ with ea_; subst ea_)); subst ec_; clear en_))
    have GB5 := Aside0.mk gb5; have GG5 := Aside0.mk HG5; clear gb5 gl5 HG5
    have HMgo5 := Aside0.mk (show (P0_ go5 ∨ w.heap.size ≤ go5) from (HO_0.out.1 _ rfl))
    obtain ⟨hx5_0, hf5_0⟩ := Kd.R_celln 0 HO_0.out (x5_1 : Int) p5 q5; replace p5 := eq_true p5; replace q5 := eq_true q5; have HP7 := Kd.R_putg HO_0.out (x5_1 : Int) x1_1
    go_wp2_with (first | ((with_reducible refine gate_store (t := 3) (p := 15) rfl ?_); refine store_event (t := 3) (p := 15) (v := ?vo_w8) (w1 := (wr.setCell ⟨go5, (x5_1 : Int).toNat, none⟩ (.int .i64 x1_1))) ?hg ?ho ?hn ?hr ?_; (case ho => rfl); (case hg => rfl); (case hn => rfl); (case hr => first | (go_simp; done) | (go_simp; rfl)); intro w8 hw; have hg : wr.grownBy w8 (some go5) := (by rw [hw]; exact HP7.2); have hp_ : Kd.R (Kd.int .i64) 3 w8 w0.heap.size (fun k_ => (P0_ k_ ∨ w.heap.size ≤ k_)) (.slice (some ⟨go5, 0, none⟩) x0_1.length co6) y454 := (by rw [hw, Ny454.out]; exact HP7.1); clear HP7; replace HB := Aside0.mk ((by rw [hw]; exact below_set (HB.out) GB5.out : Below w0.heap.size w0 w8)); replace HK := Aside0.mk (Kept.of_grown (S := (fun k_ => P0_ k_)) hg y0_4 (fun k_ e_ => (HO_0.out.1 k_ e_))); replace HO_0 := Aside0.mk (hp_); clear hg hw hp_))
    go_roundg k1
    case measure => have := HK1.out; omega
    case rel => exact ⟨(y454), (wrap64 (x1_1 + 1)), (wrap64 (x5_1 + 1)), y0_10, y0_10, H', ⟨y0_14⟩, ⟨by (with_reducible repeat (first | apply Kd.R_alloc | apply Kd.R_drewN | apply Kd.R_drew)); exact HO_0.out⟩, ⟨y0_4⟩, ⟨bI HB.out⟩⟩
   rw [if_neg c3] at H
   have c3b0 : decide (x5_1 < (x0_1.length : Int)) = false := decide_eq_false c3; clear c3
   simp only [Option.some.injEq, Prod.mk.injEq] at H
   obtain ⟨rfl, rfl⟩ := H; obtain ⟨Ao9, co9, eo9⟩ := Kd.R_slice HO_0.out; subst eo9
   go_wp2
   go_ret
   exact ⟨y0_7, by (with_reducible repeat (first | apply Kd.R_alloc | apply Kd.R_drewN | apply Kd.R_drew)); exact HO_0.out, bI HB.out, y0_4⟩

/-! ### laws_markQc: function 28 -/
def laws_markQc.f (k : Nat) (a0_0 : Int) (a0_1 : ByteArray) (l0_2 : List Int) (a1 : Int) : Option (Int × List Int) := (laws_markIntS.f k l0_2 a1).bind fun bt456 => (some (bt456.1, bt456.2))
theorem laws_markQc.mono : ∀ a0 a1 a2 a3 k, LeO (laws_markQc.f k a0 a1 a2 a3) (laws_markQc.f (k + 1) a0 a1 a2 a3) := by
 intro a0 a1 a2 a3 k
 unfold laws_markQc.f
 repeat' first | (with_reducible exact laws_markIntS.mono _ _ _) | (with_reducible exact LeO.refl _) | (with_reducible exact LeO.none _) | (with_reducible refine LeO.ite ?_ ?_) | (with_reducible refine LeO.bind ?_ (fun _ => ?_))
set_option maxHeartbeats 8000000 in
set_option maxRecDepth 100000 in
theorem laws_markQc.calls (k : Nat) (a0_0 : Int) (a0_1 : ByteArray) (P0_2_ : Nat → Prop) (u9000_ : Value) (l0_2 : List Int) (a1 : Int) (r1 : Int) (r2 : List Int) (w0 w : World) (hB : Below w0.heap.size w0 w) (ho0_2 : Kd.R (Kd.int .i64) 3 w w0.heap.size P0_2_ u9000_ l0_2) (h : laws_markQc.f k a0_0 a0_1 l0_2 a1 = some (r1, r2)) :
  Calls Tryz.prog 28 #[.agg #[.int .i64 a0_0, .string a0_1, u9000_], .int .i64 a1] w fun e w' => e = .returned (.int .i64 r1) ∧ Kd.R (Kd.int .i64) 3 w' w0.heap.size (fun k_ => (P0_2_ k_ ∨ w.heap.size ≤ k_)) u9000_ r2 ∧ Below w0.heap.size w0 w' ∧ Kept w w' (fun k_ => P0_2_ k_) := by
 have hu33 := Tryz.underlying33
 have HO0_2 := Aside0.mk (show Kd.R (Kd.int .i64) 3 w w0.heap.size (fun k_ => (P0_2_ k_ ∨ w.heap.size ≤ k_)) u9000_ l0_2 from Kd.R_mono ho0_2 (fun k_ hk => (.inl hk)))
 have HK := Aside0.mk (Kept.refl w (fun k_ => P0_2_ k_))
 have HW0 := Aside0.mk hB.size; have HB := Aside0.mk hB; clear hB
 have H : ((laws_markIntS.f k l0_2 a1).bind fun bt456 => (some (bt456.1, bt456.2))) = some (r1, r2) := h
 clear h; obtain ⟨⟨t456, t457⟩, A30, H⟩ := Option.bind_eq_some_iff.mp H
 try dsimp only at H
 have A3 := Aside0.mk A30; clear A30
 simp only [Option.some.injEq, Prod.mk.injEq] at H
 obtain ⟨rfl, rfl⟩ := H; obtain ⟨Ao4, co4, eo4⟩ := Kd.R_slice HO0_2.out; subst eo4
 go_enter Tryz.func28, Tryz.ntmps28
 go_wp2_with (first | ((with_reducible refine gd 2 ?_); refine bA 2 #[.int .i64 a0_0, .string a0_1, .slice Ao4 l0_2.length co4] 33 ?_; intro gb455 hg w5 hbox hb; replace HO0_2 := rb HO0_2 hb; have BK455 := Aside0.mk (hbox); have GW455 := Aside0.mk ((by rw [hg]; exact (by first | exact HK.out.1 | exact (show Kept w _ (fun k_ => P0_2_ k_) from y0_4).1) : w.heap.size ≤ gb455)); have GJ455 := gi GW455; replace HK := Aside0.mk (Kept.below (S := (fun k_ => P0_2_ k_)) y0_4 hb); have GE455 := bg hg HB; have GI455 := gi GE455; replace HB := bs HB hb; clear hb hbox hg; obtain ⟨hcz6_0, hcz6_1, hcz6_2, hfz6_0, hfz6_1, hfz6_2⟩ := cs3 BK455) | ((with_reducible refine gate_callee (f := 77) rfl ?_); refine gB (some 8) Tryz.func77 #[.slice Ao4 l0_2.length co4, .int .i64 a1] ?_; (with_reducible refine (laws_markIntS.calls k (fun k_ => some k_ = (.slice Ao4 l0_2.length co4 : Value).ownBlock) (.slice Ao4 l0_2.length co4) l0_2 a1 t456 t457 w0 _ ?side1 ?side2 A3.out).mono ?_); (case side1 => exact bI HB.out); (case side2 => exact Kd.R_tight rfl HO0_2.out); rintro e w7 ⟨rfl, hy0, hb, hkp⟩; refine ⟨_, rfl, ?_⟩; replace BK455 := Aside0.mk (blk_kept (kI BK455.out) hkp (fun hs_ => (fun e_ => (Kd.R_ne HO0_2.out BK455.out (by decide)) e_) hs_)); replace HK := Aside0.mk (Kept.then_ (S := (fun k_ => P0_2_ k_)) (by repeat (first | (with_reducible first | exact HK.out | apply Kept.alloc | apply Kept.drewN | apply Kept.drew | refine Kept.setCell ?_ (.inr GW455.out) _) | exact HK.out)) hkp (fun k_ hs_ => (fun e_ => (HO0_2.out.1 k_ e_.symm)) hs_)); replace HO0_2 := Aside0.mk (Kd.R_reok rfl hy0 (fun k_ e_ => HO0_2.out.1 k_ e_)); replace HB := Aside0.mk (hb); (try clear hb); (try clear hkp); (try clear hy0)))
 go_ret
 exact ⟨y0_7, by (with_reducible repeat (first | apply Kd.R_alloc | apply Kd.R_drewN | apply Kd.R_drew)); exact HO0_2.out, bI HB.out, by repeat (first | (with_reducible first | exact HK.out | apply Kept.alloc | apply Kept.drewN | apply Kept.drew | refine Kept.setCell ?_ (.inr GW455.out) _) | exact HK.out)⟩

/-! ### laws_markSafe: function 20 -/
def laws_markSafe.f (k : Nat) (a0_0 : Int) (a0_1 : Int) (a0_2 : Int) (a0_3 : ByteArray) (l0_4 : List Int) (a0_5 : ByteArray) (a1 : Int) : Option (Int × List Int) := (laws_markQc.f k a0_2 a0_3 l0_4 a1).bind fun bt459 => (some (bt459.1, bt459.2))
theorem laws_markSafe.mono : ∀ a0 a1 a2 a3 a4 a5 a6 k, LeO (laws_markSafe.f k a0 a1 a2 a3 a4 a5 a6) (laws_markSafe.f (k + 1) a0 a1 a2 a3 a4 a5 a6) := by
 intro a0 a1 a2 a3 a4 a5 a6 k
 unfold laws_markSafe.f
 repeat' first | (with_reducible exact laws_markQc.mono _ _ _ _ _) | (with_reducible exact LeO.refl _) | (with_reducible exact LeO.none _) | (with_reducible refine LeO.ite ?_ ?_) | (with_reducible refine LeO.bind ?_ (fun _ => ?_))
set_option maxHeartbeats 8000000 in
set_option maxRecDepth 100000 in
theorem laws_markSafe.calls (k : Nat) (a0_0 : Int) (a0_1 : Int) (a0_2 : Int) (a0_3 : ByteArray) (P0_4_ : Nat → Prop) (u9000_ : Value) (l0_4 : List Int) (a0_5 : ByteArray) (a1 : Int) (r1 : Int) (r2 : List Int) (w0 w : World) (hB : Below w0.heap.size w0 w) (ho0_4 : Kd.R (Kd.int .i64) 3 w w0.heap.size P0_4_ u9000_ l0_4) (h : laws_markSafe.f k a0_0 a0_1 a0_2 a0_3 l0_4 a0_5 a1 = some (r1, r2)) :
  Calls Tryz.prog 20 #[.agg #[.int .i64 a0_0, .int .i64 a0_1, .int .i64 a0_2, .string a0_3, u9000_, .string a0_5], .int .i64 a1] w fun e w' => e = .returned (.int .i64 r1) ∧ Kd.R (Kd.int .i64) 3 w' w0.heap.size (fun k_ => (P0_4_ k_ ∨ w.heap.size ≤ k_)) u9000_ r2 ∧ Below w0.heap.size w0 w' ∧ Kept w w' (fun k_ => P0_4_ k_) := by
 have hu35 := Tryz.underlying35; have hu33 := Tryz.underlying33
 have HO0_4 := Aside0.mk (show Kd.R (Kd.int .i64) 3 w w0.heap.size (fun k_ => (P0_4_ k_ ∨ w.heap.size ≤ k_)) u9000_ l0_4 from Kd.R_mono ho0_4 (fun k_ hk => (.inl hk)))
 have HK := Aside0.mk (Kept.refl w (fun k_ => P0_4_ k_))
 have HW0 := Aside0.mk hB.size; have HB := Aside0.mk hB; clear hB
 have H : ((laws_markQc.f k a0_2 a0_3 l0_4 a1).bind fun bt459 => (some (bt459.1, bt459.2))) = some (r1, r2) := h
 clear h; obtain ⟨⟨t459, t460⟩, A30, H⟩ := Option.bind_eq_some_iff.mp H
 try dsimp only at H
 have A3 := Aside0.mk A30; clear A30
 simp only [Option.some.injEq, Prod.mk.injEq] at H
 obtain ⟨rfl, rfl⟩ := H; obtain ⟨Ao4, co4, eo4⟩ := Kd.R_slice HO0_4.out; subst eo4
 go_enter Tryz.func20, Tryz.ntmps20
 go_wp2_with (first | ((with_reducible refine gd 2 ?_); refine bA 2 #[.int .i64 a0_0, .int .i64 a0_1, .int .i64 a0_2, .string a0_3, .slice Ao4 l0_4.length co4, .string a0_5] 35 ?_; intro gb458 hg w5 hbox hb; replace HO0_4 := rb HO0_4 hb; have BK458 := Aside0.mk (hbox); have GW458 := Aside0.mk ((by rw [hg]; exact (by first | exact HK.out.1 | exact (show Kept w _ (fun k_ => P0_4_ k_) from y0_4).1) : w.heap.size ≤ gb458)); have GJ458 := gi GW458; replace HK := Aside0.mk (Kept.below (S := (fun k_ => P0_4_ k_)) y0_4 hb); have GE458 := bg hg HB; have GI458 := gi GE458; replace HB := bs HB hb; clear hb hbox hg; have hcz6_0 := bc0 BK458.out; have hcz6_1 := bc1 BK458.out; have hcz6_2 := bc2 BK458.out; have hcz6_3 := bc3 BK458.out; have hcz6_4 := bc4 BK458.out; have hcz6_5 := bc5 BK458.out; have hfz6_0 := blk_frozen BK458.out 0; have hfz6_1 := blk_frozen BK458.out 1; have hfz6_2 := blk_frozen BK458.out 2; have hfz6_3 := blk_frozen BK458.out 3; have hfz6_4 := blk_frozen BK458.out 4; have hfz6_5 := blk_frozen BK458.out 5) | ((with_reducible refine gate_callee (f := 28) rfl ?_); refine gB (some 8) Tryz.func28 #[.agg #[.int .i64 a0_2, .string a0_3, .slice Ao4 l0_4.length co4], .int .i64 a1] ?_; (with_reducible refine (laws_markQc.calls k a0_2 a0_3 (fun k_ => some k_ = (.slice Ao4 l0_4.length co4 : Value).ownBlock) (.slice Ao4 l0_4.length co4) l0_4 a1 t459 t460 w0 _ ?side1 ?side2 A3.out).mono ?_); (case side1 => exact bI HB.out); (case side2 => exact Kd.R_tight rfl HO0_4.out); rintro e w7 ⟨rfl, hy0, hb, hkp⟩; refine ⟨_, rfl, ?_⟩; replace BK458 := Aside0.mk (blk_kept (kI BK458.out) hkp (fun hs_ => (fun e_ => (Kd.R_ne HO0_4.out BK458.out (by decide)) e_) hs_)); replace HK := Aside0.mk (Kept.then_ (S := (fun k_ => P0_4_ k_)) (by repeat (first | (with_reducible first | exact HK.out | apply Kept.alloc | apply Kept.drewN | apply Kept.drew | refine Kept.setCell ?_ (.inr GW458.out) _) | exact HK.out)) hkp (fun k_ hs_ => (fun e_ => (HO0_4.out.1 k_ e_.symm)) hs_)); replace HO0_4 := Aside0.mk (Kd.R_reok rfl hy0 (fun k_ e_ => HO0_4.out.1 k_ e_)); replace HB := Aside0.mk (hb); (try clear hb); (try clear hkp); (try clear hy0)))
 go_ret
 exact ⟨y0_7, by (with_reducible repeat (first | apply Kd.R_alloc | apply Kd.R_drewN | apply Kd.R_drew)); exact HO0_4.out, bI HB.out, by repeat (first | (with_reducible first | exact HK.out | apply Kept.alloc | apply Kept.drewN | apply Kept.drew | refine Kept.setCell ?_ (.inr GW458.out) _) | exact HK.out)⟩

/-! ### laws_markBlock: function 21 -/
def laws_markBlock.f (k : Nat) (a0_0 : ByteArray) (a0_1 : Int) (a0_2 : ByteArray) (l0_3 : List Int) (a1 : Int) : Option (Int × List Int) := (laws_markQc.f k a0_1 a0_2 l0_3 a1).bind fun bt462 => (some (bt462.1, bt462.2))
theorem laws_markBlock.mono : ∀ a0 a1 a2 a3 a4 k, LeO (laws_markBlock.f k a0 a1 a2 a3 a4) (laws_markBlock.f (k + 1) a0 a1 a2 a3 a4) := by
 intro a0 a1 a2 a3 a4 k
 unfold laws_markBlock.f
 repeat' first | (with_reducible exact laws_markQc.mono _ _ _ _ _) | (with_reducible exact LeO.refl _) | (with_reducible exact LeO.none _) | (with_reducible refine LeO.ite ?_ ?_) | (with_reducible refine LeO.bind ?_ (fun _ => ?_))
set_option maxHeartbeats 8000000 in
set_option maxRecDepth 100000 in
theorem laws_markBlock.calls (k : Nat) (a0_0 : ByteArray) (a0_1 : Int) (a0_2 : ByteArray) (P0_3_ : Nat → Prop) (u9000_ : Value) (l0_3 : List Int) (a1 : Int) (r1 : Int) (r2 : List Int) (w0 w : World) (hB : Below w0.heap.size w0 w) (ho0_3 : Kd.R (Kd.int .i64) 3 w w0.heap.size P0_3_ u9000_ l0_3) (h : laws_markBlock.f k a0_0 a0_1 a0_2 l0_3 a1 = some (r1, r2)) :
  Calls Tryz.prog 21 #[.agg #[.string a0_0, .int .i64 a0_1, .string a0_2, u9000_], .int .i64 a1] w fun e w' => e = .returned (.int .i64 r1) ∧ Kd.R (Kd.int .i64) 3 w' w0.heap.size (fun k_ => (P0_3_ k_ ∨ w.heap.size ≤ k_)) u9000_ r2 ∧ Below w0.heap.size w0 w' ∧ Kept w w' (fun k_ => P0_3_ k_) := by
 have hu42 := Tryz.underlying42; have hu33 := Tryz.underlying33
 have HO0_3 := Aside0.mk (show Kd.R (Kd.int .i64) 3 w w0.heap.size (fun k_ => (P0_3_ k_ ∨ w.heap.size ≤ k_)) u9000_ l0_3 from Kd.R_mono ho0_3 (fun k_ hk => (.inl hk)))
 have HK := Aside0.mk (Kept.refl w (fun k_ => P0_3_ k_))
 have HW0 := Aside0.mk hB.size; have HB := Aside0.mk hB; clear hB
 have H : ((laws_markQc.f k a0_1 a0_2 l0_3 a1).bind fun bt462 => (some (bt462.1, bt462.2))) = some (r1, r2) := h
 clear h; obtain ⟨⟨t462, t463⟩, A30, H⟩ := Option.bind_eq_some_iff.mp H
 try dsimp only at H
 have A3 := Aside0.mk A30; clear A30
 simp only [Option.some.injEq, Prod.mk.injEq] at H
 obtain ⟨rfl, rfl⟩ := H; obtain ⟨Ao4, co4, eo4⟩ := Kd.R_slice HO0_3.out; subst eo4
 go_enter Tryz.func21, Tryz.ntmps21
 go_wp2_with (first | ((with_reducible refine gd 2 ?_); refine bA 2 #[.string a0_0, .int .i64 a0_1, .string a0_2, .slice Ao4 l0_3.length co4] 42 ?_; intro gb461 hg w5 hbox hb; replace HO0_3 := rb HO0_3 hb; have BK461 := Aside0.mk (hbox); have GW461 := Aside0.mk ((by rw [hg]; exact (by first | exact HK.out.1 | exact (show Kept w _ (fun k_ => P0_3_ k_) from y0_4).1) : w.heap.size ≤ gb461)); have GJ461 := gi GW461; replace HK := Aside0.mk (Kept.below (S := (fun k_ => P0_3_ k_)) y0_4 hb); have GE461 := bg hg HB; have GI461 := gi GE461; replace HB := bs HB hb; clear hb hbox hg; obtain ⟨hcz6_0, hcz6_1, hcz6_2, hcz6_3, hfz6_0, hfz6_1, hfz6_2, hfz6_3⟩ := cs4 BK461) | ((with_reducible refine gate_callee (f := 28) rfl ?_); refine gB (some 8) Tryz.func28 #[.agg #[.int .i64 a0_1, .string a0_2, .slice Ao4 l0_3.length co4], .int .i64 a1] ?_; (with_reducible refine (laws_markQc.calls k a0_1 a0_2 (fun k_ => some k_ = (.slice Ao4 l0_3.length co4 : Value).ownBlock) (.slice Ao4 l0_3.length co4) l0_3 a1 t462 t463 w0 _ ?side1 ?side2 A3.out).mono ?_); (case side1 => exact bI HB.out); (case side2 => exact Kd.R_tight rfl HO0_3.out); rintro e w7 ⟨rfl, hy0, hb, hkp⟩; refine ⟨_, rfl, ?_⟩; replace BK461 := Aside0.mk (blk_kept (kI BK461.out) hkp (fun hs_ => (fun e_ => (Kd.R_ne HO0_3.out BK461.out (by decide)) e_) hs_)); replace HK := Aside0.mk (Kept.then_ (S := (fun k_ => P0_3_ k_)) (by repeat (first | (with_reducible first | exact HK.out | apply Kept.alloc | apply Kept.drewN | apply Kept.drew | refine Kept.setCell ?_ (.inr GW461.out) _) | exact HK.out)) hkp (fun k_ hs_ => (fun e_ => (HO0_3.out.1 k_ e_.symm)) hs_)); replace HO0_3 := Aside0.mk (Kd.R_reok rfl hy0 (fun k_ e_ => HO0_3.out.1 k_ e_)); replace HB := Aside0.mk (hb); (try clear hb); (try clear hkp); (try clear hy0)))
 go_ret
 exact ⟨y0_7, by (with_reducible repeat (first | apply Kd.R_alloc | apply Kd.R_drewN | apply Kd.R_drew)); exact HO0_3.out, bI HB.out, by repeat (first | (with_reducible first | exact HK.out | apply Kept.alloc | apply Kept.drewN | apply Kept.drew | refine Kept.setCell ?_ (.inr GW461.out) _) | exact HK.out)⟩

/-! ### laws_heldIntS: function 104 -/
def laws_heldIntS.l0 : Nat → List Int → Int → Int → Option (Int)
 | 0, _, _, _ => none
 | k + 1, x0, x1, x5 => if x5 < (x0.length : Int) then (if 0 ≤ x5 then (if (rd x0 x5) = x1 then (laws_heldIntS.l0 k x0 (wrap64 (x1 + 1)) (wrap64 (x5 + 1))) else (some (-1))) else (none)) else (some x1)
def laws_heldIntS.f (k : Nat) (l0 : List Int) (a1 : Int) : Option (Int) := laws_heldIntS.l0 k l0 a1 0
theorem laws_heldIntS.mono_l : ∀ k, (∀ y0 y1 y2, LeO (laws_heldIntS.l0 k y0 y1 y2) (laws_heldIntS.l0 (k + 1) y0 y1 y2))
 | 0 => fun _ _ _ r h => by simp [laws_heldIntS.l0] at h
 | k + 1 => by
  have ih0 := laws_heldIntS.mono_l k
  intro y0 y1 y2
  unfold laws_heldIntS.l0
  repeat' first | (with_reducible exact ih0 _ _ _) | (with_reducible exact LeO.refl _) | (with_reducible exact LeO.none _) | (with_reducible refine LeO.ite ?_ ?_) | (with_reducible refine LeO.bind ?_ (fun _ => ?_))
theorem laws_heldIntS.mono : ∀ a0 a1 k, LeO (laws_heldIntS.f k a0 a1) (laws_heldIntS.f (k + 1) a0 a1) := by
 intro a0 a1 k
 have ih0 := laws_heldIntS.mono_l k
 unfold laws_heldIntS.f
 repeat' first | (with_reducible exact ih0 _ _ _) | (with_reducible exact LeO.refl _) | (with_reducible exact LeO.none _) | (with_reducible refine LeO.ite ?_ ?_) | (with_reducible refine LeO.bind ?_ (fun _ => ?_))
set_option maxHeartbeats 8000000 in
set_option maxRecDepth 100000 in
theorem laws_heldIntS.calls (k : Nat) (A0 : Option Addr) (c0 : Nat) (l0 : List Int) (a1 : Int) (r : Int) (w : World) (hr0 : Kd.C (Kd.int .i64) w A0 l0.length l0) (hc0 : l0.length ≤ c0) (h : laws_heldIntS.f k l0 a1 = some r) :
  Calls Tryz.prog 104 #[.slice A0 l0.length c0, .int .i64 a1] w fun e w' => e = .returned (.int .i64 r) ∧ Drawn0 w w' := by
 have HR0 := Aside0.mk hr0; have HC0 := Aside0.mk hc0; clear hr0 hc0; have H : (laws_heldIntS.l0 k l0 a1 0) = some r := h; clear h; have H' := Aside0.mk H; clear H
 go_enter Tryz.func104, Tryz.ntmps104
 go_wp2
 go_loopg [1, 5] k (fun kq v1 v5 w' => ∃ (x1_1 : Int) (x5_1 : Int), v1 = .int .i64 x1_1 ∧ v5 = .int .i64 x5_1 ∧ Aside0 (laws_heldIntS.l0 kq l0 x1_1 x5_1 = some r) ∧ Aside0 (kq ≤ k) ∧ Drawn0 w w')
 case atStart => exact ⟨(a1), (0), y0_10, y0_10, H', ⟨Nat.le_refl _⟩, y0_8⟩
 case round =>
  clear H'
  try clear c1
  try clear p2
  obtain ⟨x1_1, x5_1, rfl, rfl, HA, HK1, ⟨m1, rfl⟩⟩ := hrel; cases gk with
  | zero => exact absurd HA.out (by simp [laws_heldIntS.l0])
  | succ k1 =>
   have H := HA.out; clear HA
   simp only [laws_heldIntS.l0] at H
   by_cases c3 : x5_1 < (l0.length : Int)
   ·
    rw [if_pos c3] at H
    have c3b0 : decide (x5_1 < (l0.length : Int)) = true := decide_eq_true c3; clear c3
    by_cases c4 : 0 ≤ x5_1
    rotate_left
    ·
     rw [if_neg c4] at H
     exact absurd H (by simp)
    rw [if_pos c4] at H
    have c4b0 : decide (0 ≤ x5_1) = true := decide_eq_true c4; clear c4
    by_cases c5 : (rd l0 x5_1) = x1_1
    ·
     rw [if_pos c5] at H
     have c5b0 : ((rd l0 x5_1) == x1_1) = true := beq_iff_eq.mpr c5; have c5b1 : ((rd l0 x5_1) != x1_1) = false := bne_eq_false_iff_eq.mpr c5; clear c5; have H' := Aside0.mk H; clear H; have p464 : 0 ≤ (x5_1 : Int) := of_decide_eq_true y0_9; have q464 : x5_1 < (l0.length : Int) := of_decide_eq_true y0_9; obtain ⟨ad464, e464, hx464_0⟩ := Kd.at_int HR0.out x5_1 p464 q464; cases e464; replace p464 := eq_true p464; replace q464 := eq_true q464
     go_wp2
     go_roundg k1
     case measure => have := HK1.out; omega
     case rel => exact ⟨(wrap64 (x1_1 + 1)), (wrap64 (x5_1 + 1)), y0_10, y0_10, H', ⟨y0_14⟩, y0_8⟩
    rw [if_neg c5] at H
    have c5b0 : ((rd l0 x5_1) == x1_1) = false := beq_eq_false_iff_ne.mpr c5; have c5b1 : ((rd l0 x5_1) != x1_1) = true := bne_iff_ne.mpr c5; obtain rfl := Option.some.inj H; have p464 : 0 ≤ (x5_1 : Int) := of_decide_eq_true y0_9; have q464 : x5_1 < (l0.length : Int) := of_decide_eq_true y0_9; obtain ⟨ad464, e464, hx464_0⟩ := Kd.at_int HR0.out x5_1 p464 q464; cases e464; replace p464 := eq_true p464; replace q464 := eq_true q464
    go_wp2
    go_ret
    exact ⟨y0_10, y0_8⟩
   rw [if_neg c3] at H
   have c3b0 : decide (x5_1 < (l0.length : Int)) = false := decide_eq_false c3; clear c3; obtain rfl := Option.some.inj H
   go_wp2
   go_ret
   exact ⟨y0_10, y0_8⟩

end Go.Proofs.YtemjmefacifdeaaGreatDoor.PFnExactVote
