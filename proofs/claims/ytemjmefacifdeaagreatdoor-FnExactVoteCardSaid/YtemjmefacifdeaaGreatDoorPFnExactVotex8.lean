-- By a program of this session, out of the translation (the print of the kit, with turns of its own). Lean checks it.
import Derived.Test.YtemjmefacifdeaaGreatDoorPFnExactVotex0
import Derived.Test.YtemjmefacifdeaaGreatDoorPFnExactVotex3
import Derived.Test.YtemjmefacifdeaaGreatDoorPFnExactVotex7
namespace Go.Proofs.YtemjmefacifdeaaGreatDoor.PFnExactVote
open Go.RowKit Go.Proofs.YtemjmefacifdeaaGreatDoorW.PrintWords Go.Proofs.YtemjmefacifdeaaGreatDoorW.PrintLast Go.Proofs.YtemjmefacifdeaaGreatDoorW.PrintMore
attribute [local go_sem] max2_int min2_int max_two min_two max_three min_three max_four min_four   -- for this text's walks alone
set_option linter.unusedVariables false
set_option linter.unusedSimpArgs false

/-! ### spec_l7Copy: function 79 -/
def spec_l7Copy.f (a0_0 : Int) (a0_1 : ByteArray) (l0_2 : List Int) : Option (Int × ByteArray × List Int) := (some (([] : List Int) : List Int)).bind fun y243 => (if y243.length + l0_2.length < 17592186044416 then (some (a0_0, a0_1, (y243 ++ l0_2))) else (none))
set_option maxHeartbeats 8000000 in
set_option maxRecDepth 100000 in
theorem spec_l7Copy.calls (a0_0 : Int) (a0_1 : ByteArray) (A0_2 : Option Addr) (c0_2 : Nat) (l0_2 : List Int) (r1 : Int) (r2 : ByteArray) (r3 : List Int) (w : World) (hr0_2 : Kd.C (Kd.int .i64) w A0_2 l0_2.length l0_2) (hc0_2 : l0_2.length ≤ c0_2) (h : spec_l7Copy.f a0_0 a0_1 l0_2 = some (r1, r2, r3)) :
  Calls Tryz.prog 79 #[.agg #[.int .i64 a0_0, .string a0_1, .slice A0_2 l0_2.length c0_2]] w fun e w' => ∃ v2_ : Value, e = .returned (.agg #[.int .i64 r1, .string r2, v2_]) ∧ Kd.R (Kd.int .i64) 3 w' w.heap.size (fun _ => True) v2_ r3 ∧ Below w.heap.size w w' := by
 have hu33 := Tryz.underlying33; have HR0_2 := Aside0.mk hr0_2; have HC0_2 := Aside0.mk hc0_2; clear hr0_2 hc0_2; have HB := Aside0.mk (Below.refl w.heap.size w)
 have H : ((some (([] : List Int) : List Int)).bind fun y243 => (if y243.length + l0_2.length < 17592186044416 then (some (a0_0, a0_1, (y243 ++ l0_2))) else (none))) = some (r1, r2, r3) := h
 clear h; obtain ⟨y243, hy243⟩ : ∃ y_ : List Int, y_ = (([] : List Int)) := ⟨_, rfl⟩
 replace H : (if y243.length + l0_2.length < 17592186044416 then (some (a0_0, a0_1, (y243 ++ l0_2))) else (none)) = some (r1, r2, r3) := by first | (rw [hy243]; with_reducible exact H) | (have H2_ := (Option.bind_some _ _).symm.trans H; rw [hy243]; with_reducible exact H2_) | (have H2_ := (Option.bind_some _ _).symm.trans H; with_reducible exact H2_) | with_reducible exact H | (rw [hy243]; exact H) | exact H
 have Ny243 := Aside0.mk hy243; clear hy243
 by_cases c2 : y243.length + l0_2.length < 17592186044416
 ·
  rw [if_pos c2] at H
  have LMc2 := Aside0.mk c2; clear c2; obtain ⟨y246, hy246⟩ : ∃ y_ : List Int, y_ = (y243 ++ l0_2) := ⟨_, rfl⟩
  replace H : (some (a0_0, a0_1, y246)) = some (r1, r2, r3) := by first | (rw [hy246]; with_reducible exact H) | (have H2_ := (Option.bind_some _ _).symm.trans H; rw [hy246]; with_reducible exact H2_) | (have H2_ := (Option.bind_some _ _).symm.trans H; with_reducible exact H2_) | with_reducible exact H | (rw [hy246]; exact H) | exact H
  have Ny246 := Aside0.mk hy246; clear hy246
  simp only [Option.some.injEq, Prod.mk.injEq] at H
  obtain ⟨rfl, rfl, rfl⟩ := H
  go_enter Tryz.func79, Tryz.ntmps79
  go_wp2_with (first | ((with_reducible refine gd 1 ?_); refine bA 1 #[.int .i64 a0_0, .string a0_1, .slice A0_2 l0_2.length c0_2] 33 ?_; intro gb241 hg w3 hbox hb; have BK241 := Aside0.mk (hbox); have GW241 := bg hg HB; have GJ241 := gi GW241; have GE241 := GW241; replace HB := bs HB hb; clear hb hbox hg) | ((with_reducible refine gd 2 ?_); refine bA 2 #[.int .i64 0, .string (⟨#[]⟩ : ByteArray), .slice none 0 0] 33 ?_; intro gb242 hg w4 hbox hb; have BK242 := Aside0.mk (hbox); have GW242 := bg hg HB; have GJ242 := gi GW242; have GE242 := GW242; replace HB := bs HB hb; have NB241_242 := b1 BK241 hg; have NI241_242 := ni NB241_242; have NB242_241 := b2 BK241 hg; have NI242_241 := ni NB242_241; replace BK241 := bk BK241 hb; clear hb hbox hg) | ((with_reducible refine gate_dst (N := 3) rfl ?_); refine Kd.R_lit (Kd.int .i64) _ 3 ?hg (N := 3) ?hd (xs := ([] : List Int)) (inner := []) (ok := fun _ => True) (okp := fun _ => True) ?hr ?hp (fun _ hk => hk) trivial (Below.refl _ _) (Nat.le_refl _) (by simp) ?_; (case hd => rfl); (case hg => rfl); (case hr => first | (go_simp; done) | (go_simp; rfl)); (case hp => exact (Reps.none _ _)); intro v244 w5 ho6 hb hg_ hnew_; clear hg_ hnew_; (first | rw [← Ny243.out] at ho6 | (simp only [Int.reduceToNat] at ho6; rw [← Ny243.out] at ho6)); have HO245 := Aside0.mk (Kd.R_lower ho6 (below_size (bI HB.out))); replace BK241 := bk BK241 hb; replace BK242 := bk BK242 hb; replace HB := bs HB hb; clear hb ho6; have hnb7 := NB241_242.out; have hnc7 := NB242_241.out; obtain ⟨hcz8_0, hcz8_1, hcz8_2, hfz8_0, hfz8_1, hfz8_2⟩ := cs3 BK241) | ((with_reducible refine gate_builtin (b := .append) (xs := #[.tmp 3, .tmp 5]) rfl ?_); at_builtin; refine Kd.R_append_rows (Kd.int .i64) (w0 := w) w.heap.size rfl (.tmp 3) (.tmp 5) 24 3 (.int .i64 0) 8 rfl Tryz.underlying24 info3 rfl (by decide) (by omega) v244 y243 l0_2 _ _ _ (fun _ => True) (fun _ => False) rfl rfl ?aO ?aR (fun _ _ h => h) (fun _ h => h.elim) ?aF ?aB ?aS ?aL ?_; (case aR => exact ch HR0_2 HB); (case aB => exact (bI HB.out)); (case aF => exact (fun _ _ => trivial)); (case aO => exact (rI HO245.out)); (case aS => exact (below_size (bI HB.out))); (case aL => have := LMc2.out; omega); intro v247 w9 ho hb hg hat; rw [← Ny246.out] at ho; have n0_ := bn BK241 hg (Kd.R_ne HO245.out BK241.out (by decide)); have n1_ := bn BK242 hg (Kd.R_ne HO245.out BK242.out (by decide)); have n2_ := Aside0.mk (hb); have n3_ := Aside0.mk (ho); clear BK241; clear BK242; clear HB; clear HO245; have BK241 := n0_; have BK242 := n1_; have HB := n2_; have HO248 := n3_; clear n0_ n1_ n2_ n3_; clear ho hb hg hat; obtain ⟨Ao10, co10, eo10⟩ := Kd.R_slice HO248.out; subst eo10; obtain ⟨hcz11_0, hcz11_1, hcz11_2, hfz11_0, hfz11_1, hfz11_2⟩ := cs3 BK241; obtain ⟨hcz12_0, hcz12_1, hcz12_2, hfz12_0, hfz12_1, hfz12_2⟩ := cs3 BK242))
  refine bodyPost_ret (results_cell_row rfl _ _ gb242 33 #[.int .i64 a0_0, .string a0_1, .slice Ao10 y246.length co10] (0, 0) _ rfl (pI BK242) Tryz.underlying33 rfl (by kernel_rfl)) rfl ?_
  exact ⟨_, y0_7, by (with_reducible repeat (first | apply Kd.R_alloc | apply Kd.R_drewN | apply Kd.R_drew)); exact Kd.R_mono (Kd.R_far (p := ⟨gb242, 2, none⟩) (Kd.R_far (p := ⟨gb242, 1, none⟩) (Kd.R_far (p := ⟨gb242, 0, none⟩) (Kd.R_far (p := ⟨gb241, 2, none⟩) (Kd.R_types (Kd.R_types HO248.out BK241.out (by decide)) BK242.out (by decide)) (fun _ hk => hk.1.2) (.slice Ao10 y246.length co10)) (fun _ hk => hk.2) (.int .i64 a0_0)) (fun _ hk => hk.2) (.string a0_1)) (fun _ hk => hk.2) (.slice Ao10 y246.length co10)) (fun _ hk => trivial), bI HB.out⟩
 rw [if_neg c2] at H
 exact absurd H (by simp)

/-! ### spec_l11Copy: function 61 -/
def spec_l11Copy.f (a0_0 : Int) (a0_1 : Int) (a0_2 : Int) (a0_3 : ByteArray) (l0_4 : List Int) (a0_5 : ByteArray) : Option (Int × Int × Int × ByteArray × List Int × ByteArray) := (spec_l7Copy.f a0_2 a0_3 l0_4).bind fun bt251 => (some (a0_0, a0_1, bt251.1, bt251.2.1, bt251.2.2, a0_5))
set_option maxHeartbeats 8000000 in
set_option maxRecDepth 100000 in
theorem spec_l11Copy.calls (a0_0 : Int) (a0_1 : Int) (a0_2 : Int) (a0_3 : ByteArray) (A0_4 : Option Addr) (c0_4 : Nat) (l0_4 : List Int) (a0_5 : ByteArray) (r1 : Int) (r2 : Int) (r3 : Int) (r4 : ByteArray) (r5 : List Int) (r6 : ByteArray) (w : World) (hr0_4 : Kd.C (Kd.int .i64) w A0_4 l0_4.length l0_4) (hc0_4 : l0_4.length ≤ c0_4) (h : spec_l11Copy.f a0_0 a0_1 a0_2 a0_3 l0_4 a0_5 = some (r1, r2, r3, r4, r5, r6)) :
  Calls Tryz.prog 61 #[.agg #[.int .i64 a0_0, .int .i64 a0_1, .int .i64 a0_2, .string a0_3, .slice A0_4 l0_4.length c0_4, .string a0_5]] w fun e w' => ∃ v4_ : Value, e = .returned (.agg #[.int .i64 r1, .int .i64 r2, .int .i64 r3, .string r4, v4_, .string r6]) ∧ Kd.R (Kd.int .i64) 3 w' w.heap.size (fun _ => True) v4_ r5 ∧ Below w.heap.size w w' := by
 have hu35 := Tryz.underlying35; have hu33 := Tryz.underlying33; have HR0_4 := Aside0.mk hr0_4; have HC0_4 := Aside0.mk hc0_4; clear hr0_4 hc0_4; have HB := Aside0.mk (Below.refl w.heap.size w)
 have H : ((spec_l7Copy.f a0_2 a0_3 l0_4).bind fun bt251 => (some (a0_0, a0_1, bt251.1, bt251.2.1, bt251.2.2, a0_5))) = some (r1, r2, r3, r4, r5, r6) := h
 clear h; obtain ⟨⟨t251, t252, t253⟩, A20, H⟩ := Option.bind_eq_some_iff.mp H
 try dsimp only at H
 have A2 := Aside0.mk A20; clear A20
 simp only [Option.some.injEq, Prod.mk.injEq] at H
 obtain ⟨rfl, rfl, rfl, rfl, rfl, rfl⟩ := H
 go_enter Tryz.func61, Tryz.ntmps61
 go_wp2_with (first | ((with_reducible refine gd 1 ?_); refine bA 1 #[.int .i64 a0_0, .int .i64 a0_1, .int .i64 a0_2, .string a0_3, .slice A0_4 l0_4.length c0_4, .string a0_5] 35 ?_; intro gb249 hg w3 hbox hb; have BK249 := Aside0.mk (hbox); have GW249 := bg hg HB; have GJ249 := gi GW249; have GE249 := GW249; replace HB := bs HB hb; clear hb hbox hg) | ((with_reducible refine gd 2 ?_); refine bA 2 #[.int .i64 0, .int .i64 0, .int .i64 0, .string (⟨#[]⟩ : ByteArray), .slice none 0 0, .string (⟨#[]⟩ : ByteArray)] 35 ?_; intro gb250 hg w4 hbox hb; have BK250 := Aside0.mk (hbox); have GW250 := bg hg HB; have GJ250 := gi GW250; have GE250 := GW250; replace HB := bs HB hb; have NB249_250 := b1 BK249 hg; have NI249_250 := ni NB249_250; have NB250_249 := b2 BK249 hg; have NI250_249 := ni NB250_249; replace BK249 := bk BK249 hb; clear hb hbox hg; have hnb5 := NB249_250.out; have hnc5 := NB250_249.out; have hcz6_0 := bc0 BK249.out; have hcz6_1 := bc1 BK249.out; have hcz6_2 := bc2 BK249.out; have hcz6_3 := bc3 BK249.out; have hcz6_4 := bc4 BK249.out; have hcz6_5 := bc5 BK249.out; have hfz6_0 := blk_frozen BK249.out 0; have hfz6_1 := blk_frozen BK249.out 1; have hfz6_2 := blk_frozen BK249.out 2; have hfz6_3 := blk_frozen BK249.out 3; have hfz6_4 := blk_frozen BK249.out 4; have hfz6_5 := blk_frozen BK249.out 5) | ((with_reducible refine gate_callee (f := 79) rfl ?_); refine gB (some 5) Tryz.func79 #[.agg #[.int .i64 a0_2, .string a0_3, .slice A0_4 l0_4.length c0_4]] ?_; (with_reducible refine (spec_l7Copy.calls a0_2 a0_3 _ _ l0_4 t251 t252 t253 _ ?side1 ?side2 A2.out).mono ?_); (case side1 => exact ch HR0_4 HB); (case side2 => exact HC0_4.out); rintro e w7 ⟨v254, rfl, ho0, hb⟩; refine ⟨_, rfl, ?_⟩; have HO255 := Aside0.mk (Kd.R_lower ho0 (below_size (bI HB.out))); replace BK249 := bk BK249 hb; replace BK250 := bk BK250 hb; replace HB := bs HB hb; (try clear hb); (try clear ho0); have hcz8_0 := bc0 BK249.out; have hcz8_1 := bc1 BK249.out; have hcz8_2 := bc2 BK249.out; have hcz8_3 := bc3 BK249.out; have hcz8_4 := bc4 BK249.out; have hcz8_5 := bc5 BK249.out; have hfz8_0 := blk_frozen BK249.out 0; have hfz8_1 := blk_frozen BK249.out 1; have hfz8_2 := blk_frozen BK249.out 2; have hfz8_3 := blk_frozen BK249.out 3; have hfz8_4 := blk_frozen BK249.out 4; have hfz8_5 := blk_frozen BK249.out 5; obtain ⟨Ao9, co9, eo9⟩ := Kd.R_slice HO255.out; subst eo9; have hcz10_0 := bc0 BK250.out; have hcz10_1 := bc1 BK250.out; have hcz10_2 := bc2 BK250.out; have hcz10_3 := bc3 BK250.out; have hcz10_4 := bc4 BK250.out; have hcz10_5 := bc5 BK250.out; have hfz10_0 := blk_frozen BK250.out 0; have hfz10_1 := blk_frozen BK250.out 1; have hfz10_2 := blk_frozen BK250.out 2; have hfz10_3 := blk_frozen BK250.out 3; have hfz10_4 := blk_frozen BK250.out 4; have hfz10_5 := blk_frozen BK250.out 5))
 refine bodyPost_ret (results_cell_row rfl _ _ gb250 35 #[.int .i64 a0_0, .int .i64 a0_1, .int .i64 t251, .string t252, .slice Ao9 t253.length co9, .string a0_5] (0, 0) _ rfl (pI BK250) Tryz.underlying35 rfl (by kernel_rfl)) rfl ?_
 exact ⟨_, y0_7, by (with_reducible repeat (first | apply Kd.R_alloc | apply Kd.R_drewN | apply Kd.R_drew)); exact Kd.R_mono (Kd.R_far (p := ⟨gb250, 5, none⟩) (Kd.R_far (p := ⟨gb250, 4, none⟩) (Kd.R_far (p := ⟨gb250, 3, none⟩) (Kd.R_far (p := ⟨gb250, 2, none⟩) (Kd.R_far (p := ⟨gb250, 1, none⟩) (Kd.R_far (p := ⟨gb250, 0, none⟩) (Kd.R_far (p := ⟨gb249, 4, none⟩) (Kd.R_far (p := ⟨gb249, 3, none⟩) (Kd.R_far (p := ⟨gb249, 2, none⟩) (Kd.R_types (Kd.R_types HO255.out BK249.out (by decide)) BK250.out (by decide)) (fun _ hk => hk.1.2) (.int .i64 t251)) (fun _ hk => hk.1.2) (.string t252)) (fun _ hk => hk.1.2) (.slice Ao9 t253.length co9)) (fun _ hk => hk.2) (.int .i64 a0_0)) (fun _ hk => hk.2) (.int .i64 a0_1)) (fun _ hk => hk.2) (.int .i64 t251)) (fun _ hk => hk.2) (.string t252)) (fun _ hk => hk.2) (.slice Ao9 t253.length co9)) (fun _ hk => hk.2) (.string a0_5)) (fun _ hk => trivial), bI HB.out⟩

/-! ### spec_Vote: function 13 -/
def spec_Vote.f (k : Nat) (a0_0 : Int) (a0_1 : Int) (a1_0 : Int) (a1_1 : Int) (a1_2 : Int) (a1_3 : ByteArray) (l1_4 : List Int) (a1_5 : ByteArray) (a2_0 : ByteArray) (a2_1 : Int) (a2_2 : ByteArray) (l2_3 : List Int) : Option (Int × Int × Int × ByteArray × List Int × ByteArray × Bool) := (spec_l11Copy.f a1_0 a1_1 a1_2 a1_3 l1_4 a1_5).bind fun bt260 => ((spec_MayVote.f k a0_0 a0_1 a1_0 a1_1 a1_2 a1_3 l1_4 a1_5 a2_0 a2_1 a2_2 l2_3).bind fun t269 => (if t269 = true then ((spec_ViewOf.f k a2_0).bind fun t270 => (some (t270, bt260.2.1, bt260.2.2.1, bt260.2.2.2.1, bt260.2.2.2.2.1, bt260.2.2.2.2.2, true))) else (some (bt260.1, bt260.2.1, bt260.2.2.1, bt260.2.2.2.1, bt260.2.2.2.2.1, bt260.2.2.2.2.2, false))))
theorem spec_Vote.mono : ∀ a0 a1 a2 a3 a4 a5 a6 a7 a8 a9 a10 a11 k, LeO (spec_Vote.f k a0 a1 a2 a3 a4 a5 a6 a7 a8 a9 a10 a11) (spec_Vote.f (k + 1) a0 a1 a2 a3 a4 a5 a6 a7 a8 a9 a10 a11) := by
 intro a0 a1 a2 a3 a4 a5 a6 a7 a8 a9 a10 a11 k
 unfold spec_Vote.f
 repeat' first | (with_reducible exact spec_MayVote.mono _ _ _ _ _ _ _ _ _ _ _ _ _) | (with_reducible exact spec_ViewOf.mono _ _) | (with_reducible exact LeO.refl _) | (with_reducible exact LeO.none _) | (with_reducible refine LeO.ite ?_ ?_) | (with_reducible refine LeO.bind ?_ (fun _ => ?_))
set_option maxHeartbeats 8000000 in
set_option maxRecDepth 100000 in
theorem spec_Vote.calls (k : Nat) (a0_0 : Int) (a0_1 : Int) (a1_0 : Int) (a1_1 : Int) (a1_2 : Int) (a1_3 : ByteArray) (A1_4 : Option Addr) (c1_4 : Nat) (l1_4 : List Int) (a1_5 : ByteArray) (a2_0 : ByteArray) (a2_1 : Int) (a2_2 : ByteArray) (A2_3 : Option Addr) (c2_3 : Nat) (l2_3 : List Int) (r1 : Int) (r2 : Int) (r3 : Int) (r4 : ByteArray) (r5 : List Int) (r6 : ByteArray) (r7 : Bool) (w : World) (hr1_4 : Kd.C (Kd.int .i64) w A1_4 l1_4.length l1_4) (hc1_4 : l1_4.length ≤ c1_4) (hr2_3 : Kd.C (Kd.int .i64) w A2_3 l2_3.length l2_3) (hc2_3 : l2_3.length ≤ c2_3) (h : spec_Vote.f k a0_0 a0_1 a1_0 a1_1 a1_2 a1_3 l1_4 a1_5 a2_0 a2_1 a2_2 l2_3 = some (r1, r2, r3, r4, r5, r6, r7)) :
  Calls Tryz.prog 13 #[.agg #[.int .i64 a0_0, .int .i64 a0_1], .agg #[.int .i64 a1_0, .int .i64 a1_1, .int .i64 a1_2, .string a1_3, .slice A1_4 l1_4.length c1_4, .string a1_5], .agg #[.string a2_0, .int .i64 a2_1, .string a2_2, .slice A2_3 l2_3.length c2_3]] w fun e w' => ∃ v4_ : Value, e = .returned (.tuple #[.agg #[.int .i64 r1, .int .i64 r2, .int .i64 r3, .string r4, v4_, .string r6], .bool r7]) ∧ Kd.R (Kd.int .i64) 3 w' w.heap.size (fun _ => True) v4_ r5 ∧ Below w.heap.size w w' := by
 have hu38 := Tryz.underlying38; have hu35 := Tryz.underlying35; have hu42 := Tryz.underlying42; have HR1_4 := Aside0.mk hr1_4; have HC1_4 := Aside0.mk hc1_4; clear hr1_4 hc1_4; have HR2_3 := Aside0.mk hr2_3; have HC2_3 := Aside0.mk hc2_3; clear hr2_3 hc2_3; have HB := Aside0.mk (Below.refl w.heap.size w)
 have H : ((spec_l11Copy.f a1_0 a1_1 a1_2 a1_3 l1_4 a1_5).bind fun bt260 => ((spec_MayVote.f k a0_0 a0_1 a1_0 a1_1 a1_2 a1_3 l1_4 a1_5 a2_0 a2_1 a2_2 l2_3).bind fun t269 => (if t269 = true then ((spec_ViewOf.f k a2_0).bind fun t270 => (some (t270, bt260.2.1, bt260.2.2.1, bt260.2.2.2.1, bt260.2.2.2.2.1, bt260.2.2.2.2.2, true))) else (some (bt260.1, bt260.2.1, bt260.2.2.1, bt260.2.2.2.1, bt260.2.2.2.2.1, bt260.2.2.2.2.2, false))))) = some (r1, r2, r3, r4, r5, r6, r7) := h
 clear h; obtain ⟨⟨t260, t261, t262, t263, t264, t267⟩, A40, H⟩ := Option.bind_eq_some_iff.mp H
 try dsimp only at H
 have A4 := Aside0.mk A40; clear A40; obtain ⟨t269, A50, H⟩ := Option.bind_eq_some_iff.mp H
 try dsimp only at H
 have A5 := Aside0.mk A50; clear A50
 by_cases c6 : t269 = true
 ·
  subst c6
  rw [if_pos rfl] at H
  obtain ⟨t270, A70, H⟩ := Option.bind_eq_some_iff.mp H
  try dsimp only at H
  have A7 := Aside0.mk A70; clear A70
  simp only [Option.some.injEq, Prod.mk.injEq] at H
  obtain ⟨rfl, rfl, rfl, rfl, rfl, rfl, rfl⟩ := H
  go_enter Tryz.func13, Tryz.ntmps13
  go_wp2_with (first | ((with_reducible refine gd 3 ?_); refine bA 3 #[.int .i64 a0_0, .int .i64 a0_1] 38 ?_; intro gb256 hg w8 hbox hb; have BK256 := Aside0.mk (hbox); have GW256 := bg hg HB; have GJ256 := gi GW256; have GE256 := GW256; replace HB := bs HB hb; clear hb hbox hg) | ((with_reducible refine gd 4 ?_); refine bA 4 #[.int .i64 a1_0, .int .i64 a1_1, .int .i64 a1_2, .string a1_3, .slice A1_4 l1_4.length c1_4, .string a1_5] 35 ?_; intro gb257 hg w9 hbox hb; have BK257 := Aside0.mk (hbox); have GW257 := bg hg HB; have GJ257 := gi GW257; have GE257 := GW257; replace HB := bs HB hb; have NB256_257 := b1 BK256 hg; have NI256_257 := ni NB256_257; have NB257_256 := b2 BK256 hg; have NI257_256 := ni NB257_256; replace BK256 := bk BK256 hb; clear hb hbox hg) | ((with_reducible refine gd 5 ?_); refine bA 5 #[.string a2_0, .int .i64 a2_1, .string a2_2, .slice A2_3 l2_3.length c2_3] 42 ?_; intro gb258 hg w10 hbox hb; have BK258 := Aside0.mk (hbox); have GW258 := bg hg HB; have GJ258 := gi GW258; have GE258 := GW258; replace HB := bs HB hb; have NB256_258 := b1 BK256 hg; have NI256_258 := ni NB256_258; have NB258_256 := b2 BK256 hg; have NI258_256 := ni NB258_256; replace BK256 := bk BK256 hb; have NB257_258 := b1 BK257 hg; have NI257_258 := ni NB257_258; have NB258_257 := b2 BK257 hg; have NI258_257 := ni NB258_257; replace BK257 := bk BK257 hb; clear hb hbox hg) | ((with_reducible refine gd 6 ?_); refine bA 6 #[.int .i64 0, .int .i64 0, .int .i64 0, .string (⟨#[]⟩ : ByteArray), .slice none 0 0, .string (⟨#[]⟩ : ByteArray)] 35 ?_; intro gb259 hg w11 hbox hb; have BK259 := Aside0.mk (hbox); have GW259 := bg hg HB; have GJ259 := gi GW259; have GE259 := GW259; replace HB := bs HB hb; have NB256_259 := b1 BK256 hg; have NI256_259 := ni NB256_259; have NB259_256 := b2 BK256 hg; have NI259_256 := ni NB259_256; replace BK256 := bk BK256 hb; have NB257_259 := b1 BK257 hg; have NI257_259 := ni NB257_259; have NB259_257 := b2 BK257 hg; have NI259_257 := ni NB259_257; replace BK257 := bk BK257 hb; have NB258_259 := b1 BK258 hg; have NI258_259 := ni NB258_259; have NB259_258 := b2 BK258 hg; have NI259_258 := ni NB259_258; replace BK258 := bk BK258 hb; clear hb hbox hg; have hnb12 := NB257_256.out; have hnc12 := NB256_257.out; have hnb13 := NB257_258.out; have hnc13 := NB258_257.out; have hnb14 := NB257_259.out; have hnc14 := NB259_257.out; have hcz15_0 := bc0 BK257.out; have hcz15_1 := bc1 BK257.out; have hcz15_2 := bc2 BK257.out; have hcz15_3 := bc3 BK257.out; have hcz15_4 := bc4 BK257.out; have hcz15_5 := bc5 BK257.out; have hfz15_0 := blk_frozen BK257.out 0; have hfz15_1 := blk_frozen BK257.out 1; have hfz15_2 := blk_frozen BK257.out 2; have hfz15_3 := blk_frozen BK257.out 3; have hfz15_4 := blk_frozen BK257.out 4; have hfz15_5 := blk_frozen BK257.out 5) | ((with_reducible refine gate_callee (f := 61) rfl ?_); refine gB (some 10) Tryz.func61 #[.agg #[.int .i64 a1_0, .int .i64 a1_1, .int .i64 a1_2, .string a1_3, .slice A1_4 l1_4.length c1_4, .string a1_5]] ?_; (with_reducible refine (spec_l11Copy.calls a1_0 a1_1 a1_2 a1_3 _ _ l1_4 a1_5 t260 t261 t262 t263 t264 t267 _ ?side1 ?side2 A4.out).mono ?_); (case side1 => exact ch HR1_4 HB); (case side2 => exact HC1_4.out); rintro e w16 ⟨v265, rfl, ho0, hb⟩; refine ⟨_, rfl, ?_⟩; have HO266 := Aside0.mk (Kd.R_lower ho0 (below_size (bI HB.out))); replace BK256 := bk BK256 hb; replace BK257 := bk BK257 hb; replace BK258 := bk BK258 hb; replace BK259 := bk BK259 hb; replace HB := bs HB hb; (try clear hb); (try clear ho0)) | ((with_reducible refine gd 8 ?_); refine bA 8 #[.int .i64 0, .int .i64 0, .int .i64 0, .string (⟨#[]⟩ : ByteArray), .slice none 0 0, .string (⟨#[]⟩ : ByteArray)] 35 ?_; intro gb268 hg w17 hbox hb; replace HO266 := rb HO266 hb; have BK268 := Aside0.mk (hbox); have GW268 := bg hg HB; have GJ268 := gi GW268; have GE268 := GW268; replace HB := bs HB hb; have NB256_268 := b1 BK256 hg; have NI256_268 := ni NB256_268; have NB268_256 := b2 BK256 hg; have NI268_256 := ni NB268_256; replace BK256 := bk BK256 hb; have NB257_268 := b1 BK257 hg; have NI257_268 := ni NB257_268; have NB268_257 := b2 BK257 hg; have NI268_257 := ni NB268_257; replace BK257 := bk BK257 hb; have NB258_268 := b1 BK258 hg; have NI258_268 := ni NB258_268; have NB268_258 := b2 BK258 hg; have NI268_258 := ni NB268_258; replace BK258 := bk BK258 hb; have NB259_268 := b1 BK259 hg; have NI259_268 := ni NB259_268; have NB268_259 := b2 BK259 hg; have NI268_259 := ni NB268_259; replace BK259 := bk BK259 hb; clear hb hbox hg; have hnb18 := NB268_256.out; have hnc18 := NB256_268.out; have hnb19 := NB268_257.out; have hnc19 := NB257_268.out; have hnb20 := NB268_258.out; have hnc20 := NB258_268.out; have hnb21 := NB268_259.out; have hnc21 := NB259_268.out; have hcz22_0 := bc0 BK268.out; have hcz22_1 := bc1 BK268.out; have hcz22_2 := bc2 BK268.out; have hcz22_3 := bc3 BK268.out; have hcz22_4 := bc4 BK268.out; have hcz22_5 := bc5 BK268.out; have hfz22_0 := blk_frozen BK268.out 0; have hfz22_1 := blk_frozen BK268.out 1; have hfz22_2 := blk_frozen BK268.out 2; have hfz22_3 := blk_frozen BK268.out 3; have hfz22_4 := blk_frozen BK268.out 4; have hfz22_5 := blk_frozen BK268.out 5; obtain ⟨Ao23, co23, eo23⟩ := Kd.R_slice HO266.out; subst eo23; have hnb24 := NB256_258.out; have hnc24 := NB258_256.out; have hnb25 := NB256_259.out; have hnc25 := NB259_256.out; obtain ⟨hcz26_0, hcz26_1, hfz26_0, hfz26_1⟩ := cs2 BK256; have hcz27_0 := bc0 BK257.out; have hcz27_1 := bc1 BK257.out; have hcz27_2 := bc2 BK257.out; have hcz27_3 := bc3 BK257.out; have hcz27_4 := bc4 BK257.out; have hcz27_5 := bc5 BK257.out; have hfz27_0 := blk_frozen BK257.out 0; have hfz27_1 := blk_frozen BK257.out 1; have hfz27_2 := blk_frozen BK257.out 2; have hfz27_3 := blk_frozen BK257.out 3; have hfz27_4 := blk_frozen BK257.out 4; have hfz27_5 := blk_frozen BK257.out 5; have hnb28 := NB258_259.out; have hnc28 := NB259_258.out; obtain ⟨hcz29_0, hcz29_1, hcz29_2, hcz29_3, hfz29_0, hfz29_1, hfz29_2, hfz29_3⟩ := cs4 BK258) | ((with_reducible refine gate_callee (f := 43) rfl ?_); refine gB (some 14) Tryz.func43 #[.agg #[.int .i64 a0_0, .int .i64 a0_1], .agg #[.int .i64 a1_0, .int .i64 a1_1, .int .i64 a1_2, .string a1_3, .slice A1_4 l1_4.length c1_4, .string a1_5], .agg #[.string a2_0, .int .i64 a2_1, .string a2_2, .slice A2_3 l2_3.length c2_3]] ?_; (with_reducible refine (spec_MayVote.calls k a0_0 a0_1 a1_0 a1_1 a1_2 a1_3 _ _ l1_4 a1_5 a2_0 a2_1 a2_2 _ _ l2_3 true _ ?side1 ?side2 ?side3 ?side4 A5.out).mono ?_); (case side1 => exact Kd.C_below HR1_4.out (bI HB.out)); (case side2 => exact HC1_4.out); (case side3 => exact Kd.C_below HR2_3.out (bI HB.out)); (case side4 => exact HC2_3.out); rintro e w30 ⟨rfl, hb⟩; refine ⟨_, rfl, ?_⟩; replace HO266 := Aside0.mk (Kd.R_below (rI (Kd.R_mono (Kd.R_far (p := ⟨gb268, 5, none⟩) (Kd.R_far (p := ⟨gb268, 4, none⟩) (Kd.R_far (p := ⟨gb268, 3, none⟩) (Kd.R_far (p := ⟨gb268, 2, none⟩) (Kd.R_far (p := ⟨gb268, 1, none⟩) (Kd.R_far (p := ⟨gb268, 0, none⟩) (Kd.R_types HO266.out BK268.out (by decide)) (fun _ hk => hk.2) (.int .i64 t260)) (fun _ hk => hk.2) (.int .i64 t261)) (fun _ hk => hk.2) (.int .i64 t262)) (fun _ hk => hk.2) (.string t263)) (fun _ hk => hk.2) (.slice Ao23 t264.length co23)) (fun _ hk => hk.2) (.string t267)) (fun _ h_ => h_.1))) hb); replace BK256 := Aside0.mk (blk_below (g := gb256) (o := .cells #[.int .i64 a0_0, .int .i64 a0_1] 38 (0, 0)) (gI BK256.out) hb); replace BK257 := Aside0.mk (blk_below (g := gb257) (o := .cells #[.int .i64 a1_0, .int .i64 a1_1, .int .i64 a1_2, .string a1_3, .slice A1_4 l1_4.length c1_4, .string a1_5] 35 (0, 0)) (gI BK257.out) hb); replace BK258 := Aside0.mk (blk_below (g := gb258) (o := .cells #[.string a2_0, .int .i64 a2_1, .string a2_2, .slice A2_3 l2_3.length c2_3] 42 (0, 0)) (gI BK258.out) hb); replace BK259 := Aside0.mk (blk_below (g := gb259) (o := .cells #[.int .i64 0, .int .i64 0, .int .i64 0, .string (⟨#[]⟩ : ByteArray), .slice none 0 0, .string (⟨#[]⟩ : ByteArray)] 35 (0, 0)) (gI BK259.out) hb); replace BK268 := bp BK268 hb #[.int .i64 t260, .int .i64 t261, .int .i64 t262, .string t263, .slice Ao23 t264.length co23, .string t267]; replace HB := bs HB hb; (try clear hb); (try clear hb2); (try clear hk); (try clear hi); obtain ⟨hcz31_0, hcz31_1, hcz31_2, hcz31_3, hfz31_0, hfz31_1, hfz31_2, hfz31_3⟩ := cs4 BK258) | ((with_reducible refine gate_callee (f := 62) rfl ?_); refine gB (some 19) Tryz.func62 #[.string a2_0] ?_; (with_reducible refine (spec_ViewOf.calls k a2_0 t270 _ A7.out).mono ?_); rintro e w32 ⟨rfl, hb⟩; refine ⟨_, rfl, ?_⟩; replace HO266 := rb HO266 hb; replace BK256 := bk BK256 hb; replace BK257 := bk BK257 hb; replace BK258 := bk BK258 hb; replace BK259 := bk BK259 hb; replace BK268 := bk BK268 hb; replace HB := bs HB hb; (try clear hb); (try clear hb2); (try clear hk); (try clear hi); have hcz33_0 := bc0 BK268.out; have hcz33_1 := bc1 BK268.out; have hcz33_2 := bc2 BK268.out; have hcz33_3 := bc3 BK268.out; have hcz33_4 := bc4 BK268.out; have hcz33_5 := bc5 BK268.out; have hfz33_0 := blk_frozen BK268.out 0; have hfz33_1 := blk_frozen BK268.out 1; have hfz33_2 := blk_frozen BK268.out 2; have hfz33_3 := blk_frozen BK268.out 3; have hfz33_4 := blk_frozen BK268.out 4; have hfz33_5 := blk_frozen BK268.out 5; have hcz34_0 := bc0 BK259.out; have hcz34_1 := bc1 BK259.out; have hcz34_2 := bc2 BK259.out; have hcz34_3 := bc3 BK259.out; have hcz34_4 := bc4 BK259.out; have hcz34_5 := bc5 BK259.out; have hfz34_0 := blk_frozen BK259.out 0; have hfz34_1 := blk_frozen BK259.out 1; have hfz34_2 := blk_frozen BK259.out 2; have hfz34_3 := blk_frozen BK259.out 3; have hfz34_4 := blk_frozen BK259.out 4; have hfz34_5 := blk_frozen BK259.out 5))
  refine bodyPost_ret (results_ct rfl _ _ gb259 35 #[.int .i64 t270, .int .i64 t261, .int .i64 t262, .string t263, .slice Ao23 t264.length co23, .string t267] (0, 0) _ rfl (pI BK259) Tryz.underlying35 rfl (by kernel_rfl)) rfl ?_
  exact ⟨_, y0_7, by (with_reducible repeat (first | apply Kd.R_alloc | apply Kd.R_drewN | apply Kd.R_drew)); exact Kd.R_mono (Kd.R_far (p := ⟨gb259, 5, none⟩) (Kd.R_far (p := ⟨gb259, 4, none⟩) (Kd.R_far (p := ⟨gb259, 3, none⟩) (Kd.R_far (p := ⟨gb259, 2, none⟩) (Kd.R_far (p := ⟨gb259, 1, none⟩) (Kd.R_far (p := ⟨gb259, 0, none⟩) (Kd.R_far (p := ⟨gb268, 0, none⟩) (Kd.R_types (Kd.R_types HO266.out BK268.out (by decide)) BK259.out (by decide)) (fun _ hk => hk.1.2) (.int .i64 t270)) (fun _ hk => hk.2) (.int .i64 t270)) (fun _ hk => hk.2) (.int .i64 t261)) (fun _ hk => hk.2) (.int .i64 t262)) (fun _ hk => hk.2) (.string t263)) (fun _ hk => hk.2) (.slice Ao23 t264.length co23)) (fun _ hk => hk.2) (.string t267)) (fun _ hk => trivial), bI HB.out⟩
 replace c6 := Bool.eq_false_iff.mpr c6; subst c6
 rw [if_neg (show ¬ (false = true) by decide)] at H
 simp only [Option.some.injEq, Prod.mk.injEq] at H
 obtain ⟨rfl, rfl, rfl, rfl, rfl, rfl, rfl⟩ := H
 go_enter Tryz.func13, Tryz.ntmps13
 go_wp2_with (first | ((with_reducible refine gd 3 ?_); refine bA 3 #[.int .i64 a0_0, .int .i64 a0_1] 38 ?_; intro gb256 hg w35 hbox hb; have BK256 := Aside0.mk (hbox); have GW256 := bg hg HB; have GJ256 := gi GW256; have GE256 := GW256; replace HB := bs HB hb; clear hb hbox hg) | ((with_reducible refine gd 4 ?_); refine bA 4 #[.int .i64 a1_0, .int .i64 a1_1, .int .i64 a1_2, .string a1_3, .slice A1_4 l1_4.length c1_4, .string a1_5] 35 ?_; intro gb257 hg w36 hbox hb; have BK257 := Aside0.mk (hbox); have GW257 := bg hg HB; have GJ257 := gi GW257; have GE257 := GW257; replace HB := bs HB hb; have NB256_257 := b1 BK256 hg; have NI256_257 := ni NB256_257; have NB257_256 := b2 BK256 hg; have NI257_256 := ni NB257_256; replace BK256 := bk BK256 hb; clear hb hbox hg) | ((with_reducible refine gd 5 ?_); refine bA 5 #[.string a2_0, .int .i64 a2_1, .string a2_2, .slice A2_3 l2_3.length c2_3] 42 ?_; intro gb258 hg w37 hbox hb; have BK258 := Aside0.mk (hbox); have GW258 := bg hg HB; have GJ258 := gi GW258; have GE258 := GW258; replace HB := bs HB hb; have NB256_258 := b1 BK256 hg; have NI256_258 := ni NB256_258; have NB258_256 := b2 BK256 hg; have NI258_256 := ni NB258_256; replace BK256 := bk BK256 hb; have NB257_258 := b1 BK257 hg; have NI257_258 := ni NB257_258; have NB258_257 := b2 BK257 hg; have NI258_257 := ni NB258_257; replace BK257 := bk BK257 hb; clear hb hbox hg) | ((with_reducible refine gd 6 ?_); refine bA 6 #[.int .i64 0, .int .i64 0, .int .i64 0, .string (⟨#[]⟩ : ByteArray), .slice none 0 0, .string (⟨#[]⟩ : ByteArray)] 35 ?_; intro gb259 hg w38 hbox hb; have BK259 := Aside0.mk (hbox); have GW259 := bg hg HB; have GJ259 := gi GW259; have GE259 := GW259; replace HB := bs HB hb; have NB256_259 := b1 BK256 hg; have NI256_259 := ni NB256_259; have NB259_256 := b2 BK256 hg; have NI259_256 := ni NB259_256; replace BK256 := bk BK256 hb; have NB257_259 := b1 BK257 hg; have NI257_259 := ni NB257_259; have NB259_257 := b2 BK257 hg; have NI259_257 := ni NB259_257; replace BK257 := bk BK257 hb; have NB258_259 := b1 BK258 hg; have NI258_259 := ni NB258_259; have NB259_258 := b2 BK258 hg; have NI259_258 := ni NB259_258; replace BK258 := bk BK258 hb; clear hb hbox hg; have hnb39 := NB257_256.out; have hnc39 := NB256_257.out; have hnb40 := NB257_258.out; have hnc40 := NB258_257.out; have hnb41 := NB257_259.out; have hnc41 := NB259_257.out; have hcz42_0 := bc0 BK257.out; have hcz42_1 := bc1 BK257.out; have hcz42_2 := bc2 BK257.out; have hcz42_3 := bc3 BK257.out; have hcz42_4 := bc4 BK257.out; have hcz42_5 := bc5 BK257.out; have hfz42_0 := blk_frozen BK257.out 0; have hfz42_1 := blk_frozen BK257.out 1; have hfz42_2 := blk_frozen BK257.out 2; have hfz42_3 := blk_frozen BK257.out 3; have hfz42_4 := blk_frozen BK257.out 4; have hfz42_5 := blk_frozen BK257.out 5) | ((with_reducible refine gate_callee (f := 61) rfl ?_); refine gB (some 10) Tryz.func61 #[.agg #[.int .i64 a1_0, .int .i64 a1_1, .int .i64 a1_2, .string a1_3, .slice A1_4 l1_4.length c1_4, .string a1_5]] ?_; (with_reducible refine (spec_l11Copy.calls a1_0 a1_1 a1_2 a1_3 _ _ l1_4 a1_5 t260 t261 t262 t263 t264 t267 _ ?side1 ?side2 A4.out).mono ?_); (case side1 => exact ch HR1_4 HB); (case side2 => exact HC1_4.out); rintro e w43 ⟨v265, rfl, ho0, hb⟩; refine ⟨_, rfl, ?_⟩; have HO266 := Aside0.mk (Kd.R_lower ho0 (below_size (bI HB.out))); replace BK256 := bk BK256 hb; replace BK257 := bk BK257 hb; replace BK258 := bk BK258 hb; replace BK259 := bk BK259 hb; replace HB := bs HB hb; (try clear hb); (try clear ho0)) | ((with_reducible refine gd 8 ?_); refine bA 8 #[.int .i64 0, .int .i64 0, .int .i64 0, .string (⟨#[]⟩ : ByteArray), .slice none 0 0, .string (⟨#[]⟩ : ByteArray)] 35 ?_; intro gb268 hg w44 hbox hb; replace HO266 := rb HO266 hb; have BK268 := Aside0.mk (hbox); have GW268 := bg hg HB; have GJ268 := gi GW268; have GE268 := GW268; replace HB := bs HB hb; have NB256_268 := b1 BK256 hg; have NI256_268 := ni NB256_268; have NB268_256 := b2 BK256 hg; have NI268_256 := ni NB268_256; replace BK256 := bk BK256 hb; have NB257_268 := b1 BK257 hg; have NI257_268 := ni NB257_268; have NB268_257 := b2 BK257 hg; have NI268_257 := ni NB268_257; replace BK257 := bk BK257 hb; have NB258_268 := b1 BK258 hg; have NI258_268 := ni NB258_268; have NB268_258 := b2 BK258 hg; have NI268_258 := ni NB268_258; replace BK258 := bk BK258 hb; have NB259_268 := b1 BK259 hg; have NI259_268 := ni NB259_268; have NB268_259 := b2 BK259 hg; have NI268_259 := ni NB268_259; replace BK259 := bk BK259 hb; clear hb hbox hg; have hnb45 := NB268_256.out; have hnc45 := NB256_268.out; have hnb46 := NB268_257.out; have hnc46 := NB257_268.out; have hnb47 := NB268_258.out; have hnc47 := NB258_268.out; have hnb48 := NB268_259.out; have hnc48 := NB259_268.out; have hcz49_0 := bc0 BK268.out; have hcz49_1 := bc1 BK268.out; have hcz49_2 := bc2 BK268.out; have hcz49_3 := bc3 BK268.out; have hcz49_4 := bc4 BK268.out; have hcz49_5 := bc5 BK268.out; have hfz49_0 := blk_frozen BK268.out 0; have hfz49_1 := blk_frozen BK268.out 1; have hfz49_2 := blk_frozen BK268.out 2; have hfz49_3 := blk_frozen BK268.out 3; have hfz49_4 := blk_frozen BK268.out 4; have hfz49_5 := blk_frozen BK268.out 5; obtain ⟨Ao50, co50, eo50⟩ := Kd.R_slice HO266.out; subst eo50; have hnb51 := NB256_258.out; have hnc51 := NB258_256.out; have hnb52 := NB256_259.out; have hnc52 := NB259_256.out; obtain ⟨hcz53_0, hcz53_1, hfz53_0, hfz53_1⟩ := cs2 BK256; have hcz54_0 := bc0 BK257.out; have hcz54_1 := bc1 BK257.out; have hcz54_2 := bc2 BK257.out; have hcz54_3 := bc3 BK257.out; have hcz54_4 := bc4 BK257.out; have hcz54_5 := bc5 BK257.out; have hfz54_0 := blk_frozen BK257.out 0; have hfz54_1 := blk_frozen BK257.out 1; have hfz54_2 := blk_frozen BK257.out 2; have hfz54_3 := blk_frozen BK257.out 3; have hfz54_4 := blk_frozen BK257.out 4; have hfz54_5 := blk_frozen BK257.out 5; have hnb55 := NB258_259.out; have hnc55 := NB259_258.out; obtain ⟨hcz56_0, hcz56_1, hcz56_2, hcz56_3, hfz56_0, hfz56_1, hfz56_2, hfz56_3⟩ := cs4 BK258) | ((with_reducible refine gate_callee (f := 43) rfl ?_); refine gB (some 14) Tryz.func43 #[.agg #[.int .i64 a0_0, .int .i64 a0_1], .agg #[.int .i64 a1_0, .int .i64 a1_1, .int .i64 a1_2, .string a1_3, .slice A1_4 l1_4.length c1_4, .string a1_5], .agg #[.string a2_0, .int .i64 a2_1, .string a2_2, .slice A2_3 l2_3.length c2_3]] ?_; (with_reducible refine (spec_MayVote.calls k a0_0 a0_1 a1_0 a1_1 a1_2 a1_3 _ _ l1_4 a1_5 a2_0 a2_1 a2_2 _ _ l2_3 false _ ?side1 ?side2 ?side3 ?side4 A5.out).mono ?_); (case side1 => exact Kd.C_below HR1_4.out (bI HB.out)); (case side2 => exact HC1_4.out); (case side3 => exact Kd.C_below HR2_3.out (bI HB.out)); (case side4 => exact HC2_3.out); rintro e w57 ⟨rfl, hb⟩; refine ⟨_, rfl, ?_⟩; replace HO266 := Aside0.mk (Kd.R_below (rI (Kd.R_mono (Kd.R_far (p := ⟨gb268, 5, none⟩) (Kd.R_far (p := ⟨gb268, 4, none⟩) (Kd.R_far (p := ⟨gb268, 3, none⟩) (Kd.R_far (p := ⟨gb268, 2, none⟩) (Kd.R_far (p := ⟨gb268, 1, none⟩) (Kd.R_far (p := ⟨gb268, 0, none⟩) (Kd.R_types HO266.out BK268.out (by decide)) (fun _ hk => hk.2) (.int .i64 t260)) (fun _ hk => hk.2) (.int .i64 t261)) (fun _ hk => hk.2) (.int .i64 t262)) (fun _ hk => hk.2) (.string t263)) (fun _ hk => hk.2) (.slice Ao50 t264.length co50)) (fun _ hk => hk.2) (.string t267)) (fun _ h_ => h_.1))) hb); replace BK256 := Aside0.mk (blk_below (g := gb256) (o := .cells #[.int .i64 a0_0, .int .i64 a0_1] 38 (0, 0)) (gI BK256.out) hb); replace BK257 := Aside0.mk (blk_below (g := gb257) (o := .cells #[.int .i64 a1_0, .int .i64 a1_1, .int .i64 a1_2, .string a1_3, .slice A1_4 l1_4.length c1_4, .string a1_5] 35 (0, 0)) (gI BK257.out) hb); replace BK258 := Aside0.mk (blk_below (g := gb258) (o := .cells #[.string a2_0, .int .i64 a2_1, .string a2_2, .slice A2_3 l2_3.length c2_3] 42 (0, 0)) (gI BK258.out) hb); replace BK259 := Aside0.mk (blk_below (g := gb259) (o := .cells #[.int .i64 0, .int .i64 0, .int .i64 0, .string (⟨#[]⟩ : ByteArray), .slice none 0 0, .string (⟨#[]⟩ : ByteArray)] 35 (0, 0)) (gI BK259.out) hb); replace BK268 := bp BK268 hb #[.int .i64 t260, .int .i64 t261, .int .i64 t262, .string t263, .slice Ao50 t264.length co50, .string t267]; replace HB := bs HB hb; (try clear hb); (try clear hb2); (try clear hk); (try clear hi); have hcz58_0 := bc0 BK268.out; have hcz58_1 := bc1 BK268.out; have hcz58_2 := bc2 BK268.out; have hcz58_3 := bc3 BK268.out; have hcz58_4 := bc4 BK268.out; have hcz58_5 := bc5 BK268.out; have hfz58_0 := blk_frozen BK268.out 0; have hfz58_1 := blk_frozen BK268.out 1; have hfz58_2 := blk_frozen BK268.out 2; have hfz58_3 := blk_frozen BK268.out 3; have hfz58_4 := blk_frozen BK268.out 4; have hfz58_5 := blk_frozen BK268.out 5; have hcz59_0 := bc0 BK259.out; have hcz59_1 := bc1 BK259.out; have hcz59_2 := bc2 BK259.out; have hcz59_3 := bc3 BK259.out; have hcz59_4 := bc4 BK259.out; have hcz59_5 := bc5 BK259.out; have hfz59_0 := blk_frozen BK259.out 0; have hfz59_1 := blk_frozen BK259.out 1; have hfz59_2 := blk_frozen BK259.out 2; have hfz59_3 := blk_frozen BK259.out 3; have hfz59_4 := blk_frozen BK259.out 4; have hfz59_5 := blk_frozen BK259.out 5))
 refine bodyPost_ret (results_ct rfl _ _ gb259 35 #[.int .i64 t260, .int .i64 t261, .int .i64 t262, .string t263, .slice Ao50 t264.length co50, .string t267] (0, 0) _ rfl (pI BK259) Tryz.underlying35 rfl (by kernel_rfl)) rfl ?_
 exact ⟨_, y0_7, by (with_reducible repeat (first | apply Kd.R_alloc | apply Kd.R_drewN | apply Kd.R_drew)); exact Kd.R_mono (Kd.R_far (p := ⟨gb259, 5, none⟩) (Kd.R_far (p := ⟨gb259, 4, none⟩) (Kd.R_far (p := ⟨gb259, 3, none⟩) (Kd.R_far (p := ⟨gb259, 2, none⟩) (Kd.R_far (p := ⟨gb259, 1, none⟩) (Kd.R_far (p := ⟨gb259, 0, none⟩) (Kd.R_types HO266.out BK259.out (by decide)) (fun _ hk => hk.2) (.int .i64 t260)) (fun _ hk => hk.2) (.int .i64 t261)) (fun _ hk => hk.2) (.int .i64 t262)) (fun _ hk => hk.2) (.string t263)) (fun _ hk => hk.2) (.slice Ao50 t264.length co50)) (fun _ hk => hk.2) (.string t267)) (fun _ hk => trivial), bI HB.out⟩

/-! ### laws_toConf: function 14 -/
def laws_toConf.f (a0_0 : Int) (a0_1 : Int) : Option (Int × Int) := some (a0_0, a0_1)
set_option maxHeartbeats 8000000 in
set_option maxRecDepth 100000 in
theorem laws_toConf.calls (a0_0 : Int) (a0_1 : Int) (r1 : Int) (r2 : Int) (w : World) (h : laws_toConf.f a0_0 a0_1 = some (r1, r2)) :
  Calls Tryz.prog 14 #[.agg #[.int .i64 a0_0, .int .i64 a0_1]] w fun e w' => e = .returned (.agg #[.int .i64 r1, .int .i64 r2]) ∧ Below w.heap.size w w' := by
 have hu23 := Tryz.underlying23; have hu38 := Tryz.underlying38; have HB := Aside0.mk (Below.refl w.heap.size w); have H : (some (a0_0, a0_1)) = some (r1, r2) := h; clear h
 simp only [Option.some.injEq, Prod.mk.injEq] at H
 obtain ⟨rfl, rfl⟩ := H
 go_enter Tryz.func14, Tryz.ntmps14
 go_wp2_with (first | ((with_reducible refine gd 1 ?_); refine bA 1 #[.int .i64 a0_0, .int .i64 a0_1] 23 ?_; intro gb271 hg w2 hbox hb; have BK271 := Aside0.mk (hbox); have GW271 := bg hg HB; have GJ271 := gi GW271; have GE271 := GW271; replace HB := bs HB hb; clear hb hbox hg) | ((with_reducible refine gd 2 ?_); refine bA 2 #[.int .i64 0, .int .i64 0] 38 ?_; intro gb272 hg w3 hbox hb; have BK272 := Aside0.mk (hbox); have GW272 := bg hg HB; have GJ272 := gi GW272; have GE272 := GW272; replace HB := bs HB hb; have NB271_272 := b1 BK271 hg; have NI271_272 := ni NB271_272; have NB272_271 := b2 BK271 hg; have NI272_271 := ni NB272_271; replace BK271 := bk BK271 hb; clear hb hbox hg) | ((with_reducible refine gd 3 ?_); refine bA 3 #[.int .i64 0, .int .i64 0] 38 ?_; intro gb273 hg w4 hbox hb; have BK273 := Aside0.mk (hbox); have GW273 := bg hg HB; have GJ273 := gi GW273; have GE273 := GW273; replace HB := bs HB hb; have NB271_273 := b1 BK271 hg; have NI271_273 := ni NB271_273; have NB273_271 := b2 BK271 hg; have NI273_271 := ni NB273_271; replace BK271 := bk BK271 hb; have NB272_273 := b1 BK272 hg; have NI272_273 := ni NB272_273; have NB273_272 := b2 BK272 hg; have NI273_272 := ni NB273_272; replace BK272 := bk BK272 hb; clear hb hbox hg; have hnb5 := NB271_272.out; have hnc5 := NB272_271.out; have hnb6 := NB271_273.out; have hnc6 := NB273_271.out; obtain ⟨hcz7_0, hcz7_1, hfz7_0, hfz7_1⟩ := cs2 BK271; have hnb8 := NB273_272.out; have hnc8 := NB272_273.out; obtain ⟨hcz9_0, hcz9_1, hfz9_0, hfz9_1⟩ := cs2 BK273; obtain ⟨hcz10_0, hcz10_1, hfz10_0, hfz10_1⟩ := cs2 BK272))
 refine bodyPost_ret (results_cell_row rfl _ _ gb272 38 #[.int .i64 a0_0, .int .i64 a0_1] (0, 0) _ rfl (pI BK272) Tryz.underlying38 rfl (by kernel_rfl)) rfl ?_
 exact ⟨y0_7, bI HB.out⟩

/-! ### laws_toIntS: function 71 -/
def laws_toIntS.l0 : Nat → List Int → List Int → Int → Option (List Int)
 | 0, _, _, _ => none
 | k + 1, x0, x3, x4 => if x4 < (x0.length : Int) then (if 0 ≤ x4 then (if x4 < (x3.length : Int) then (laws_toIntS.l0 k x0 (x3.set (x4 : Int).toNat (rd x0 x4)) (wrap64 (x4 + 1))) else (none)) else (none)) else (some x3)
def laws_toIntS.f (k : Nat) (l0 : List Int) : Option (List Int) := if 0 ≤ (l0.length : Int) then (if ((l0.length : Int) : Int).toNat ≤ 35184372088832 then (laws_toIntS.l0 k l0 (List.replicate ((l0.length : Int) : Int).toNat 0) 0) else (none)) else (none)
theorem laws_toIntS.mono_l : ∀ k, (∀ y0 y1 y2, LeO (laws_toIntS.l0 k y0 y1 y2) (laws_toIntS.l0 (k + 1) y0 y1 y2))
 | 0 => fun _ _ _ r h => by simp [laws_toIntS.l0] at h
 | k + 1 => by
  have ih0 := laws_toIntS.mono_l k
  intro y0 y1 y2
  unfold laws_toIntS.l0
  repeat' first | (with_reducible exact ih0 _ _ _) | (with_reducible exact LeO.refl _) | (with_reducible exact LeO.none _) | (with_reducible refine LeO.ite ?_ ?_) | (with_reducible refine LeO.bind ?_ (fun _ => ?_))
theorem laws_toIntS.mono : ∀ a0 k, LeO (laws_toIntS.f k a0) (laws_toIntS.f (k + 1) a0) := by
 intro a0 k
 have ih0 := laws_toIntS.mono_l k
 unfold laws_toIntS.f
 repeat' first | (with_reducible exact ih0 _ _ _) | (with_reducible exact LeO.refl _) | (with_reducible exact LeO.none _) | (with_reducible refine LeO.ite ?_ ?_) | (with_reducible refine LeO.bind ?_ (fun _ => ?_))
set_option maxHeartbeats 8000000 in
set_option maxRecDepth 100000 in
theorem laws_toIntS.calls (k : Nat) (A0 : Option Addr) (c0 : Nat) (l0 : List Int) (r : List Int) (w : World) (hr0 : Kd.C (Kd.int .i64) w A0 l0.length l0) (hc0 : l0.length ≤ c0) (h : laws_toIntS.f k l0 = some r) :
  Calls Tryz.prog 71 #[.slice A0 l0.length c0] w fun e w' => ∃ v0_ : Value, e = .returned (v0_) ∧ Kd.R (Kd.int .i64) 3 w' w.heap.size (fun _ => True) v0_ r ∧ Below w.heap.size w w' := by
 have HR0 := Aside0.mk hr0; have HC0 := Aside0.mk hc0; clear hr0 hc0; have HB := Aside0.mk (Below.refl w.heap.size w); have H : (if 0 ≤ (l0.length : Int) then (if ((l0.length : Int) : Int).toNat ≤ 35184372088832 then (laws_toIntS.l0 k l0 (List.replicate ((l0.length : Int) : Int).toNat 0) 0) else (none)) else (none)) = some r := h; clear h
 by_cases c2 : 0 ≤ (l0.length : Int)
 ·
  rw [if_pos c2] at H
  have c2b0 := eq_true c2; have c2b1 : decide (0 ≤ (l0.length : Int)) = true := decide_eq_true c2; clear c2
  by_cases c3 : ((l0.length : Int) : Int).toNat ≤ 35184372088832
  rotate_left
  ·
   rw [if_neg c3] at H
   exact absurd H (by simp)
  rw [if_pos c3] at H
  have c3b0 := eq_true c3; have c3b1 : decide (((l0.length : Int) : Int).toNat ≤ 35184372088832) = true := decide_eq_true c3; clear c3; obtain ⟨y274, hy274⟩ : ∃ y_ : List Int, y_ = (List.replicate ((l0.length : Int) : Int).toNat 0) := ⟨_, rfl⟩
  replace H : (laws_toIntS.l0 k l0 y274 0) = some r := by first | (rw [hy274]; with_reducible exact H) | (have H2_ := (Option.bind_some _ _).symm.trans H; rw [hy274]; with_reducible exact H2_) | (have H2_ := (Option.bind_some _ _).symm.trans H; with_reducible exact H2_) | with_reducible exact H | (rw [hy274]; exact H) | exact H
  have Ny274 := Aside0.mk hy274; clear hy274; have H' := Aside0.mk H; clear H
  go_enter Tryz.func71, Tryz.ntmps71
  go_wp2_with (first | ((with_reducible refine gate_dst (N := 7) rfl ?_); refine Kd.R_make (Kd.int .i64) _ 3 rfl (N := 7) rfl 24 _ _ rfl (l0.length : Int) rfl rfl Tryz.underlying24 (.int .i64 0) 8 info3 rfl (by decide) (by omega) 0 (ok := fun _ => True) (okp := fun _ => True) rfl (fun _ hk => hk) trivial (of_decide_eq_true y0_9) (Nat.le_trans (Nat.mul_le_mul_right _ (of_decide_eq_true y0_9 : (l0.length : Int).toNat ≤ 35184372088832)) (by omega)) (Below.refl _ _) (Nat.le_refl _) ?_; intro v275 w4 ho5 hb hg_ hnew_; clear hg_ hnew_; (first | rw [← Ny274.out] at ho5 | (simp only [Int.reduceToNat] at ho5; rw [← Ny274.out] at ho5)); have HO276 := Aside0.mk (Kd.R_lower ho5 (below_size (bI HB.out))); replace HB := bs HB hb; clear hb ho5))
  go_loopg [4] k (fun kq v4 w' => ∃ (x3_1 : List Int) (x4_1 : Int), v4 = .int .i64 x4_1 ∧ Aside0 (laws_toIntS.l0 kq l0 x3_1 x4_1 = some r) ∧ Aside0 (kq ≤ k) ∧ Aside0 (Kd.R (Kd.int .i64) 3 w' w.heap.size (fun _ => True) v275 x3_1) ∧ Aside0 (Below w.heap.size w w'))
  case atStart => exact ⟨(y274), (0), y0_10, H', ⟨Nat.le_refl _⟩, ⟨by (with_reducible repeat (first | apply Kd.R_alloc | apply Kd.R_drewN | apply Kd.R_drew)); exact HO276.out⟩, ⟨bI HB.out⟩⟩
  case round =>
   clear H'
   try clear c2
   try clear c2b0
   try clear c2b1
   try clear p2
   try clear c3
   try clear c3b0
   try clear c3b1
   obtain ⟨x3_1, x4_1, rfl, HA, HK1, HO_3, HB⟩ := hrel; cases gk with
   | zero => exact absurd HA.out (by simp [laws_toIntS.l0])
   | succ k1 =>
    have H := HA.out; clear HA
    simp only [laws_toIntS.l0] at H
    by_cases c6 : x4_1 < (l0.length : Int)
    ·
     rw [if_pos c6] at H
     have c6b0 : decide (x4_1 < (l0.length : Int)) = true := decide_eq_true c6; clear c6
     by_cases c7 : 0 ≤ x4_1
     rotate_left
     ·
      rw [if_neg c7] at H
      exact absurd H (by simp)
     rw [if_pos c7] at H
     have c7b0 : decide (0 ≤ x4_1) = true := decide_eq_true c7; clear c7
     by_cases c8 : x4_1 < (x3_1.length : Int)
     rotate_left
     ·
      rw [if_neg c8] at H
      exact absurd H (by simp)
     rw [if_pos c8] at H
     have c8b0 : decide (x4_1 < (x3_1.length : Int)) = true := decide_eq_true c8; clear c8; obtain ⟨y278, hy278⟩ : ∃ y_ : List Int, y_ = (x3_1.set (x4_1 : Int).toNat (rd l0 x4_1)) := ⟨_, rfl⟩
     replace H : (laws_toIntS.l0 k1 l0 y278 (wrap64 (x4_1 + 1))) = some r := by first | (rw [hy278]; with_reducible exact H) | (have H2_ := (Option.bind_some _ _).symm.trans H; rw [hy278]; with_reducible exact H2_) | (have H2_ := (Option.bind_some _ _).symm.trans H; with_reducible exact H2_) | with_reducible exact H | (rw [hy278]; exact H) | exact H
     have Ny278 := Aside0.mk hy278; clear hy278; have H' := Aside0.mk H; clear H; have p277 : 0 ≤ (x4_1 : Int) := of_decide_eq_true y0_9; have q277 : x4_1 < (l0.length : Int) := of_decide_eq_true y0_9; obtain ⟨ad277, e277, hx277_0⟩ := Kd.at_int HR0.out x4_1 p277 q277; cases e277; replace hx277_0 := bx HB hx277_0; replace p277 := eq_true p277; replace q277 := eq_true q277; have p9 : 0 ≤ (x4_1 : Int) := of_decide_eq_true y0_9; have q9 : (x4_1 : Int) < ((x3_1.length : Int) : Int) := of_decide_eq_true y0_9
     obtain ⟨go9, co9, eo9, gb9, gl9, cl9, HG9⟩ := Kd.R_form HO_3.out (by omega)
     (first | cases eo9 | (injection eo9 with ea_ en_ ec_; (first | subst ea_ | (injection ea_ with ea_; subst ea_)); subst ec_; clear en_))
     have GB9 := Aside0.mk gb9; have GG9 := Aside0.mk HG9; clear gb9 gl9 HG9; obtain ⟨hx9_0, hf9_0⟩ := Kd.R_celln 0 HO_3.out (x4_1 : Int) p9 q9; replace p9 := eq_true p9; replace q9 := eq_true q9; have HP10 := Kd.R_putg HO_3.out (x4_1 : Int) (rd l0 x4_1)
     go_wp2_with (first | ((with_reducible refine gate_store (t := 3) (p := 20) rfl ?_); refine store_event (t := 3) (p := 20) (v := ?vo_w11) (w1 := (wr.setCell ⟨go9, (x4_1 : Int).toNat, none⟩ (.int .i64 (rd l0 x4_1)))) ?hg ?ho ?hn ?hr ?_; (case ho => rfl); (case hg => rfl); (case hn => rfl); (case hr => first | (go_simp; done) | (go_simp; rfl)); intro w11 hw; have hg : wr.grownBy w11 (some go9) := (by rw [hw]; exact HP10.2); have hp_ : Kd.R (Kd.int .i64) 3 w11 w.heap.size (fun _ => True) (.slice (some ⟨go9, 0, none⟩) x3_1.length co9) y278 := (by rw [hw, Ny278.out]; exact HP10.1); clear HP10; replace HO_3 := Aside0.mk (hp_); replace HB := Aside0.mk ((by rw [hw]; exact below_set (HB.out) GB9.out : Below w.heap.size w w11)); clear hg hw hp_))
     go_roundg k1
     case measure => have := HK1.out; omega
     case rel => exact ⟨(y278), (wrap64 (x4_1 + 1)), y0_10, H', ⟨y0_14⟩, ⟨by (with_reducible repeat (first | apply Kd.R_alloc | apply Kd.R_drewN | apply Kd.R_drew)); exact HO_3.out⟩, ⟨bI HB.out⟩⟩
    rw [if_neg c6] at H
    have c6b0 : decide (x4_1 < (l0.length : Int)) = false := decide_eq_false c6; clear c6; obtain rfl := Option.some.inj H
    go_wp2
    go_ret
    exact ⟨_, y0_7, by (with_reducible repeat (first | apply Kd.R_alloc | apply Kd.R_drewN | apply Kd.R_drew)); exact HO_3.out, bI HB.out⟩
 rw [if_neg c2] at H
 exact absurd H (by simp)

/-! ### laws_toQc: function 25 -/
def laws_toQc.f (k : Nat) (a0_0 : Int) (a0_1 : ByteArray) (l0_2 : List Int) : Option (Int × ByteArray × List Int) := (laws_toIntS.f k l0_2).bind fun t282 => (some (a0_0, a0_1, t282))
theorem laws_toQc.mono : ∀ a0 a1 a2 k, LeO (laws_toQc.f k a0 a1 a2) (laws_toQc.f (k + 1) a0 a1 a2) := by
 intro a0 a1 a2 k
 unfold laws_toQc.f
 repeat' first | (with_reducible exact laws_toIntS.mono _ _) | (with_reducible exact LeO.refl _) | (with_reducible exact LeO.none _) | (with_reducible refine LeO.ite ?_ ?_) | (with_reducible refine LeO.bind ?_ (fun _ => ?_))
set_option maxHeartbeats 8000000 in
set_option maxRecDepth 100000 in
theorem laws_toQc.calls (k : Nat) (a0_0 : Int) (a0_1 : ByteArray) (A0_2 : Option Addr) (c0_2 : Nat) (l0_2 : List Int) (r1 : Int) (r2 : ByteArray) (r3 : List Int) (w : World) (hr0_2 : Kd.C (Kd.int .i64) w A0_2 l0_2.length l0_2) (hc0_2 : l0_2.length ≤ c0_2) (h : laws_toQc.f k a0_0 a0_1 l0_2 = some (r1, r2, r3)) :
  Calls Tryz.prog 25 #[.agg #[.int .i64 a0_0, .string a0_1, .slice A0_2 l0_2.length c0_2]] w fun e w' => ∃ v2_ : Value, e = .returned (.agg #[.int .i64 r1, .string r2, v2_]) ∧ Kd.R (Kd.int .i64) 3 w' w.heap.size (fun _ => True) v2_ r3 ∧ Below w.heap.size w w' := by
 have hu26 := Tryz.underlying26; have hu33 := Tryz.underlying33; have HR0_2 := Aside0.mk hr0_2; have HC0_2 := Aside0.mk hc0_2; clear hr0_2 hc0_2; have HB := Aside0.mk (Below.refl w.heap.size w)
 have H : ((laws_toIntS.f k l0_2).bind fun t282 => (some (a0_0, a0_1, t282))) = some (r1, r2, r3) := h
 clear h; obtain ⟨t282, A20, H⟩ := Option.bind_eq_some_iff.mp H
 try dsimp only at H
 have A2 := Aside0.mk A20; clear A20
 simp only [Option.some.injEq, Prod.mk.injEq] at H
 obtain ⟨rfl, rfl, rfl⟩ := H
 go_enter Tryz.func25, Tryz.ntmps25
 go_wp2_with (first | ((with_reducible refine gd 1 ?_); refine bA 1 #[.int .i64 a0_0, .string a0_1, .slice A0_2 l0_2.length c0_2] 26 ?_; intro gb279 hg w3 hbox hb; have BK279 := Aside0.mk (hbox); have GW279 := bg hg HB; have GJ279 := gi GW279; have GE279 := GW279; replace HB := bs HB hb; clear hb hbox hg) | ((with_reducible refine gd 2 ?_); refine bA 2 #[.int .i64 0, .string (⟨#[]⟩ : ByteArray), .slice none 0 0] 33 ?_; intro gb280 hg w4 hbox hb; have BK280 := Aside0.mk (hbox); have GW280 := bg hg HB; have GJ280 := gi GW280; have GE280 := GW280; replace HB := bs HB hb; have NB279_280 := b1 BK279 hg; have NI279_280 := ni NB279_280; have NB280_279 := b2 BK279 hg; have NI280_279 := ni NB280_279; replace BK279 := bk BK279 hb; clear hb hbox hg) | ((with_reducible refine gd 3 ?_); refine bA 3 #[.int .i64 0, .string (⟨#[]⟩ : ByteArray), .slice none 0 0] 33 ?_; intro gb281 hg w5 hbox hb; have BK281 := Aside0.mk (hbox); have GW281 := bg hg HB; have GJ281 := gi GW281; have GE281 := GW281; replace HB := bs HB hb; have NB279_281 := b1 BK279 hg; have NI279_281 := ni NB279_281; have NB281_279 := b2 BK279 hg; have NI281_279 := ni NB281_279; replace BK279 := bk BK279 hb; have NB280_281 := b1 BK280 hg; have NI280_281 := ni NB280_281; have NB281_280 := b2 BK280 hg; have NI281_280 := ni NB281_280; replace BK280 := bk BK280 hb; clear hb hbox hg; have hnb6 := NB279_280.out; have hnc6 := NB280_279.out; have hnb7 := NB279_281.out; have hnc7 := NB281_279.out; obtain ⟨hcz8_0, hcz8_1, hcz8_2, hfz8_0, hfz8_1, hfz8_2⟩ := cs3 BK279; have hnb9 := NB281_280.out; have hnc9 := NB280_281.out; obtain ⟨hcz10_0, hcz10_1, hcz10_2, hfz10_0, hfz10_1, hfz10_2⟩ := cs3 BK281) | ((with_reducible refine gate_callee (f := 71) rfl ?_); refine gB (some 12) Tryz.func71 #[.slice A0_2 l0_2.length c0_2] ?_; (with_reducible refine (laws_toIntS.calls k _ _ l0_2 t282 _ ?side1 ?side2 A2.out).mono ?_); (case side1 => exact Kd.C_below HR0_2.out (bI HB.out)); (case side2 => exact HC0_2.out); rintro e w11 ⟨v283, rfl, ho0, hb⟩; refine ⟨_, rfl, ?_⟩; have HO284 := Aside0.mk (Kd.R_lower ho0 (below_size (bI HB.out))); replace BK279 := Aside0.mk (blk_below (g := gb279) (o := .cells #[.int .i64 a0_0, .string a0_1, .slice A0_2 l0_2.length c0_2] 26 (0, 0)) (gI BK279.out) hb); replace BK280 := Aside0.mk (blk_below (g := gb280) (o := .cells #[.int .i64 0, .string (⟨#[]⟩ : ByteArray), .slice none 0 0] 33 (0, 0)) (gI BK280.out) hb); replace BK281 := bp BK281 hb #[.int .i64 a0_0, .string a0_1, .slice none 0 0]; replace HB := bs HB hb; (try clear hb); (try clear ho0); obtain ⟨Ao12, co12, eo12⟩ := Kd.R_slice HO284.out; subst eo12; obtain ⟨hcz13_0, hcz13_1, hcz13_2, hfz13_0, hfz13_1, hfz13_2⟩ := cs3 BK281; obtain ⟨hcz14_0, hcz14_1, hcz14_2, hfz14_0, hfz14_1, hfz14_2⟩ := cs3 BK280))
 refine bodyPost_ret (results_cell_row rfl _ _ gb280 33 #[.int .i64 a0_0, .string a0_1, .slice Ao12 t282.length co12] (0, 0) _ rfl (pI BK280) Tryz.underlying33 rfl (by kernel_rfl)) rfl ?_
 exact ⟨_, y0_7, by (with_reducible repeat (first | apply Kd.R_alloc | apply Kd.R_drewN | apply Kd.R_drew)); exact Kd.R_mono (Kd.R_far (p := ⟨gb280, 2, none⟩) (Kd.R_far (p := ⟨gb280, 1, none⟩) (Kd.R_far (p := ⟨gb280, 0, none⟩) (Kd.R_far (p := ⟨gb281, 2, none⟩) (Kd.R_types (Kd.R_types HO284.out BK281.out (by decide)) BK280.out (by decide)) (fun _ hk => hk.1.2) (.slice Ao12 t282.length co12)) (fun _ hk => hk.2) (.int .i64 a0_0)) (fun _ hk => hk.2) (.string a0_1)) (fun _ hk => hk.2) (.slice Ao12 t282.length co12)) (fun _ hk => trivial), bI HB.out⟩

/-! ### laws_toSafe: function 15 -/
def laws_toSafe.f (k : Nat) (a0_0 : Int) (a0_1 : Int) (a0_2 : Int) (a0_3 : ByteArray) (l0_4 : List Int) (a0_5 : ByteArray) : Option (Int × Int × Int × ByteArray × List Int × ByteArray) := (laws_toQc.f k a0_2 a0_3 l0_4).bind fun bt288 => (some (a0_0, a0_1, bt288.1, bt288.2.1, bt288.2.2, a0_5))
theorem laws_toSafe.mono : ∀ a0 a1 a2 a3 a4 a5 k, LeO (laws_toSafe.f k a0 a1 a2 a3 a4 a5) (laws_toSafe.f (k + 1) a0 a1 a2 a3 a4 a5) := by
 intro a0 a1 a2 a3 a4 a5 k
 unfold laws_toSafe.f
 repeat' first | (with_reducible exact laws_toQc.mono _ _ _ _) | (with_reducible exact LeO.refl _) | (with_reducible exact LeO.none _) | (with_reducible refine LeO.ite ?_ ?_) | (with_reducible refine LeO.bind ?_ (fun _ => ?_))
set_option maxHeartbeats 8000000 in
set_option maxRecDepth 100000 in
theorem laws_toSafe.calls (k : Nat) (a0_0 : Int) (a0_1 : Int) (a0_2 : Int) (a0_3 : ByteArray) (A0_4 : Option Addr) (c0_4 : Nat) (l0_4 : List Int) (a0_5 : ByteArray) (r1 : Int) (r2 : Int) (r3 : Int) (r4 : ByteArray) (r5 : List Int) (r6 : ByteArray) (w : World) (hr0_4 : Kd.C (Kd.int .i64) w A0_4 l0_4.length l0_4) (hc0_4 : l0_4.length ≤ c0_4) (h : laws_toSafe.f k a0_0 a0_1 a0_2 a0_3 l0_4 a0_5 = some (r1, r2, r3, r4, r5, r6)) :
  Calls Tryz.prog 15 #[.agg #[.int .i64 a0_0, .int .i64 a0_1, .int .i64 a0_2, .string a0_3, .slice A0_4 l0_4.length c0_4, .string a0_5]] w fun e w' => ∃ v4_ : Value, e = .returned (.agg #[.int .i64 r1, .int .i64 r2, .int .i64 r3, .string r4, v4_, .string r6]) ∧ Kd.R (Kd.int .i64) 3 w' w.heap.size (fun _ => True) v4_ r5 ∧ Below w.heap.size w w' := by
 have hu28 := Tryz.underlying28; have hu35 := Tryz.underlying35; have hu26 := Tryz.underlying26; have hu33 := Tryz.underlying33; have HR0_4 := Aside0.mk hr0_4; have HC0_4 := Aside0.mk hc0_4; clear hr0_4 hc0_4; have HB := Aside0.mk (Below.refl w.heap.size w)
 have H : ((laws_toQc.f k a0_2 a0_3 l0_4).bind fun bt288 => (some (a0_0, a0_1, bt288.1, bt288.2.1, bt288.2.2, a0_5))) = some (r1, r2, r3, r4, r5, r6) := h
 clear h; obtain ⟨⟨t288, t289, t290⟩, A20, H⟩ := Option.bind_eq_some_iff.mp H
 try dsimp only at H
 have A2 := Aside0.mk A20; clear A20
 simp only [Option.some.injEq, Prod.mk.injEq] at H
 obtain ⟨rfl, rfl, rfl, rfl, rfl, rfl⟩ := H
 go_enter Tryz.func15, Tryz.ntmps15
 go_wp2_with (first | ((with_reducible refine gd 1 ?_); refine bA 1 #[.int .i64 a0_0, .int .i64 a0_1, .int .i64 a0_2, .string a0_3, .slice A0_4 l0_4.length c0_4, .string a0_5] 28 ?_; intro gb285 hg w3 hbox hb; have BK285 := Aside0.mk (hbox); have GW285 := bg hg HB; have GJ285 := gi GW285; have GE285 := GW285; replace HB := bs HB hb; clear hb hbox hg) | ((with_reducible refine gd 2 ?_); refine bA 2 #[.int .i64 0, .int .i64 0, .int .i64 0, .string (⟨#[]⟩ : ByteArray), .slice none 0 0, .string (⟨#[]⟩ : ByteArray)] 35 ?_; intro gb286 hg w4 hbox hb; have BK286 := Aside0.mk (hbox); have GW286 := bg hg HB; have GJ286 := gi GW286; have GE286 := GW286; replace HB := bs HB hb; have NB285_286 := b1 BK285 hg; have NI285_286 := ni NB285_286; have NB286_285 := b2 BK285 hg; have NI286_285 := ni NB286_285; replace BK285 := bk BK285 hb; clear hb hbox hg) | ((with_reducible refine gd 3 ?_); refine bA 3 #[.int .i64 0, .int .i64 0, .int .i64 0, .string (⟨#[]⟩ : ByteArray), .slice none 0 0, .string (⟨#[]⟩ : ByteArray)] 35 ?_; intro gb287 hg w5 hbox hb; have BK287 := Aside0.mk (hbox); have GW287 := bg hg HB; have GJ287 := gi GW287; have GE287 := GW287; replace HB := bs HB hb; have NB285_287 := b1 BK285 hg; have NI285_287 := ni NB285_287; have NB287_285 := b2 BK285 hg; have NI287_285 := ni NB287_285; replace BK285 := bk BK285 hb; have NB286_287 := b1 BK286 hg; have NI286_287 := ni NB286_287; have NB287_286 := b2 BK286 hg; have NI287_286 := ni NB287_286; replace BK286 := bk BK286 hb; clear hb hbox hg; have hnb6 := NB285_286.out; have hnc6 := NB286_285.out; have hnb7 := NB285_287.out; have hnc7 := NB287_285.out; have hcz8_0 := bc0 BK285.out; have hcz8_1 := bc1 BK285.out; have hcz8_2 := bc2 BK285.out; have hcz8_3 := bc3 BK285.out; have hcz8_4 := bc4 BK285.out; have hcz8_5 := bc5 BK285.out; have hfz8_0 := blk_frozen BK285.out 0; have hfz8_1 := blk_frozen BK285.out 1; have hfz8_2 := blk_frozen BK285.out 2; have hfz8_3 := blk_frozen BK285.out 3; have hfz8_4 := blk_frozen BK285.out 4; have hfz8_5 := blk_frozen BK285.out 5; have hnb9 := NB287_286.out; have hnc9 := NB286_287.out; have hcz10_0 := bc0 BK287.out; have hcz10_1 := bc1 BK287.out; have hcz10_2 := bc2 BK287.out; have hcz10_3 := bc3 BK287.out; have hcz10_4 := bc4 BK287.out; have hcz10_5 := bc5 BK287.out; have hfz10_0 := blk_frozen BK287.out 0; have hfz10_1 := blk_frozen BK287.out 1; have hfz10_2 := blk_frozen BK287.out 2; have hfz10_3 := blk_frozen BK287.out 3; have hfz10_4 := blk_frozen BK287.out 4; have hfz10_5 := blk_frozen BK287.out 5) | ((with_reducible refine gate_callee (f := 25) rfl ?_); refine gB (some 12) Tryz.func25 #[.agg #[.int .i64 a0_2, .string a0_3, .slice A0_4 l0_4.length c0_4]] ?_; (with_reducible refine (laws_toQc.calls k a0_2 a0_3 _ _ l0_4 t288 t289 t290 _ ?side1 ?side2 A2.out).mono ?_); (case side1 => exact Kd.C_below HR0_4.out (bI HB.out)); (case side2 => exact HC0_4.out); rintro e w11 ⟨v291, rfl, ho0, hb⟩; refine ⟨_, rfl, ?_⟩; have HO292 := Aside0.mk (Kd.R_lower ho0 (below_size (bI HB.out))); replace BK285 := Aside0.mk (blk_below (g := gb285) (o := .cells #[.int .i64 a0_0, .int .i64 a0_1, .int .i64 a0_2, .string a0_3, .slice A0_4 l0_4.length c0_4, .string a0_5] 28 (0, 0)) (gI BK285.out) hb); replace BK286 := Aside0.mk (blk_below (g := gb286) (o := .cells #[.int .i64 0, .int .i64 0, .int .i64 0, .string (⟨#[]⟩ : ByteArray), .slice none 0 0, .string (⟨#[]⟩ : ByteArray)] 35 (0, 0)) (gI BK286.out) hb); replace BK287 := bp BK287 hb #[.int .i64 a0_0, .int .i64 a0_1, .int .i64 0, .string (⟨#[]⟩ : ByteArray), .slice none 0 0, .string (⟨#[]⟩ : ByteArray)]; replace HB := bs HB hb; (try clear hb); (try clear ho0); have hcz12_0 := bc0 BK287.out; have hcz12_1 := bc1 BK287.out; have hcz12_2 := bc2 BK287.out; have hcz12_3 := bc3 BK287.out; have hcz12_4 := bc4 BK287.out; have hcz12_5 := bc5 BK287.out; have hfz12_0 := blk_frozen BK287.out 0; have hfz12_1 := blk_frozen BK287.out 1; have hfz12_2 := blk_frozen BK287.out 2; have hfz12_3 := blk_frozen BK287.out 3; have hfz12_4 := blk_frozen BK287.out 4; have hfz12_5 := blk_frozen BK287.out 5; obtain ⟨Ao13, co13, eo13⟩ := Kd.R_slice HO292.out; subst eo13; have hcz14_0 := bc0 BK285.out; have hcz14_1 := bc1 BK285.out; have hcz14_2 := bc2 BK285.out; have hcz14_3 := bc3 BK285.out; have hcz14_4 := bc4 BK285.out; have hcz14_5 := bc5 BK285.out; have hfz14_0 := blk_frozen BK285.out 0; have hfz14_1 := blk_frozen BK285.out 1; have hfz14_2 := blk_frozen BK285.out 2; have hfz14_3 := blk_frozen BK285.out 3; have hfz14_4 := blk_frozen BK285.out 4; have hfz14_5 := blk_frozen BK285.out 5; have hcz15_0 := bc0 BK286.out; have hcz15_1 := bc1 BK286.out; have hcz15_2 := bc2 BK286.out; have hcz15_3 := bc3 BK286.out; have hcz15_4 := bc4 BK286.out; have hcz15_5 := bc5 BK286.out; have hfz15_0 := blk_frozen BK286.out 0; have hfz15_1 := blk_frozen BK286.out 1; have hfz15_2 := blk_frozen BK286.out 2; have hfz15_3 := blk_frozen BK286.out 3; have hfz15_4 := blk_frozen BK286.out 4; have hfz15_5 := blk_frozen BK286.out 5))
 refine bodyPost_ret (results_cell_row rfl _ _ gb286 35 #[.int .i64 a0_0, .int .i64 a0_1, .int .i64 t288, .string t289, .slice Ao13 t290.length co13, .string a0_5] (0, 0) _ rfl (pI BK286) Tryz.underlying35 rfl (by kernel_rfl)) rfl ?_
 exact ⟨_, y0_7, by (with_reducible repeat (first | apply Kd.R_alloc | apply Kd.R_drewN | apply Kd.R_drew)); exact Kd.R_mono (Kd.R_far (p := ⟨gb286, 5, none⟩) (Kd.R_far (p := ⟨gb286, 4, none⟩) (Kd.R_far (p := ⟨gb286, 3, none⟩) (Kd.R_far (p := ⟨gb286, 2, none⟩) (Kd.R_far (p := ⟨gb286, 1, none⟩) (Kd.R_far (p := ⟨gb286, 0, none⟩) (Kd.R_far (p := ⟨gb287, 5, none⟩) (Kd.R_far (p := ⟨gb287, 4, none⟩) (Kd.R_far (p := ⟨gb287, 3, none⟩) (Kd.R_far (p := ⟨gb287, 2, none⟩) (Kd.R_types (Kd.R_types HO292.out BK287.out (by decide)) BK286.out (by decide)) (fun _ hk => hk.1.2) (.int .i64 t288)) (fun _ hk => hk.1.2) (.string t289)) (fun _ hk => hk.1.2) (.slice Ao13 t290.length co13)) (fun _ hk => hk.1.2) (.string a0_5)) (fun _ hk => hk.2) (.int .i64 a0_0)) (fun _ hk => hk.2) (.int .i64 a0_1)) (fun _ hk => hk.2) (.int .i64 t288)) (fun _ hk => hk.2) (.string t289)) (fun _ hk => hk.2) (.slice Ao13 t290.length co13)) (fun _ hk => hk.2) (.string a0_5)) (fun _ hk => trivial), bI HB.out⟩

/-! ### laws_toBlock: function 16 -/
def laws_toBlock.f (k : Nat) (a0_0 : ByteArray) (a0_1 : Int) (a0_2 : ByteArray) (l0_3 : List Int) : Option (ByteArray × Int × ByteArray × List Int) := (laws_toQc.f k a0_1 a0_2 l0_3).bind fun bt296 => (some (a0_0, bt296.1, bt296.2.1, bt296.2.2))
theorem laws_toBlock.mono : ∀ a0 a1 a2 a3 k, LeO (laws_toBlock.f k a0 a1 a2 a3) (laws_toBlock.f (k + 1) a0 a1 a2 a3) := by
 intro a0 a1 a2 a3 k
 unfold laws_toBlock.f
 repeat' first | (with_reducible exact laws_toQc.mono _ _ _ _) | (with_reducible exact LeO.refl _) | (with_reducible exact LeO.none _) | (with_reducible refine LeO.ite ?_ ?_) | (with_reducible refine LeO.bind ?_ (fun _ => ?_))
set_option maxHeartbeats 8000000 in
set_option maxRecDepth 100000 in
theorem laws_toBlock.calls (k : Nat) (a0_0 : ByteArray) (a0_1 : Int) (a0_2 : ByteArray) (A0_3 : Option Addr) (c0_3 : Nat) (l0_3 : List Int) (r1 : ByteArray) (r2 : Int) (r3 : ByteArray) (r4 : List Int) (w : World) (hr0_3 : Kd.C (Kd.int .i64) w A0_3 l0_3.length l0_3) (hc0_3 : l0_3.length ≤ c0_3) (h : laws_toBlock.f k a0_0 a0_1 a0_2 l0_3 = some (r1, r2, r3, r4)) :
  Calls Tryz.prog 16 #[.agg #[.string a0_0, .int .i64 a0_1, .string a0_2, .slice A0_3 l0_3.length c0_3]] w fun e w' => ∃ v3_ : Value, e = .returned (.agg #[.string r1, .int .i64 r2, .string r3, v3_]) ∧ Kd.R (Kd.int .i64) 3 w' w.heap.size (fun _ => True) v3_ r4 ∧ Below w.heap.size w w' := by
 have hu30 := Tryz.underlying30; have hu42 := Tryz.underlying42; have hu26 := Tryz.underlying26; have hu33 := Tryz.underlying33; have HR0_3 := Aside0.mk hr0_3; have HC0_3 := Aside0.mk hc0_3; clear hr0_3 hc0_3; have HB := Aside0.mk (Below.refl w.heap.size w)
 have H : ((laws_toQc.f k a0_1 a0_2 l0_3).bind fun bt296 => (some (a0_0, bt296.1, bt296.2.1, bt296.2.2))) = some (r1, r2, r3, r4) := h
 clear h; obtain ⟨⟨t296, t297, t298⟩, A20, H⟩ := Option.bind_eq_some_iff.mp H
 try dsimp only at H
 have A2 := Aside0.mk A20; clear A20
 simp only [Option.some.injEq, Prod.mk.injEq] at H
 obtain ⟨rfl, rfl, rfl, rfl⟩ := H
 go_enter Tryz.func16, Tryz.ntmps16
 go_wp2_with (first | ((with_reducible refine gd 1 ?_); refine bA 1 #[.string a0_0, .int .i64 a0_1, .string a0_2, .slice A0_3 l0_3.length c0_3] 30 ?_; intro gb293 hg w3 hbox hb; have BK293 := Aside0.mk (hbox); have GW293 := bg hg HB; have GJ293 := gi GW293; have GE293 := GW293; replace HB := bs HB hb; clear hb hbox hg) | ((with_reducible refine gd 2 ?_); refine bA 2 #[.string (⟨#[]⟩ : ByteArray), .int .i64 0, .string (⟨#[]⟩ : ByteArray), .slice none 0 0] 42 ?_; intro gb294 hg w4 hbox hb; have BK294 := Aside0.mk (hbox); have GW294 := bg hg HB; have GJ294 := gi GW294; have GE294 := GW294; replace HB := bs HB hb; have NB293_294 := b1 BK293 hg; have NI293_294 := ni NB293_294; have NB294_293 := b2 BK293 hg; have NI294_293 := ni NB294_293; replace BK293 := bk BK293 hb; clear hb hbox hg) | ((with_reducible refine gd 3 ?_); refine bA 3 #[.string (⟨#[]⟩ : ByteArray), .int .i64 0, .string (⟨#[]⟩ : ByteArray), .slice none 0 0] 42 ?_; intro gb295 hg w5 hbox hb; have BK295 := Aside0.mk (hbox); have GW295 := bg hg HB; have GJ295 := gi GW295; have GE295 := GW295; replace HB := bs HB hb; have NB293_295 := b1 BK293 hg; have NI293_295 := ni NB293_295; have NB295_293 := b2 BK293 hg; have NI295_293 := ni NB295_293; replace BK293 := bk BK293 hb; have NB294_295 := b1 BK294 hg; have NI294_295 := ni NB294_295; have NB295_294 := b2 BK294 hg; have NI295_294 := ni NB295_294; replace BK294 := bk BK294 hb; clear hb hbox hg; have hnb6 := NB293_294.out; have hnc6 := NB294_293.out; have hnb7 := NB293_295.out; have hnc7 := NB295_293.out; obtain ⟨hcz8_0, hcz8_1, hcz8_2, hcz8_3, hfz8_0, hfz8_1, hfz8_2, hfz8_3⟩ := cs4 BK293; have hnb9 := NB295_294.out; have hnc9 := NB294_295.out; obtain ⟨hcz10_0, hcz10_1, hcz10_2, hcz10_3, hfz10_0, hfz10_1, hfz10_2, hfz10_3⟩ := cs4 BK295) | ((with_reducible refine gate_callee (f := 25) rfl ?_); refine gB (some 9) Tryz.func25 #[.agg #[.int .i64 a0_1, .string a0_2, .slice A0_3 l0_3.length c0_3]] ?_; (with_reducible refine (laws_toQc.calls k a0_1 a0_2 _ _ l0_3 t296 t297 t298 _ ?side1 ?side2 A2.out).mono ?_); (case side1 => exact Kd.C_below HR0_3.out (bI HB.out)); (case side2 => exact HC0_3.out); rintro e w11 ⟨v299, rfl, ho0, hb⟩; refine ⟨_, rfl, ?_⟩; have HO300 := Aside0.mk (Kd.R_lower ho0 (below_size (bI HB.out))); replace BK293 := Aside0.mk (blk_below (g := gb293) (o := .cells #[.string a0_0, .int .i64 a0_1, .string a0_2, .slice A0_3 l0_3.length c0_3] 30 (0, 0)) (gI BK293.out) hb); replace BK294 := Aside0.mk (blk_below (g := gb294) (o := .cells #[.string (⟨#[]⟩ : ByteArray), .int .i64 0, .string (⟨#[]⟩ : ByteArray), .slice none 0 0] 42 (0, 0)) (gI BK294.out) hb); replace BK295 := bp BK295 hb #[.string a0_0, .int .i64 0, .string (⟨#[]⟩ : ByteArray), .slice none 0 0]; replace HB := bs HB hb; (try clear hb); (try clear ho0); obtain ⟨hcz12_0, hcz12_1, hcz12_2, hcz12_3, hfz12_0, hfz12_1, hfz12_2, hfz12_3⟩ := cs4 BK295; obtain ⟨Ao13, co13, eo13⟩ := Kd.R_slice HO300.out; subst eo13; obtain ⟨hcz14_0, hcz14_1, hcz14_2, hcz14_3, hfz14_0, hfz14_1, hfz14_2, hfz14_3⟩ := cs4 BK294))
 refine bodyPost_ret (results_cell_row rfl _ _ gb294 42 #[.string a0_0, .int .i64 t296, .string t297, .slice Ao13 t298.length co13] (0, 0) _ rfl (pI BK294) Tryz.underlying42 rfl (by kernel_rfl)) rfl ?_
 exact ⟨_, y0_7, by (with_reducible repeat (first | apply Kd.R_alloc | apply Kd.R_drewN | apply Kd.R_drew)); exact Kd.R_mono (Kd.R_far (p := ⟨gb294, 3, none⟩) (Kd.R_far (p := ⟨gb294, 2, none⟩) (Kd.R_far (p := ⟨gb294, 1, none⟩) (Kd.R_far (p := ⟨gb294, 0, none⟩) (Kd.R_far (p := ⟨gb295, 3, none⟩) (Kd.R_far (p := ⟨gb295, 2, none⟩) (Kd.R_far (p := ⟨gb295, 1, none⟩) (Kd.R_types (Kd.R_types HO300.out BK295.out (by decide)) BK294.out (by decide)) (fun _ hk => hk.1.2) (.int .i64 t296)) (fun _ hk => hk.1.2) (.string t297)) (fun _ hk => hk.1.2) (.slice Ao13 t298.length co13)) (fun _ hk => hk.2) (.string a0_0)) (fun _ hk => hk.2) (.int .i64 t296)) (fun _ hk => hk.2) (.string t297)) (fun _ hk => hk.2) (.slice Ao13 t298.length co13)) (fun _ hk => trivial), bI HB.out⟩

/-! ### impl_within: function 99 -/
def impl_within.f (a0 : Int) (a1 : Int) (a2 : Int) : Option (Bool) := if a0 ≥ a1 then (some (decide (a0 ≤ a2))) else (some false)
set_option maxHeartbeats 8000000 in
set_option maxRecDepth 100000 in
theorem impl_within.calls (a0 : Int) (a1 : Int) (a2 : Int) (r : Bool) (w : World) (h : impl_within.f a0 a1 a2 = some r) :
  Calls Tryz.prog 99 #[.int .i64 a0, .int .i64 a1, .int .i64 a2] w fun e w' => e = .returned (.bool r) ∧ Drawn0 w w' := by
 have H : (if a0 ≥ a1 then (some (decide (a0 ≤ a2))) else (some false)) = some r := h; clear h
 by_cases c4 : a0 ≥ a1
 ·
  rw [if_pos c4] at H
  have c4b0 : decide (a1 ≤ a0) = true := decide_eq_true c4; clear c4; obtain rfl := Option.some.inj H
  go_enter Tryz.func99, Tryz.ntmps99
  go_wp2
  go_ret
  exact ⟨y0_10, y0_8⟩
 rw [if_neg c4] at H
 have c4b0 : decide (a1 ≤ a0) = false := decide_eq_false c4; clear c4; obtain rfl := Option.some.inj H
 go_enter Tryz.func99, Tryz.ntmps99
 go_wp2
 go_ret
 exact ⟨y0_10, y0_8⟩

/-! ### strings_Split: function 141 -/

/-! ### impl_Split: function 119 -/
def impl_Split.f (a0 : ByteArray) (a1 : Int) : Option (List ByteArray) := (strings_Split.f a0 (strOfNums (([a1] : List Int)))).bind fun t304 => (some t304)
set_option maxHeartbeats 8000000 in
set_option maxRecDepth 100000 in
theorem impl_Split.calls (a0 : ByteArray) (a1 : Int) (r : List ByteArray) (w : World) (h : impl_Split.f a0 a1 = some r) (hG : Glob w := by exact gG HG HB) :
  Calls Tryz.prog 119 #[.string a0, .int .u8 a1] w fun e w' => ∃ v0_ : Value, e = .returned (v0_) ∧ Kd.R Kd.string 9 w' w.heap.size (fun _ => True) v0_ r ∧ Below w.heap.size w w' := by
 have HG := Aside0.mk hG; clear hG; have HB := Aside0.mk (Below.refl w.heap.size w)
 have H : ((strings_Split.f a0 (strOfNums (([a1] : List Int)))).bind fun t304 => (some t304)) = some r := h
 clear h; obtain ⟨y301, hy301⟩ : ∃ y_ : List Int, y_ = (([a1] : List Int)) := ⟨_, rfl⟩
 replace H : ((strings_Split.f a0 (strOfNums y301)).bind fun t304 => (some t304)) = some r := by first | (rw [hy301]; with_reducible exact H) | (have H2_ := (Option.bind_some _ _).symm.trans H; rw [hy301]; with_reducible exact H2_) | (have H2_ := (Option.bind_some _ _).symm.trans H; with_reducible exact H2_) | with_reducible exact H | (rw [hy301]; exact H) | exact H
 have Ny301 := Aside0.mk hy301; clear hy301; obtain ⟨t304, A30, H⟩ := Option.bind_eq_some_iff.mp H
 try dsimp only at H
 have A3 := Aside0.mk A30; clear A30; obtain rfl := Option.some.inj H
 go_enter Tryz.func119, Tryz.ntmps119
 go_wp2_with (first | ((with_reducible refine gate_dst (N := 7) rfl ?_); refine Kd.R_lit (Kd.int .u8) _ 5 ?hg (N := 7) ?hd (xs := ([a1] : List Int)) (inner := [.int .u8 a1]) (ok := fun _ => True) (okp := fun _ => True) ?hr ?hp (fun _ hk => hk) trivial (Below.refl _ _) (Nat.le_refl _) (by simp) ?_; (case hd => rfl); (case hg => rfl); (case hr => first | (go_simp; done) | (go_simp; rfl)); (case hp => exact (Reps.one (show Kd.M (Kd.int .u8) _ _ _ a1 [.int .u8 a1] from rfl) (Reps.none _ _))); intro v302 w4 ho5 hb hg_ hnew_; clear hg_ hnew_; (first | rw [← Ny301.out] at ho5 | (simp only [Int.reduceToNat] at ho5; rw [← Ny301.out] at ho5)); have HO303 := Aside0.mk (Kd.R_lower ho5 (below_size (bI HB.out))); replace HB := bs HB hb; clear hb ho5; have hcv6 := own_string (P := Tryz.prog) Tryz.underlying64 Tryz.underlying5 Tryz.underlying9 (Kd.own_of_R HO303.out)) | ((with_reducible refine gate_callee (f := 141) rfl ?_); refine gB (some 9) Tryz.func141 #[.string a0, .string (strOfNums y301)] ?_; (with_reducible refine (strings_Split.calls a0 (strOfNums y301) t304 _ A3.out).mono ?_); rintro e w7 ⟨v305, rfl, ho0, hb⟩; refine ⟨_, rfl, ?_⟩; replace HO303 := rb HO303 hb; have HO306 := Aside0.mk (Kd.R_lower ho0 (below_size (bI HB.out))); replace HB := bs HB hb; (try clear hb); (try clear ho0)))
 go_ret
 exact ⟨_, y0_7, by (with_reducible repeat (first | apply Kd.R_alloc | apply Kd.R_drewN | apply Kd.R_drew)); exact HO306.out, bI HB.out⟩

/-! ### strings_Cut: function 120 -/

/-! ### strconv_Itoa_134: function 134 -/

/-! ### impl_Digits: function 111 -/
def impl_Digits.f (a0 : Int) : Option (ByteArray) := (strconv_Itoa_134.f a0).bind fun t307 => (some t307)
set_option maxHeartbeats 8000000 in
set_option maxRecDepth 100000 in
theorem impl_Digits.calls (a0 : Int) (r : ByteArray) (w : World) (h : impl_Digits.f a0 = some r) (hG : Glob w := by exact gG HG HB) :
  Calls Tryz.prog 111 #[.int .i64 a0] w fun e w' => e = .returned (.string r) ∧ Below w.heap.size w w' := by
 have HG := Aside0.mk hG; clear hG; have HB := Aside0.mk (Below.refl w.heap.size w)
 have H : ((strconv_Itoa_134.f a0).bind fun t307 => (some t307)) = some r := h
 clear h; obtain ⟨t307, A20, H⟩ := Option.bind_eq_some_iff.mp H
 try dsimp only at H
 have A2 := Aside0.mk A20; clear A20; obtain rfl := Option.some.inj H
 go_enter Tryz.func111, Tryz.ntmps111
 go_wp2_with (first | ((with_reducible refine gate_callee (f := 134) rfl ?_); refine gB (some 4) Tryz.func134 #[.int .i64 a0] ?_; (with_reducible refine (strconv_Itoa_134.calls a0 t307 _ A2.out).mono ?_); rintro e w3 ⟨rfl, hb⟩; refine ⟨_, rfl, ?_⟩; replace HB := bs HB hb; (try clear hb); (try clear hb2); (try clear hk); (try clear hi)))
 go_ret
 exact ⟨y0_7, bI HB.out⟩

/-! ### impl_Number: function 121 -/
mutual
def impl_Number.j0 : Nat → ByteArray → Bool → Option (Int × Bool)
 | 0, _, _ => none
 | k + 1, x0, x13 => if x13 = true then (some (0, false)) else (impl_Number.l0 k x0 0 0)
def impl_Number.l0 : Nat → ByteArray → Int → Int → Option (Int × Bool)
 | 0, _, _, _ => none
 | k + 1, x0, x4, x5 => if x5 < (x0.size : Int) then (if 0 ≤ x5 then (if (bt x0 x5) < 48 then (some (0, false)) else (if (bt x0 x5) > 57 then (some (0, false)) else (impl_Number.l0 k x0 (wrap64 ((wrap64 (10 * x4)) + (((bt x0 x5) - 48) % 256))) (wrap64 (x5 + 1))))) else (none)) else ((impl_Digits.f x4).bind fun t308 => (if t308.toList = x0.toList then (some (x4, true)) else (some (0, false))))
end
def impl_Number.f (k : Nat) (a0 : ByteArray) : Option (Int × Bool) := if (a0.size : Int) < 1 then (impl_Number.j0 k a0 true) else (impl_Number.j0 k a0 (decide ((a0.size : Int) > 6)))
theorem impl_Number.mono_l : ∀ k, (∀ y0 y1, LeO (impl_Number.j0 k y0 y1) (impl_Number.j0 (k + 1) y0 y1)) ∧ (∀ y0 y1 y2, LeO (impl_Number.l0 k y0 y1 y2) (impl_Number.l0 (k + 1) y0 y1 y2))
 | 0 => ⟨fun _ _ r h => by simp [impl_Number.j0] at h, fun _ _ _ r h => by simp [impl_Number.l0] at h⟩
 | k + 1 => by
  obtain ⟨ih0, ih1⟩ := impl_Number.mono_l k
  refine ⟨?_, ?_⟩
  ·
   intro y0 y1
   unfold impl_Number.j0
   repeat' first | (with_reducible exact ih0 _ _) | (with_reducible exact ih1 _ _ _) | (with_reducible exact LeO.refl _) | (with_reducible exact LeO.none _) | (with_reducible refine LeO.ite ?_ ?_) | (with_reducible refine LeO.bind ?_ (fun _ => ?_))
  intro y0 y1 y2
  unfold impl_Number.l0
  repeat' first | (with_reducible exact ih0 _ _) | (with_reducible exact ih1 _ _ _) | (with_reducible exact LeO.refl _) | (with_reducible exact LeO.none _) | (with_reducible refine LeO.ite ?_ ?_) | (with_reducible refine LeO.bind ?_ (fun _ => ?_))
theorem impl_Number.mono : ∀ a0 k, LeO (impl_Number.f k a0) (impl_Number.f (k + 1) a0) := by
 intro a0 k
 obtain ⟨ih0, ih1⟩ := impl_Number.mono_l k
 unfold impl_Number.f
 repeat' first | (with_reducible exact ih0 _ _) | (with_reducible exact ih1 _ _ _) | (with_reducible exact LeO.refl _) | (with_reducible exact LeO.none _) | (with_reducible refine LeO.ite ?_ ?_) | (with_reducible refine LeO.bind ?_ (fun _ => ?_))
set_option maxHeartbeats 8000000 in
set_option maxRecDepth 100000 in
theorem impl_Number.calls (k : Nat) (a0 : ByteArray) (r1 : Int) (r2 : Bool) (w : World) (h : impl_Number.f k a0 = some (r1, r2)) (hG : Glob w := by exact gG HG HB) :
  Calls Tryz.prog 121 #[.string a0] w fun e w' => e = .returned (.tuple #[.int .i64 r1, .bool r2]) ∧ Below w.heap.size w w' := by
 have HG := Aside0.mk hG; clear hG; have HB := Aside0.mk (Below.refl w.heap.size w); have H : (if (a0.size : Int) < 1 then (impl_Number.j0 k a0 true) else (impl_Number.j0 k a0 (decide ((a0.size : Int) > 6)))) = some (r1, r2) := h; clear h; have HC2 := Aside0.mk H; clear H
 go_enter Tryz.func121, Tryz.ntmps121
 go_upto_region 1 with (fail)
 go_cut [13] (fun v13 wc => ∃ (kq : Nat) (x13_1 : Bool), v13 = .bool x13_1 ∧ Aside0 (impl_Number.j0 kq a0 x13_1 = some (r1, r2)) ∧ Aside0 (kq ≤ k) ∧ Aside0 (Below w.heap.size w wc))
 case first =>
  have H := HC2.out; clear HC2
  by_cases c3 : (a0.size : Int) < 1
  ·
   rw [if_pos c3] at H
   have c3b0 : decide ((a0.size : Int) < 1) = true := decide_eq_true c3
   have c3b1 : decide (a0.size < 1) = true := decide_eq_true (by omega)
   clear c3
   (first | rw [c3b0] | (simp only [i64_w, i32_w]; rw [c3b0]) | skip)
   have H' := Aside0.mk H; clear H
   go_wp2
   go_meet
   case rel => exact ⟨_, (true), y0_10, H', ⟨y0_11⟩, ⟨bI HB.out⟩⟩
  rw [if_neg c3] at H
  have c3b0 : decide ((a0.size : Int) < 1) = false := decide_eq_false c3
  have c3b1 : decide (a0.size < 1) = false := decide_eq_false (by omega)
  clear c3
  (first | rw [c3b0] | (simp only [i64_w, i32_w]; rw [c3b0]) | skip)
  have H' := Aside0.mk H; clear H
  go_wp2
  go_meet
  case rel => exact ⟨_, (decide ((a0.size : Int) > 6)), y0_10, H', ⟨y0_11⟩, ⟨bI HB.out⟩⟩
 case rest =>
  clear HC2
  try clear c1
  try clear p2
  try clear c3
  try clear c3b0
  try clear c3b1
  obtain ⟨kq, x13_1, rfl, HA, HJ1, HB⟩ := hcut; cases kq with
  | zero => exact absurd HA.out (by simp [impl_Number.j0])
  | succ kj1 =>
   have H := HA.out; clear HA
   simp only [impl_Number.j0] at H
   by_cases c4 : x13_1 = true
   ·
    subst c4
    rw [if_pos rfl] at H
    simp only [Option.some.injEq, Prod.mk.injEq] at H
    obtain ⟨rfl, rfl⟩ := H
    go_wp2
    go_ret2
    exact ⟨y0_7, bI HB.out⟩
   replace c4 := Bool.eq_false_iff.mpr c4; subst c4
   rw [if_neg (show ¬ (false = true) by decide)] at H
   have H' := Aside0.mk H; clear H
   go_wp2
   go_loopg [4, 5] kj1 (fun kq v4 v5 w' => ∃ (x4_2 : Int) (x5_2 : Int), v4 = .int .i64 x4_2 ∧ v5 = .int .i64 x5_2 ∧ Aside0 (impl_Number.l0 kq a0 x4_2 x5_2 = some (r1, r2)) ∧ Aside0 (kq ≤ kj1) ∧ Aside0 (Below w.heap.size w w'))
   case atStart => exact ⟨(0), (0), y0_10, y0_10, H', ⟨Nat.le_refl _⟩, ⟨bI HB.out⟩⟩
   case round =>
    clear H'
    try clear c1
    try clear p2
    try clear c3
    try clear c3b0
    try clear c3b1
    try clear c4
    try clear p2
    obtain ⟨x4_2, x5_2, rfl, rfl, HA, HK2, HB⟩ := hrel; cases gk with
    | zero => exact absurd HA.out (by simp [impl_Number.l0])
    | succ k2 =>
     have H := HA.out; clear HA
     simp only [impl_Number.l0] at H
     by_cases c5 : x5_2 < (a0.size : Int)
     ·
      rw [if_pos c5] at H
      have c5b0 : decide (x5_2 < (a0.size : Int)) = true := decide_eq_true c5; clear c5
      by_cases c6 : 0 ≤ x5_2
      rotate_left
      ·
       rw [if_neg c6] at H
       exact absurd H (by simp)
      rw [if_pos c6] at H
      have c6b0 : decide (0 ≤ x5_2) = true := decide_eq_true c6; clear c6
      by_cases c8 : (bt a0 x5_2) < 48
      ·
       rw [if_pos c8] at H
       have c8b0 : decide ((bt a0 x5_2) < 48) = true := decide_eq_true c8; clear c8
       simp only [Option.some.injEq, Prod.mk.injEq] at H
       obtain ⟨rfl, rfl⟩ := H; have p7 : 0 ≤ (x5_2 : Int) := of_decide_eq_true y0_9; have q7 : x5_2 < (a0.size : Int) := of_decide_eq_true y0_9; have hx7 := bt_at a0 x5_2; replace p7 := eq_true p7; replace q7 := eq_true q7
       go_wp2
       go_ret2
       exact ⟨y0_7, bI HB.out⟩
      rw [if_neg c8] at H
      have c8b0 : decide ((bt a0 x5_2) < 48) = false := decide_eq_false c8; clear c8
      by_cases c10 : (bt a0 x5_2) > 57
      ·
       rw [if_pos c10] at H
       have c10b0 : decide (57 < (bt a0 x5_2)) = true := decide_eq_true c10; clear c10
       simp only [Option.some.injEq, Prod.mk.injEq] at H
       obtain ⟨rfl, rfl⟩ := H; have p7 : 0 ≤ (x5_2 : Int) := of_decide_eq_true y0_9; have q7 : x5_2 < (a0.size : Int) := of_decide_eq_true y0_9; have hx7 := bt_at a0 x5_2; replace p7 := eq_true p7; replace q7 := eq_true q7; have p9 : 0 ≤ (x5_2 : Int) := of_decide_eq_true y0_9; have q9 : x5_2 < (a0.size : Int) := of_decide_eq_true y0_9; have hx9 := bt_at a0 x5_2; replace p9 := eq_true p9; replace q9 := eq_true q9
       go_wp2
       go_ret2
       exact ⟨y0_7, bI HB.out⟩
      rw [if_neg c10] at H
      have c10b0 : decide (57 < (bt a0 x5_2)) = false := decide_eq_false c10; clear c10; have H' := Aside0.mk H; clear H; have p7 : 0 ≤ (x5_2 : Int) := of_decide_eq_true y0_9; have q7 : x5_2 < (a0.size : Int) := of_decide_eq_true y0_9; have hx7 := bt_at a0 x5_2; replace p7 := eq_true p7; replace q7 := eq_true q7; have p9 : 0 ≤ (x5_2 : Int) := of_decide_eq_true y0_9; have q9 : x5_2 < (a0.size : Int) := of_decide_eq_true y0_9; have hx9 := bt_at a0 x5_2; replace p9 := eq_true p9; replace q9 := eq_true q9; have p11 : 0 ≤ (x5_2 : Int) := of_decide_eq_true y0_9; have q11 : x5_2 < (a0.size : Int) := of_decide_eq_true y0_9; have hx11 := bt_at a0 x5_2; replace p11 := eq_true p11; replace q11 := eq_true q11
      go_wp2
      go_roundg k2
      case measure => have := HJ1.out; have := HK2.out; omega
      case rel => exact ⟨(wrap64 ((wrap64 (10 * x4_2)) + (((bt a0 x5_2) - 48) % 256))), (wrap64 (x5_2 + 1)), y0_10, y0_10, H', ⟨by have := HJ1.out; have := HK2.out; omega⟩, ⟨bI HB.out⟩⟩
     rw [if_neg c5] at H
     have c5b0 : decide (x5_2 < (a0.size : Int)) = false := decide_eq_false c5; clear c5; obtain ⟨t308, A120, H⟩ := Option.bind_eq_some_iff.mp H
     try dsimp only at H
     have A12 := Aside0.mk A120; clear A120
     by_cases c13 : t308.toList = a0.toList
     ·
      rw [if_pos c13] at H
      have c13b0 : (t308.toList == a0.toList) = true := beq_iff_eq.mpr c13; have c13b1 : (t308.toList != a0.toList) = false := bne_eq_false_iff_eq.mpr c13; clear c13
      simp only [Option.some.injEq, Prod.mk.injEq] at H
      obtain ⟨rfl, rfl⟩ := H
      go_wp2_with (first | ((with_reducible refine gate_callee (f := 111) rfl ?_); refine gB (some 39) Tryz.func111 #[.int .i64 x4_2] ?_; (with_reducible refine (impl_Digits.calls x4_2 t308 _ A12.out).mono ?_); rintro e w14 ⟨rfl, hb⟩; refine ⟨_, rfl, ?_⟩; replace HB := bs HB hb; (try clear hb); (try clear hb2); (try clear hk); (try clear hi)))
      go_ret2
      exact ⟨y0_7, bI HB.out⟩
     rw [if_neg c13] at H
     have c13b0 : (t308.toList == a0.toList) = false := beq_eq_false_iff_ne.mpr c13; have c13b1 : (t308.toList != a0.toList) = true := bne_iff_ne.mpr c13
     simp only [Option.some.injEq, Prod.mk.injEq] at H
     obtain ⟨rfl, rfl⟩ := H
     go_wp2_with (first | ((with_reducible refine gate_callee (f := 111) rfl ?_); refine gB (some 39) Tryz.func111 #[.int .i64 x4_2] ?_; (with_reducible refine (impl_Digits.calls x4_2 t308 _ A12.out).mono ?_); rintro e w15 ⟨rfl, hb⟩; refine ⟨_, rfl, ?_⟩; replace HB := bs HB hb; (try clear hb); (try clear hb2); (try clear hk); (try clear hi)))
     go_ret2
     exact ⟨y0_7, bI HB.out⟩

/-! ### impl_TxOk: function 110 -/
def impl_TxOk.f (a0_0 : Int) (a0_1 : Int) (a0_2 : Int) (a0_3 : Int) : Option (Bool) := (impl_within.f a0_0 0 3).bind fun t310 => (if t310 = true then ((impl_within.f a0_1 0 3).bind fun t311 => (if t311 = true then ((impl_within.f a0_2 0 1000).bind fun t312 => (if t312 = true then ((impl_within.f a0_3 0 99).bind fun t313 => (some t313)) else (some false))) else (some false))) else (some false))
set_option maxHeartbeats 8000000 in
set_option maxRecDepth 100000 in
theorem impl_TxOk.calls (a0_0 : Int) (a0_1 : Int) (a0_2 : Int) (a0_3 : Int) (r : Bool) (w : World) (h : impl_TxOk.f a0_0 a0_1 a0_2 a0_3 = some r) :
  Calls Tryz.prog 110 #[.agg #[.int .i64 a0_0, .int .i64 a0_1, .int .i64 a0_2, .int .i64 a0_3]] w fun e w' => e = .returned (.bool r) ∧ Below w.heap.size w w' := by
 have hu99 := Tryz.underlying99; have HB := Aside0.mk (Below.refl w.heap.size w)
 have H : ((impl_within.f a0_0 0 3).bind fun t310 => (if t310 = true then ((impl_within.f a0_1 0 3).bind fun t311 => (if t311 = true then ((impl_within.f a0_2 0 1000).bind fun t312 => (if t312 = true then ((impl_within.f a0_3 0 99).bind fun t313 => (some t313)) else (some false))) else (some false))) else (some false))) = some r := h
 clear h; obtain ⟨t310, A20, H⟩ := Option.bind_eq_some_iff.mp H
 try dsimp only at H
 have A2 := Aside0.mk A20; clear A20
 by_cases c3 : t310 = true
 ·
  subst c3
  rw [if_pos rfl] at H
  obtain ⟨t311, A40, H⟩ := Option.bind_eq_some_iff.mp H
  try dsimp only at H
  have A4 := Aside0.mk A40; clear A40
  by_cases c5 : t311 = true
  ·
   subst c5
   rw [if_pos rfl] at H
   obtain ⟨t312, A60, H⟩ := Option.bind_eq_some_iff.mp H
   try dsimp only at H
   have A6 := Aside0.mk A60; clear A60
   by_cases c7 : t312 = true
   ·
    subst c7
    rw [if_pos rfl] at H
    obtain ⟨t313, A80, H⟩ := Option.bind_eq_some_iff.mp H
    try dsimp only at H
    have A8 := Aside0.mk A80; clear A80; obtain rfl := Option.some.inj H
    go_enter Tryz.func110, Tryz.ntmps110
    go_wp2_with (first | ((with_reducible refine gd 1 ?_); refine bA 1 #[.int .i64 a0_0, .int .i64 a0_1, .int .i64 a0_2, .int .i64 a0_3] 99 ?_; intro gb309 hg w9 hbox hb; have BK309 := Aside0.mk (hbox); have GW309 := bg hg HB; have GJ309 := gi GW309; have GE309 := GW309; replace HB := bs HB hb; clear hb hbox hg; obtain ⟨hcz10_0, hcz10_1, hcz10_2, hcz10_3, hfz10_0, hfz10_1, hfz10_2, hfz10_3⟩ := cs4 BK309) | ((with_reducible refine gate_callee (f := 99) rfl ?_); refine gB (some 5) Tryz.func99 #[.int .i64 a0_0, .int .i64 0, .int .i64 3] ?_; (with_reducible refine (impl_within.calls a0_0 0 3 true _ A2.out).mono ?_); rintro e w' ⟨rfl, ⟨nd, rfl⟩⟩; refine ⟨_, rfl, ?_⟩) | (go_at_call 99; (with_reducible refine (impl_within.calls a0_1 0 3 true _ A4.out).mono ?_); rintro e w' ⟨rfl, ⟨nd, rfl⟩⟩) | (go_at_call 99; (with_reducible refine (impl_within.calls a0_2 0 1000 true _ A6.out).mono ?_); rintro e w' ⟨rfl, ⟨nd, rfl⟩⟩) | (go_at_call 99; (with_reducible refine (impl_within.calls a0_3 0 99 t313 _ A8.out).mono ?_); rintro e w' ⟨rfl, ⟨nd, rfl⟩⟩))
    go_ret
    exact ⟨y0_7, bI HB.out⟩
   replace c7 := Bool.eq_false_iff.mpr c7; subst c7
   rw [if_neg (show ¬ (false = true) by decide)] at H
   obtain rfl := Option.some.inj H
   go_enter Tryz.func110, Tryz.ntmps110
   go_wp2_with (first | ((with_reducible refine gd 1 ?_); refine bA 1 #[.int .i64 a0_0, .int .i64 a0_1, .int .i64 a0_2, .int .i64 a0_3] 99 ?_; intro gb309 hg w11 hbox hb; have BK309 := Aside0.mk (hbox); have GW309 := bg hg HB; have GJ309 := gi GW309; have GE309 := GW309; replace HB := bs HB hb; clear hb hbox hg; obtain ⟨hcz12_0, hcz12_1, hcz12_2, hcz12_3, hfz12_0, hfz12_1, hfz12_2, hfz12_3⟩ := cs4 BK309) | ((with_reducible refine gate_callee (f := 99) rfl ?_); refine gB (some 5) Tryz.func99 #[.int .i64 a0_0, .int .i64 0, .int .i64 3] ?_; (with_reducible refine (impl_within.calls a0_0 0 3 true _ A2.out).mono ?_); rintro e w' ⟨rfl, ⟨nd, rfl⟩⟩; refine ⟨_, rfl, ?_⟩) | (go_at_call 99; (with_reducible refine (impl_within.calls a0_1 0 3 true _ A4.out).mono ?_); rintro e w' ⟨rfl, ⟨nd, rfl⟩⟩) | (go_at_call 99; (with_reducible refine (impl_within.calls a0_2 0 1000 false _ A6.out).mono ?_); rintro e w' ⟨rfl, ⟨nd, rfl⟩⟩))
   go_ret
   exact ⟨y0_7, bI HB.out⟩
  replace c5 := Bool.eq_false_iff.mpr c5; subst c5
  rw [if_neg (show ¬ (false = true) by decide)] at H
  obtain rfl := Option.some.inj H
  go_enter Tryz.func110, Tryz.ntmps110
  go_wp2_with (first | ((with_reducible refine gd 1 ?_); refine bA 1 #[.int .i64 a0_0, .int .i64 a0_1, .int .i64 a0_2, .int .i64 a0_3] 99 ?_; intro gb309 hg w13 hbox hb; have BK309 := Aside0.mk (hbox); have GW309 := bg hg HB; have GJ309 := gi GW309; have GE309 := GW309; replace HB := bs HB hb; clear hb hbox hg; obtain ⟨hcz14_0, hcz14_1, hcz14_2, hcz14_3, hfz14_0, hfz14_1, hfz14_2, hfz14_3⟩ := cs4 BK309) | ((with_reducible refine gate_callee (f := 99) rfl ?_); refine gB (some 5) Tryz.func99 #[.int .i64 a0_0, .int .i64 0, .int .i64 3] ?_; (with_reducible refine (impl_within.calls a0_0 0 3 true _ A2.out).mono ?_); rintro e w' ⟨rfl, ⟨nd, rfl⟩⟩; refine ⟨_, rfl, ?_⟩) | (go_at_call 99; (with_reducible refine (impl_within.calls a0_1 0 3 false _ A4.out).mono ?_); rintro e w' ⟨rfl, ⟨nd, rfl⟩⟩))
  go_ret
  exact ⟨y0_7, bI HB.out⟩
 replace c3 := Bool.eq_false_iff.mpr c3; subst c3
 rw [if_neg (show ¬ (false = true) by decide)] at H
 obtain rfl := Option.some.inj H
 go_enter Tryz.func110, Tryz.ntmps110
 go_wp2_with (first | ((with_reducible refine gd 1 ?_); refine bA 1 #[.int .i64 a0_0, .int .i64 a0_1, .int .i64 a0_2, .int .i64 a0_3] 99 ?_; intro gb309 hg w15 hbox hb; have BK309 := Aside0.mk (hbox); have GW309 := bg hg HB; have GJ309 := gi GW309; have GE309 := GW309; replace HB := bs HB hb; clear hb hbox hg; obtain ⟨hcz16_0, hcz16_1, hcz16_2, hcz16_3, hfz16_0, hfz16_1, hfz16_2, hfz16_3⟩ := cs4 BK309) | ((with_reducible refine gate_callee (f := 99) rfl ?_); refine gB (some 5) Tryz.func99 #[.int .i64 a0_0, .int .i64 0, .int .i64 3] ?_; (with_reducible refine (impl_within.calls a0_0 0 3 false _ A2.out).mono ?_); rintro e w' ⟨rfl, ⟨nd, rfl⟩⟩; refine ⟨_, rfl, ?_⟩))
 go_ret
 exact ⟨y0_7, bI HB.out⟩

end Go.Proofs.YtemjmefacifdeaaGreatDoor.PFnExactVote
