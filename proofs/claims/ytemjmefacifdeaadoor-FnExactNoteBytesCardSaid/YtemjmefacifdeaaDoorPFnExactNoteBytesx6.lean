-- By a program of this session, out of the translation (the print of the kit, with turns of its own). Lean checks it.
import Derived.Test.YtemjmefacifdeaaDoorPFnExactNoteBytesx0
import Derived.Test.YtemjmefacifdeaaDoorPFnExactNoteBytesx1
import Derived.Test.YtemjmefacifdeaaDoorPFnExactNoteBytesx3
import Derived.Test.YtemjmefacifdeaaDoorPFnExactNoteBytesx5
namespace Go.Proofs.YtemjmefacifdeaaDoor.PFnExactNoteBytes
open Go.RowKit Go.Proofs.YtemjmefacifdeaaDoorW.PrintWords Go.Proofs.YtemjmefacifdeaaDoorW.PrintLast Go.Proofs.YtemjmefacifdeaaDoorW.PrintMore
attribute [local go_sem] max2_int min2_int max_two min_two max_three min_three max_four min_four   -- for this text's walks alone
set_option linter.unusedVariables false
set_option linter.unusedSimpArgs false

/-! ### spec_SafeOk: function 23 -/
def spec_SafeOk.f (k : Nat) (a0_0 : Int) (a0_1 : Int) (a1_0 : Int) (a1_1 : Int) (a1_2 : Int) (a1_3 : ByteArray) (l1_4 : List Int) (a1_5 : ByteArray) : Option (Bool) := (spec_l1In.f a1_0 0 60).bind fun t231 => (if t231 = true then ((spec_l1In.f a1_1 0 60).bind fun t232 => (if t232 = true then ((spec_QcOk.f k a0_0 a0_1 a1_2 a1_3 l1_4).bind fun t233 => (if t233 = true then ((spec_NameOk.f k a1_5).bind fun t234 => (some t234)) else (some false))) else (some false))) else (some false))
theorem spec_SafeOk.mono : ∀ a0 a1 a2 a3 a4 a5 a6 a7 k, LeO (spec_SafeOk.f k a0 a1 a2 a3 a4 a5 a6 a7) (spec_SafeOk.f (k + 1) a0 a1 a2 a3 a4 a5 a6 a7) := by
 intro a0 a1 a2 a3 a4 a5 a6 a7 k
 unfold spec_SafeOk.f
 repeat' first | (with_reducible exact spec_NameOk.mono _ _) | (with_reducible exact spec_QcOk.mono _ _ _ _ _ _) | (with_reducible exact LeO.refl _) | (with_reducible exact LeO.none _) | (with_reducible refine LeO.ite ?_ ?_) | (with_reducible refine LeO.bind ?_ (fun _ => ?_))
set_option maxHeartbeats 8000000 in
set_option maxRecDepth 100000 in
theorem spec_SafeOk.calls (k : Nat) (a0_0 : Int) (a0_1 : Int) (a1_0 : Int) (a1_1 : Int) (a1_2 : Int) (a1_3 : ByteArray) (A1_4 : Option Addr) (c1_4 : Nat) (l1_4 : List Int) (a1_5 : ByteArray) (r : Bool) (w : World) (hr1_4 : Kd.C (Kd.int .i64) w A1_4 l1_4.length l1_4) (hc1_4 : l1_4.length ≤ c1_4) (h : spec_SafeOk.f k a0_0 a0_1 a1_0 a1_1 a1_2 a1_3 l1_4 a1_5 = some r) :
  Calls Tryd.prog 23 #[.agg #[.int .i64 a0_0, .int .i64 a0_1], .agg #[.int .i64 a1_0, .int .i64 a1_1, .int .i64 a1_2, .string a1_3, .slice A1_4 l1_4.length c1_4, .string a1_5]] w fun e w' => e = .returned (.bool r) ∧ Below w.heap.size w w' := by
 have hu32 := Tryd.underlying32; have hu36 := Tryd.underlying36; have hu34 := Tryd.underlying34; have HR1_4 := Aside0.mk hr1_4; have HC1_4 := Aside0.mk hc1_4; clear hr1_4 hc1_4; have HB := Aside0.mk (Below.refl w.heap.size w)
 have H : ((spec_l1In.f a1_0 0 60).bind fun t231 => (if t231 = true then ((spec_l1In.f a1_1 0 60).bind fun t232 => (if t232 = true then ((spec_QcOk.f k a0_0 a0_1 a1_2 a1_3 l1_4).bind fun t233 => (if t233 = true then ((spec_NameOk.f k a1_5).bind fun t234 => (some t234)) else (some false))) else (some false))) else (some false))) = some r := h
 clear h; obtain ⟨t231, A30, H⟩ := Option.bind_eq_some_iff.mp H
 try dsimp only at H
 have A3 := Aside0.mk A30; clear A30
 by_cases c4 : t231 = true
 ·
  subst c4
  rw [if_pos rfl] at H
  obtain ⟨t232, A50, H⟩ := Option.bind_eq_some_iff.mp H
  try dsimp only at H
  have A5 := Aside0.mk A50; clear A50
  by_cases c6 : t232 = true
  ·
   subst c6
   rw [if_pos rfl] at H
   obtain ⟨t233, A70, H⟩ := Option.bind_eq_some_iff.mp H
   try dsimp only at H
   have A7 := Aside0.mk A70; clear A70
   by_cases c8 : t233 = true
   ·
    subst c8
    rw [if_pos rfl] at H
    obtain ⟨t234, A90, H⟩ := Option.bind_eq_some_iff.mp H
    try dsimp only at H
    have A9 := Aside0.mk A90; clear A90; obtain rfl := Option.some.inj H
    go_enter Tryd.func23, Tryd.ntmps23
    go_wp2_with (first | ((with_reducible refine gd 2 ?_); refine bA 2 #[.int .i64 a0_0, .int .i64 a0_1] 32 ?_; intro gb229 hg w10 hbox hb; have BK229 := Aside0.mk (hbox); have GW229 := bg hg HB; have GJ229 := gi GW229; have GE229 := GW229; replace HB := bs HB hb; clear hb hbox hg) | ((with_reducible refine gd 3 ?_); refine bA 3 #[.int .i64 a1_0, .int .i64 a1_1, .int .i64 a1_2, .string a1_3, .slice A1_4 l1_4.length c1_4, .string a1_5] 36 ?_; intro gb230 hg w11 hbox hb; have BK230 := Aside0.mk (hbox); have GW230 := bg hg HB; have GJ230 := gi GW230; have GE230 := GW230; replace HB := bs HB hb; have NB229_230 := b1 BK229 hg; have NI229_230 := ni NB229_230; have NB230_229 := b2 BK229 hg; have NI230_229 := ni NB230_229; replace BK229 := bk BK229 hb; clear hb hbox hg; have hnb12 := NB230_229.out; have hnc12 := NB229_230.out; have hcz13_0 := bc0 BK230.out; have hcz13_1 := bc1 BK230.out; have hcz13_2 := bc2 BK230.out; have hcz13_3 := bc3 BK230.out; have hcz13_4 := bc4 BK230.out; have hcz13_5 := bc5 BK230.out; have hfz13_0 := blk_frozen BK230.out 0; have hfz13_1 := blk_frozen BK230.out 1; have hfz13_2 := blk_frozen BK230.out 2; have hfz13_3 := blk_frozen BK230.out 3; have hfz13_4 := blk_frozen BK230.out 4; have hfz13_5 := blk_frozen BK230.out 5) | ((with_reducible refine gate_callee (f := 26) rfl ?_); refine gB (some 7) Tryd.func26 #[.int .i64 a1_0, .int .i64 0, .int .i64 60] ?_; (with_reducible refine (spec_l1In.calls a1_0 0 60 true _ A3.out).mono ?_); rintro e w' ⟨rfl, ⟨nd, rfl⟩⟩; refine ⟨_, rfl, ?_⟩) | (go_at_call 26; (with_reducible refine (spec_l1In.calls a1_1 0 60 true _ A5.out).mono ?_); rintro e w' ⟨rfl, ⟨nd, rfl⟩⟩; obtain ⟨hcz14_0, hcz14_1, hfz14_0, hfz14_1⟩ := cs2 BK229) | (go_at_call 35; (with_reducible refine (spec_QcOk.calls k a0_0 a0_1 a1_2 a1_3 _ _ l1_4 true _ ?side1 ?side2 A7.out).mono ?_); (case side1 => exact (Kd.C_below HR1_4.out (bI HB.out))); (case side2 => exact HC1_4.out); rintro e w15 ⟨rfl, hb⟩; replace BK229 := bk BK229 hb; replace BK230 := bk BK230 hb; replace HB := bs HB hb; (try clear hb); (try clear hb2); (try clear hk); (try clear hi); have hcz16_0 := bc0 BK230.out; have hcz16_1 := bc1 BK230.out; have hcz16_2 := bc2 BK230.out; have hcz16_3 := bc3 BK230.out; have hcz16_4 := bc4 BK230.out; have hcz16_5 := bc5 BK230.out; have hfz16_0 := blk_frozen BK230.out 0; have hfz16_1 := blk_frozen BK230.out 1; have hfz16_2 := blk_frozen BK230.out 2; have hfz16_3 := blk_frozen BK230.out 3; have hfz16_4 := blk_frozen BK230.out 4; have hfz16_5 := blk_frozen BK230.out 5) | (go_at_call 36; (with_reducible refine (spec_NameOk.calls k a1_5 t234 _ A9.out).mono ?_); rintro e w17 ⟨rfl, hb⟩; replace BK229 := bk BK229 hb; replace BK230 := bk BK230 hb; replace HB := bs HB hb; (try clear hb); (try clear hb2); (try clear hk); (try clear hi)))
    go_ret
    exact ⟨y0_7, bI HB.out⟩
   replace c8 := Bool.eq_false_iff.mpr c8; subst c8
   rw [if_neg (show ¬ (false = true) by decide)] at H
   obtain rfl := Option.some.inj H
   go_enter Tryd.func23, Tryd.ntmps23
   go_wp2_with (first | ((with_reducible refine gd 2 ?_); refine bA 2 #[.int .i64 a0_0, .int .i64 a0_1] 32 ?_; intro gb229 hg w18 hbox hb; have BK229 := Aside0.mk (hbox); have GW229 := bg hg HB; have GJ229 := gi GW229; have GE229 := GW229; replace HB := bs HB hb; clear hb hbox hg) | ((with_reducible refine gd 3 ?_); refine bA 3 #[.int .i64 a1_0, .int .i64 a1_1, .int .i64 a1_2, .string a1_3, .slice A1_4 l1_4.length c1_4, .string a1_5] 36 ?_; intro gb230 hg w19 hbox hb; have BK230 := Aside0.mk (hbox); have GW230 := bg hg HB; have GJ230 := gi GW230; have GE230 := GW230; replace HB := bs HB hb; have NB229_230 := b1 BK229 hg; have NI229_230 := ni NB229_230; have NB230_229 := b2 BK229 hg; have NI230_229 := ni NB230_229; replace BK229 := bk BK229 hb; clear hb hbox hg; have hnb20 := NB230_229.out; have hnc20 := NB229_230.out; have hcz21_0 := bc0 BK230.out; have hcz21_1 := bc1 BK230.out; have hcz21_2 := bc2 BK230.out; have hcz21_3 := bc3 BK230.out; have hcz21_4 := bc4 BK230.out; have hcz21_5 := bc5 BK230.out; have hfz21_0 := blk_frozen BK230.out 0; have hfz21_1 := blk_frozen BK230.out 1; have hfz21_2 := blk_frozen BK230.out 2; have hfz21_3 := blk_frozen BK230.out 3; have hfz21_4 := blk_frozen BK230.out 4; have hfz21_5 := blk_frozen BK230.out 5) | ((with_reducible refine gate_callee (f := 26) rfl ?_); refine gB (some 7) Tryd.func26 #[.int .i64 a1_0, .int .i64 0, .int .i64 60] ?_; (with_reducible refine (spec_l1In.calls a1_0 0 60 true _ A3.out).mono ?_); rintro e w' ⟨rfl, ⟨nd, rfl⟩⟩; refine ⟨_, rfl, ?_⟩) | (go_at_call 26; (with_reducible refine (spec_l1In.calls a1_1 0 60 true _ A5.out).mono ?_); rintro e w' ⟨rfl, ⟨nd, rfl⟩⟩; obtain ⟨hcz22_0, hcz22_1, hfz22_0, hfz22_1⟩ := cs2 BK229) | (go_at_call 35; (with_reducible refine (spec_QcOk.calls k a0_0 a0_1 a1_2 a1_3 _ _ l1_4 false _ ?side1 ?side2 A7.out).mono ?_); (case side1 => exact (Kd.C_below HR1_4.out (bI HB.out))); (case side2 => exact HC1_4.out); rintro e w23 ⟨rfl, hb⟩; replace BK229 := bk BK229 hb; replace BK230 := bk BK230 hb; replace HB := bs HB hb; (try clear hb); (try clear hb2); (try clear hk); (try clear hi)))
   go_ret
   exact ⟨y0_7, bI HB.out⟩
  replace c6 := Bool.eq_false_iff.mpr c6; subst c6
  rw [if_neg (show ¬ (false = true) by decide)] at H
  obtain rfl := Option.some.inj H
  go_enter Tryd.func23, Tryd.ntmps23
  go_wp2_with (first | ((with_reducible refine gd 2 ?_); refine bA 2 #[.int .i64 a0_0, .int .i64 a0_1] 32 ?_; intro gb229 hg w24 hbox hb; have BK229 := Aside0.mk (hbox); have GW229 := bg hg HB; have GJ229 := gi GW229; have GE229 := GW229; replace HB := bs HB hb; clear hb hbox hg) | ((with_reducible refine gd 3 ?_); refine bA 3 #[.int .i64 a1_0, .int .i64 a1_1, .int .i64 a1_2, .string a1_3, .slice A1_4 l1_4.length c1_4, .string a1_5] 36 ?_; intro gb230 hg w25 hbox hb; have BK230 := Aside0.mk (hbox); have GW230 := bg hg HB; have GJ230 := gi GW230; have GE230 := GW230; replace HB := bs HB hb; have NB229_230 := b1 BK229 hg; have NI229_230 := ni NB229_230; have NB230_229 := b2 BK229 hg; have NI230_229 := ni NB230_229; replace BK229 := bk BK229 hb; clear hb hbox hg; have hnb26 := NB230_229.out; have hnc26 := NB229_230.out; have hcz27_0 := bc0 BK230.out; have hcz27_1 := bc1 BK230.out; have hcz27_2 := bc2 BK230.out; have hcz27_3 := bc3 BK230.out; have hcz27_4 := bc4 BK230.out; have hcz27_5 := bc5 BK230.out; have hfz27_0 := blk_frozen BK230.out 0; have hfz27_1 := blk_frozen BK230.out 1; have hfz27_2 := blk_frozen BK230.out 2; have hfz27_3 := blk_frozen BK230.out 3; have hfz27_4 := blk_frozen BK230.out 4; have hfz27_5 := blk_frozen BK230.out 5) | ((with_reducible refine gate_callee (f := 26) rfl ?_); refine gB (some 7) Tryd.func26 #[.int .i64 a1_0, .int .i64 0, .int .i64 60] ?_; (with_reducible refine (spec_l1In.calls a1_0 0 60 true _ A3.out).mono ?_); rintro e w' ⟨rfl, ⟨nd, rfl⟩⟩; refine ⟨_, rfl, ?_⟩) | (go_at_call 26; (with_reducible refine (spec_l1In.calls a1_1 0 60 false _ A5.out).mono ?_); rintro e w' ⟨rfl, ⟨nd, rfl⟩⟩))
  go_ret
  exact ⟨y0_7, bI HB.out⟩
 replace c4 := Bool.eq_false_iff.mpr c4; subst c4
 rw [if_neg (show ¬ (false = true) by decide)] at H
 obtain rfl := Option.some.inj H
 go_enter Tryd.func23, Tryd.ntmps23
 go_wp2_with (first | ((with_reducible refine gd 2 ?_); refine bA 2 #[.int .i64 a0_0, .int .i64 a0_1] 32 ?_; intro gb229 hg w28 hbox hb; have BK229 := Aside0.mk (hbox); have GW229 := bg hg HB; have GJ229 := gi GW229; have GE229 := GW229; replace HB := bs HB hb; clear hb hbox hg) | ((with_reducible refine gd 3 ?_); refine bA 3 #[.int .i64 a1_0, .int .i64 a1_1, .int .i64 a1_2, .string a1_3, .slice A1_4 l1_4.length c1_4, .string a1_5] 36 ?_; intro gb230 hg w29 hbox hb; have BK230 := Aside0.mk (hbox); have GW230 := bg hg HB; have GJ230 := gi GW230; have GE230 := GW230; replace HB := bs HB hb; have NB229_230 := b1 BK229 hg; have NI229_230 := ni NB229_230; have NB230_229 := b2 BK229 hg; have NI230_229 := ni NB230_229; replace BK229 := bk BK229 hb; clear hb hbox hg; have hnb30 := NB230_229.out; have hnc30 := NB229_230.out; have hcz31_0 := bc0 BK230.out; have hcz31_1 := bc1 BK230.out; have hcz31_2 := bc2 BK230.out; have hcz31_3 := bc3 BK230.out; have hcz31_4 := bc4 BK230.out; have hcz31_5 := bc5 BK230.out; have hfz31_0 := blk_frozen BK230.out 0; have hfz31_1 := blk_frozen BK230.out 1; have hfz31_2 := blk_frozen BK230.out 2; have hfz31_3 := blk_frozen BK230.out 3; have hfz31_4 := blk_frozen BK230.out 4; have hfz31_5 := blk_frozen BK230.out 5) | ((with_reducible refine gate_callee (f := 26) rfl ?_); refine gB (some 7) Tryd.func26 #[.int .i64 a1_0, .int .i64 0, .int .i64 60] ?_; (with_reducible refine (spec_l1In.calls a1_0 0 60 false _ A3.out).mono ?_); rintro e w' ⟨rfl, ⟨nd, rfl⟩⟩; refine ⟨_, rfl, ?_⟩))
 go_ret
 exact ⟨y0_7, bI HB.out⟩

/-! ### spec_PutText: function 25 -/
def spec_PutText.f (k : Nat) (a0 : ByteArray) : Option (List Int) := (spec_PutNum.f k (a0.size : Int)).bind fun t1 => (if t1.length + a0.size < 140737488355328 then (some (t1 ++ bytesOf a0)) else (none))
theorem spec_PutText.mono : ∀ a0 k, LeO (spec_PutText.f k a0) (spec_PutText.f (k + 1) a0) := by
 intro a0 k
 unfold spec_PutText.f
 repeat' first | (with_reducible exact spec_PutNum.mono _ _) | (with_reducible exact LeO.refl _) | (with_reducible exact LeO.none _) | (with_reducible refine LeO.ite ?_ ?_) | (with_reducible refine LeO.bind ?_ (fun _ => ?_))
theorem spec_PutText.up {w W : World} (h : Below w.heap.size w W) (e : TypeId) (s : ByteArray) : Below w.heap.size w (Go.Lib.bytesWorld W e s) := bytes_below h (below_size h) e s
set_option maxHeartbeats 8000000 in
set_option maxRecDepth 100000 in
theorem spec_PutText.calls (k : Nat) (a0 : ByteArray) (r : List Int) (w : World) (h : spec_PutText.f k a0 = some r) :
  Calls Tryd.prog 25 #[.string a0] w fun e w' => ∃ v0_ : Value, e = .returned (v0_) ∧ Kd.R (Kd.int .u8) 5 w' w.heap.size (fun _ => True) v0_ r ∧ Below w.heap.size w w' := by
 have HB := Aside0.mk (Below.refl w.heap.size w); obtain ⟨t1, A20, H⟩ := Option.bind_eq_some_iff.mp h
 try dsimp only at H
 have A2 := Aside0.mk A20; clear A20 h
 by_cases c3 : t1.length + a0.size < 140737488355328
 ·
  rw [if_pos c3] at H
  have LMc3 := Aside0.mk c3; clear c3; obtain ⟨y1, hy1⟩ : ∃ y_ : List Int, y_ = (t1 ++ bytesOf a0) := ⟨_, rfl⟩
  rw [← hy1] at H
  have Ny1 := Aside0.mk hy1; clear hy1; obtain rfl := Option.some.inj H; clear H
  have kb := fun W => print_bytes (P := Tryd.prog) 9 30 5 Tryd.underlying9 Tryd.underlying30 Tryd.underlying5 a0 W
  go_enter Tryd.func25, Tryd.ntmps25
  go_wp2_with (first | ((with_reducible refine gate_callee (f := 16) rfl ?_); refine gB (some 5) Tryd.func16 #[.int .i64 (a0.size : Int)] ?_; (with_reducible refine (spec_PutNum.calls k (a0.size : Int) t1 _ A2.out).mono ?_); rintro e w4 ⟨v1, rfl, ho0, hb⟩; refine ⟨_, rfl, ?_⟩; have HO1 := Aside0.mk (Kd.R_lower ho0 (below_size (bI HB.out))); replace HB := bs HB hb; clear hb ho0; have HB1 := Aside0.mk (spec_PutText.up HB.out 5 a0); have HO2 := Aside0.mk (Kd.R_below HO1.out (spec_PutText.up (Below.refl _ _) 5 a0))) | (at_builtin; refine Kd.R_append_rows (Kd.int .u8) (w0 := w) w.heap.size rfl (.tmp 5) (.tmp 7) 30 5 (.int .u8 0) 1 rfl Tryd.underlying30 info5 rfl (by decide) (by omega) v1 t1 (bytesOf a0) _ _ _ (fun _ => True) (fun _ => False) rfl rfl ?aO ?aR (fun _ _ h => h) (fun _ h => h.elim) ?aF ?aB ?aS ?aL ?_; (case aR => rw [← bytesOf_length a0]; exact Kd.C_of_reads (d := (0 : Int)) (h1 := fun _ => rfl) (readsInt_of.1 (by rw [bytesOf_length]; exact bytes_reads w4 5 a0 (by have := LMc3.out; omega)))); (case aB => exact HB1.out); (case aF => exact (fun _ _ => trivial)); (case aO => exact HO2.out); (case aS => exact (below_size HB1.out)); (case aL => have := LMc3.out; omega); intro v2 w5 ho hb hg hat; rw [← Ny1.out] at ho))
  go_ret
  exact ⟨_, y0_10, ho, hb⟩
 rw [if_neg c3] at H
 exact absurd H (by simp)

/-! ### spec_QcBytes: function 24 -/
def spec_QcBytes.l0 : Nat → List Int → Int → Int → ByteArray → List Int → Option (List Int)
 | 0, _, _, _, _, _ => none
 | k + 1, x5, x6, x237000, x237001, x237002 => if x6 < (x237002.length : Int) then (if 0 ≤ x6 then ((spec_PutNum.f k (rd x237002 x6)).bind fun t257 => (if x5.length + t257.length < 140737488355328 then (spec_QcBytes.l0 k (x5 ++ t257) (wrap64 (x6 + 1)) x237000 x237001 x237002) else (none))) else (none)) else (some x5)
def spec_QcBytes.f (k : Nat) (a0_0 : Int) (a0_1 : Int) (a1_0 : Int) (a1_1 : ByteArray) (l1_2 : List Int) : Option (List Int) := (spec_QcOk.f k a0_0 a0_1 a1_0 a1_1 l1_2).bind fun t237 => (if t237 = true then ((spec_PutNum.f k a1_0).bind fun t241 => ((spec_PutText.f k a1_1).bind fun t244 => (if t241.length + t244.length < 140737488355328 then ((some (t241 ++ t244 : List Int)).bind fun y247 => ((spec_PutNum.f k (l1_2.length : Int)).bind fun t250 => (if y247.length + t250.length < 140737488355328 then (spec_QcBytes.l0 k (y247 ++ t250) 0 a1_0 a1_1 l1_2) else (none)))) else (none)))) else (some (([] : List Int))))
theorem spec_QcBytes.mono_l : ∀ k, (∀ y0 y1 y2 y3 y4, LeO (spec_QcBytes.l0 k y0 y1 y2 y3 y4) (spec_QcBytes.l0 (k + 1) y0 y1 y2 y3 y4))
 | 0 => fun _ _ _ _ _ r h => by simp [spec_QcBytes.l0] at h
 | k + 1 => by
  have ih0 := spec_QcBytes.mono_l k
  intro y0 y1 y2 y3 y4
  unfold spec_QcBytes.l0
  repeat' first | (with_reducible exact ih0 _ _ _ _ _) | (with_reducible exact spec_PutNum.mono _ _) | (with_reducible exact spec_PutText.mono _ _) | (with_reducible exact spec_QcOk.mono _ _ _ _ _ _) | (with_reducible exact LeO.refl _) | (with_reducible exact LeO.none _) | (with_reducible refine LeO.ite ?_ ?_) | (with_reducible refine LeO.bind ?_ (fun _ => ?_))
theorem spec_QcBytes.mono : ∀ a0 a1 a2 a3 a4 k, LeO (spec_QcBytes.f k a0 a1 a2 a3 a4) (spec_QcBytes.f (k + 1) a0 a1 a2 a3 a4) := by
 intro a0 a1 a2 a3 a4 k
 have ih0 := spec_QcBytes.mono_l k
 unfold spec_QcBytes.f
 repeat' first | (with_reducible exact ih0 _ _ _ _ _) | (with_reducible exact spec_PutNum.mono _ _) | (with_reducible exact spec_PutText.mono _ _) | (with_reducible exact spec_QcOk.mono _ _ _ _ _ _) | (with_reducible exact LeO.refl _) | (with_reducible exact LeO.none _) | (with_reducible refine LeO.ite ?_ ?_) | (with_reducible refine LeO.bind ?_ (fun _ => ?_))
def spec_QcBytes.T3 : Bool × List (List Nat × List Nat) := (true, [([], []), ([0], [0]), ([1], [1]), ([], []), ([3], [3]), ([4, 2], [4]), ([2, 5, 5], [2, 5]), ([6, 6, 0, 1, 2, 3, 4, 5, 6], [6])])
def spec_QcBytes.B3 : List Nat := [0, 1, 3, 0, 8, 31, 63, 127]
theorem spec_QcBytes.tab3 : rtab .any (opsOf Tryd.f24 3) = spec_QcBytes.T3 := by kernel_rfl
theorem spec_QcBytes.bits3 : waitsOk spec_QcBytes.T3.2 spec_QcBytes.B3 = true := by kernel_rfl
set_option maxHeartbeats 8000000 in
set_option maxRecDepth 100000 in
theorem spec_QcBytes.calls (k : Nat) (a0_0 : Int) (a0_1 : Int) (a1_0 : Int) (a1_1 : ByteArray) (A1_2 : Option Addr) (c1_2 : Nat) (l1_2 : List Int) (r : List Int) (w : World) (hr1_2 : Kd.C (Kd.int .i64) w A1_2 l1_2.length l1_2) (hc1_2 : l1_2.length ≤ c1_2) (h : spec_QcBytes.f k a0_0 a0_1 a1_0 a1_1 l1_2 = some r) :
  Calls Tryd.prog 24 #[.agg #[.int .i64 a0_0, .int .i64 a0_1], .agg #[.int .i64 a1_0, .string a1_1, .slice A1_2 l1_2.length c1_2]] w fun e w' => ∃ v0_ : Value, e = .returned (v0_) ∧ Kd.R (Kd.int .u8) 5 w' w.heap.size (fun _ => True) v0_ r ∧ Below w.heap.size w w' := by
 have hu32 := Tryd.underlying32; have hu34 := Tryd.underlying34; have HR1_2 := Aside0.mk hr1_2; have HC1_2 := Aside0.mk hc1_2; clear hr1_2 hc1_2; have HB := Aside0.mk (Below.refl w.heap.size w)
 have H : ((spec_QcOk.f k a0_0 a0_1 a1_0 a1_1 l1_2).bind fun t237 => (if t237 = true then ((spec_PutNum.f k a1_0).bind fun t241 => ((spec_PutText.f k a1_1).bind fun t244 => (if t241.length + t244.length < 140737488355328 then ((some (t241 ++ t244 : List Int)).bind fun y247 => ((spec_PutNum.f k (l1_2.length : Int)).bind fun t250 => (if y247.length + t250.length < 140737488355328 then (spec_QcBytes.l0 k (y247 ++ t250) 0 a1_0 a1_1 l1_2) else (none)))) else (none)))) else (some (([] : List Int))))) = some r := h
 clear h; obtain ⟨t237, A30, H⟩ := Option.bind_eq_some_iff.mp H
 try dsimp only at H
 have A3 := Aside0.mk A30; clear A30
 by_cases c4 : t237 = true
 ·
  subst c4
  rw [if_pos rfl] at H
  obtain ⟨t241, A50, H⟩ := Option.bind_eq_some_iff.mp H
  try dsimp only at H
  have A5 := Aside0.mk A50; clear A50; obtain ⟨t244, A60, H⟩ := Option.bind_eq_some_iff.mp H
  try dsimp only at H
  have A6 := Aside0.mk A60; clear A60
  by_cases c7 : t241.length + t244.length < 140737488355328
  rotate_left
  ·
   rw [if_neg c7] at H
   exact absurd H (by simp)
  rw [if_pos c7] at H
  have LMc7 := Aside0.mk c7; clear c7; obtain ⟨y247, hy247⟩ : ∃ y_ : List Int, y_ = (t241 ++ t244) := ⟨_, rfl⟩
  replace H : ((spec_PutNum.f k (l1_2.length : Int)).bind fun t250 => (if y247.length + t250.length < 140737488355328 then (spec_QcBytes.l0 k (y247 ++ t250) 0 a1_0 a1_1 l1_2) else (none))) = some r := by first | (rw [hy247]; with_reducible exact H) | (have H2_ := (Option.bind_some _ _).symm.trans H; rw [hy247]; with_reducible exact H2_) | (have H2_ := (Option.bind_some _ _).symm.trans H; with_reducible exact H2_) | with_reducible exact H | (rw [hy247]; exact H) | exact H
  have Ny247 := Aside0.mk hy247; clear hy247; obtain ⟨t250, A80, H⟩ := Option.bind_eq_some_iff.mp H
  try dsimp only at H
  have A8 := Aside0.mk A80; clear A80
  by_cases c9 : y247.length + t250.length < 140737488355328
  rotate_left
  ·
   rw [if_neg c9] at H
   exact absurd H (by simp)
  rw [if_pos c9] at H
  have LMc9 := Aside0.mk c9; clear c9; obtain ⟨y253, hy253⟩ : ∃ y_ : List Int, y_ = (y247 ++ t250) := ⟨_, rfl⟩
  replace H : (spec_QcBytes.l0 k y253 0 a1_0 a1_1 l1_2) = some r := by first | (rw [hy253]; with_reducible exact H) | (have H2_ := (Option.bind_some _ _).symm.trans H; rw [hy253]; with_reducible exact H2_) | (have H2_ := (Option.bind_some _ _).symm.trans H; with_reducible exact H2_) | with_reducible exact H | (rw [hy253]; exact H) | exact H
  have Ny253 := Aside0.mk hy253; clear hy253; have H' := Aside0.mk H; clear H
  go_enter Tryd.func24, Tryd.ntmps24
  try go_wp2_with (first | ((with_reducible refine gd 2 ?_); refine bA 2 #[.int .i64 a0_0, .int .i64 a0_1] 32 ?_; intro gb235 hg w10 hbox hb; have BK235 := Aside0.mk (hbox); have GW235 := bg hg HB; have GJ235 := gi GW235; have GE235 := GW235; replace HB := bs HB hb; clear hb hbox hg) | ((with_reducible refine gd 3 ?_); refine bA 3 #[.int .i64 a1_0, .string a1_1, .slice A1_2 l1_2.length c1_2] 34 ?_; intro gb236 hg w11 hbox hb; have BK236 := Aside0.mk (hbox); have GW236 := bg hg HB; have GJ236 := gi GW236; have GE236 := GW236; replace HB := bs HB hb; have NB235_236 := b1 BK235 hg; have NI235_236 := ni NB235_236; have NB236_235 := b2 BK235 hg; have NI236_235 := ni NB236_235; replace BK235 := bk BK235 hb; clear hb hbox hg; have hnb12 := NB235_236.out; have hnc12 := NB236_235.out; obtain ⟨hcz13_0, hcz13_1, hfz13_0, hfz13_1⟩ := cs2 BK235; obtain ⟨hcz14_0, hcz14_1, hcz14_2, hfz14_0, hfz14_1, hfz14_2⟩ := cs3 BK236) | ((with_reducible refine gate_callee (f := 35) rfl ?_); refine gB (some 9) Tryd.func35 #[.agg #[.int .i64 a0_0, .int .i64 a0_1], .agg #[.int .i64 a1_0, .string a1_1, .slice A1_2 l1_2.length c1_2]] ?_; (with_reducible refine (spec_QcOk.calls k a0_0 a0_1 a1_0 a1_1 _ _ l1_2 true _ ?side1 ?side2 A3.out).mono ?_); (case side1 => exact ch HR1_2 HB); (case side2 => exact HC1_2.out); rintro e w15 ⟨rfl, hb⟩; refine ⟨_, rfl, ?_⟩; replace BK235 := bk BK235 hb; replace BK236 := bk BK236 hb; replace HB := bs HB hb; (try clear hb); (try clear hb2); (try clear hk); (try clear hi)))
  replace BK235 := Aside0.mk (blk_drew BK235.out); replace BK236 := Aside0.mk (blk_drew BK236.out); replace HB := Aside0.mk (below_drew1 HB.out)
  refine start_ (n := 8) (S := fun w' => w'.cell? ⟨gb236, 0, none⟩ = some (.int .i64 a1_0) ∧ w'.cell? ⟨gb236, 1, none⟩ = some (.string a1_1) ∧ w'.cell? ⟨gb236, 2, none⟩ = some (.slice A1_2 l1_2.length c1_2)) (ds := []) #[false, false, false, false, false, false, false, false] (by kernel_rfl) rfl rfl ⟨bc0 BK236.out, bc1 BK236.out, bc2 BK236.out⟩ (fun hHeld => ?_); refine with_tabW spec_QcBytes.tab3 spec_QcBytes.bits3 (fun HT_ HW_ => ?_)
  generalize w15.drew = w16 at BK235 BK236 HB hHeld ⊢
  refine pA 0 (some 12) (bz 8 1) HT_ ?_
  refine pA 3 (some 15) (bz 8 9) HT_ ?_
  refine tA 1 (some 13) (bz 8 11) HT_ HW_ hHeld ?_
  refine tA 4 (some 16) (bz 8 27) HT_ HW_ hHeld ?_
  refine oA 2 (some 14) (bz 8 31) HT_ (fun K hK => ?_)
  refine gA Tryd.func16 #[.int .i64 a1_0] ?_
  with_reducible refine (spec_PutNum.calls k a1_0 t241 _ A5.out).mono ?_
  rintro e w17 ⟨v242, rfl, ho0, hb⟩
  refine ⟨_, rfl, ?_⟩
  have HO243 := Aside0.mk (Kd.R_lower ho0 (below_size (bI HB.out))); replace BK235 := bk BK235 hb; replace BK236 := bk BK236 hb; replace HB := bs HB hb
  (try clear hb)
  (try clear hb2)
  (try clear hk)
  (try clear hi)
  (try clear ho0)
  refine hK.out _ _ ⟨bc0 BK236.out, bc1 BK236.out, bc2 BK236.out⟩ (fun hHeld => ?_)
  clear hK K
  refine nA (some 14) ?_
  refine oA 5 (some 17) (bz 8 63) HT_ (fun K hK => ?_)
  refine gA Tryd.func25 #[.string a1_1] ?_
  with_reducible refine (spec_PutText.calls k a1_1 t244 _ A6.out).mono ?_
  rintro e w18 ⟨v245, rfl, ho0, hb⟩
  refine ⟨_, rfl, ?_⟩
  have HO246 := Aside0.mk (Kd.R_lower (Kd.R_new' ho0 (Kd.R_lt (rI HO243.out))) (below_size (bI HB.out))); replace HO243 := Aside0.mk (Kd.R_elder' (rI HO243.out) (Kd.R_base ho0) hb); replace BK235 := bk BK235 hb; replace BK236 := bk BK236 hb; replace HB := bs HB hb
  (try clear hb)
  (try clear hb2)
  (try clear hk)
  (try clear hi)
  (try clear ho0)
  obtain ⟨Ao20, co20, eo20⟩ := Kd.R_slice HO246.out
  (first | subst eo20 | (injection eo20 with f1_ f2_ f3_; have f4_ := f1_.symm; have f5_ := f3_.symm; clear f1_ f2_ f3_; subst f4_; subst f5_))
  refine hK.out _ _ ⟨bc0 BK236.out, bc1 BK236.out, bc2 BK236.out⟩ (fun hHeld => ?_)
  clear hK K
  refine nA (some 17) ?_
  refine oA 6 (some 18) (bz 8 127) HT_ (fun K hK => ?_)
  refine Kd.R_append_rows_step (Kd.int .u8) (w0 := w) w.heap.size (by rfl) (.tmp 14) (.tmp 17) 30 5 (.int .u8 0) 1 rfl Tryd.underlying30 info5 rfl (by decide) (by omega) v242 t241 t244 _ _ _ (fun k_ => some k_ ≠ (.slice Ao20 t244.length co20 : Value).ownBlock) (fun _ => False) rfl rfl ?aO ?aR (fun _ _ h => h) (fun _ h => h.elim) ?aF ?aB ?aS ?aL ?_
  (case aR => repeat (first | exact (Kd.R_reads' HO246.out).2.2 | (with_reducible refine Kd.C_alloc ?_ _) | (with_reducible refine Kd.C_drewN ?_ _) | (with_reducible refine Kd.C_drew ?_)))
  (case aB => exact (bI HB.out))
  (case aF => exact (fun k_ hk => Kd.fresh' (Kd.R_lt (rI HO246.out)) k_ hk))
  (case aO => exact (rI (Kd.R_mono HO243.out (fun _ hk => hk.2))))
  (case aS => exact (below_size (bI HB.out)))
  (case aL => have := LMc7.out; omega)
  intro v248 w19 ho hb hg hat
  rw [← Ny247.out] at ho
  have n0_ := bn BK235 hg (Kd.R_ne HO243.out BK235.out (by decide))
  have n1_ := bn BK236 hg (Kd.R_ne HO243.out BK236.out (by decide))
  have n2_ := Aside0.mk (Kd.R_after (ok := (fun _ => True)) (rI HO246.out) hg hat)
  have n3_ := Aside0.mk (hb); have n4_ := Aside0.mk (ho); clear BK235; clear BK236; clear HO246; clear HB; clear HO243; have BK235 := n0_; have BK236 := n1_; have HO246 := n2_; have HB := n3_; have HO249 := n4_; clear n0_ n1_ n2_ n3_ n4_; clear ho hb hg hat
  refine hK.out _ _ ⟨bc0 BK236.out, bc1 BK236.out, bc2 BK236.out⟩ (fun hHeld => ?_)
  clear hK K
  refine nA (some 18) ?_
  refine pA 7 (some 5) (bz 8 255) HT_ ?_
  refine done_ (done_of HT_.out (by kernel_rfl)) ?_
  have hcz21_0 := bc0 BK236.out; have hcz21_1 := bc1 BK236.out; have hcz21_2 := bc2 BK236.out; have hfz21_0 := blk_frozen BK236.out 0; have hfz21_1 := blk_frozen BK236.out 1; have hfz21_2 := blk_frozen BK236.out 2
  try go_wp2_with (first | ((with_reducible refine gate_callee (f := 16) rfl ?_); refine gB (some 23) Tryd.func16 #[.int .i64 (l1_2.length : Int)] ?_; (with_reducible refine (spec_PutNum.calls k (l1_2.length : Int) t250 _ A8.out).mono ?_); rintro e w22 ⟨v251, rfl, ho0, hb⟩; refine ⟨_, rfl, ?_⟩; have HO252 := Aside0.mk (Kd.R_lower (Kd.R_new' (Kd.R_new' ho0 (Kd.R_lt (rI HO246.out))) (Kd.R_lt (rI HO249.out))) (below_size (bI HB.out))); replace HO246 := Aside0.mk (Kd.R_elder' (rI HO246.out) (Kd.R_base ho0) hb); replace HO249 := Aside0.mk (Kd.R_elder' (rI HO249.out) (Kd.R_base ho0) hb); replace BK235 := bk BK235 hb; replace BK236 := bk BK236 hb; replace HB := bs HB hb; (try clear hb); (try clear ho0); obtain ⟨Ao24, co24, eo24⟩ := Kd.R_slice HO252.out; subst eo24) | ((with_reducible refine gate_builtin (b := .append) (xs := #[.tmp 19, .tmp 23]) rfl ?_); at_builtin; refine Kd.R_append_rows (Kd.int .u8) (w0 := w) w.heap.size rfl (.tmp 19) (.tmp 23) 30 5 (.int .u8 0) 1 rfl Tryd.underlying30 info5 rfl (by decide) (by omega) v248 y247 t250 _ _ _ (fun k_ => some k_ ≠ (.slice Ao20 t244.length co20 : Value).ownBlock ∧ some k_ ≠ (.slice Ao24 t250.length co24 : Value).ownBlock) (fun _ => False) rfl rfl ?aO ?aR (fun _ _ h => h) (fun _ h => h.elim) ?aF ?aB ?aS ?aL ?_; (case aR => repeat (first | exact (Kd.R_reads' HO252.out).2.2 | (with_reducible refine Kd.C_alloc ?_ _) | (with_reducible refine Kd.C_drewN ?_ _) | (with_reducible refine Kd.C_drew ?_))); (case aB => exact (bI HB.out)); (case aF => exact (fun k_ hk => ⟨Kd.fresh' (Kd.R_lt (rI HO246.out)) k_ hk, Kd.fresh' (Kd.R_lt (rI HO252.out)) k_ hk⟩)); (case aO => exact (rI HO249.out)); (case aS => exact (below_size (bI HB.out))); (case aL => have := LMc9.out; omega); intro v254 w23 ho hb hg hat; rw [← Ny253.out] at ho; have n0_ := bn BK235 hg (Kd.R_ne HO249.out BK235.out (by decide)); have n1_ := bn BK236 hg (Kd.R_ne HO249.out BK236.out (by decide)); have n2_ := Aside0.mk (Kd.R_after (ok := (fun k_ => some k_ ≠ (.slice Ao24 t250.length co24 : Value).ownBlock)) (rI (Kd.R_mono HO246.out (fun _ hk => ⟨hk.2, hk.1.2⟩))) hg hat); have n3_ := Aside0.mk (Kd.R_after (ok := (fun k_ => some k_ ≠ (.slice Ao20 t244.length co20 : Value).ownBlock)) (rI (Kd.R_mono HO252.out (fun _ hk => ⟨hk.1.2, hk.2⟩))) hg hat); have n4_ := Aside0.mk (hb); have n5_ := Aside0.mk (ho); clear BK235; clear BK236; clear HO246; clear HO252; clear HB; clear HO249; have BK235 := n0_; have BK236 := n1_; have HO246 := n2_; have HO252 := n3_; have HB := n4_; have HO255 := n5_; clear n0_ n1_ n2_ n3_ n4_ n5_; clear ho hb hg hat))
  go_loopg [5, 6] k (fun kq v5 v6 w' => ∃ (x5_1 : List Int) (x6_1 : Int), v6 = .int .i64 x6_1 ∧ Aside0 (spec_QcBytes.l0 kq x5_1 x6_1 a1_0 a1_1 l1_2 = some r) ∧ Aside0 (kq ≤ k) ∧ Aside0 (Kd.R (Kd.int .u8) 5 w' w.heap.size (fun _ => True) v5 x5_1) ∧ Aside0 (w'.heap[gb235]? = some (.cells #[.int .i64 a0_0, .int .i64 a0_1] 32 (0, 0))) ∧ Aside0 (w'.heap[gb236]? = some (.cells #[.int .i64 a1_0, .string a1_1, (.slice A1_2 l1_2.length c1_2)] 34 (0, 0))) ∧ Aside0 (Below w.heap.size w w'))
  case atStart => exact ⟨(y253), (0), y0_10, H', ⟨Nat.le_refl _⟩, ⟨by (with_reducible repeat (first | apply Kd.R_alloc | apply Kd.R_drewN | apply Kd.R_drew)); exact Kd.R_mono HO255.out (fun _ hk => trivial)⟩, ⟨gI BK235.out⟩, ⟨gI BK236.out⟩, ⟨bI HB.out⟩⟩
  case round =>
   clear H'
   try clear c1
   try clear c2
   try clear p2
   try clear c3
   try clear c4
   try clear c7
   try clear c9
   try clear c12
   try clear c16
   try clear c24
   try clear hcz13_0
   try clear hcz13_1
   try clear hcz14_0
   try clear hcz14_1
   try clear hcz14_2
   try clear hcz21_0
   try clear hcz21_1
   try clear hcz21_2
   try clear hfz13_0
   try clear hfz13_1
   try clear hfz14_0
   try clear hfz14_1
   try clear hfz14_2
   try clear hfz21_0
   try clear hfz21_1
   try clear hfz21_2
   obtain ⟨x5_1, x6_1, rfl, HA, HK1, HO_5, BK235, BK236, HB⟩ := hrel; cases gk with
   | zero => exact absurd HA.out (by simp [spec_QcBytes.l0])
   | succ k1 =>
    have H := HA.out; clear HA
    simp only [spec_QcBytes.l0] at H
    by_cases c25 : x6_1 < (l1_2.length : Int)
    ·
     rw [if_pos c25] at H
     have c25b0 : decide (x6_1 < (l1_2.length : Int)) = true := decide_eq_true c25; clear c25
     by_cases c26 : 0 ≤ x6_1
     rotate_left
     ·
      rw [if_neg c26] at H
      exact absurd H (by simp)
     rw [if_pos c26] at H
     have c26b0 : decide (0 ≤ x6_1) = true := decide_eq_true c26; clear c26; obtain ⟨t257, A270, H⟩ := Option.bind_eq_some_iff.mp H
     try dsimp only at H
     have A27 := Aside0.mk A270; clear A270
     by_cases c28 : x5_1.length + t257.length < 140737488355328
     rotate_left
     ·
      rw [if_neg c28] at H
      exact absurd H (by simp)
     rw [if_pos c28] at H
     have LMc28 := Aside0.mk c28; clear c28; obtain ⟨y260, hy260⟩ : ∃ y_ : List Int, y_ = (x5_1 ++ t257) := ⟨_, rfl⟩
     replace H : (spec_QcBytes.l0 k1 y260 (wrap64 (x6_1 + 1)) a1_0 a1_1 l1_2) = some r := by first | (rw [hy260]; with_reducible exact H) | (have H2_ := (Option.bind_some _ _).symm.trans H; rw [hy260]; with_reducible exact H2_) | (have H2_ := (Option.bind_some _ _).symm.trans H; with_reducible exact H2_) | with_reducible exact H | (rw [hy260]; exact H) | exact H
     have Ny260 := Aside0.mk hy260; clear hy260; have H' := Aside0.mk H; clear H; have hnb29 := NB236_235.out; have hnc29 := NB235_236.out; have hcz30_0 := bc0 BK236.out; have hcz30_1 := bc1 BK236.out; have hcz30_2 := bc2 BK236.out; have hfz30_0 := blk_frozen BK236.out 0; have hfz30_1 := blk_frozen BK236.out 1; have hfz30_2 := blk_frozen BK236.out 2; have p256 : 0 ≤ (x6_1 : Int) := of_decide_eq_true y0_9; have q256 : x6_1 < (l1_2.length : Int) := of_decide_eq_true y0_9; obtain ⟨ad256, e256, hx256_0⟩ := Kd.at_int HR1_2.out x6_1 p256 q256; cases e256; replace hx256_0 := bx HB hx256_0; replace p256 := eq_true p256; replace q256 := eq_true q256
     go_wp2_with (first | ((with_reducible refine gate_callee (f := 16) rfl ?_); refine gB (some 38) Tryd.func16 #[.int .i64 (rd l1_2 x6_1)] ?_; (with_reducible refine (spec_PutNum.calls k1 (rd l1_2 x6_1) t257 _ A27.out).mono ?_); rintro e w31 ⟨v258, rfl, ho0, hb⟩; refine ⟨_, rfl, ?_⟩; have HO259 := Aside0.mk (Kd.R_lower (Kd.R_new' ho0 (Kd.R_lt (rI HO_5.out))) (below_size (bI HB.out))); replace HO_5 := Aside0.mk (Kd.R_elder' (rI HO_5.out) (Kd.R_base ho0) hb); replace BK235 := bk BK235 hb; replace BK236 := bk BK236 hb; replace HB := bs HB hb; (try clear hb); (try clear ho0); obtain ⟨Ao33, co33, eo33⟩ := Kd.R_slice HO259.out; subst eo33) | ((with_reducible refine gate_builtin (b := .append) (xs := #[.tmp 32, .tmp 38]) rfl ?_); at_builtin; refine Kd.R_append_rows (Kd.int .u8) (w0 := w) w.heap.size rfl (.tmp 32) (.tmp 38) 30 5 (.int .u8 0) 1 rfl Tryd.underlying30 info5 rfl (by decide) (by omega) u5 x5_1 t257 _ _ _ (fun k_ => some k_ ≠ (.slice Ao33 t257.length co33 : Value).ownBlock) (fun _ => False) rfl rfl ?aO ?aR (fun _ _ h => h) (fun _ h => h.elim) ?aF ?aB ?aS ?aL ?_; (case aR => repeat (first | exact (Kd.R_reads' HO259.out).2.2 | (with_reducible refine Kd.C_alloc ?_ _) | (with_reducible refine Kd.C_drewN ?_ _) | (with_reducible refine Kd.C_drew ?_))); (case aB => exact (bI HB.out)); (case aF => exact (fun k_ hk => Kd.fresh' (Kd.R_lt (rI HO259.out)) k_ hk)); (case aO => exact (rI (Kd.R_mono HO_5.out (fun _ hk => hk.2)))); (case aS => exact (below_size (bI HB.out))); (case aL => have := LMc28.out; omega); intro v261 w32 ho hb hg hat; rw [← Ny260.out] at ho; have n0_ := bn BK235 hg (Kd.R_ne HO_5.out BK235.out (by decide)); have n1_ := bn BK236 hg (Kd.R_ne HO_5.out BK236.out (by decide)); have n2_ := Aside0.mk (Kd.R_after (ok := (fun _ => True)) (rI HO259.out) hg hat); have n3_ := Aside0.mk (hb); have n4_ := Aside0.mk (ho); clear BK235; clear BK236; clear HO259; clear HB; clear HO_5; have BK235 := n0_; have BK236 := n1_; have HO259 := n2_; have HB := n3_; have HO262 := n4_; clear n0_ n1_ n2_ n3_ n4_; clear ho hb hg hat))
     go_roundg k1
     case measure => have := HK1.out; omega
     case rel => exact ⟨(y260), (wrap64 (x6_1 + 1)), y0_10, H', ⟨y0_14⟩, ⟨by (with_reducible repeat (first | apply Kd.R_alloc | apply Kd.R_drewN | apply Kd.R_drew)); exact Kd.R_mono HO262.out (fun _ hk => trivial)⟩, ⟨gI BK235.out⟩, ⟨gI BK236.out⟩, ⟨bI HB.out⟩⟩
    rw [if_neg c25] at H
    have c25b0 : decide (x6_1 < (l1_2.length : Int)) = false := decide_eq_false c25; clear c25; obtain rfl := Option.some.inj H; have hnb34 := NB236_235.out; have hnc34 := NB235_236.out; have hcz35_0 := bc0 BK236.out; have hcz35_1 := bc1 BK236.out; have hcz35_2 := bc2 BK236.out; have hfz35_0 := blk_frozen BK236.out 0; have hfz35_1 := blk_frozen BK236.out 1; have hfz35_2 := blk_frozen BK236.out 2
    go_wp2
    go_ret
    exact ⟨_, y0_7, y0_4, bI HB.out⟩
 replace c4 := Bool.eq_false_iff.mpr c4; subst c4
 rw [if_neg (show ¬ (false = true) by decide)] at H
 obtain ⟨y238, hy238⟩ : ∃ y_ : List Int, y_ = (([] : List Int)) := ⟨_, rfl⟩
 replace H : (some y238) = some r := by first | (rw [hy238]; with_reducible exact H) | (have H2_ := (Option.bind_some _ _).symm.trans H; rw [hy238]; with_reducible exact H2_) | (have H2_ := (Option.bind_some _ _).symm.trans H; with_reducible exact H2_) | with_reducible exact H | (rw [hy238]; exact H) | exact H
 have Ny238 := Aside0.mk hy238; clear hy238; obtain rfl := Option.some.inj H
 go_enter Tryd.func24, Tryd.ntmps24
 go_wp2_with (first | ((with_reducible refine gd 2 ?_); refine bA 2 #[.int .i64 a0_0, .int .i64 a0_1] 32 ?_; intro gb235 hg w36 hbox hb; have BK235 := Aside0.mk (hbox); have GW235 := bg hg HB; have GJ235 := gi GW235; have GE235 := GW235; replace HB := bs HB hb; clear hb hbox hg) | ((with_reducible refine gd 3 ?_); refine bA 3 #[.int .i64 a1_0, .string a1_1, .slice A1_2 l1_2.length c1_2] 34 ?_; intro gb236 hg w37 hbox hb; have BK236 := Aside0.mk (hbox); have GW236 := bg hg HB; have GJ236 := gi GW236; have GE236 := GW236; replace HB := bs HB hb; have NB235_236 := b1 BK235 hg; have NI235_236 := ni NB235_236; have NB236_235 := b2 BK235 hg; have NI236_235 := ni NB236_235; replace BK235 := bk BK235 hb; clear hb hbox hg; have hnb38 := NB235_236.out; have hnc38 := NB236_235.out; obtain ⟨hcz39_0, hcz39_1, hfz39_0, hfz39_1⟩ := cs2 BK235; obtain ⟨hcz40_0, hcz40_1, hcz40_2, hfz40_0, hfz40_1, hfz40_2⟩ := cs3 BK236) | ((with_reducible refine gate_callee (f := 35) rfl ?_); refine gB (some 9) Tryd.func35 #[.agg #[.int .i64 a0_0, .int .i64 a0_1], .agg #[.int .i64 a1_0, .string a1_1, .slice A1_2 l1_2.length c1_2]] ?_; (with_reducible refine (spec_QcOk.calls k a0_0 a0_1 a1_0 a1_1 _ _ l1_2 false _ ?side1 ?side2 A3.out).mono ?_); (case side1 => exact ch HR1_2 HB); (case side2 => exact HC1_2.out); rintro e w41 ⟨rfl, hb⟩; refine ⟨_, rfl, ?_⟩; replace BK235 := bk BK235 hb; replace BK236 := bk BK236 hb; replace HB := bs HB hb; (try clear hb); (try clear hb2); (try clear hk); (try clear hi)) | ((with_reducible refine gate_dst (N := 11) rfl ?_); refine Kd.R_lit (Kd.int .u8) _ 5 ?hg (N := 11) ?hd (xs := ([] : List Int)) (inner := []) (ok := fun _ => True) (okp := fun _ => True) ?hr ?hp (fun _ hk => hk) trivial (Below.refl _ _) (Nat.le_refl _) (by simp) ?_; (case hd => rfl); (case hg => rfl); (case hr => first | (go_simp; done) | (go_simp; rfl)); (case hp => exact (Reps.none _ _)); intro v239 w42 ho43 hb hg_ hnew_; clear hg_ hnew_; (first | rw [← Ny238.out] at ho43 | (simp only [Int.reduceToNat] at ho43; rw [← Ny238.out] at ho43)); have HO240 := Aside0.mk (Kd.R_lower ho43 (below_size (bI HB.out))); replace BK235 := bk BK235 hb; replace BK236 := bk BK236 hb; replace HB := bs HB hb; clear hb ho43))
 go_ret
 exact ⟨_, y0_7, by (with_reducible repeat (first | apply Kd.R_alloc | apply Kd.R_drewN | apply Kd.R_drew)); exact HO240.out, bI HB.out⟩

/-! ### spec_SafeBytes: function 15 -/
def spec_SafeBytes.f (k : Nat) (a0_0 : Int) (a0_1 : Int) (a1_0 : Int) (a1_1 : Int) (a1_2 : Int) (a1_3 : ByteArray) (l1_4 : List Int) (a1_5 : ByteArray) : Option (List Int) := (spec_SafeOk.f k a0_0 a0_1 a1_0 a1_1 a1_2 a1_3 l1_4 a1_5).bind fun t265 => (if t265 = true then ((spec_PutNum.f k a1_0).bind fun t269 => ((spec_PutNum.f k a1_1).bind fun t272 => (if t269.length + t272.length < 140737488355328 then ((some (t269 ++ t272 : List Int)).bind fun y275 => ((spec_QcBytes.f k a0_0 a0_1 a1_2 a1_3 l1_4).bind fun t278 => (if y275.length + t278.length < 140737488355328 then ((some (y275 ++ t278 : List Int)).bind fun y281 => ((spec_PutText.f k a1_5).bind fun t284 => (if y281.length + t284.length < 140737488355328 then (some (y281 ++ t284)) else (none)))) else (none)))) else (none)))) else (some (([] : List Int))))
theorem spec_SafeBytes.mono : ∀ a0 a1 a2 a3 a4 a5 a6 a7 k, LeO (spec_SafeBytes.f k a0 a1 a2 a3 a4 a5 a6 a7) (spec_SafeBytes.f (k + 1) a0 a1 a2 a3 a4 a5 a6 a7) := by
 intro a0 a1 a2 a3 a4 a5 a6 a7 k
 unfold spec_SafeBytes.f
 repeat' first | (with_reducible exact spec_PutNum.mono _ _) | (with_reducible exact spec_PutText.mono _ _) | (with_reducible exact spec_QcBytes.mono _ _ _ _ _ _) | (with_reducible exact spec_SafeOk.mono _ _ _ _ _ _ _ _ _) | (with_reducible exact LeO.refl _) | (with_reducible exact LeO.none _) | (with_reducible refine LeO.ite ?_ ?_) | (with_reducible refine LeO.bind ?_ (fun _ => ?_))
def spec_SafeBytes.T3 : Bool × List (List Nat × List Nat) := (true, [([], []), ([0], [0]), ([1], [1]), ([], []), ([3], [3]), ([4, 2], [4]), ([2, 5, 5], [2, 5]), ([6, 6, 0, 1, 2, 3, 4, 5, 6], [6])])
def spec_SafeBytes.B3 : List Nat := [0, 1, 3, 0, 8, 31, 63, 127]
theorem spec_SafeBytes.tab3 : rtab .any (opsOf Tryd.f15 3) = spec_SafeBytes.T3 := by kernel_rfl
theorem spec_SafeBytes.bits3 : waitsOk spec_SafeBytes.T3.2 spec_SafeBytes.B3 = true := by kernel_rfl
set_option maxHeartbeats 8000000 in
set_option maxRecDepth 100000 in
theorem spec_SafeBytes.calls (k : Nat) (a0_0 : Int) (a0_1 : Int) (a1_0 : Int) (a1_1 : Int) (a1_2 : Int) (a1_3 : ByteArray) (A1_4 : Option Addr) (c1_4 : Nat) (l1_4 : List Int) (a1_5 : ByteArray) (r : List Int) (w : World) (hr1_4 : Kd.C (Kd.int .i64) w A1_4 l1_4.length l1_4) (hc1_4 : l1_4.length ≤ c1_4) (h : spec_SafeBytes.f k a0_0 a0_1 a1_0 a1_1 a1_2 a1_3 l1_4 a1_5 = some r) :
  Calls Tryd.prog 15 #[.agg #[.int .i64 a0_0, .int .i64 a0_1], .agg #[.int .i64 a1_0, .int .i64 a1_1, .int .i64 a1_2, .string a1_3, .slice A1_4 l1_4.length c1_4, .string a1_5]] w fun e w' => ∃ v0_ : Value, e = .returned (v0_) ∧ Kd.R (Kd.int .u8) 5 w' w.heap.size (fun _ => True) v0_ r ∧ Below w.heap.size w w' := by
 have hu32 := Tryd.underlying32; have hu36 := Tryd.underlying36; have hu34 := Tryd.underlying34; have HR1_4 := Aside0.mk hr1_4; have HC1_4 := Aside0.mk hc1_4; clear hr1_4 hc1_4; have HB := Aside0.mk (Below.refl w.heap.size w)
 have H : ((spec_SafeOk.f k a0_0 a0_1 a1_0 a1_1 a1_2 a1_3 l1_4 a1_5).bind fun t265 => (if t265 = true then ((spec_PutNum.f k a1_0).bind fun t269 => ((spec_PutNum.f k a1_1).bind fun t272 => (if t269.length + t272.length < 140737488355328 then ((some (t269 ++ t272 : List Int)).bind fun y275 => ((spec_QcBytes.f k a0_0 a0_1 a1_2 a1_3 l1_4).bind fun t278 => (if y275.length + t278.length < 140737488355328 then ((some (y275 ++ t278 : List Int)).bind fun y281 => ((spec_PutText.f k a1_5).bind fun t284 => (if y281.length + t284.length < 140737488355328 then (some (y281 ++ t284)) else (none)))) else (none)))) else (none)))) else (some (([] : List Int))))) = some r := h
 clear h; obtain ⟨t265, A30, H⟩ := Option.bind_eq_some_iff.mp H
 try dsimp only at H
 have A3 := Aside0.mk A30; clear A30
 by_cases c4 : t265 = true
 ·
  subst c4
  rw [if_pos rfl] at H
  obtain ⟨t269, A50, H⟩ := Option.bind_eq_some_iff.mp H
  try dsimp only at H
  have A5 := Aside0.mk A50; clear A50; obtain ⟨t272, A60, H⟩ := Option.bind_eq_some_iff.mp H
  try dsimp only at H
  have A6 := Aside0.mk A60; clear A60
  by_cases c7 : t269.length + t272.length < 140737488355328
  rotate_left
  ·
   rw [if_neg c7] at H
   exact absurd H (by simp)
  rw [if_pos c7] at H
  have LMc7 := Aside0.mk c7; clear c7; obtain ⟨y275, hy275⟩ : ∃ y_ : List Int, y_ = (t269 ++ t272) := ⟨_, rfl⟩
  replace H : ((spec_QcBytes.f k a0_0 a0_1 a1_2 a1_3 l1_4).bind fun t278 => (if y275.length + t278.length < 140737488355328 then ((some (y275 ++ t278 : List Int)).bind fun y281 => ((spec_PutText.f k a1_5).bind fun t284 => (if y281.length + t284.length < 140737488355328 then (some (y281 ++ t284)) else (none)))) else (none))) = some r := by first | (rw [hy275]; with_reducible exact H) | (have H2_ := (Option.bind_some _ _).symm.trans H; rw [hy275]; with_reducible exact H2_) | (have H2_ := (Option.bind_some _ _).symm.trans H; with_reducible exact H2_) | with_reducible exact H | (rw [hy275]; exact H) | exact H
  have Ny275 := Aside0.mk hy275; clear hy275; obtain ⟨t278, A80, H⟩ := Option.bind_eq_some_iff.mp H
  try dsimp only at H
  have A8 := Aside0.mk A80; clear A80
  by_cases c9 : y275.length + t278.length < 140737488355328
  rotate_left
  ·
   rw [if_neg c9] at H
   exact absurd H (by simp)
  rw [if_pos c9] at H
  have LMc9 := Aside0.mk c9; clear c9; obtain ⟨y281, hy281⟩ : ∃ y_ : List Int, y_ = (y275 ++ t278) := ⟨_, rfl⟩
  replace H : ((spec_PutText.f k a1_5).bind fun t284 => (if y281.length + t284.length < 140737488355328 then (some (y281 ++ t284)) else (none))) = some r := by first | (rw [hy281]; with_reducible exact H) | (have H2_ := (Option.bind_some _ _).symm.trans H; rw [hy281]; with_reducible exact H2_) | (have H2_ := (Option.bind_some _ _).symm.trans H; with_reducible exact H2_) | with_reducible exact H | (rw [hy281]; exact H) | exact H
  have Ny281 := Aside0.mk hy281; clear hy281; obtain ⟨t284, A100, H⟩ := Option.bind_eq_some_iff.mp H
  try dsimp only at H
  have A10 := Aside0.mk A100; clear A100
  by_cases c11 : y281.length + t284.length < 140737488355328
  rotate_left
  ·
   rw [if_neg c11] at H
   exact absurd H (by simp)
  rw [if_pos c11] at H
  have LMc11 := Aside0.mk c11; clear c11; obtain ⟨y287, hy287⟩ : ∃ y_ : List Int, y_ = (y281 ++ t284) := ⟨_, rfl⟩
  replace H : (some y287) = some r := by first | (rw [hy287]; with_reducible exact H) | (have H2_ := (Option.bind_some _ _).symm.trans H; rw [hy287]; with_reducible exact H2_) | (have H2_ := (Option.bind_some _ _).symm.trans H; with_reducible exact H2_) | with_reducible exact H | (rw [hy287]; exact H) | exact H
  have Ny287 := Aside0.mk hy287; clear hy287; obtain rfl := Option.some.inj H
  go_enter Tryd.func15, Tryd.ntmps15
  try go_wp2_with (first | ((with_reducible refine gd 2 ?_); refine bA 2 #[.int .i64 a0_0, .int .i64 a0_1] 32 ?_; intro gb263 hg w12 hbox hb; have BK263 := Aside0.mk (hbox); have GW263 := bg hg HB; have GJ263 := gi GW263; have GE263 := GW263; replace HB := bs HB hb; clear hb hbox hg) | ((with_reducible refine gd 3 ?_); refine bA 3 #[.int .i64 a1_0, .int .i64 a1_1, .int .i64 a1_2, .string a1_3, .slice A1_4 l1_4.length c1_4, .string a1_5] 36 ?_; intro gb264 hg w13 hbox hb; have BK264 := Aside0.mk (hbox); have GW264 := bg hg HB; have GJ264 := gi GW264; have GE264 := GW264; replace HB := bs HB hb; have NB263_264 := b1 BK263 hg; have NI263_264 := ni NB263_264; have NB264_263 := b2 BK263 hg; have NI264_263 := ni NB264_263; replace BK263 := bk BK263 hb; clear hb hbox hg; have hnb14 := NB263_264.out; have hnc14 := NB264_263.out; obtain ⟨hcz15_0, hcz15_1, hfz15_0, hfz15_1⟩ := cs2 BK263; have hcz16_0 := bc0 BK264.out; have hcz16_1 := bc1 BK264.out; have hcz16_2 := bc2 BK264.out; have hcz16_3 := bc3 BK264.out; have hcz16_4 := bc4 BK264.out; have hcz16_5 := bc5 BK264.out; have hfz16_0 := blk_frozen BK264.out 0; have hfz16_1 := blk_frozen BK264.out 1; have hfz16_2 := blk_frozen BK264.out 2; have hfz16_3 := blk_frozen BK264.out 3; have hfz16_4 := blk_frozen BK264.out 4; have hfz16_5 := blk_frozen BK264.out 5) | ((with_reducible refine gate_callee (f := 23) rfl ?_); refine gB (some 8) Tryd.func23 #[.agg #[.int .i64 a0_0, .int .i64 a0_1], .agg #[.int .i64 a1_0, .int .i64 a1_1, .int .i64 a1_2, .string a1_3, .slice A1_4 l1_4.length c1_4, .string a1_5]] ?_; (with_reducible refine (spec_SafeOk.calls k a0_0 a0_1 a1_0 a1_1 a1_2 a1_3 _ _ l1_4 a1_5 true _ ?side1 ?side2 A3.out).mono ?_); (case side1 => exact ch HR1_4 HB); (case side2 => exact HC1_4.out); rintro e w17 ⟨rfl, hb⟩; refine ⟨_, rfl, ?_⟩; replace BK263 := bk BK263 hb; replace BK264 := bk BK264 hb; replace HB := bs HB hb; (try clear hb); (try clear hb2); (try clear hk); (try clear hi)))
  replace BK263 := Aside0.mk (blk_drew BK263.out); replace BK264 := Aside0.mk (blk_drew BK264.out); replace HB := Aside0.mk (below_drew1 HB.out)
  refine start_ (n := 8) (S := fun w' => w'.cell? ⟨gb264, 0, none⟩ = some (.int .i64 a1_0) ∧ w'.cell? ⟨gb264, 1, none⟩ = some (.int .i64 a1_1) ∧ w'.cell? ⟨gb264, 2, none⟩ = some (.int .i64 a1_2) ∧ w'.cell? ⟨gb264, 3, none⟩ = some (.string a1_3) ∧ w'.cell? ⟨gb264, 4, none⟩ = some (.slice A1_4 l1_4.length c1_4) ∧ w'.cell? ⟨gb264, 5, none⟩ = some (.string a1_5)) (ds := []) #[false, false, false, false, false, false, false, false] (by kernel_rfl) rfl rfl ⟨bc0 BK264.out, bc1 BK264.out, bc2 BK264.out, bc3 BK264.out, bc4 BK264.out, bc5 BK264.out⟩ (fun hHeld => ?_); refine with_tabW spec_SafeBytes.tab3 spec_SafeBytes.bits3 (fun HT_ HW_ => ?_)
  generalize w17.drew = w18 at BK263 BK264 HB hHeld ⊢
  refine pA 0 (some 11) (bz 8 1) HT_ ?_
  refine pA 3 (some 14) (bz 8 9) HT_ ?_
  refine tA 1 (some 12) (bz 8 11) HT_ HW_ hHeld ?_
  refine tA 4 (some 15) (bz 8 27) HT_ HW_ hHeld ?_
  refine oA 2 (some 13) (bz 8 31) HT_ (fun K hK => ?_)
  refine gA Tryd.func16 #[.int .i64 a1_0] ?_
  with_reducible refine (spec_PutNum.calls k a1_0 t269 _ A5.out).mono ?_
  rintro e w19 ⟨v270, rfl, ho0, hb⟩
  refine ⟨_, rfl, ?_⟩
  have HO271 := Aside0.mk (Kd.R_lower ho0 (below_size (bI HB.out))); replace BK263 := bk BK263 hb; replace BK264 := bk BK264 hb; replace HB := bs HB hb
  (try clear hb)
  (try clear hb2)
  (try clear hk)
  (try clear hi)
  (try clear ho0)
  refine hK.out _ _ ⟨bc0 BK264.out, bc1 BK264.out, bc2 BK264.out, bc3 BK264.out, bc4 BK264.out, bc5 BK264.out⟩ (fun hHeld => ?_)
  clear hK K
  refine nA (some 13) ?_
  refine oA 5 (some 16) (bz 8 63) HT_ (fun K hK => ?_)
  refine gA Tryd.func16 #[.int .i64 a1_1] ?_
  with_reducible refine (spec_PutNum.calls k a1_1 t272 _ A6.out).mono ?_
  rintro e w20 ⟨v273, rfl, ho0, hb⟩
  refine ⟨_, rfl, ?_⟩
  have HO274 := Aside0.mk (Kd.R_lower (Kd.R_new' ho0 (Kd.R_lt (rI HO271.out))) (below_size (bI HB.out))); replace HO271 := Aside0.mk (Kd.R_elder' (rI HO271.out) (Kd.R_base ho0) hb); replace BK263 := bk BK263 hb; replace BK264 := bk BK264 hb; replace HB := bs HB hb
  (try clear hb)
  (try clear hb2)
  (try clear hk)
  (try clear hi)
  (try clear ho0)
  obtain ⟨Ao22, co22, eo22⟩ := Kd.R_slice HO274.out
  (first | subst eo22 | (injection eo22 with f1_ f2_ f3_; have f4_ := f1_.symm; have f5_ := f3_.symm; clear f1_ f2_ f3_; subst f4_; subst f5_))
  refine hK.out _ _ ⟨bc0 BK264.out, bc1 BK264.out, bc2 BK264.out, bc3 BK264.out, bc4 BK264.out, bc5 BK264.out⟩ (fun hHeld => ?_)
  clear hK K
  refine nA (some 16) ?_
  refine oA 6 (some 17) (bz 8 127) HT_ (fun K hK => ?_)
  refine Kd.R_append_rows_step (Kd.int .u8) (w0 := w) w.heap.size (by rfl) (.tmp 13) (.tmp 16) 30 5 (.int .u8 0) 1 rfl Tryd.underlying30 info5 rfl (by decide) (by omega) v270 t269 t272 _ _ _ (fun k_ => some k_ ≠ (.slice Ao22 t272.length co22 : Value).ownBlock) (fun _ => False) rfl rfl ?aO ?aR (fun _ _ h => h) (fun _ h => h.elim) ?aF ?aB ?aS ?aL ?_
  (case aR => repeat (first | exact (Kd.R_reads' HO274.out).2.2 | (with_reducible refine Kd.C_alloc ?_ _) | (with_reducible refine Kd.C_drewN ?_ _) | (with_reducible refine Kd.C_drew ?_)))
  (case aB => exact (bI HB.out))
  (case aF => exact (fun k_ hk => Kd.fresh' (Kd.R_lt (rI HO274.out)) k_ hk))
  (case aO => exact (rI (Kd.R_mono HO271.out (fun _ hk => hk.2))))
  (case aS => exact (below_size (bI HB.out)))
  (case aL => have := LMc7.out; omega)
  intro v276 w21 ho hb hg hat
  rw [← Ny275.out] at ho
  have n0_ := bn BK263 hg (Kd.R_ne HO271.out BK263.out (by decide))
  have n1_ := bn BK264 hg (Kd.R_ne HO271.out BK264.out (by decide))
  have n2_ := Aside0.mk (Kd.R_after (ok := (fun _ => True)) (rI HO274.out) hg hat)
  have n3_ := Aside0.mk (hb); have n4_ := Aside0.mk (ho); clear BK263; clear BK264; clear HO274; clear HB; clear HO271; have BK263 := n0_; have BK264 := n1_; have HO274 := n2_; have HB := n3_; have HO277 := n4_; clear n0_ n1_ n2_ n3_ n4_; clear ho hb hg hat
  refine hK.out _ _ ⟨bc0 BK264.out, bc1 BK264.out, bc2 BK264.out, bc3 BK264.out, bc4 BK264.out, bc5 BK264.out⟩ (fun hHeld => ?_)
  clear hK K
  refine nA (some 17) ?_
  refine pA 7 (some 5) (bz 8 255) HT_ ?_
  refine done_ (done_of HT_.out (by kernel_rfl)) ?_
  have hcz23_0 := bc0 BK263.out; have hcz23_1 := bc1 BK263.out; have hfz23_0 := blk_frozen BK263.out 0; have hfz23_1 := blk_frozen BK263.out 1; have hcz24_0 := bc0 BK264.out; have hcz24_1 := bc1 BK264.out; have hcz24_2 := bc2 BK264.out; have hcz24_3 := bc3 BK264.out; have hcz24_4 := bc4 BK264.out; have hcz24_5 := bc5 BK264.out; have hfz24_0 := blk_frozen BK264.out 0; have hfz24_1 := blk_frozen BK264.out 1; have hfz24_2 := blk_frozen BK264.out 2; have hfz24_3 := blk_frozen BK264.out 3; have hfz24_4 := blk_frozen BK264.out 4; have hfz24_5 := blk_frozen BK264.out 5
  try go_wp2_with (first | ((with_reducible refine gate_callee (f := 24) rfl ?_); refine gB (some 22) Tryd.func24 #[.agg #[.int .i64 a0_0, .int .i64 a0_1], .agg #[.int .i64 a1_2, .string a1_3, .slice A1_4 l1_4.length c1_4]] ?_; (with_reducible refine (spec_QcBytes.calls k a0_0 a0_1 a1_2 a1_3 _ _ l1_4 t278 _ ?side1 ?side2 A8.out).mono ?_); (case side1 => exact ch HR1_4 HB); (case side2 => exact HC1_4.out); rintro e w25 ⟨v279, rfl, ho0, hb⟩; refine ⟨_, rfl, ?_⟩; have HO280 := Aside0.mk (Kd.R_lower (Kd.R_new' (Kd.R_new' ho0 (Kd.R_lt (rI HO274.out))) (Kd.R_lt (rI HO277.out))) (below_size (bI HB.out))); replace HO274 := Aside0.mk (Kd.R_elder' (rI HO274.out) (Kd.R_base ho0) hb); replace HO277 := Aside0.mk (Kd.R_elder' (rI HO277.out) (Kd.R_base ho0) hb); replace BK263 := bk BK263 hb; replace BK264 := bk BK264 hb; replace HB := bs HB hb; (try clear hb); (try clear ho0); obtain ⟨Ao27, co27, eo27⟩ := Kd.R_slice HO280.out; subst eo27) | ((with_reducible refine gate_builtin (b := .append) (xs := #[.tmp 18, .tmp 22]) rfl ?_); at_builtin; refine Kd.R_append_rows (Kd.int .u8) (w0 := w) w.heap.size rfl (.tmp 18) (.tmp 22) 30 5 (.int .u8 0) 1 rfl Tryd.underlying30 info5 rfl (by decide) (by omega) v276 y275 t278 _ _ _ (fun k_ => some k_ ≠ (.slice Ao22 t272.length co22 : Value).ownBlock ∧ some k_ ≠ (.slice Ao27 t278.length co27 : Value).ownBlock) (fun _ => False) rfl rfl ?aO ?aR (fun _ _ h => h) (fun _ h => h.elim) ?aF ?aB ?aS ?aL ?_; (case aR => repeat (first | exact (Kd.R_reads' HO280.out).2.2 | (with_reducible refine Kd.C_alloc ?_ _) | (with_reducible refine Kd.C_drewN ?_ _) | (with_reducible refine Kd.C_drew ?_))); (case aB => exact (bI HB.out)); (case aF => exact (fun k_ hk => ⟨Kd.fresh' (Kd.R_lt (rI HO274.out)) k_ hk, Kd.fresh' (Kd.R_lt (rI HO280.out)) k_ hk⟩)); (case aO => exact (rI HO277.out)); (case aS => exact (below_size (bI HB.out))); (case aL => have := LMc9.out; omega); intro v282 w26 ho hb hg hat; rw [← Ny281.out] at ho; have n0_ := bn BK263 hg (Kd.R_ne HO277.out BK263.out (by decide)); have n1_ := bn BK264 hg (Kd.R_ne HO277.out BK264.out (by decide)); have n2_ := Aside0.mk (Kd.R_after (ok := (fun k_ => some k_ ≠ (.slice Ao27 t278.length co27 : Value).ownBlock)) (rI (Kd.R_mono HO274.out (fun _ hk => ⟨hk.2, hk.1.2⟩))) hg hat); have n3_ := Aside0.mk (Kd.R_after (ok := (fun k_ => some k_ ≠ (.slice Ao22 t272.length co22 : Value).ownBlock)) (rI (Kd.R_mono HO280.out (fun _ hk => ⟨hk.1.2, hk.2⟩))) hg hat); have n4_ := Aside0.mk (hb); have n5_ := Aside0.mk (ho); clear BK263; clear BK264; clear HO274; clear HO280; clear HB; clear HO277; have BK263 := n0_; have BK264 := n1_; have HO274 := n2_; have HO280 := n3_; have HB := n4_; have HO283 := n5_; clear n0_ n1_ n2_ n3_ n4_ n5_; clear ho hb hg hat; have hcz28_0 := bc0 BK264.out; have hcz28_1 := bc1 BK264.out; have hcz28_2 := bc2 BK264.out; have hcz28_3 := bc3 BK264.out; have hcz28_4 := bc4 BK264.out; have hcz28_5 := bc5 BK264.out; have hfz28_0 := blk_frozen BK264.out 0; have hfz28_1 := blk_frozen BK264.out 1; have hfz28_2 := blk_frozen BK264.out 2; have hfz28_3 := blk_frozen BK264.out 3; have hfz28_4 := blk_frozen BK264.out 4; have hfz28_5 := blk_frozen BK264.out 5) | ((with_reducible refine gate_callee (f := 25) rfl ?_); refine gB (some 27) Tryd.func25 #[.string a1_5] ?_; (with_reducible refine (spec_PutText.calls k a1_5 t284 _ A10.out).mono ?_); rintro e w29 ⟨v285, rfl, ho0, hb⟩; refine ⟨_, rfl, ?_⟩; have n0_ := Aside0.mk (Kd.R_elder' (rI HO274.out) (Kd.R_base ho0) hb); have n1_ := Aside0.mk (Kd.R_elder' (rI HO280.out) (Kd.R_base ho0) hb); have n2_ := Aside0.mk (Kd.R_elder' (rI HO283.out) (Kd.R_base ho0) hb); have n3_ := Aside0.mk (Kd.R_lower (Kd.R_new' (Kd.R_new' (Kd.R_new' ho0 (Kd.R_lt (rI HO274.out))) (Kd.R_lt (rI HO280.out))) (Kd.R_lt (rI HO283.out))) (below_size (bI HB.out))); have n4_ := bk BK263 hb; have n5_ := bk BK264 hb; have n6_ := bs HB hb; clear HO274; clear HO280; clear HO283; clear BK263; clear BK264; clear HB; have HO274 := n0_; have HO280 := n1_; have HO283 := n2_; have HO286 := n3_; have BK263 := n4_; have BK264 := n5_; have HB := n6_; clear n0_ n1_ n2_ n3_ n4_ n5_ n6_; (try clear hb); (try clear ho0); obtain ⟨Ao31, co31, eo31⟩ := Kd.R_slice HO286.out; subst eo31) | ((with_reducible refine gate_builtin (b := .append) (xs := #[.tmp 24, .tmp 27]) rfl ?_); at_builtin; refine Kd.R_append_rows (Kd.int .u8) (w0 := w) w.heap.size rfl (.tmp 24) (.tmp 27) 30 5 (.int .u8 0) 1 rfl Tryd.underlying30 info5 rfl (by decide) (by omega) v282 y281 t284 _ _ _ (fun k_ => some k_ ≠ (.slice Ao22 t272.length co22 : Value).ownBlock ∧ some k_ ≠ (.slice Ao27 t278.length co27 : Value).ownBlock ∧ some k_ ≠ (.slice Ao31 t284.length co31 : Value).ownBlock) (fun _ => False) rfl rfl ?aO ?aR (fun _ _ h => h) (fun _ h => h.elim) ?aF ?aB ?aS ?aL ?_; (case aR => repeat (first | exact (Kd.R_reads' HO286.out).2.2 | (with_reducible refine Kd.C_alloc ?_ _) | (with_reducible refine Kd.C_drewN ?_ _) | (with_reducible refine Kd.C_drew ?_))); (case aB => exact (bI HB.out)); (case aF => exact (fun k_ hk => ⟨Kd.fresh' (Kd.R_lt (rI HO274.out)) k_ hk, Kd.fresh' (Kd.R_lt (rI HO280.out)) k_ hk, Kd.fresh' (Kd.R_lt (rI HO286.out)) k_ hk⟩)); (case aO => exact (rI (Kd.R_mono HO283.out (fun _ hk => ⟨hk.1.1, ⟨hk.1.2, hk.2⟩⟩)))); (case aS => exact (below_size (bI HB.out))); (case aL => have := LMc11.out; omega); intro v288 w30 ho hb hg hat; rw [← Ny287.out] at ho; have n0_ := bn BK263 hg (Kd.R_ne HO283.out BK263.out (by decide)); have n1_ := bn BK264 hg (Kd.R_ne HO283.out BK264.out (by decide)); have n2_ := Aside0.mk (Kd.R_after (ok := (fun k_ => some k_ ≠ (.slice Ao27 t278.length co27 : Value).ownBlock ∧ some k_ ≠ (.slice Ao31 t284.length co31 : Value).ownBlock)) (rI (Kd.R_mono HO274.out (fun _ hk => ⟨⟨hk.1.1, hk.2⟩, hk.1.2⟩))) hg hat); have n3_ := Aside0.mk (Kd.R_after (ok := (fun k_ => some k_ ≠ (.slice Ao22 t272.length co22 : Value).ownBlock ∧ some k_ ≠ (.slice Ao31 t284.length co31 : Value).ownBlock)) (rI (Kd.R_mono HO280.out (fun _ hk => ⟨⟨hk.1.1, hk.2⟩, hk.1.2⟩))) hg hat); have n4_ := Aside0.mk (Kd.R_after (ok := (fun k_ => some k_ ≠ (.slice Ao22 t272.length co22 : Value).ownBlock ∧ some k_ ≠ (.slice Ao27 t278.length co27 : Value).ownBlock)) (rI (Kd.R_mono HO286.out (fun _ hk => ⟨⟨hk.1.1.2, hk.1.2⟩, hk.2⟩))) hg hat); have n5_ := Aside0.mk (hb); have n6_ := Aside0.mk (ho); clear BK263; clear BK264; clear HO274; clear HO280; clear HO286; clear HB; clear HO283; have BK263 := n0_; have BK264 := n1_; have HO274 := n2_; have HO280 := n3_; have HO286 := n4_; have HB := n5_; have HO289 := n6_; clear n0_ n1_ n2_ n3_ n4_ n5_ n6_; clear ho hb hg hat))
  go_ret
  exact ⟨_, y0_7, by (with_reducible repeat (first | apply Kd.R_alloc | apply Kd.R_drewN | apply Kd.R_drew)); exact Kd.R_mono HO289.out (fun _ hk => trivial), bI HB.out⟩
 replace c4 := Bool.eq_false_iff.mpr c4; subst c4
 rw [if_neg (show ¬ (false = true) by decide)] at H
 obtain ⟨y266, hy266⟩ : ∃ y_ : List Int, y_ = (([] : List Int)) := ⟨_, rfl⟩
 replace H : (some y266) = some r := by first | (rw [hy266]; with_reducible exact H) | (have H2_ := (Option.bind_some _ _).symm.trans H; rw [hy266]; with_reducible exact H2_) | (have H2_ := (Option.bind_some _ _).symm.trans H; with_reducible exact H2_) | with_reducible exact H | (rw [hy266]; exact H) | exact H
 have Ny266 := Aside0.mk hy266; clear hy266; obtain rfl := Option.some.inj H
 go_enter Tryd.func15, Tryd.ntmps15
 go_wp2_with (first | ((with_reducible refine gd 2 ?_); refine bA 2 #[.int .i64 a0_0, .int .i64 a0_1] 32 ?_; intro gb263 hg w32 hbox hb; have BK263 := Aside0.mk (hbox); have GW263 := bg hg HB; have GJ263 := gi GW263; have GE263 := GW263; replace HB := bs HB hb; clear hb hbox hg) | ((with_reducible refine gd 3 ?_); refine bA 3 #[.int .i64 a1_0, .int .i64 a1_1, .int .i64 a1_2, .string a1_3, .slice A1_4 l1_4.length c1_4, .string a1_5] 36 ?_; intro gb264 hg w33 hbox hb; have BK264 := Aside0.mk (hbox); have GW264 := bg hg HB; have GJ264 := gi GW264; have GE264 := GW264; replace HB := bs HB hb; have NB263_264 := b1 BK263 hg; have NI263_264 := ni NB263_264; have NB264_263 := b2 BK263 hg; have NI264_263 := ni NB264_263; replace BK263 := bk BK263 hb; clear hb hbox hg; have hnb34 := NB263_264.out; have hnc34 := NB264_263.out; obtain ⟨hcz35_0, hcz35_1, hfz35_0, hfz35_1⟩ := cs2 BK263; have hcz36_0 := bc0 BK264.out; have hcz36_1 := bc1 BK264.out; have hcz36_2 := bc2 BK264.out; have hcz36_3 := bc3 BK264.out; have hcz36_4 := bc4 BK264.out; have hcz36_5 := bc5 BK264.out; have hfz36_0 := blk_frozen BK264.out 0; have hfz36_1 := blk_frozen BK264.out 1; have hfz36_2 := blk_frozen BK264.out 2; have hfz36_3 := blk_frozen BK264.out 3; have hfz36_4 := blk_frozen BK264.out 4; have hfz36_5 := blk_frozen BK264.out 5) | ((with_reducible refine gate_callee (f := 23) rfl ?_); refine gB (some 8) Tryd.func23 #[.agg #[.int .i64 a0_0, .int .i64 a0_1], .agg #[.int .i64 a1_0, .int .i64 a1_1, .int .i64 a1_2, .string a1_3, .slice A1_4 l1_4.length c1_4, .string a1_5]] ?_; (with_reducible refine (spec_SafeOk.calls k a0_0 a0_1 a1_0 a1_1 a1_2 a1_3 _ _ l1_4 a1_5 false _ ?side1 ?side2 A3.out).mono ?_); (case side1 => exact ch HR1_4 HB); (case side2 => exact HC1_4.out); rintro e w37 ⟨rfl, hb⟩; refine ⟨_, rfl, ?_⟩; replace BK263 := bk BK263 hb; replace BK264 := bk BK264 hb; replace HB := bs HB hb; (try clear hb); (try clear hb2); (try clear hk); (try clear hi)) | ((with_reducible refine gate_dst (N := 10) rfl ?_); refine Kd.R_lit (Kd.int .u8) _ 5 ?hg (N := 10) ?hd (xs := ([] : List Int)) (inner := []) (ok := fun _ => True) (okp := fun _ => True) ?hr ?hp (fun _ hk => hk) trivial (Below.refl _ _) (Nat.le_refl _) (by simp) ?_; (case hd => rfl); (case hg => rfl); (case hr => first | (go_simp; done) | (go_simp; rfl)); (case hp => exact (Reps.none _ _)); intro v267 w38 ho39 hb hg_ hnew_; clear hg_ hnew_; (first | rw [← Ny266.out] at ho39 | (simp only [Int.reduceToNat] at ho39; rw [← Ny266.out] at ho39)); have HO268 := Aside0.mk (Kd.R_lower ho39 (below_size (bI HB.out))); replace BK263 := bk BK263 hb; replace BK264 := bk BK264 hb; replace HB := bs HB hb; clear hb ho39))
 go_ret
 exact ⟨_, y0_7, by (with_reducible repeat (first | apply Kd.R_alloc | apply Kd.R_drewN | apply Kd.R_drew)); exact HO268.out, bI HB.out⟩

/-! ### spec_NoteBytes: function 5 -/
def spec_NoteBytes.f (k : Nat) (a0_0 : Int) (a0_1 : Int) (a1_0 : Int) (a1_1 : Int) (a1_2 : Int) (a1_3 : ByteArray) (l1_4 : List Int) (a1_5 : ByteArray) : Option (List Int) := (spec_SafeBytes.f k a0_0 a0_1 a1_0 a1_1 a1_2 a1_3 l1_4 a1_5).bind fun t292 => (if (t292.length : Int) = 0 then (some (([] : List Int))) else ((spec_PutNum.f k (t292.length : Int)).bind fun t298 => (if t298.length + t292.length < 140737488355328 then ((some (t298 ++ t292 : List Int)).bind fun y301 => (if y301.length < 140737488355328 then (some (y301 ++ [10])) else (none))) else (none))))
theorem spec_NoteBytes.mono : ∀ a0 a1 a2 a3 a4 a5 a6 a7 k, LeO (spec_NoteBytes.f k a0 a1 a2 a3 a4 a5 a6 a7) (spec_NoteBytes.f (k + 1) a0 a1 a2 a3 a4 a5 a6 a7) := by
 intro a0 a1 a2 a3 a4 a5 a6 a7 k
 unfold spec_NoteBytes.f
 repeat' first | (with_reducible exact spec_PutNum.mono _ _) | (with_reducible exact spec_SafeBytes.mono _ _ _ _ _ _ _ _ _) | (with_reducible exact LeO.refl _) | (with_reducible exact LeO.none _) | (with_reducible refine LeO.ite ?_ ?_) | (with_reducible refine LeO.bind ?_ (fun _ => ?_))
set_option maxHeartbeats 8000000 in
set_option maxRecDepth 100000 in
theorem spec_NoteBytes.calls (k : Nat) (a0_0 : Int) (a0_1 : Int) (a1_0 : Int) (a1_1 : Int) (a1_2 : Int) (a1_3 : ByteArray) (A1_4 : Option Addr) (c1_4 : Nat) (l1_4 : List Int) (a1_5 : ByteArray) (r : List Int) (w : World) (hr1_4 : Kd.C (Kd.int .i64) w A1_4 l1_4.length l1_4) (hc1_4 : l1_4.length ≤ c1_4) (h : spec_NoteBytes.f k a0_0 a0_1 a1_0 a1_1 a1_2 a1_3 l1_4 a1_5 = some r) :
  Calls Tryd.prog 5 #[.agg #[.int .i64 a0_0, .int .i64 a0_1], .agg #[.int .i64 a1_0, .int .i64 a1_1, .int .i64 a1_2, .string a1_3, .slice A1_4 l1_4.length c1_4, .string a1_5]] w fun e w' => ∃ v0_ : Value, e = .returned (v0_) ∧ Kd.R (Kd.int .u8) 5 w' w.heap.size (fun _ => True) v0_ r ∧ Below w.heap.size w w' := by
 have hu32 := Tryd.underlying32; have hu36 := Tryd.underlying36; have HR1_4 := Aside0.mk hr1_4; have HC1_4 := Aside0.mk hc1_4; clear hr1_4 hc1_4; have HB := Aside0.mk (Below.refl w.heap.size w)
 have H : ((spec_SafeBytes.f k a0_0 a0_1 a1_0 a1_1 a1_2 a1_3 l1_4 a1_5).bind fun t292 => (if (t292.length : Int) = 0 then (some (([] : List Int))) else ((spec_PutNum.f k (t292.length : Int)).bind fun t298 => (if t298.length + t292.length < 140737488355328 then ((some (t298 ++ t292 : List Int)).bind fun y301 => (if y301.length < 140737488355328 then (some (y301 ++ [10])) else (none))) else (none))))) = some r := h
 clear h; obtain ⟨t292, A30, H⟩ := Option.bind_eq_some_iff.mp H
 try dsimp only at H
 have A3 := Aside0.mk A30; clear A30
 by_cases c4 : (t292.length : Int) = 0
 ·
  rw [if_pos c4] at H
  have c4b0 : ((t292.length : Int) == 0) = true := beq_iff_eq.mpr c4; have c4b1 : ((t292.length : Int) != 0) = false := bne_eq_false_iff_eq.mpr c4; clear c4; obtain ⟨y295, hy295⟩ : ∃ y_ : List Int, y_ = (([] : List Int)) := ⟨_, rfl⟩
  replace H : (some y295) = some r := by first | (rw [hy295]; with_reducible exact H) | (have H2_ := (Option.bind_some _ _).symm.trans H; rw [hy295]; with_reducible exact H2_) | (have H2_ := (Option.bind_some _ _).symm.trans H; with_reducible exact H2_) | with_reducible exact H | (rw [hy295]; exact H) | exact H
  have Ny295 := Aside0.mk hy295; clear hy295; obtain rfl := Option.some.inj H
  go_enter Tryd.func5, Tryd.ntmps5
  go_wp2_with (first | ((with_reducible refine gd 2 ?_); refine bA 2 #[.int .i64 a0_0, .int .i64 a0_1] 32 ?_; intro gb290 hg w5 hbox hb; have BK290 := Aside0.mk (hbox); have GW290 := bg hg HB; have GJ290 := gi GW290; have GE290 := GW290; replace HB := bs HB hb; clear hb hbox hg) | ((with_reducible refine gd 3 ?_); refine bA 3 #[.int .i64 a1_0, .int .i64 a1_1, .int .i64 a1_2, .string a1_3, .slice A1_4 l1_4.length c1_4, .string a1_5] 36 ?_; intro gb291 hg w6 hbox hb; have BK291 := Aside0.mk (hbox); have GW291 := bg hg HB; have GJ291 := gi GW291; have GE291 := GW291; replace HB := bs HB hb; have NB290_291 := b1 BK290 hg; have NI290_291 := ni NB290_291; have NB291_290 := b2 BK290 hg; have NI291_290 := ni NB291_290; replace BK290 := bk BK290 hb; clear hb hbox hg; have hnb7 := NB290_291.out; have hnc7 := NB291_290.out; obtain ⟨hcz8_0, hcz8_1, hfz8_0, hfz8_1⟩ := cs2 BK290; have hcz9_0 := bc0 BK291.out; have hcz9_1 := bc1 BK291.out; have hcz9_2 := bc2 BK291.out; have hcz9_3 := bc3 BK291.out; have hcz9_4 := bc4 BK291.out; have hcz9_5 := bc5 BK291.out; have hfz9_0 := blk_frozen BK291.out 0; have hfz9_1 := blk_frozen BK291.out 1; have hfz9_2 := blk_frozen BK291.out 2; have hfz9_3 := blk_frozen BK291.out 3; have hfz9_4 := blk_frozen BK291.out 4; have hfz9_5 := blk_frozen BK291.out 5) | ((with_reducible refine gate_callee (f := 15) rfl ?_); refine gB (some 9) Tryd.func15 #[.agg #[.int .i64 a0_0, .int .i64 a0_1], .agg #[.int .i64 a1_0, .int .i64 a1_1, .int .i64 a1_2, .string a1_3, .slice A1_4 l1_4.length c1_4, .string a1_5]] ?_; (with_reducible refine (spec_SafeBytes.calls k a0_0 a0_1 a1_0 a1_1 a1_2 a1_3 _ _ l1_4 a1_5 t292 _ ?side1 ?side2 A3.out).mono ?_); (case side1 => exact ch HR1_4 HB); (case side2 => exact HC1_4.out); rintro e w10 ⟨v293, rfl, ho0, hb⟩; refine ⟨_, rfl, ?_⟩; have HO294 := Aside0.mk (Kd.R_lower ho0 (below_size (bI HB.out))); replace BK290 := bk BK290 hb; replace BK291 := bk BK291 hb; replace HB := bs HB hb; (try clear hb); (try clear ho0); obtain ⟨Ao11, co11, eo11⟩ := Kd.R_slice HO294.out; subst eo11) | ((with_reducible refine gate_dst (N := 13) rfl ?_); refine Kd.R_lit (Kd.int .u8) _ 5 ?hg (N := 13) ?hd (xs := ([] : List Int)) (inner := []) (ok := fun _ => True) (okp := fun _ => True) ?hr ?hp (fun _ hk => hk) trivial (Below.refl _ _) (Nat.le_refl _) (by simp) ?_; (case hd => rfl); (case hg => rfl); (case hr => first | (go_simp; done) | (go_simp; rfl)); (case hp => exact (Reps.none _ _)); intro v296 w12 ho13 hb hg_ hnew_; clear hg_ hnew_; (first | rw [← Ny295.out] at ho13 | (simp only [Int.reduceToNat] at ho13; rw [← Ny295.out] at ho13)); have HO297 := Aside0.mk (Kd.R_lower (Kd.R_new' ho13 (Kd.R_lt (rI HO294.out))) (below_size (bI HB.out))); replace HO294 := Aside0.mk (Kd.R_elder' (rI HO294.out) (Kd.R_base ho13) hb); replace BK290 := bk BK290 hb; replace BK291 := bk BK291 hb; replace HB := bs HB hb; clear hb ho13))
  go_ret
  exact ⟨_, y0_7, by (with_reducible repeat (first | apply Kd.R_alloc | apply Kd.R_drewN | apply Kd.R_drew)); exact Kd.R_mono HO297.out (fun _ hk => trivial), bI HB.out⟩
 rw [if_neg c4] at H
 have c4b0 : ((t292.length : Int) == 0) = false := beq_eq_false_iff_ne.mpr c4; have c4b1 : ((t292.length : Int) != 0) = true := bne_iff_ne.mpr c4
 have c4b2 : ¬ (t292 = []) := fun h_ => c4 (by rw [h_]; rfl)
 obtain ⟨t298, A140, H⟩ := Option.bind_eq_some_iff.mp H
 try dsimp only at H
 have A14 := Aside0.mk A140; clear A140
 by_cases c15 : t298.length + t292.length < 140737488355328
 ·
  rw [if_pos c15] at H
  have LMc15 := Aside0.mk c15; clear c15; obtain ⟨y301, hy301⟩ : ∃ y_ : List Int, y_ = (t298 ++ t292) := ⟨_, rfl⟩
  replace H : (if y301.length < 140737488355328 then (some (y301 ++ [10])) else (none)) = some r := by first | (rw [hy301]; with_reducible exact H) | (have H2_ := (Option.bind_some _ _).symm.trans H; rw [hy301]; with_reducible exact H2_) | (have H2_ := (Option.bind_some _ _).symm.trans H; with_reducible exact H2_) | with_reducible exact H | (rw [hy301]; exact H) | exact H
  have Ny301 := Aside0.mk hy301; clear hy301
  by_cases c16 : y301.length < 140737488355328
  rotate_left
  ·
   rw [if_neg c16] at H
   exact absurd H (by simp)
  rw [if_pos c16] at H
  have LMc16 := Aside0.mk c16; clear c16; obtain ⟨y304, hy304⟩ : ∃ y_ : List Int, y_ = (y301 ++ [10]) := ⟨_, rfl⟩
  replace H : (some y304) = some r := by first | (rw [hy304]; with_reducible exact H) | (have H2_ := (Option.bind_some _ _).symm.trans H; rw [hy304]; with_reducible exact H2_) | (have H2_ := (Option.bind_some _ _).symm.trans H; with_reducible exact H2_) | with_reducible exact H | (rw [hy304]; exact H) | exact H
  have Ny304 := Aside0.mk hy304; clear hy304; obtain rfl := Option.some.inj H
  go_enter Tryd.func5, Tryd.ntmps5
  go_wp2_with (first | ((with_reducible refine gd 2 ?_); refine bA 2 #[.int .i64 a0_0, .int .i64 a0_1] 32 ?_; intro gb290 hg w17 hbox hb; have BK290 := Aside0.mk (hbox); have GW290 := bg hg HB; have GJ290 := gi GW290; have GE290 := GW290; replace HB := bs HB hb; clear hb hbox hg) | ((with_reducible refine gd 3 ?_); refine bA 3 #[.int .i64 a1_0, .int .i64 a1_1, .int .i64 a1_2, .string a1_3, .slice A1_4 l1_4.length c1_4, .string a1_5] 36 ?_; intro gb291 hg w18 hbox hb; have BK291 := Aside0.mk (hbox); have GW291 := bg hg HB; have GJ291 := gi GW291; have GE291 := GW291; replace HB := bs HB hb; have NB290_291 := b1 BK290 hg; have NI290_291 := ni NB290_291; have NB291_290 := b2 BK290 hg; have NI291_290 := ni NB291_290; replace BK290 := bk BK290 hb; clear hb hbox hg; have hnb19 := NB290_291.out; have hnc19 := NB291_290.out; obtain ⟨hcz20_0, hcz20_1, hfz20_0, hfz20_1⟩ := cs2 BK290; have hcz21_0 := bc0 BK291.out; have hcz21_1 := bc1 BK291.out; have hcz21_2 := bc2 BK291.out; have hcz21_3 := bc3 BK291.out; have hcz21_4 := bc4 BK291.out; have hcz21_5 := bc5 BK291.out; have hfz21_0 := blk_frozen BK291.out 0; have hfz21_1 := blk_frozen BK291.out 1; have hfz21_2 := blk_frozen BK291.out 2; have hfz21_3 := blk_frozen BK291.out 3; have hfz21_4 := blk_frozen BK291.out 4; have hfz21_5 := blk_frozen BK291.out 5) | ((with_reducible refine gate_callee (f := 15) rfl ?_); refine gB (some 9) Tryd.func15 #[.agg #[.int .i64 a0_0, .int .i64 a0_1], .agg #[.int .i64 a1_0, .int .i64 a1_1, .int .i64 a1_2, .string a1_3, .slice A1_4 l1_4.length c1_4, .string a1_5]] ?_; (with_reducible refine (spec_SafeBytes.calls k a0_0 a0_1 a1_0 a1_1 a1_2 a1_3 _ _ l1_4 a1_5 t292 _ ?side1 ?side2 A3.out).mono ?_); (case side1 => exact ch HR1_4 HB); (case side2 => exact HC1_4.out); rintro e w22 ⟨v293, rfl, ho0, hb⟩; refine ⟨_, rfl, ?_⟩; have HO294 := Aside0.mk (Kd.R_lower ho0 (below_size (bI HB.out))); replace BK290 := bk BK290 hb; replace BK291 := bk BK291 hb; replace HB := bs HB hb; (try clear hb); (try clear ho0); obtain ⟨Ao23, co23, eo23⟩ := Kd.R_slice HO294.out; subst eo23) | ((with_reducible refine gate_callee (f := 16) rfl ?_); refine gB (some 16) Tryd.func16 #[.int .i64 (t292.length : Int)] ?_; (with_reducible refine (spec_PutNum.calls k (t292.length : Int) t298 _ A14.out).mono ?_); rintro e w24 ⟨v299, rfl, ho0, hb⟩; refine ⟨_, rfl, ?_⟩; have HO300 := Aside0.mk (Kd.R_lower (Kd.R_new' ho0 (Kd.R_lt (rI HO294.out))) (below_size (bI HB.out))); replace HO294 := Aside0.mk (Kd.R_elder' (rI HO294.out) (Kd.R_base ho0) hb); replace BK290 := bk BK290 hb; replace BK291 := bk BK291 hb; replace HB := bs HB hb; (try clear hb); (try clear ho0)) | ((with_reducible refine gate_builtin (b := .append) (xs := #[.tmp 16, .tmp 17]) rfl ?_); at_builtin; refine Kd.R_append_rows (Kd.int .u8) (w0 := w) w.heap.size rfl (.tmp 16) (.tmp 17) 30 5 (.int .u8 0) 1 rfl Tryd.underlying30 info5 rfl (by decide) (by omega) v299 t298 t292 _ _ _ (fun k_ => some k_ ≠ (.slice Ao23 t292.length co23 : Value).ownBlock) (fun _ => False) rfl rfl ?aO ?aR (fun _ _ h => h) (fun _ h => h.elim) ?aF ?aB ?aS ?aL ?_; (case aR => repeat (first | exact (Kd.R_reads' HO294.out).2.2 | (with_reducible refine Kd.C_alloc ?_ _) | (with_reducible refine Kd.C_drewN ?_ _) | (with_reducible refine Kd.C_drew ?_))); (case aB => exact (bI HB.out)); (case aF => exact (fun k_ hk => Kd.fresh' (Kd.R_lt (rI HO294.out)) k_ hk)); (case aO => exact (rI (Kd.R_mono HO300.out (fun _ hk => hk.2)))); (case aS => exact (below_size (bI HB.out))); (case aL => have := LMc15.out; omega); intro v302 w25 ho hb hg hat; rw [← Ny301.out] at ho; have n0_ := bn BK290 hg (Kd.R_ne HO300.out BK290.out (by decide)); have n1_ := bn BK291 hg (Kd.R_ne HO300.out BK291.out (by decide)); have n2_ := Aside0.mk (Kd.R_after (ok := (fun _ => True)) (rI HO294.out) hg hat); have n3_ := Aside0.mk (hb); have n4_ := Aside0.mk (ho); clear BK290; clear BK291; clear HO294; clear HB; clear HO300; have BK290 := n0_; have BK291 := n1_; have HO294 := n2_; have HB := n3_; have HO303 := n4_; clear n0_ n1_ n2_ n3_ n4_; clear ho hb hg hat) | ((with_reducible refine gate_builtin (b := .append) (xs := #[.tmp 19, .tmp 20]) rfl ?_); at_builtin; refine Kd.R_append (Kd.int .u8) (w0 := w) w.heap.size rfl (.tmp 19) (.tmp 20) 30 5 (.int .u8 0) 1 rfl Tryd.underlying30 info5 rfl (by decide) (by omega) v302 y301 10 [.int .u8 10] (fun k_ => some k_ ≠ (.slice Ao23 t292.length co23 : Value).ownBlock) (fun _ => False) rfl rfl ?aP (fun _ hk => hk.elim) ?aF ?aO ?aB ?aS ?aL ?_; (case aP => exact rfl); (case aB => exact (bI HB.out)); (case aF => exact (fun k_ hk => Kd.fresh' (Kd.R_lt (rI HO294.out)) k_ hk)); (case aO => exact (rI HO303.out)); (case aS => exact (below_size (bI HB.out))); (case aL => have := LMc16.out; omega); intro v305 w26 ho hb hg hat; rw [← Ny304.out] at ho; have n0_ := bn BK290 hg (Kd.R_ne HO303.out BK290.out (by decide)); have n1_ := bn BK291 hg (Kd.R_ne HO303.out BK291.out (by decide)); have n2_ := Aside0.mk (Kd.R_after (ok := (fun _ => True)) (rI HO294.out) hg hat); have n3_ := Aside0.mk (hb); have n4_ := Aside0.mk (ho); clear BK290; clear BK291; clear HO294; clear HB; clear HO303; have BK290 := n0_; have BK291 := n1_; have HO294 := n2_; have HB := n3_; have HO306 := n4_; clear n0_ n1_ n2_ n3_ n4_; clear ho hb hg hat))
  go_ret
  exact ⟨_, y0_7, by (with_reducible repeat (first | apply Kd.R_alloc | apply Kd.R_drewN | apply Kd.R_drew)); exact Kd.R_mono HO306.out (fun _ hk => trivial), bI HB.out⟩
 rw [if_neg c15] at H
 exact absurd H (by simp)

end Go.Proofs.YtemjmefacifdeaaDoor.PFnExactNoteBytes
