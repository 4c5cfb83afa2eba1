-- By a program of this session, out of the translation (the print of the kit, with turns of its own). Lean checks it.
import Derived.Test.YtnpbopadajbopaaDoorPFnExactSafeOfx0
import Derived.Test.YtnpbopadajbopaaDoorPFnExactSafeOfx5
import Derived.Test.YtnpbopadajbopaaDoorPFnExactSafeOfx7
namespace Go.Proofs.YtnpbopadajbopaaDoor.PFnExactSafeOf
open Go.RowKit Go.Proofs.YtnpbopadajbopaaDoorW.PrintWords Go.Proofs.YtnpbopadajbopaaDoorW.PrintLast Go.Proofs.YtnpbopadajbopaaDoorW.PrintMore
attribute [local go_sem] max2_int min2_int max_two min_two max_three min_three max_four min_four   -- for this text's walks alone
attribute [local go_sem] cell_in frozen_in
set_option synthInstance.maxSize 1000000
set_option synthInstance.maxHeartbeats 2000000
set_option linter.unusedVariables false
set_option linter.unusedSimpArgs false

/-! ### impl_TxOf: function 98 -/
def impl_TxOf.f (k : Nat) (a0 : ByteArray) : Option (Int × Int × Int × Int × Bool) := (strings_Cut.f a0 (⟨#[62]⟩ : ByteArray)).bind fun c1 => (strings_Cut.f c1.2.1 (⟨#[58]⟩ : ByteArray)).bind fun c2 => (strings_Cut.f c2.2.1 (⟨#[35]⟩ : ByteArray)).bind fun c3 => (impl_Number.f k c1.1).bind fun n0 => (impl_Number.f k c2.1).bind fun n1 => (impl_Number.f k c3.1).bind fun n2 => (impl_Number.f k c3.2.1).bind fun n3 => (impl_TxOk.f n0.1 n1.1 n2.1 n3.1).bind fun b => (if b = true then ((impl_TxText.f n0.1 n1.1 n2.1 n3.1).bind fun t => (if t.toList = a0.toList then (some (n0.1, n1.1, n2.1, n3.1, true)) else (some (0, 0, 0, 0, false)))) else (some (0, 0, 0, 0, false)))
theorem impl_TxOf.mono : ∀ a0 k, LeO (impl_TxOf.f k a0) (impl_TxOf.f (k + 1) a0) := by
 intro a0 k
 unfold impl_TxOf.f
 repeat' first | (with_reducible exact impl_Number.mono _ _) | (with_reducible exact LeO.refl _) | (with_reducible exact LeO.none _) | (with_reducible refine LeO.ite ?_ ?_) | (with_reducible refine LeO.bind ?_ (fun _ => ?_))
section
variable {P : Program} {ops : Array Oper} {rest : List Oper} {o : Oper} {a : Act} {Q : Exit → Act → World → Prop}
/-- A literal row, its block told. -/
theorem impl_TxOf.lit {W : World} (n : Nat) (cs : Array Value) (t : TypeId)
  (h : ∀ g, g = W.heap.size → ∀ w1, w1.heap[g]? = some (.cells cs t (0, 0)) → Below W.heap.size W w1 → wpList P ops Q rest (a.put o.dst (.slice (some ⟨g, 0, none⟩) n n)) w1)
  (hgd : o.guard = none := by rfl) (hrun : (execOp a.eval o).run P W = .ok (.value (.slice (some ⟨W.heap.size, 0, none⟩) n n)) (W.alloc (.cells cs t (0, 0))) := by first | (go_simp; done) | (go_simp; rfl) | rfl) : wpList P ops Q (o :: rest) a W :=
 Kd.event_run hgd hrun (h _ rfl _ (blk_new W _) (below_alloc (Below.refl _ _) _))
end
def impl_TxOf.arr (a b c d : Int) : Nat → Array Value
 | 0 => #[.int .i64 0, .int .i64 0, .int .i64 0, .int .i64 0]
 | 1 => #[.int .i64 a, .int .i64 0, .int .i64 0, .int .i64 0]
 | 2 => #[.int .i64 a, .int .i64 b, .int .i64 0, .int .i64 0]
 | 3 => #[.int .i64 a, .int .i64 b, .int .i64 c, .int .i64 0]
 | _ => #[.int .i64 a, .int .i64 b, .int .i64 c, .int .i64 d]
set_option maxHeartbeats 8000000 in
set_option maxRecDepth 100000 in
theorem impl_TxOf.calls (k : Nat) (a0 : ByteArray) (r1 : Int) (r2 : Int) (r3 : Int) (r4 : Int) (r5 : Bool) (w : World) (h : impl_TxOf.f k a0 = some (r1, r2, r3, r4, r5)) (hG : Glob w := by exact gG HG HB) :
  Calls Tryd.prog 98 #[.string a0] w fun e w' => e = .returned (.tuple #[.agg #[.int .i64 r1, .int .i64 r2, .int .i64 r3, .int .i64 r4], .bool r5]) ∧ Below w.heap.size w w' := by
 have HG := Aside0.mk hG; clear hG; have huT := Tryd.underlying97; have HB := Aside0.mk (Below.refl w.heap.size w); have H := h
 unfold impl_TxOf.f at H
 clear h; obtain ⟨⟨s1, s2, s3⟩, A10, H⟩ := Option.bind_eq_some_iff.mp H; obtain ⟨⟨s4, s5, s6⟩, A20, H⟩ := Option.bind_eq_some_iff.mp H; obtain ⟨⟨s7, s8, s9⟩, A30, H⟩ := Option.bind_eq_some_iff.mp H; obtain ⟨⟨n0, m0⟩, A40, H⟩ := Option.bind_eq_some_iff.mp H; obtain ⟨⟨n1, m1⟩, A50, H⟩ := Option.bind_eq_some_iff.mp H; obtain ⟨⟨n2, m2⟩, A60, H⟩ := Option.bind_eq_some_iff.mp H; obtain ⟨⟨n3, m3⟩, A70, H⟩ := Option.bind_eq_some_iff.mp H; obtain ⟨bk_, A80, H⟩ := Option.bind_eq_some_iff.mp H
 dsimp only at A10 A20 A30 A40 A50 A60 A70 A80 H
 have HH := Aside0.mk H; clear H; have A1 := Aside0.mk A10; clear A10; have A2 := Aside0.mk A20; clear A20; have A3 := Aside0.mk A30; clear A30; have A4 := Aside0.mk A40; clear A40; have A5 := Aside0.mk A50; clear A50; have A6 := Aside0.mk A60; clear A60; have A7 := Aside0.mk A70; clear A70; have A8 := Aside0.mk A80; clear A80
 go_enter Tryd.func98, Tryd.ntmps98
 go_wp2_with (first | ((with_reducible refine gd 2 ?_); refine bA 2 #[.int .i64 0, .int .i64 0, .int .i64 0, .int .i64 0] 97 ?_; intro gx hg w' hbox hb; have Kgx := Aside0.mk hbox; have GWgx := bg hg HB; have GJgx := gi GWgx; skip; replace HB := bs HB hb; clear hb hbox hg) | ((with_reducible refine gate_callee (f := 87) rfl ?_); refine gB (some 18) Tryd.func87 #[.string a0, .string (⟨#[62]⟩ : ByteArray)] ?_; (with_reducible refine (strings_Cut.calls a0 (⟨#[62]⟩ : ByteArray) s1 s2 s3 _ A1.out).mono ?_); rintro e w' ⟨rfl, hb⟩; refine ⟨_, rfl, ?_⟩; replace Kgx := bk Kgx hb; replace HB := bs HB hb; clear hb) | ((with_reducible refine gate_callee (f := 87) rfl ?_); refine gB (some 24) Tryd.func87 #[.string s2, .string (⟨#[58]⟩ : ByteArray)] ?_; (with_reducible refine (strings_Cut.calls s2 (⟨#[58]⟩ : ByteArray) s4 s5 s6 _ A2.out).mono ?_); rintro e w' ⟨rfl, hb⟩; refine ⟨_, rfl, ?_⟩; replace Kgx := bk Kgx hb; replace HB := bs HB hb; clear hb) | ((with_reducible refine gate_callee (f := 87) rfl ?_); refine gB (some 30) Tryd.func87 #[.string s5, .string (⟨#[35]⟩ : ByteArray)] ?_; (with_reducible refine (strings_Cut.calls s5 (⟨#[35]⟩ : ByteArray) s7 s8 s9 _ A3.out).mono ?_); rintro e w' ⟨rfl, hb⟩; refine ⟨_, rfl, ?_⟩; replace Kgx := bk Kgx hb; replace HB := bs HB hb; clear hb) | ((with_reducible refine gd 12 ?_); refine bA 12 #[.int .i64 0, .int .i64 0, .int .i64 0, .int .i64 0] 130 ?_; intro ga hg w' hbox hb; have Kga := Aside0.mk hbox; have GWga := bg hg HB; have GJga := gi GWga; have Ngxga := b1 Kgx hg; have NIgxga := ni Ngxga; have Ngagx := b2 Kgx hg; have NIgagx := ni Ngagx; replace Kgx := bk Kgx hb; replace HB := bs HB hb; clear hb hbox hg) | ((with_reducible refine gd 38 ?_); refine impl_TxOf.lit 4 #[.string s1, .string s4, .string s7, .string s8] 9 ?_; intro gl hg w' hbox hb; have Kgl := Aside0.mk hbox; have GWgl := bg hg HB; have GJgl := gi GWgl; have Ngxgl := b1 Kgx hg; have NIgxgl := ni Ngxgl; have Nglgx := b2 Kgx hg; have NIglgx := ni Nglgx; replace Kgx := bk Kgx hb; have Ngagl := b1 Kga hg; have NIgagl := ni Ngagl; have Nglga := b2 Kga hg; have NIglga := ni Nglga; replace Kga := bk Kga hb; replace HB := bs HB hb; clear hb hbox hg))
 go_loopg [40] 5 (fun kq v40 w' => ∃ (i_ : Nat), v40 = .int .i64 (i_ : Int) ∧ Aside0 (kq + i_ = 5 ∧ i_ ≤ 4) ∧ Aside0 (w'.heap[gx]? = some (.cells #[.int .i64 0, .int .i64 0, .int .i64 0, .int .i64 0] 97 (0, 0))) ∧ Aside0 (w'.heap[ga]? = some (.cells (impl_TxOf.arr n0 n1 n2 n3 i_) 130 (0, 0))) ∧ Aside0 (w'.heap[gl]? = some (.cells #[.string s1, .string s4, .string s7, .string s8] 9 (0, 0))) ∧ Aside0 (Below w.heap.size w w'))
 case atStart => exact ⟨0, rfl, ⟨by omega⟩, Kgx, ⟨kI Kga.out⟩, ⟨kI Kgl.out⟩, ⟨bI HB.out⟩⟩
 case round =>
  obtain ⟨i_, rfl, HI_, Kgx, Kga, Kgl, HB⟩ := hrel
  have hi5 : i_ = 0 ∨ i_ = 1 ∨ i_ = 2 ∨ i_ = 3 ∨ i_ = 4 := by have := HI_.out; omega
  rcases hi5 with rfl | rfl | rfl | rfl | rfl
  ·
   replace Kga : Aside0 (wr.heap[ga]? = some (.cells #[.int .i64 0, .int .i64 0, .int .i64 0, .int .i64 0] 130 (0, 0))) := Kga; obtain ⟨gk, rfl⟩ : ∃ q, gk = q + 1 := ⟨gk - 1, y0_14⟩; have hcs := bc0 Kgl.out; have hfs := blk_frozen Kgl.out 0; have hfa := blk_frozen Kga.out 0
   go_wp2_with (first | ((with_reducible refine gate_callee (f := 88) rfl ?_); refine gB (some 48) Tryd.func88 #[.string s1] ?_; (with_reducible refine (impl_Number.calls k s1 n0 m0 _ A4.out).mono ?_); rintro e w' ⟨rfl, hb⟩; refine ⟨_, rfl, ?_⟩; replace Kgx := bk Kgx hb; replace Kgl := bk Kgl hb; replace Kga := bk Kga hb; replace HB := bs HB hb; clear hb hfa; have hfa := blk_frozen Kga.out 0; have hca := bc0 Kga.out))
   go_roundg gk
   case measure => omega
   case rel => exact ⟨1, by first | rfl | (simp; done), ⟨y0_14⟩, ⟨gI Kgx.out⟩, ⟨pI Kga⟩, ⟨gI Kgl.out⟩, ⟨bI HB.out⟩⟩
  ·
   replace Kga : Aside0 (wr.heap[ga]? = some (.cells #[.int .i64 n0, .int .i64 0, .int .i64 0, .int .i64 0] 130 (0, 0))) := Kga; obtain ⟨gk, rfl⟩ : ∃ q, gk = q + 1 := ⟨gk - 1, y0_14⟩; have hcs := bc1 Kgl.out; have hfs := blk_frozen Kgl.out 1; have hfa := blk_frozen Kga.out 1
   go_wp2_with (first | ((with_reducible refine gate_callee (f := 88) rfl ?_); refine gB (some 48) Tryd.func88 #[.string s4] ?_; (with_reducible refine (impl_Number.calls k s4 n1 m1 _ A5.out).mono ?_); rintro e w' ⟨rfl, hb⟩; refine ⟨_, rfl, ?_⟩; replace Kgx := bk Kgx hb; replace Kgl := bk Kgl hb; replace Kga := bk Kga hb; replace HB := bs HB hb; clear hb hfa; have hfa := blk_frozen Kga.out 1; have hca := bc1 Kga.out))
   go_roundg gk
   case measure => omega
   case rel => exact ⟨2, by first | rfl | (simp; done), ⟨y0_14⟩, ⟨gI Kgx.out⟩, ⟨pI Kga⟩, ⟨gI Kgl.out⟩, ⟨bI HB.out⟩⟩
  ·
   replace Kga : Aside0 (wr.heap[ga]? = some (.cells #[.int .i64 n0, .int .i64 n1, .int .i64 0, .int .i64 0] 130 (0, 0))) := Kga; obtain ⟨gk, rfl⟩ : ∃ q, gk = q + 1 := ⟨gk - 1, y0_14⟩; have hcs := bc2 Kgl.out; have hfs := blk_frozen Kgl.out 2; have hfa := blk_frozen Kga.out 2
   go_wp2_with (first | ((with_reducible refine gate_callee (f := 88) rfl ?_); refine gB (some 48) Tryd.func88 #[.string s7] ?_; (with_reducible refine (impl_Number.calls k s7 n2 m2 _ A6.out).mono ?_); rintro e w' ⟨rfl, hb⟩; refine ⟨_, rfl, ?_⟩; replace Kgx := bk Kgx hb; replace Kgl := bk Kgl hb; replace Kga := bk Kga hb; replace HB := bs HB hb; clear hb hfa; have hfa := blk_frozen Kga.out 2; have hca := bc2 Kga.out))
   go_roundg gk
   case measure => omega
   case rel => exact ⟨3, by first | rfl | (simp; done), ⟨y0_14⟩, ⟨gI Kgx.out⟩, ⟨pI Kga⟩, ⟨gI Kgl.out⟩, ⟨bI HB.out⟩⟩
  ·
   replace Kga : Aside0 (wr.heap[ga]? = some (.cells #[.int .i64 n0, .int .i64 n1, .int .i64 n2, .int .i64 0] 130 (0, 0))) := Kga; obtain ⟨gk, rfl⟩ : ∃ q, gk = q + 1 := ⟨gk - 1, y0_14⟩; have hcs := bc3 Kgl.out; have hfs := blk_frozen Kgl.out 3; have hfa := blk_frozen Kga.out 3
   go_wp2_with (first | ((with_reducible refine gate_callee (f := 88) rfl ?_); refine gB (some 48) Tryd.func88 #[.string s8] ?_; (with_reducible refine (impl_Number.calls k s8 n3 m3 _ A7.out).mono ?_); rintro e w' ⟨rfl, hb⟩; refine ⟨_, rfl, ?_⟩; replace Kgx := bk Kgx hb; replace Kgl := bk Kgl hb; replace Kga := bk Kga hb; replace HB := bs HB hb; clear hb hfa; have hfa := blk_frozen Kga.out 3; have hca := bc3 Kga.out))
   go_roundg gk
   case measure => omega
   case rel => exact ⟨4, by first | rfl | (simp; done), ⟨y0_14⟩, ⟨gI Kgx.out⟩, ⟨pI Kga⟩, ⟨gI Kgl.out⟩, ⟨bI HB.out⟩⟩
  replace Kga : Aside0 (wr.heap[ga]? = some (.cells #[.int .i64 n0, .int .i64 n1, .int .i64 n2, .int .i64 n3] 130 (0, 0))) := Kga; have H := HH.out; clear HH; obtain ⟨hca0, hca1, hca2, hca3, hfa0, hfa1, hfa2, hfa3⟩ := cs4 Kga; obtain ⟨hcx0, hcx1, hcx2, hcx3, hfx0, hfx1, hfx2, hfx3⟩ := cs4 Kgx
  by_cases cb : bk_ = true
  ·
   subst cb
   rw [if_pos rfl] at H
   obtain ⟨t_, A90, H⟩ := Option.bind_eq_some_iff.mp H; have A9 := Aside0.mk A90; clear A90
   by_cases ct : t_.toList = a0.toList
   ·
    rw [if_pos ct] at H
    have ctb0 : (t_.toList == a0.toList) = true := beq_iff_eq.mpr ct; have ctb1 : (t_.toList != a0.toList) = false := bne_eq_false_iff_eq.mpr ct; clear ct
    simp only [Option.some.injEq, Prod.mk.injEq] at H
    obtain ⟨rfl, rfl, rfl, rfl, rfl⟩ := H
    go_wp2_with (first | ((with_reducible refine gd 15 ?_); refine bA 15 #[.int .i64 0, .int .i64 0, .int .i64 0, .int .i64 0] 97 ?_; intro gv hg w' hbox hb; have Kgv := Aside0.mk hbox; have GWgv := bg hg HB; have GJgv := gi GWgv; have Ngxgv := b1 Kgx hg; have NIgxgv := ni Ngxgv; have Ngvgx := b2 Kgx hg; have NIgvgx := ni Ngvgx; replace Kgx := bk Kgx hb; have Ngagv := b1 Kga hg; have NIgagv := ni Ngagv; have Ngvga := b2 Kga hg; have NIgvga := ni Ngvga; replace Kga := bk Kga hb; replace HB := bs HB hb; clear hb hbox hg; obtain ⟨hcv0, hcv1, hcv2, hcv3, hfv0, hfv1, hfv2, hfv3⟩ := cs4 Kgv; have hn1 := Ngxgv.out; have hn2 := Ngvgx.out) | (go_at_call 103; (with_reducible refine (impl_TxOk.calls n0 n1 n2 n3 true _ A8.out).mono ?_); rintro e w' ⟨rfl, hb⟩; replace Kgx := Aside0.mk (blk_below (gI Kgx.out) hb); replace Kgv := bp Kgv hb #[.int .i64 n0, .int .i64 n1, .int .i64 n2, .int .i64 n3]; replace HB := bs HB hb; clear hb; obtain ⟨hcx0, hcx1, hcx2, hcx3, hfx0, hfx1, hfx2, hfx3⟩ := cs4 Kgx; obtain ⟨hcv0, hcv1, hcv2, hcv3, hfv0, hfv1, hfv2, hfv3⟩ := cs4 Kgv) | (go_at_call 104; (with_reducible refine (impl_TxText.calls n0 n1 n2 n3 t_ _ A9.out).mono ?_); rintro e w' ⟨rfl, hb⟩; replace Kgx := Aside0.mk (blk_below (gI Kgx.out) hb); replace Kgv := bp Kgv hb #[.int .i64 n0, .int .i64 n1, .int .i64 n2, .int .i64 n3]; replace HB := bs HB hb; clear hb; obtain ⟨hcx0, hcx1, hcx2, hcx3, hfx0, hfx1, hfx2, hfx3⟩ := cs4 Kgx; obtain ⟨hcv0, hcv1, hcv2, hcv3, hfv0, hfv1, hfv2, hfv3⟩ := cs4 Kgv))
    refine bodyPost_ret (results_ct rfl _ _ gx 97 #[.int .i64 n0, .int .i64 n1, .int .i64 n2, .int .i64 n3] (0, 0) _ rfl (pI Kgx) Tryd.underlying97 rfl (by kernel_rfl)) rfl ?_
    exact ⟨y0_11, bI HB.out⟩
   rw [if_neg ct] at H
   have ctb0 : (t_.toList == a0.toList) = false := beq_eq_false_iff_ne.mpr ct; have ctb1 : (t_.toList != a0.toList) = true := bne_iff_ne.mpr ct
   simp only [Option.some.injEq, Prod.mk.injEq] at H
   obtain ⟨rfl, rfl, rfl, rfl, rfl⟩ := H
   go_wp2_with (first | ((with_reducible refine gd 15 ?_); refine bA 15 #[.int .i64 0, .int .i64 0, .int .i64 0, .int .i64 0] 97 ?_; intro gv hg w' hbox hb; have Kgv := Aside0.mk hbox; have GWgv := bg hg HB; have GJgv := gi GWgv; have Ngxgv := b1 Kgx hg; have NIgxgv := ni Ngxgv; have Ngvgx := b2 Kgx hg; have NIgvgx := ni Ngvgx; replace Kgx := bk Kgx hb; have Ngagv := b1 Kga hg; have NIgagv := ni Ngagv; have Ngvga := b2 Kga hg; have NIgvga := ni Ngvga; replace Kga := bk Kga hb; replace HB := bs HB hb; clear hb hbox hg; obtain ⟨hcv0, hcv1, hcv2, hcv3, hfv0, hfv1, hfv2, hfv3⟩ := cs4 Kgv; have hn1 := Ngxgv.out; have hn2 := Ngvgx.out) | (go_at_call 103; (with_reducible refine (impl_TxOk.calls n0 n1 n2 n3 true _ A8.out).mono ?_); rintro e w' ⟨rfl, hb⟩; replace Kgx := Aside0.mk (blk_below (gI Kgx.out) hb); replace Kgv := bp Kgv hb #[.int .i64 n0, .int .i64 n1, .int .i64 n2, .int .i64 n3]; replace HB := bs HB hb; clear hb; obtain ⟨hcx0, hcx1, hcx2, hcx3, hfx0, hfx1, hfx2, hfx3⟩ := cs4 Kgx; obtain ⟨hcv0, hcv1, hcv2, hcv3, hfv0, hfv1, hfv2, hfv3⟩ := cs4 Kgv) | (go_at_call 104; (with_reducible refine (impl_TxText.calls n0 n1 n2 n3 t_ _ A9.out).mono ?_); rintro e w' ⟨rfl, hb⟩; replace Kgx := Aside0.mk (blk_below (gI Kgx.out) hb); replace Kgv := bp Kgv hb #[.int .i64 n0, .int .i64 n1, .int .i64 n2, .int .i64 n3]; replace HB := bs HB hb; clear hb; obtain ⟨hcx0, hcx1, hcx2, hcx3, hfx0, hfx1, hfx2, hfx3⟩ := cs4 Kgx; obtain ⟨hcv0, hcv1, hcv2, hcv3, hfv0, hfv1, hfv2, hfv3⟩ := cs4 Kgv))
   refine bodyPost_ret (results_ct rfl _ _ gx 97 #[.int .i64 0, .int .i64 0, .int .i64 0, .int .i64 0] (0, 0) _ rfl (pI Kgx) Tryd.underlying97 rfl (by kernel_rfl)) rfl ?_
   exact ⟨y0_11, bI HB.out⟩
  replace cb := Bool.eq_false_iff.mpr cb; subst cb
  rw [if_neg (show ¬ (false = true) by decide)] at H
  simp only [Option.some.injEq, Prod.mk.injEq] at H
  obtain ⟨rfl, rfl, rfl, rfl, rfl⟩ := H
  go_wp2_with (first | ((with_reducible refine gd 15 ?_); refine bA 15 #[.int .i64 0, .int .i64 0, .int .i64 0, .int .i64 0] 97 ?_; intro gv hg w' hbox hb; have Kgv := Aside0.mk hbox; have GWgv := bg hg HB; have GJgv := gi GWgv; have Ngxgv := b1 Kgx hg; have NIgxgv := ni Ngxgv; have Ngvgx := b2 Kgx hg; have NIgvgx := ni Ngvgx; replace Kgx := bk Kgx hb; have Ngagv := b1 Kga hg; have NIgagv := ni Ngagv; have Ngvga := b2 Kga hg; have NIgvga := ni Ngvga; replace Kga := bk Kga hb; replace HB := bs HB hb; clear hb hbox hg; obtain ⟨hcv0, hcv1, hcv2, hcv3, hfv0, hfv1, hfv2, hfv3⟩ := cs4 Kgv; have hn1 := Ngxgv.out; have hn2 := Ngvgx.out) | (go_at_call 103; (with_reducible refine (impl_TxOk.calls n0 n1 n2 n3 false _ A8.out).mono ?_); rintro e w' ⟨rfl, hb⟩; replace Kgx := Aside0.mk (blk_below (gI Kgx.out) hb); replace Kgv := bp Kgv hb #[.int .i64 n0, .int .i64 n1, .int .i64 n2, .int .i64 n3]; replace HB := bs HB hb; clear hb; obtain ⟨hcx0, hcx1, hcx2, hcx3, hfx0, hfx1, hfx2, hfx3⟩ := cs4 Kgx; obtain ⟨hcv0, hcv1, hcv2, hcv3, hfv0, hfv1, hfv2, hfv3⟩ := cs4 Kgv))
  refine bodyPost_ret (results_ct rfl _ _ gx 97 #[.int .i64 0, .int .i64 0, .int .i64 0, .int .i64 0] (0, 0) _ rfl (pI Kgx) Tryd.underlying97 rfl (by kernel_rfl)) rfl ?_
  exact ⟨y0_11, bI HB.out⟩

/-! ### impl_TxsOf: function 89 -/
def impl_TxsOf.l0 : Nat → List (S97) → List ByteArray → Int → Int → Option ((List (S97)) × Bool)
 | 0, _, _, _, _ => none
 | k + 1, x4, x12, x13, x14 => if x14 < x13 then (if 0 ≤ x14 then (if x14 < (x12.length : Int) then ((impl_TxOf.f k (rdOf ByteArray.empty x12 x14)).bind fun bt370 => (if bt370.2.2.2.2 = true then (if x4.length < 4398046511104 then (impl_TxsOf.l0 k (x4 ++ [(⟨bt370.1, bt370.2.1, bt370.2.2.1, bt370.2.2.2.1⟩ : S97)]) x12 x13 (wrap64 (x14 + 1))) else (none)) else (some (([] : List (S97)), false)))) else (none)) else (none)) else (some (x4, true))
def impl_TxsOf.f (k : Nat) (a0 : ByteArray) : Option ((List (S97)) × Bool) := if a0.toList = ([] : List UInt8) then (some (([] : List (S97)), true)) else ((impl_Split.f a0 44).bind fun t366 => (impl_TxsOf.l0 k ([] : List (S97)) t366 (t366.length : Int) 0))
theorem impl_TxsOf.mono_l : ∀ k, (∀ y0 y1 y2 y3, LeO (impl_TxsOf.l0 k y0 y1 y2 y3) (impl_TxsOf.l0 (k + 1) y0 y1 y2 y3))
 | 0 => fun _ _ _ _ r h => by simp [impl_TxsOf.l0] at h
 | k + 1 => by
  have ih0 := impl_TxsOf.mono_l k
  intro y0 y1 y2 y3
  unfold impl_TxsOf.l0
  repeat' first | (with_reducible exact ih0 _ _ _ _) | (with_reducible exact impl_TxOf.mono _ _) | (with_reducible exact LeO.refl _) | (with_reducible exact LeO.none _) | (with_reducible refine LeO.ite ?_ ?_) | (with_reducible refine LeO.bind ?_ (fun _ => ?_))
theorem impl_TxsOf.mono : ∀ a0 k, LeO (impl_TxsOf.f k a0) (impl_TxsOf.f (k + 1) a0) := by
 intro a0 k
 have ih0 := impl_TxsOf.mono_l k
 unfold impl_TxsOf.f
 repeat' first | (with_reducible exact ih0 _ _ _ _) | (with_reducible exact impl_TxOf.mono _ _) | (with_reducible exact LeO.refl _) | (with_reducible exact LeO.none _) | (with_reducible refine LeO.ite ?_ ?_) | (with_reducible refine LeO.bind ?_ (fun _ => ?_))
set_option maxHeartbeats 8000000 in
set_option maxRecDepth 100000 in
theorem impl_TxsOf.calls (k : Nat) (a0 : ByteArray) (r1 : List (S97)) (r2 : Bool) (w : World) (h : impl_TxsOf.f k a0 = some (r1, r2)) (hG : Glob w := by exact gG HG HB) :
  Calls Tryd.prog 89 #[.string a0] w fun e w' => ∃ v0_ : Value, e = .returned (.tuple #[v0_, .bool r2]) ∧ Kd.R k97 97 w' w.heap.size (fun _ => True) v0_ r1 ∧ Below w.heap.size w w' := by
 have HG := Aside0.mk hG; clear hG; have hu97 := Tryd.underlying97; have HB := Aside0.mk (Below.refl w.heap.size w)
 have H := h; unfold impl_TxsOf.f at H
 clear h
 by_cases c2 : a0.toList = ([] : List UInt8)
 ·
  rw [if_pos c2] at H
  have c2b0 : (a0.toList == ([] : List UInt8)) = true := beq_iff_eq.mpr c2; have c2b1 : (a0.toList != ([] : List UInt8)) = false := bne_eq_false_iff_eq.mpr c2; clear c2
  simp only [Option.some.injEq, Prod.mk.injEq] at H
  obtain ⟨rfl, rfl⟩ := H
  go_enter Tryd.func89, Tryd.ntmps89
  go_wp2
  go_ret2
  exact ⟨_, y0_7, y0_0, bI HB.out⟩
 rw [if_neg c2] at H
 have c2b0 : (a0.toList == ([] : List UInt8)) = false := beq_eq_false_iff_ne.mpr c2; have c2b1 : (a0.toList != ([] : List UInt8)) = true := bne_iff_ne.mpr c2; obtain ⟨t366, A3, H⟩ := oB H; (try dsimp only at H); have H' := Aside0.mk H; clear H
 go_enter Tryd.func89, Tryd.ntmps89
 go_wp2_with (first | ((with_reducible refine gate_callee (f := 86) rfl ?_); refine gB (some 12) Tryd.func86 #[.string a0, .int .u8 44] ?_; (with_reducible refine (impl_Split.calls a0 44 t366 _ A3.out).mono ?_); rintro e w4 ⟨v367, rfl, ho0, hb⟩; refine ⟨_, rfl, ?_⟩; have HO368 := Aside0.mk (Kd.R_lower ho0 (below_size (bI HB.out))); replace HB := bs HB hb; (try clear hb); (try clear ho0); obtain ⟨Ao5, co5, eo5⟩ := Kd.R_slice HO368.out; subst eo5))
 go_loopg [4, 14] k (fun kq v4 v14 w' => ∃ (x4_1 : List (S97)) (x14_1 : Int), v14 = .int .i64 x14_1 ∧ Aside0 (impl_TxsOf.l0 kq x4_1 t366 (t366.length : Int) x14_1 = some (r1, r2)) ∧ Aside0 (kq ≤ k) ∧ Aside0 (Kd.R k97 97 w' w.heap.size (fun _ => True) v4 x4_1) ∧ Aside0 (Kd.R Kd.string 9 w' w.heap.size (fun _ => True) (.slice Ao5 t366.length co5) t366) ∧ Aside0 (Below w.heap.size w w'))
 case atStart => exact ⟨(([] : List (S97))), (0), y0_11, H', ⟨Nat.le_refl _⟩, ⟨y0_0⟩, ⟨by (with_reducible repeat (first | apply Kd.R_alloc | apply Kd.R_drewN | apply Kd.R_drew)); exact HO368.out⟩, ⟨bI HB.out⟩⟩
 case round =>
  clear H'
  try clear c2
  try clear c2b0
  try clear c2b1
  try clear p2
  obtain ⟨x4_1, x14_1, rfl, HA, HK1, HO_4, HO_12, HB⟩ := hrel; cases gk with
  | zero => exact absurd HA.out (by simp [impl_TxsOf.l0])
  | succ k1 =>
   have H := HA.out; clear HA
   simp only [impl_TxsOf.l0] at H
   by_cases c6 : x14_1 < (t366.length : Int)
   ·
    rw [if_pos c6] at H
    have c6b0 : decide (x14_1 < (t366.length : Int)) = true := decide_eq_true c6; clear c6
    by_cases c7 : 0 ≤ x14_1
    rotate_left
    ·
     rw [if_neg c7] at H
     exact absurd H (by simp)
    rw [if_pos c7] at H
    have c7b0 : decide (0 ≤ x14_1) = true := decide_eq_true c7; clear c7
    by_cases c8 : x14_1 < (t366.length : Int)
    rotate_left
    ·
     rw [if_neg c8] at H
     exact absurd H (by simp)
    rw [if_pos c8] at H
    have c8b0 : decide (x14_1 < (t366.length : Int)) = true := decide_eq_true c8; clear c8; obtain ⟨⟨t370, t371, t372, t373, t374⟩, A9, H⟩ := oB H; (try dsimp only at H)
    by_cases c10 : t374 = true
    ·
     subst c10
     rw [if_pos rfl] at H
     by_cases c11 : x4_1.length < 4398046511104
     rotate_left
     ·
      rw [if_neg c11] at H
      exact absurd H (by simp)
     rw [if_pos c11] at H
     have LMc11 := Aside0.mk c11; clear c11; obtain ⟨y376, hy376⟩ : ∃ y_ : List (S97), y_ = (x4_1 ++ [(⟨t370, t371, t372, t373⟩ : S97)]) := ⟨_, rfl⟩
     replace H : (impl_TxsOf.l0 k1 y376 t366 (t366.length : Int) (wrap64 (x14_1 + 1))) = some (r1, r2) := by first | (rw [hy376]; with_reducible exact H) | (have H2_ := (Option.bind_some _ _).symm.trans H; rw [hy376]; with_reducible exact H2_) | (have H2_ := (Option.bind_some _ _).symm.trans H; with_reducible exact H2_) | with_reducible exact H | (rw [hy376]; exact H) | exact H
     have Ny376 := Aside0.mk hy376; clear hy376; have H' := Aside0.mk H; clear H; have p369 : 0 ≤ (x14_1 : Int) := of_decide_eq_true y0_10; have q369 : x14_1 < (t366.length : Int) := of_decide_eq_true y0_10; obtain ⟨ad369, e369, hx369_0⟩ := Kd.at_string (Kd.R_reads' HO_12.out).2.2 x14_1 p369 q369; cases e369; replace p369 := eq_true p369; replace q369 := eq_true q369
     go_wp2_with (first | ((with_reducible refine gate_callee (f := 98) rfl ?_); refine gB (some 20) Tryd.func98 #[.string (rdOf ByteArray.empty t366 x14_1)] ?_; (with_reducible refine (impl_TxOf.calls k1 (rdOf ByteArray.empty t366 x14_1) t370 t371 t372 t373 true _ A9.out).mono ?_); rintro e w12 ⟨rfl, hb⟩; refine ⟨_, rfl, ?_⟩; replace HO_4 := rb HO_4 hb; replace HO_12 := rb HO_12 hb; replace HB := bs HB hb; (try clear hb); (try clear hb2); (try clear hk); (try clear hi)) | ((with_reducible refine gd 7 ?_); refine bA 7 #[.int .i64 0, .int .i64 0, .int .i64 0, .int .i64 0] 97 ?_; intro gb375 hg w13 hbox hb; replace HO_4 := Aside0.mk (Kd.R_below (Kd.R_elderB (rI HO_4.out) gb375 (Nat.le_of_eq hg.symm)) hb); replace HO_12 := rb HO_12 hb; have BK375 := Aside0.mk (hbox); have GW375 := bg hg HB; have GJ375 := gi GW375; have GE375 := GW375; replace HB := bs HB hb; clear hb hbox hg; obtain ⟨hcz14_0, hcz14_1, hcz14_2, hcz14_3, hfz14_0, hfz14_1, hfz14_2, hfz14_3⟩ := cs4 BK375) | ((with_reducible refine gate_builtin (b := .append) (xs := #[.tmp 25, .tmp 27]) rfl ?_); at_builtin; refine Kd.R_append k97 (w0 := w) w.heap.size rfl (.tmp 25) (.tmp 27) 95 97 (.agg #[(.int .i64 0), (.int .i64 0), (.int .i64 0), (.int .i64 0)]) 32 rfl Tryd.underlying95 info97 rfl (by decide) (by omega) u4 x4_1 (⟨t370, t371, t372, t373⟩ : S97) [.int .i64 t370, .int .i64 t371, .int .i64 t372, .int .i64 t373] (fun k_ => k_ ≠ gb375) (fun _ => False) rfl (by first | (go_simp; done) | (go_simp; rfl)) ?aP (fun _ hk => hk.elim) ?aF ?aO ?aB ?aS ?aL ?_; (case aP => exact k97_mkM _ _ _ (⟨t370, t371, t372, t373⟩ : S97)); (case aB => exact (bI HB.out)); (case aF => exact (fun k_ hk => Kd.freshB (g := gb375) (o := .cells #[.int .i64 t370, .int .i64 t371, .int .i64 t372, .int .i64 t373] 97 (0, 0)) (pI BK375) k_ hk)); (case aO => exact (rI (Kd.R_mono (Kd.R_far (p := ⟨gb375, 3, none⟩) (Kd.R_far (p := ⟨gb375, 2, none⟩) (Kd.R_far (p := ⟨gb375, 1, none⟩) (Kd.R_far (p := ⟨gb375, 0, none⟩) (Kd.R_mono HO_4.out (fun k_ hk => (⟨hk, hk.2⟩ : _ ∧ k_ ≠ gb375))) (fun _ hk => hk.2) (.int .i64 t370)) (fun _ hk => hk.2) (.int .i64 t371)) (fun _ hk => hk.2) (.int .i64 t372)) (fun _ hk => hk.2) (.int .i64 t373)) (fun _ hk => hk.1.2)))); (case aS => exact (below_size (bI HB.out))); (case aL => have := LMc11.out; omega); intro v377 w15 ho hb hg hat; rw [← Ny376.out] at ho; have n0_ := Aside0.mk (Kd.R_over' (rI (Kd.R_mono (Kd.R_far (p := ⟨gb375, 3, none⟩) (Kd.R_far (p := ⟨gb375, 2, none⟩) (Kd.R_far (p := ⟨gb375, 1, none⟩) (Kd.R_far (p := ⟨gb375, 0, none⟩) (Kd.R_types HO_12.out BK375.out (by decide)) (fun _ hk => hk.2) (.int .i64 t370)) (fun _ hk => hk.2) (.int .i64 t371)) (fun _ hk => hk.2) (.int .i64 t372)) (fun _ hk => hk.2) (.int .i64 t373)) (fun _ h_ => h_.1))) (Kd.R_typed (rI (Kd.R_mono (Kd.R_far (p := ⟨gb375, 3, none⟩) (Kd.R_far (p := ⟨gb375, 2, none⟩) (Kd.R_far (p := ⟨gb375, 1, none⟩) (Kd.R_far (p := ⟨gb375, 0, none⟩) (Kd.R_mono HO_4.out (fun k_ hk => (⟨hk, hk.2⟩ : _ ∧ k_ ≠ gb375))) (fun _ hk => hk.2) (.int .i64 t370)) (fun _ hk => hk.2) (.int .i64 t371)) (fun _ hk => hk.2) (.int .i64 t372)) (fun _ hk => hk.2) (.int .i64 t373)) (fun _ h_ => h_.1)))) (by decide) hg); have n1_ := Aside0.mk (blk_grown (g := gb375) (o := .cells #[.int .i64 t370, .int .i64 t371, .int .i64 t372, .int .i64 t373] 97 (0, 0)) (pI BK375) hg (Kd.R_away HO_4.out (fun _ hk => hk.2))); have n2_ := Aside0.mk (hb); have n3_ := Aside0.mk (ho); clear HO_12; clear BK375; clear HB; clear HO_4; have HO_12 := n0_; have BK375 := n1_; have HB := n2_; have HO378 := n3_; clear n0_ n1_ n2_ n3_; clear ho hb hg hat))
     go_roundg k1
     case measure => have := HK1.out; omega
     case rel => exact ⟨(y376), (wrap64 (x14_1 + 1)), y0_11, H', ⟨y0_13⟩, ⟨by (with_reducible repeat (first | apply Kd.R_alloc | apply Kd.R_drewN | apply Kd.R_drew)); exact Kd.R_mono HO378.out (fun _ hk => trivial)⟩, ⟨by (with_reducible repeat (first | apply Kd.R_alloc | apply Kd.R_drewN | apply Kd.R_drew)); exact HO_12.out⟩, ⟨bI HB.out⟩⟩
    replace c10 := Bool.eq_false_iff.mpr c10; subst c10
    rw [if_neg (show ¬ (false = true) by decide)] at H
    simp only [Option.some.injEq, Prod.mk.injEq] at H
    obtain ⟨rfl, rfl⟩ := H; have p369 : 0 ≤ (x14_1 : Int) := of_decide_eq_true y0_10; have q369 : x14_1 < (t366.length : Int) := of_decide_eq_true y0_10; obtain ⟨ad369, e369, hx369_0⟩ := Kd.at_string (Kd.R_reads' HO_12.out).2.2 x14_1 p369 q369; cases e369; replace p369 := eq_true p369; replace q369 := eq_true q369
    go_wp2_with (first | ((with_reducible refine gate_callee (f := 98) rfl ?_); refine gB (some 20) Tryd.func98 #[.string (rdOf ByteArray.empty t366 x14_1)] ?_; (with_reducible refine (impl_TxOf.calls k1 (rdOf ByteArray.empty t366 x14_1) t370 t371 t372 t373 false _ A9.out).mono ?_); rintro e w16 ⟨rfl, hb⟩; refine ⟨_, rfl, ?_⟩; replace HO_4 := rb HO_4 hb; replace HO_12 := rb HO_12 hb; replace HB := bs HB hb; (try clear hb); (try clear hb2); (try clear hk); (try clear hi)) | ((with_reducible refine gd 7 ?_); refine bA 7 #[.int .i64 0, .int .i64 0, .int .i64 0, .int .i64 0] 97 ?_; intro gb375 hg w17 hbox hb; replace HO_4 := Aside0.mk (Kd.R_below (Kd.R_elderB (rI HO_4.out) gb375 (Nat.le_of_eq hg.symm)) hb); replace HO_12 := rb HO_12 hb; have BK375 := Aside0.mk (hbox); have GW375 := bg hg HB; have GJ375 := gi GW375; have GE375 := GW375; replace HB := bs HB hb; clear hb hbox hg; obtain ⟨hcz18_0, hcz18_1, hcz18_2, hcz18_3, hfz18_0, hfz18_1, hfz18_2, hfz18_3⟩ := cs4 BK375))
    go_ret2
    exact ⟨_, y0_7, y0_0, bI HB.out⟩
   rw [if_neg c6] at H
   have c6b0 : decide (x14_1 < (t366.length : Int)) = false := decide_eq_false c6; clear c6
   simp only [Option.some.injEq, Prod.mk.injEq] at H
   obtain ⟨rfl, rfl⟩ := H
   go_wp2
   go_ret2
   exact ⟨_, y0_7, by (with_reducible repeat (first | apply Kd.R_alloc | apply Kd.R_drewN | apply Kd.R_drew)); exact HO_4.out, bI HB.out⟩

/-! ### impl_Steps: function 79 -/
mutual
def impl_Steps.j0 : Nat → List ByteArray → Bool → Option ((List (S108)) × Bool)
 | 0, _, _ => none
 | k + 1, x4, x29 => if x29 = true then (some (([] : List (S108)), false)) else (if 1 ≤ (x4.length : Int) then ((some (x4.drop 1 : List ByteArray)).bind fun y383 => (impl_Steps.l0 k ([] : List (S108)) 0 y383 (y383.length : Int) 0)) else (none))
def impl_Steps.l0 : Nat → List (S108) → Int → List ByteArray → Int → Int → Option ((List (S108)) × Bool)
 | 0, _, _, _, _, _ => none
 | k + 1, x5, x6, x31, x32, x33 => if x33 < x32 then (if 0 ≤ x33 then (if x33 < (x31.length : Int) then ((strings_Cut.f (rdOf ByteArray.empty x31 x33) (⟨#[124]⟩ : ByteArray)).bind fun bt388 => ((impl_Number.f k bt388.1).bind fun bt391 => ((impl_TxsOf.f k bt388.2.1).bind fun bt393 => (if bt388.2.2 = true then (if bt391.2 = true then (if bt393.2 = true then ((impl_within.f bt391.1 (wrap64 (x6 + 1)) 60).bind fun t397 => (if t397 = true then (if (bt393.1.length : Int) > 2 then (some (([] : List (S108)), false)) else (if x5.length < 4398046511104 then (impl_Steps.l0 k (x5 ++ [(⟨bt391.1, bt393.1⟩ : S108)]) bt391.1 x31 x32 (wrap64 (x33 + 1))) else (none))) else (some (([] : List (S108)), false)))) else (some (([] : List (S108)), false))) else (some (([] : List (S108)), false))) else (some (([] : List (S108)), false)))))) else (none)) else (none)) else (some (x5, true))
end
def impl_Steps.f (k : Nat) (a0 : ByteArray) : Option ((List (S108)) × Bool) := if a0.toList = ([] : List UInt8) then (some (([] : List (S108)), true)) else ((impl_Split.f a0 47).bind fun t379 => (if 0 < (t379.length : Int) then (if (rdOf ByteArray.empty t379 0).toList = ([] : List UInt8) then (impl_Steps.j0 k t379 (decide ((wrap64 ((t379.length : Int) - 1)) > 30))) else (impl_Steps.j0 k t379 true)) else (none)))
theorem impl_Steps.mono_l : ∀ k, (∀ y0 y1, LeO (impl_Steps.j0 k y0 y1) (impl_Steps.j0 (k + 1) y0 y1)) ∧ (∀ y0 y1 y2 y3 y4, LeO (impl_Steps.l0 k y0 y1 y2 y3 y4) (impl_Steps.l0 (k + 1) y0 y1 y2 y3 y4))
 | 0 => ⟨fun _ _ r h => by simp [impl_Steps.j0] at h, fun _ _ _ _ _ r h => by simp [impl_Steps.l0] at h⟩
 | k + 1 => by
  obtain ⟨ih0, ih1⟩ := impl_Steps.mono_l k
  refine ⟨?_, ?_⟩
  ·
   intro y0 y1
   unfold impl_Steps.j0
   repeat' first | (with_reducible exact ih0 _ _) | (with_reducible exact ih1 _ _ _ _ _) | (with_reducible exact impl_Number.mono _ _) | (with_reducible exact impl_TxsOf.mono _ _) | (with_reducible exact LeO.refl _) | (with_reducible exact LeO.none _) | (with_reducible refine LeO.ite ?_ ?_) | (with_reducible refine LeO.bind ?_ (fun _ => ?_))
  intro y0 y1 y2 y3 y4
  unfold impl_Steps.l0
  repeat' first | (with_reducible exact ih0 _ _) | (with_reducible exact ih1 _ _ _ _ _) | (with_reducible exact impl_Number.mono _ _) | (with_reducible exact impl_TxsOf.mono _ _) | (with_reducible exact LeO.refl _) | (with_reducible exact LeO.none _) | (with_reducible refine LeO.ite ?_ ?_) | (with_reducible refine LeO.bind ?_ (fun _ => ?_))
theorem impl_Steps.mono : ∀ a0 k, LeO (impl_Steps.f k a0) (impl_Steps.f (k + 1) a0) := by
 intro a0 k
 obtain ⟨ih0, ih1⟩ := impl_Steps.mono_l k
 unfold impl_Steps.f
 repeat' first | (with_reducible exact ih0 _ _) | (with_reducible exact ih1 _ _ _ _ _) | (with_reducible exact impl_Number.mono _ _) | (with_reducible exact impl_TxsOf.mono _ _) | (with_reducible exact LeO.refl _) | (with_reducible exact LeO.none _) | (with_reducible refine LeO.ite ?_ ?_) | (with_reducible refine LeO.bind ?_ (fun _ => ?_))
set_option maxHeartbeats 8000000 in
set_option maxRecDepth 100000 in
theorem impl_Steps.calls (k : Nat) (a0 : ByteArray) (r1 : List (S108)) (r2 : Bool) (w : World) (h : impl_Steps.f k a0 = some (r1, r2)) (hG : Glob w := by exact gG HG HB) :
  Calls Tryd.prog 79 #[.string a0] w fun e w' => ∃ v0_ : Value, e = .returned (.tuple #[v0_, .bool r2]) ∧ Kd.S k108 108 w' w.heap.size (fun _ => True) v0_ r1 ∧ Below w.heap.size w w' := by
 have HG := Aside0.mk hG; clear hG; have hu108 := Tryd.underlying108; have HB := Aside0.mk (Below.refl w.heap.size w)
 have H := h; unfold impl_Steps.f at H
 clear h
 by_cases c2 : a0.toList = ([] : List UInt8)
 ·
  rw [if_pos c2] at H
  have c2b0 : (a0.toList == ([] : List UInt8)) = true := beq_iff_eq.mpr c2; have c2b1 : (a0.toList != ([] : List UInt8)) = false := bne_eq_false_iff_eq.mpr c2; clear c2
  simp only [Option.some.injEq, Prod.mk.injEq] at H
  obtain ⟨rfl, rfl⟩ := H
  go_enter Tryd.func79, Tryd.ntmps79
  go_wp2
  go_ret2
  exact ⟨_, y0_7, y0_1, bI HB.out⟩
 rw [if_neg c2] at H
 have c2b0 : (a0.toList == ([] : List UInt8)) = false := beq_eq_false_iff_ne.mpr c2; have c2b1 : (a0.toList != ([] : List UInt8)) = true := bne_iff_ne.mpr c2; obtain ⟨t379, A3, H⟩ := oB H; (try dsimp only at H); have HC4 := Aside0.mk H; clear H
 go_enter Tryd.func79, Tryd.ntmps79
 go_upto_region 4 with (first | ((with_reducible refine gate_callee (f := 86) rfl ?_); refine gB (some 19) Tryd.func86 #[.string a0, .int .u8 47] ?_; (with_reducible refine (impl_Split.calls a0 47 t379 _ A3.out).mono ?_); rintro e w5 ⟨v380, rfl, ho0, hb⟩; refine ⟨_, rfl, ?_⟩; have HO381 := Aside0.mk (Kd.R_lower ho0 (below_size (bI HB.out))); replace HB := bs HB hb; (try clear hb); (try clear ho0)))
 (try simp only [Act.put, List.setIfInBounds_toArray, List.set_cons_zero, List.set_cons_succ])
 go_cut [29] (fun v29 wc => ∃ (kq : Nat) (x29_3 : Bool), v29 = .bool x29_3 ∧ Aside0 (impl_Steps.j0 kq t379 x29_3 = some (r1, r2)) ∧ Aside0 (kq ≤ k) ∧ Aside0 (Kd.R Kd.string 9 wc w.heap.size (fun _ => True) v380 t379) ∧ Aside0 (Below w.heap.size w wc))
 case first =>
  have H := HC4.out; clear HC4
  by_cases c6 : 0 < (t379.length : Int)
  rotate_left
  ·
   rw [if_neg c6] at H
   exact absurd H (by simp)
  rw [if_pos c6] at H
  have c6b0 : decide (0 < (t379.length : Int)) = true := decide_eq_true c6
  have c6b1 : decide (0 < t379.length) = true := decide_eq_true (by omega)
  clear c6
  (first | rw [c6b0] | (simp only [i64_w, i32_w]; rw [c6b0]) | skip)
  by_cases c7 : (rdOf ByteArray.empty t379 0).toList = ([] : List UInt8)
  ·
   rw [if_pos c7] at H
   have c7b0 : ((rdOf ByteArray.empty t379 0).toList == ([] : List UInt8)) = true := beq_iff_eq.mpr c7; have c7b1 : ((rdOf ByteArray.empty t379 0).toList != ([] : List UInt8)) = false := bne_eq_false_iff_eq.mpr c7; clear c7; have H' := Aside0.mk H; clear H; obtain ⟨Ao8, co8, eo8⟩ := Kd.R_slice HO381.out; subst eo8
   have p382 : 0 ≤ (0 : Int) := (by omega)
   have q382 : 0 < (t379.length : Int) := of_decide_eq_true y0_10; obtain ⟨ad382, e382, hx382_0⟩ := Kd.at_string (Kd.R_reads' HO381.out).2.2 0 p382 q382; cases e382
   have qi382 : (0 < t379.length) = True := eq_true (by omega)
   (try rw [show ((0 : Int)).toNat = 0 from rfl] at hx382_0)
   (try rw [Addr.add_zero'] at hx382_0)
   replace p382 := eq_true p382; replace q382 := eq_true q382
   go_wp2
   go_meet
   case rel => exact ⟨_, (decide ((wrap64 ((t379.length : Int) - 1)) > 30)), y0_11, H', ⟨y0_12⟩, ⟨by (with_reducible repeat (first | apply Kd.R_alloc | apply Kd.R_drewN | apply Kd.R_drew)); exact HO381.out⟩, ⟨bI HB.out⟩⟩
  rw [if_neg c7] at H
  have c7b0 : ((rdOf ByteArray.empty t379 0).toList == ([] : List UInt8)) = false := beq_eq_false_iff_ne.mpr c7; have c7b1 : ((rdOf ByteArray.empty t379 0).toList != ([] : List UInt8)) = true := bne_iff_ne.mpr c7; have H' := Aside0.mk H; clear H; obtain ⟨Ao9, co9, eo9⟩ := Kd.R_slice HO381.out; subst eo9
  have p382 : 0 ≤ (0 : Int) := (by omega)
  have q382 : 0 < (t379.length : Int) := of_decide_eq_true y0_10; obtain ⟨ad382, e382, hx382_0⟩ := Kd.at_string (Kd.R_reads' HO381.out).2.2 0 p382 q382; cases e382
  have qi382 : (0 < t379.length) = True := eq_true (by omega)
  (try rw [show ((0 : Int)).toNat = 0 from rfl] at hx382_0)
  (try rw [Addr.add_zero'] at hx382_0)
  replace p382 := eq_true p382; replace q382 := eq_true q382
  go_wp2
  go_meet
  case rel => exact ⟨_, (true), y0_11, H', ⟨y0_12⟩, ⟨by (with_reducible repeat (first | apply Kd.R_alloc | apply Kd.R_drewN | apply Kd.R_drew)); exact HO381.out⟩, ⟨bI HB.out⟩⟩
 case rest =>
  clear HC4
  try clear c2
  try clear c2b0
  try clear c2b1
  try clear p2
  try clear p3
  try clear q3
  try clear hx3
  try clear qi3
  try clear c6
  try clear c6b0
  try clear c6b1
  try clear p6
  try clear c7
  try clear c7b0
  try clear c7b1
  try clear c8
  try clear hx382_0
  try clear p382
  try clear q382
  obtain ⟨kq, x29_3, rfl, HA, HJ3, HO_4, HB⟩ := hcut; cases kq with
  | zero => exact absurd HA.out (by simp [impl_Steps.j0])
  | succ kj3 =>
   have H := HA.out; clear HA
   simp only [impl_Steps.j0] at H
   by_cases c10 : x29_3 = true
   ·
    subst c10
    rw [if_pos rfl] at H
    simp only [Option.some.injEq, Prod.mk.injEq] at H
    obtain ⟨rfl, rfl⟩ := H
    go_wp2
    go_ret2
    exact ⟨_, y0_7, y0_1, bI HB.out⟩
   replace c10 := Bool.eq_false_iff.mpr c10; subst c10
   rw [if_neg (show ¬ (false = true) by decide)] at H
   by_cases c11 : 1 ≤ (t379.length : Int)
   ·
    rw [if_pos c11] at H
    have c11b0 := eq_true c11; have c11b1 : decide (1 ≤ (t379.length : Int)) = true := decide_eq_true c11; clear c11; obtain ⟨y383, hy383⟩ : ∃ y_ : List ByteArray, y_ = (t379.drop 1) := ⟨_, rfl⟩
    replace H : (impl_Steps.l0 kj3 ([] : List (S108)) 0 y383 (y383.length : Int) 0) = some (r1, r2) := by first | (rw [hy383]; with_reducible exact H) | (have H2_ := (Option.bind_some _ _).symm.trans H; rw [hy383]; with_reducible exact H2_) | (have H2_ := (Option.bind_some _ _).symm.trans H; with_reducible exact H2_) | with_reducible exact H | (rw [hy383]; exact H) | exact H
    have Ny383 := Aside0.mk hy383; clear hy383; have H' := Aside0.mk H; clear H; obtain ⟨Ao13, co13, eo13⟩ := Kd.R_slice HO_4.out; subst eo13; have q12 : (1 : Int) ≤ ((t379.length : Int) : Int) := of_decide_eq_true y0_10; obtain ⟨i012, hi012, _, hsz12, _⟩ := info_parts info9; have hroom12 : t379.length ≤ co13 := (Kd.R_reads' HO_4.out).2.1; have hC12 : Kd.C Kd.string _ Ao13 t379.length t379 := (Kd.R_reads' HO_4.out).2.2
    have hcut12 := cut_from (P := Tryd.prog) 115 9 .i64 Tryd.underlying115 hi012 1 hsz12 Ao13 t379.length co13 1 (by omega) q12
    have hr12 := Kd.C_drop (m := (1 : Int).toNat) (c := co13) hC12 (by omega) hroom12
    obtain ⟨A12, hA12⟩ : ∃ A1, A1 = (if co13 = (1 : Int).toNat then Ao13 else (Ao13 : Option Addr).map (·.add ((1 : Int).toNat * 1))) := ⟨_, rfl⟩
    obtain ⟨c12, hc12⟩ : ∃ c1, c1 = co13 - (1 : Int).toNat := ⟨_, rfl⟩
    have hy12 : y383.length = t379.length - (1 : Int).toNat := (by rw [Ny383.out, List.length_drop] <;> omega)
    rw [show (t379).drop (1 : Int).toNat = y383 from Ny383.out.symm] at hr12
    replace hr12 : Kd.C Kd.string _ A12 y383.length y383 := (by rw [hA12]; exact hr12)
    rw [← hy12, ← hA12, ← hc12] at hcut12
    have HR386 := Aside0.mk hr12
    have HC386 := Aside0.mk (show y383.length ≤ c12 from by rw [hy12, hc12]; exact Nat.sub_le_sub_right hroom12 _)
    clear hr12 hC12 hroom12 hi012 hsz12 hc12; have KY12 := Aside0.mk hy12; have KA12 := Aside0.mk hA12; clear hy12 hA12
    have KL12 := Aside0.mk (show 1 ≤ t379.length from by omega)
    replace q12 := eq_true q12
    go_wp2
    have HB0 := HB; replace HG := Aside0.mk (HG.out.below HB.out); replace HB := Aside0.mk (Below.refl wc.heap.size wc)
    go_loopg [5, 6, 33] kj3 (fun kq v5 v6 v33 w' => ∃ (x5_2 : List (S108)) (x6_2 : Int) (x33_2 : Int), v6 = .int .i64 x6_2 ∧ v33 = .int .i64 x33_2 ∧ Aside0 (impl_Steps.l0 kq x5_2 x6_2 y383 (y383.length : Int) x33_2 = some (r1, r2)) ∧ Aside0 (kq ≤ kj3) ∧ Aside0 (Kd.S k108 108 w' wc.heap.size (fun _ => True) v5 x5_2) ∧ Aside0 (Below wc.heap.size wc w'))
    case atStart => exact ⟨(([] : List (S108))), (0), (0), y0_11, y0_11, H', ⟨Nat.le_refl _⟩, ⟨y0_1⟩, ⟨bI HB.out⟩⟩
    case round =>
     clear H'
     try clear c1
     try clear q1
     try clear c2
     try clear c2b0
     try clear c2b1
     try clear p2
     try clear p3
     try clear q3
     try clear hx3
     try clear qi3
     try clear c6
     try clear c6b0
     try clear c6b1
     try clear p6
     try clear c7
     try clear c7b0
     try clear c7b1
     try clear c8
     try clear c10
     try clear c11
     try clear c11b0
     try clear c11b1
     try clear c12
     try clear q12
     try clear hx382_0
     try clear p2
     try clear p3
     try clear p382
     try clear p6
     try clear q12
     try clear q3
     try clear q382
     obtain ⟨x5_2, x6_2, x33_2, rfl, rfl, HA, HK2, HO_5, HB⟩ := hrel; cases gk with
     | zero => exact absurd HA.out (by simp [impl_Steps.l0])
     | succ k2 =>
      have H := HA.out; clear HA
      simp only [impl_Steps.l0] at H
      by_cases c14 : x33_2 < (y383.length : Int)
      ·
       rw [if_pos c14] at H
       have c14b0 : decide (x33_2 < (y383.length : Int)) = true := decide_eq_true c14; clear c14
       by_cases c15 : 0 ≤ x33_2
       rotate_left
       ·
        rw [if_neg c15] at H
        exact absurd H (by simp)
       rw [if_pos c15] at H
       have c15b0 : decide (0 ≤ x33_2) = true := decide_eq_true c15; clear c15
       by_cases c16 : x33_2 < (y383.length : Int)
       rotate_left
       ·
        rw [if_neg c16] at H
        exact absurd H (by simp)
       rw [if_pos c16] at H
       have c16b0 : decide (x33_2 < (y383.length : Int)) = true := decide_eq_true c16; clear c16; obtain ⟨⟨t388, t389, t390⟩, A17, H⟩ := oB H; (try dsimp only at H); obtain ⟨⟨t391, t392⟩, A18, H⟩ := oB H; (try dsimp only at H); obtain ⟨⟨t393, t394⟩, A19, H⟩ := oB H; (try dsimp only at H)
       by_cases c20 : t390 = true
       ·
        subst c20
        rw [if_pos rfl] at H
        by_cases c21 : t392 = true
        ·
         subst c21
         rw [if_pos rfl] at H
         by_cases c22 : t394 = true
         ·
          subst c22
          rw [if_pos rfl] at H
          obtain ⟨t397, A23, H⟩ := oB H; (try dsimp only at H)
          by_cases c24 : t397 = true
          ·
           subst c24
           rw [if_pos rfl] at H
           by_cases c25 : (t393.length : Int) > 2
           ·
            rw [if_pos c25] at H
            have c25b0 : decide (2 < (t393.length : Int)) = true := decide_eq_true c25
            have c25b1 : decide (2 < t393.length) = true := decide_eq_true (by omega)
            clear c25
            simp only [Option.some.injEq, Prod.mk.injEq] at H
            obtain ⟨rfl, rfl⟩ := H; have p387 : 0 ≤ (x33_2 : Int) := of_decide_eq_true y0_10; have q387 : x33_2 < (y383.length : Int) := of_decide_eq_true y0_10; obtain ⟨ad387, e387, hx387_0⟩ := Kd.at_string HR386.out x33_2 p387 q387; cases e387; replace hx387_0 := bx HB hx387_0; replace p387 := eq_true p387; replace q387 := eq_true q387
            go_wp2_with (first | ((with_reducible refine gate_callee (f := 87) rfl ?_); refine gB (some 39) Tryd.func87 #[.string (rdOf ByteArray.empty y383 x33_2), .string (⟨#[124]⟩ : ByteArray)] ?_; (with_reducible refine (strings_Cut.calls (rdOf ByteArray.empty y383 x33_2) (⟨#[124]⟩ : ByteArray) t388 t389 true _ A17.out).mono ?_); rintro e w26 ⟨rfl, hb⟩; refine ⟨_, rfl, ?_⟩; replace HO_5 := sb HO_5 hb; replace HB := bs HB hb; (try clear hb); (try clear hb2); (try clear hk); (try clear hi)) | ((with_reducible refine gate_callee (f := 88) rfl ?_); refine gB (some 45) Tryd.func88 #[.string t388] ?_; (with_reducible refine (impl_Number.calls k2 t388 t391 true _ A18.out).mono ?_); rintro e w27 ⟨rfl, hb⟩; refine ⟨_, rfl, ?_⟩; replace HO_5 := sb HO_5 hb; replace HB := bs HB hb; (try clear hb); (try clear hb2); (try clear hk); (try clear hi)) | ((with_reducible refine gate_callee (f := 89) rfl ?_); refine gB (some 50) Tryd.func89 #[.string t389] ?_; (with_reducible refine (impl_TxsOf.calls k2 t389 t393 true _ A19.out).mono ?_); rintro e w28 ⟨v395, rfl, ho0, hb⟩; refine ⟨_, rfl, ?_⟩; replace HO_5 := Aside0.mk (Kd.S_elder' (sI HO_5.out) (Kd.R_base ho0) hb); have HO396 := Aside0.mk (Kd.R_lower ho0 (below_size (bI HB.out))); replace HB := bs HB hb; (try clear hb)) | (go_at_call 54; (with_reducible refine (impl_within.calls t391 (wrap64 (x6_2 + 1)) 60 true _ A23.out).mono ?_); rintro e w' ⟨rfl, ⟨nd, rfl⟩⟩; obtain ⟨Ao29, co29, eo29⟩ := Kd.R_slice HO396.out; subst eo29))
            go_ret2
            exact ⟨_, y0_7, Kd.S_lower (base := wc.heap.size) y0_1 (below_size HB0.out), below_step HB0.out (bI HB.out)⟩
           rw [if_neg c25] at H
           have c25b0 : decide (2 < (t393.length : Int)) = false := decide_eq_false c25
           have c25b1 : decide (2 < t393.length) = false := decide_eq_false (by omega)
           clear c25
           by_cases c30 : x5_2.length < 4398046511104
           rotate_left
           ·
            rw [if_neg c30] at H
            exact absurd H (by simp)
           rw [if_pos c30] at H
           have LMc30 := Aside0.mk c30; clear c30; obtain ⟨y398, hy398⟩ : ∃ y_ : List (S108), y_ = (x5_2 ++ [(⟨t391, t393⟩ : S108)]) := ⟨_, rfl⟩
           replace H : (impl_Steps.l0 k2 y398 t391 y383 (y383.length : Int) (wrap64 (x33_2 + 1))) = some (r1, r2) := by first | (rw [hy398]; with_reducible exact H) | (have H2_ := (Option.bind_some _ _).symm.trans H; rw [hy398]; with_reducible exact H2_) | (have H2_ := (Option.bind_some _ _).symm.trans H; with_reducible exact H2_) | with_reducible exact H | (rw [hy398]; exact H) | exact H
           have Ny398 := Aside0.mk hy398; clear hy398; have H' := Aside0.mk H; clear H; have p387 : 0 ≤ (x33_2 : Int) := of_decide_eq_true y0_10; have q387 : x33_2 < (y383.length : Int) := of_decide_eq_true y0_10; obtain ⟨ad387, e387, hx387_0⟩ := Kd.at_string HR386.out x33_2 p387 q387; cases e387; replace hx387_0 := bx HB hx387_0; replace p387 := eq_true p387; replace q387 := eq_true q387
           go_wp2_with (first | ((with_reducible refine gate_callee (f := 87) rfl ?_); refine gB (some 39) Tryd.func87 #[.string (rdOf ByteArray.empty y383 x33_2), .string (⟨#[124]⟩ : ByteArray)] ?_; (with_reducible refine (strings_Cut.calls (rdOf ByteArray.empty y383 x33_2) (⟨#[124]⟩ : ByteArray) t388 t389 true _ A17.out).mono ?_); rintro e w31 ⟨rfl, hb⟩; refine ⟨_, rfl, ?_⟩; replace HO_5 := sb HO_5 hb; replace HB := bs HB hb; (try clear hb); (try clear hb2); (try clear hk); (try clear hi)) | ((with_reducible refine gate_callee (f := 88) rfl ?_); refine gB (some 45) Tryd.func88 #[.string t388] ?_; (with_reducible refine (impl_Number.calls k2 t388 t391 true _ A18.out).mono ?_); rintro e w32 ⟨rfl, hb⟩; refine ⟨_, rfl, ?_⟩; replace HO_5 := sb HO_5 hb; replace HB := bs HB hb; (try clear hb); (try clear hb2); (try clear hk); (try clear hi)) | ((with_reducible refine gate_callee (f := 89) rfl ?_); refine gB (some 50) Tryd.func89 #[.string t389] ?_; (with_reducible refine (impl_TxsOf.calls k2 t389 t393 true _ A19.out).mono ?_); rintro e w33 ⟨v395, rfl, ho0, hb⟩; refine ⟨_, rfl, ?_⟩; replace HO_5 := Aside0.mk (Kd.S_elder' (sI HO_5.out) (Kd.R_base ho0) hb); have HO396 := Aside0.mk (Kd.R_lower ho0 (below_size (bI HB.out))); replace HB := bs HB hb; (try clear hb)) | (go_at_call 54; (with_reducible refine (impl_within.calls t391 (wrap64 (x6_2 + 1)) 60 true _ A23.out).mono ?_); rintro e w' ⟨rfl, ⟨nd, rfl⟩⟩; obtain ⟨Ao34, co34, eo34⟩ := Kd.R_slice HO396.out; subst eo34) | ((with_reducible refine gate_builtin (b := .append) (xs := #[.tmp 75, .tmp 79]) rfl ?_); (try (refine gate_guard (by rfl) ?_; dsimp only)); at_builtin; refine Kd.S_append k108 (w0 := wc) wc.heap.size rfl (.tmp 75) (.tmp 79) 104 108 (.agg #[(.int .i64 0), (.slice none 0 0)]) 32 rfl Tryd.underlying104 info108 rfl (by decide) (by omega) u5 x5_2 (⟨t391, t393⟩ : S108) [.int .i64 t391, .slice Ao34 t393.length co34] (fun _ => True) (fun k_ => some k_ = (.slice Ao34 t393.length co34 : Value).ownBlock) rfl rfl ?aP (fun k_ hk_ => ((Kd.R_mono (ok' := fun k_ => ((fun _ => True)) k_ ∧ some k_ ≠ (u5 : Value).ownBlock) (Kd.R_apart' (HO396.out) (Kd.S_typed HO_5.out) (by decide)) (fun k_ hk => ⟨trivial, hk.2⟩))).1 k_ hk_.symm) ?aF ?aO ?aB ?aS ?aL ?_; (case aP => exact k108_mkM _ _ _ (⟨t391, t393⟩ : S108) (Kd.R_mono (Kd.R_tight rfl (Kd.R_mono (ok' := fun k_ => ((fun _ => True)) k_ ∧ some k_ ≠ (u5 : Value).ownBlock) (Kd.R_apart' (HO396.out) (Kd.S_typed HO_5.out) (by decide)) (fun k_ hk => ⟨trivial, hk.2⟩))) (fun _ h_ => h_))); (case aB => exact (bI HB.out)); (case aF => exact (fun _ _ => trivial)); (case aO => exact (sI (Kd.S_mono HO_5.out (fun k_ hk => ⟨trivial, fun e_ => hk.2 e_⟩)))); (case aS => exact (below_size (bI HB.out))); (case aL => have := LMc30.out; omega); intro v399 w35 ho hb hg hat; rw [← Ny398.out] at ho; have n0_ := Aside0.mk (hb); have n1_ := Aside0.mk (ho); clear HB; clear HO_5; clear HO396; have HB := n0_; have HO400 := n1_; clear n0_ n1_; clear ho hb hg hat))
           go_roundg k2
           case measure => have := HJ3.out; have := HK2.out; omega
           case rel => exact ⟨(y398), (t391), (wrap64 (x33_2 + 1)), y0_11, y0_11, H', ⟨by have := HJ3.out; have := HK2.out; omega⟩, ⟨by (with_reducible repeat (first | apply Kd.S_alloc | apply Kd.S_drewN | apply Kd.S_drew)); exact HO400.out⟩, ⟨bI HB.out⟩⟩
          replace c24 := Bool.eq_false_iff.mpr c24; subst c24
          rw [if_neg (show ¬ (false = true) by decide)] at H
          simp only [Option.some.injEq, Prod.mk.injEq] at H
          obtain ⟨rfl, rfl⟩ := H; have p387 : 0 ≤ (x33_2 : Int) := of_decide_eq_true y0_10; have q387 : x33_2 < (y383.length : Int) := of_decide_eq_true y0_10; obtain ⟨ad387, e387, hx387_0⟩ := Kd.at_string HR386.out x33_2 p387 q387; cases e387; replace hx387_0 := bx HB hx387_0; replace p387 := eq_true p387; replace q387 := eq_true q387
          go_wp2_with (first | ((with_reducible refine gate_callee (f := 87) rfl ?_); refine gB (some 39) Tryd.func87 #[.string (rdOf ByteArray.empty y383 x33_2), .string (⟨#[124]⟩ : ByteArray)] ?_; (with_reducible refine (strings_Cut.calls (rdOf ByteArray.empty y383 x33_2) (⟨#[124]⟩ : ByteArray) t388 t389 true _ A17.out).mono ?_); rintro e w36 ⟨rfl, hb⟩; refine ⟨_, rfl, ?_⟩; replace HO_5 := sb HO_5 hb; replace HB := bs HB hb; (try clear hb); (try clear hb2); (try clear hk); (try clear hi)) | ((with_reducible refine gate_callee (f := 88) rfl ?_); refine gB (some 45) Tryd.func88 #[.string t388] ?_; (with_reducible refine (impl_Number.calls k2 t388 t391 true _ A18.out).mono ?_); rintro e w37 ⟨rfl, hb⟩; refine ⟨_, rfl, ?_⟩; replace HO_5 := sb HO_5 hb; replace HB := bs HB hb; (try clear hb); (try clear hb2); (try clear hk); (try clear hi)) | ((with_reducible refine gate_callee (f := 89) rfl ?_); refine gB (some 50) Tryd.func89 #[.string t389] ?_; (with_reducible refine (impl_TxsOf.calls k2 t389 t393 true _ A19.out).mono ?_); rintro e w38 ⟨v395, rfl, ho0, hb⟩; refine ⟨_, rfl, ?_⟩; replace HO_5 := Aside0.mk (Kd.S_elder' (sI HO_5.out) (Kd.R_base ho0) hb); have HO396 := Aside0.mk (Kd.R_lower ho0 (below_size (bI HB.out))); replace HB := bs HB hb; (try clear hb)) | (go_at_call 54; (with_reducible refine (impl_within.calls t391 (wrap64 (x6_2 + 1)) 60 false _ A23.out).mono ?_); rintro e w' ⟨rfl, ⟨nd, rfl⟩⟩))
          go_ret2
          exact ⟨_, y0_7, Kd.S_lower (base := wc.heap.size) y0_1 (below_size HB0.out), below_step HB0.out (bI HB.out)⟩
         replace c22 := Bool.eq_false_iff.mpr c22; subst c22
         rw [if_neg (show ¬ (false = true) by decide)] at H
         simp only [Option.some.injEq, Prod.mk.injEq] at H
         obtain ⟨rfl, rfl⟩ := H; have p387 : 0 ≤ (x33_2 : Int) := of_decide_eq_true y0_10; have q387 : x33_2 < (y383.length : Int) := of_decide_eq_true y0_10; obtain ⟨ad387, e387, hx387_0⟩ := Kd.at_string HR386.out x33_2 p387 q387; cases e387; replace hx387_0 := bx HB hx387_0; replace p387 := eq_true p387; replace q387 := eq_true q387
         go_wp2_with (first | ((with_reducible refine gate_callee (f := 87) rfl ?_); refine gB (some 39) Tryd.func87 #[.string (rdOf ByteArray.empty y383 x33_2), .string (⟨#[124]⟩ : ByteArray)] ?_; (with_reducible refine (strings_Cut.calls (rdOf ByteArray.empty y383 x33_2) (⟨#[124]⟩ : ByteArray) t388 t389 true _ A17.out).mono ?_); rintro e w39 ⟨rfl, hb⟩; refine ⟨_, rfl, ?_⟩; replace HO_5 := sb HO_5 hb; replace HB := bs HB hb; (try clear hb); (try clear hb2); (try clear hk); (try clear hi)) | ((with_reducible refine gate_callee (f := 88) rfl ?_); refine gB (some 45) Tryd.func88 #[.string t388] ?_; (with_reducible refine (impl_Number.calls k2 t388 t391 true _ A18.out).mono ?_); rintro e w40 ⟨rfl, hb⟩; refine ⟨_, rfl, ?_⟩; replace HO_5 := sb HO_5 hb; replace HB := bs HB hb; (try clear hb); (try clear hb2); (try clear hk); (try clear hi)) | ((with_reducible refine gate_callee (f := 89) rfl ?_); refine gB (some 50) Tryd.func89 #[.string t389] ?_; (with_reducible refine (impl_TxsOf.calls k2 t389 t393 false _ A19.out).mono ?_); rintro e w41 ⟨v395, rfl, ho0, hb⟩; refine ⟨_, rfl, ?_⟩; replace HO_5 := Aside0.mk (Kd.S_elder' (sI HO_5.out) (Kd.R_base ho0) hb); have HO396 := Aside0.mk (Kd.R_lower ho0 (below_size (bI HB.out))); replace HB := bs HB hb; (try clear hb)))
         go_ret2
         exact ⟨_, y0_7, Kd.S_lower (base := wc.heap.size) y0_1 (below_size HB0.out), below_step HB0.out (bI HB.out)⟩
        replace c21 := Bool.eq_false_iff.mpr c21; subst c21
        rw [if_neg (show ¬ (false = true) by decide)] at H
        simp only [Option.some.injEq, Prod.mk.injEq] at H
        obtain ⟨rfl, rfl⟩ := H; have p387 : 0 ≤ (x33_2 : Int) := of_decide_eq_true y0_10; have q387 : x33_2 < (y383.length : Int) := of_decide_eq_true y0_10; obtain ⟨ad387, e387, hx387_0⟩ := Kd.at_string HR386.out x33_2 p387 q387; cases e387; replace hx387_0 := bx HB hx387_0; replace p387 := eq_true p387; replace q387 := eq_true q387
        go_wp2_with (first | ((with_reducible refine gate_callee (f := 87) rfl ?_); refine gB (some 39) Tryd.func87 #[.string (rdOf ByteArray.empty y383 x33_2), .string (⟨#[124]⟩ : ByteArray)] ?_; (with_reducible refine (strings_Cut.calls (rdOf ByteArray.empty y383 x33_2) (⟨#[124]⟩ : ByteArray) t388 t389 true _ A17.out).mono ?_); rintro e w42 ⟨rfl, hb⟩; refine ⟨_, rfl, ?_⟩; replace HO_5 := sb HO_5 hb; replace HB := bs HB hb; (try clear hb); (try clear hb2); (try clear hk); (try clear hi)) | ((with_reducible refine gate_callee (f := 88) rfl ?_); refine gB (some 45) Tryd.func88 #[.string t388] ?_; (with_reducible refine (impl_Number.calls k2 t388 t391 false _ A18.out).mono ?_); rintro e w43 ⟨rfl, hb⟩; refine ⟨_, rfl, ?_⟩; replace HO_5 := sb HO_5 hb; replace HB := bs HB hb; (try clear hb); (try clear hb2); (try clear hk); (try clear hi)) | ((with_reducible refine gate_callee (f := 89) rfl ?_); refine gB (some 50) Tryd.func89 #[.string t389] ?_; (with_reducible refine (impl_TxsOf.calls k2 t389 t393 t394 _ A19.out).mono ?_); rintro e w44 ⟨v395, rfl, ho0, hb⟩; refine ⟨_, rfl, ?_⟩; replace HO_5 := Aside0.mk (Kd.S_elder' (sI HO_5.out) (Kd.R_base ho0) hb); have HO396 := Aside0.mk (Kd.R_lower ho0 (below_size (bI HB.out))); replace HB := bs HB hb; (try clear hb)))
        go_ret2
        exact ⟨_, y0_7, Kd.S_lower (base := wc.heap.size) y0_1 (below_size HB0.out), below_step HB0.out (bI HB.out)⟩
       replace c20 := Bool.eq_false_iff.mpr c20; subst c20
       rw [if_neg (show ¬ (false = true) by decide)] at H
       simp only [Option.some.injEq, Prod.mk.injEq] at H
       obtain ⟨rfl, rfl⟩ := H; have p387 : 0 ≤ (x33_2 : Int) := of_decide_eq_true y0_10; have q387 : x33_2 < (y383.length : Int) := of_decide_eq_true y0_10; obtain ⟨ad387, e387, hx387_0⟩ := Kd.at_string HR386.out x33_2 p387 q387; cases e387; replace hx387_0 := bx HB hx387_0; replace p387 := eq_true p387; replace q387 := eq_true q387
       go_wp2_with (first | ((with_reducible refine gate_callee (f := 87) rfl ?_); refine gB (some 39) Tryd.func87 #[.string (rdOf ByteArray.empty y383 x33_2), .string (⟨#[124]⟩ : ByteArray)] ?_; (with_reducible refine (strings_Cut.calls (rdOf ByteArray.empty y383 x33_2) (⟨#[124]⟩ : ByteArray) t388 t389 false _ A17.out).mono ?_); rintro e w45 ⟨rfl, hb⟩; refine ⟨_, rfl, ?_⟩; replace HO_5 := sb HO_5 hb; replace HB := bs HB hb; (try clear hb); (try clear hb2); (try clear hk); (try clear hi)) | ((with_reducible refine gate_callee (f := 88) rfl ?_); refine gB (some 45) Tryd.func88 #[.string t388] ?_; (with_reducible refine (impl_Number.calls k2 t388 t391 t392 _ A18.out).mono ?_); rintro e w46 ⟨rfl, hb⟩; refine ⟨_, rfl, ?_⟩; replace HO_5 := sb HO_5 hb; replace HB := bs HB hb; (try clear hb); (try clear hb2); (try clear hk); (try clear hi)) | ((with_reducible refine gate_callee (f := 89) rfl ?_); refine gB (some 50) Tryd.func89 #[.string t389] ?_; (with_reducible refine (impl_TxsOf.calls k2 t389 t393 t394 _ A19.out).mono ?_); rintro e w47 ⟨v395, rfl, ho0, hb⟩; refine ⟨_, rfl, ?_⟩; replace HO_5 := Aside0.mk (Kd.S_elder' (sI HO_5.out) (Kd.R_base ho0) hb); have HO396 := Aside0.mk (Kd.R_lower ho0 (below_size (bI HB.out))); replace HB := bs HB hb; (try clear hb)))
       go_ret2
       exact ⟨_, y0_7, Kd.S_lower (base := wc.heap.size) y0_1 (below_size HB0.out), below_step HB0.out (bI HB.out)⟩
      rw [if_neg c14] at H
      have c14b0 : decide (x33_2 < (y383.length : Int)) = false := decide_eq_false c14; clear c14
      simp only [Option.some.injEq, Prod.mk.injEq] at H
      obtain ⟨rfl, rfl⟩ := H
      go_wp2
      go_ret2
      exact ⟨_, y0_7, Kd.S_lower (base := wc.heap.size) (by (with_reducible repeat (first | apply Kd.S_alloc | apply Kd.S_drewN | apply Kd.S_drew)); exact HO_5.out) (below_size HB0.out), below_step HB0.out (bI HB.out)⟩
   rw [if_neg c11] at H
   exact absurd H (by simp)

/-! ### impl_NameOk: function 59 -/
def impl_NameOk.f (k : Nat) (a0 : ByteArray) : Option (Bool) := (impl_Steps.f k a0).bind fun bt401 => (some bt401.2)
theorem impl_NameOk.mono : ∀ a0 k, LeO (impl_NameOk.f k a0) (impl_NameOk.f (k + 1) a0) := by
 intro a0 k
 unfold impl_NameOk.f
 repeat' first | (with_reducible exact impl_Steps.mono _ _) | (with_reducible exact LeO.refl _) | (with_reducible exact LeO.none _) | (with_reducible refine LeO.ite ?_ ?_) | (with_reducible refine LeO.bind ?_ (fun _ => ?_))
set_option maxHeartbeats 8000000 in
set_option maxRecDepth 100000 in
theorem impl_NameOk.calls (k : Nat) (a0 : ByteArray) (r : Bool) (w : World) (h : impl_NameOk.f k a0 = some r) (hG : Glob w := by exact gG HG HB) :
  Calls Tryd.prog 59 #[.string a0] w fun e w' => e = .returned (.bool r) ∧ Below w.heap.size w w' := by
 have HG := Aside0.mk hG; clear hG; have HB := Aside0.mk (Below.refl w.heap.size w)
 have H := h; unfold impl_NameOk.f at H
 clear h; obtain ⟨⟨t401, t402⟩, A2, H⟩ := oB H; (try dsimp only at H); obtain rfl := Option.some.inj H
 go_enter Tryd.func59, Tryd.ntmps59
 go_wp2_with (first | ((with_reducible refine gate_callee (f := 79) rfl ?_); refine gS1 (some 7) Tryd.func79 (impl_Steps.calls (w := _) (h := A2.out)) ?_; intro Ao403 co403 w3 _ HO404))
 go_ret
 exact ⟨y0_11, UpW.out⟩

/-! ### impl_ViewOf: function 60 -/
def impl_ViewOf.f (k : Nat) (a0 : ByteArray) : Option (Int) := (impl_Steps.f k a0).bind fun bt405 => (if (bt405.1.length : Int) = 0 then (some 0) else (if 0 ≤ (wrap64 ((bt405.1.length : Int) - 1)) then (if (wrap64 ((bt405.1.length : Int) - 1)) < (bt405.1.length : Int) then (some ((rd_T108 bt405.1 (wrap64 ((bt405.1.length : Int) - 1))).f0)) else (none)) else (none)))
theorem impl_ViewOf.mono : ∀ a0 k, LeO (impl_ViewOf.f k a0) (impl_ViewOf.f (k + 1) a0) := by
 intro a0 k
 unfold impl_ViewOf.f
 repeat' first | (with_reducible exact impl_Steps.mono _ _) | (with_reducible exact LeO.refl _) | (with_reducible exact LeO.none _) | (with_reducible refine LeO.ite ?_ ?_) | (with_reducible refine LeO.bind ?_ (fun _ => ?_))
set_option maxHeartbeats 8000000 in
set_option maxRecDepth 100000 in
theorem impl_ViewOf.calls (k : Nat) (a0 : ByteArray) (r : Int) (w : World) (h : impl_ViewOf.f k a0 = some r) (hG : Glob w := by exact gG HG HB) :
  Calls Tryd.prog 60 #[.string a0] w fun e w' => e = .returned (.int .i64 r) ∧ Below w.heap.size w w' := by
 have HG := Aside0.mk hG; clear hG; have HB := Aside0.mk (Below.refl w.heap.size w)
 have H := h; unfold impl_ViewOf.f at H
 clear h; obtain ⟨⟨t405, t406⟩, A2, H⟩ := oB H; (try dsimp only at H)
 by_cases c3 : (t405.length : Int) = 0
 ·
  rw [if_pos c3] at H
  have c3b0 : ((t405.length : Int) == 0) = true := beq_iff_eq.mpr c3; have c3b1 : ((t405.length : Int) != 0) = false := bne_eq_false_iff_eq.mpr c3; clear c3; obtain rfl := Option.some.inj H
  go_enter Tryd.func60, Tryd.ntmps60
  go_wp2_with (first | ((with_reducible refine gate_callee (f := 79) rfl ?_); refine gB (some 7) Tryd.func79 #[.string a0] ?_; (with_reducible refine (impl_Steps.calls k a0 t405 t406 _ A2.out).mono ?_); rintro e w4 ⟨v407, rfl, ho0, hb⟩; refine ⟨_, rfl, ?_⟩; have HO408 := Aside0.mk (Kd.S_lower ho0 (below_size (bI HB.out))); replace HB := bs HB hb; (try clear hb); (try clear ho0); obtain ⟨Ao5, co5, eo5⟩ := Kd.S_slice HO408.out; subst eo5))
  go_ret
  exact ⟨y0_7, bI HB.out⟩
 rw [if_neg c3] at H
 have c3b0 : ((t405.length : Int) == 0) = false := beq_eq_false_iff_ne.mpr c3; have c3b1 : ((t405.length : Int) != 0) = true := bne_iff_ne.mpr c3
 have c3b2 : ¬ (t405 = []) := fun h_ => c3 (by rw [h_]; rfl)
 obtain ⟨ji6, hji6⟩ : ∃ j_ : Int, (wrap64 ((t405.length : Int) - 1)) = j_ := ⟨_, rfl⟩
 replace H : (if 0 ≤ (ji6) then (if (ji6) < (t405.length : Int) then (some ((rd_T108 t405 (ji6)).f0)) else (none)) else (none)) = some r := by first | (rw [hji6] at H; exact H) | (simp only [hji6] at H ⊢; exact H)
 (try rw [hji6] at A2)
 have hji6w : (IntKind.i64.wrap ((t405.length : Int) - 1)) = ji6 := (i64_w _).trans hji6
 by_cases c7 : 0 ≤ (ji6)
 ·
  rw [if_pos c7] at H
  have c7b0 : decide (0 ≤ (ji6)) = true := decide_eq_true c7; clear c7
  by_cases c8 : (ji6) < (t405.length : Int)
  rotate_left
  ·
   rw [if_neg c8] at H
   exact absurd H (by simp)
  rw [if_pos c8] at H
  have c8b0 : decide ((ji6) < (t405.length : Int)) = true := decide_eq_true c8; clear c8; obtain rfl := Option.some.inj H
  go_enter Tryd.func60, Tryd.ntmps60
  go_wp2_with (first | ((with_reducible refine gate_callee (f := 79) rfl ?_); refine gB (some 7) Tryd.func79 #[.string a0] ?_; (with_reducible refine (impl_Steps.calls k a0 t405 t406 _ A2.out).mono ?_); rintro e w9 ⟨v407, rfl, ho0, hb⟩; refine ⟨_, rfl, ?_⟩; have HO408 := Aside0.mk (Kd.S_lower ho0 (below_size (bI HB.out))); replace HB := bs HB hb; (try clear hb); (try clear ho0); obtain ⟨Ao10, co10, eo10⟩ := Kd.S_slice HO408.out; subst eo10; have p409 : 0 ≤ ((ji6) : Int) := of_decide_eq_true y0_10; have q409 : (ji6) < (t405.length : Int) := of_decide_eq_true y0_10; obtain ⟨ad409, A409_1, c409_1, e409, hx409_0, hx409_1, hl409_1, hi409_1⟩ := at_T108 (Kd.S_reads' HO408.out).2.2 (ji6) p409 q409; cases e409; obtain ⟨ce409, hce409, hMe409, hcc409⟩ := Kd.S_get HO408.out z108 (ji6) p409 (by first | exact q409 | exact of_decide_eq_true y0_10 | (have e_ := (Kd.S_reads' HO408.out).1; omega)); obtain ⟨ve409_1, rfl, ge409_1⟩ := k108_openM hMe409; have hv409_1 := hcc409 1 _ rfl; rw [add_field _ _ 1 (by omega)] at hv409_1; replace hv409_1 := Option.some.inj (hv409_1.symm.trans hx409_1); rw [hv409_1] at ge409_1; have HL409_1 := Aside0.mk (show Kd.R k97 97 _ _ _ _ ((rd_T108 t405 (ji6)).f1) from ge409_1); clear hv409_1 ge409_1; clear hcc409 hce409; have HR409_1 := Aside0.mk hi409_1; have HC409_1 := Aside0.mk hl409_1; clear hi409_1 hl409_1; replace p409 := eq_true p409; replace q409 := eq_true q409))
  go_ret
  exact ⟨by first | rfl | (simp [errW_none, errW_some] <;> rfl) | (simp only [← hji6]; first | rfl | (simp [errW_none, errW_some] <;> rfl)) | (simp [*, errW_none, errW_some] <;> rfl), bI HB.out⟩
 rw [if_neg c7] at H
 exact absurd H (by simp)

end Go.Proofs.YtnpbopadajbopaaDoor.PFnExactSafeOf
