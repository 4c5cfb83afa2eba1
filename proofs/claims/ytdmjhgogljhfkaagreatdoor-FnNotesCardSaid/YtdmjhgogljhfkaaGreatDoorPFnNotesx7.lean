import Derived.Test.YtdmjhgogljhfkaaGreatDoorPFnNotesx0
import Derived.Test.YtdmjhgogljhfkaaGreatDoorPFnNotesx4
namespace Go.Proofs.YtdmjhgogljhfkaaGreatDoor.PFnNotes
open Go.RowKit Go.Proofs.YtdmjhgogljhfkaaGreatDoorW.PrintWords Go.Proofs.YtdmjhgogljhfkaaGreatDoorW.PrintLast Go.Proofs.YtdmjhgogljhfkaaGreatDoorW.PrintMore
attribute [local go_sem] max2_int min2_int max_two min_two max_three min_three max_four min_four
attribute [local go_sem] cell_in frozen_in cell_g cell_p cell_r cell_q
set_option synthInstance.maxSize 1000000
set_option synthInstance.maxHeartbeats 2000000
set_option linter.unusedVariables false
set_option linter.unusedSimpArgs false
set_option maxHeartbeats 8000000
set_option maxRecDepth 100000
def impl_TxText.f (a0_0 : Int) (a0_1 : Int) (a0_2 : Int) (a0_3 : Int) : Option (ByteArray) := (impl_TxOk.f a0_0 a0_1 a0_2 a0_3).bind fun t332 => (if t332 = true then ((impl_Digits.f a0_0).bind fun t333 => (if t333.size + 1 ≤ 9223372036854775807 then ((impl_Digits.f a0_1).bind fun t334 => (if (t333 ++ (⟨#[62]⟩ : ByteArray)).size + t334.size ≤ 9223372036854775807 then (if ((t333 ++ (⟨#[62]⟩ : ByteArray)) ++ t334).size + 1 ≤ 9223372036854775807 then ((impl_Digits.f a0_2).bind fun t335 => (if (((t333 ++ (⟨#[62]⟩ : ByteArray)) ++ t334) ++ (⟨#[58]⟩ : ByteArray)).size + t335.size ≤ 9223372036854775807 then (if ((((t333 ++ (⟨#[62]⟩ : ByteArray)) ++ t334) ++ (⟨#[58]⟩ : ByteArray)) ++ t335).size + 1 ≤ 9223372036854775807 then ((impl_Digits.f a0_3).bind fun t336 => (if (((((t333 ++ (⟨#[62]⟩ : ByteArray)) ++ t334) ++ (⟨#[58]⟩ : ByteArray)) ++ t335) ++ (⟨#[35]⟩ : ByteArray)).size + t336.size ≤ 9223372036854775807 then (some ((((((t333 ++ (⟨#[62]⟩ : ByteArray)) ++ t334) ++ (⟨#[58]⟩ : ByteArray)) ++ t335) ++ (⟨#[35]⟩ : ByteArray)) ++ t336)) else (none))) else (none)) else (none))) else (none)) else (none))) else (none))) else (some (⟨#[]⟩ : ByteArray)))
def impl_TxText.T3 : Bool × List (List Nat × List Nat) := (true, [([], []), ([0], [0]), ([1], [1]), ([2], [2]), ([], []), ([4], [4]), ([5, 2], [5]), ([3, 6], [3, 6]), ([7], [7]), ([], []), ([9], [9]), ([10, 6], [10]), ([8, 11], [8, 11]), ([12], [12]), ([], []), ([14], [14]), ([15, 11], [15]), ([13, 16], [13, 16]), ([17, 16, 0, 1, 2, 3, 4, 5, 6, 7, 8, 9, 10, 11, 12, 13, 14, 15, 16, 17], [17])])
def impl_TxText.B3 : List Nat := [0, 1, 3, 7, 0, 16, 55, 127, 255, 0, 512, 1655, 4095, 8191, 0, 16384, 52855, 131071, 262143]
theorem impl_TxText.tab3 : rtab .any (opsOf Tryz.f207 3) = impl_TxText.T3 := by kernel_rfl
theorem impl_TxText.bits3 : waitsOk impl_TxText.T3.2 impl_TxText.B3 = true := by kernel_rfl
theorem impl_TxText.calls (a0_0 : Int) (a0_1 : Int) (a0_2 : Int) (a0_3 : Int) (r : ByteArray) (w : World) (h : impl_TxText.f a0_0 a0_1 a0_2 a0_3 = some r) (hG : Glob w := by exact gG HG HB) :
  Calls Tryz.prog 207 #[.agg #[.int .i64 a0_0, .int .i64 a0_1, .int .i64 a0_2, .int .i64 a0_3]] w fun e w' => e = .returned (.string r) ∧ Below w.heap.size w w' := by
 have HG := Aside0.mk hG; clear hG; have hu156 := Tryz.underlying156; have HB := Aside0.mk (Below.refl w.heap.size w)
 have H := h; unfold impl_TxText.f at H
 clear h; obtain ⟨t332, A2, H⟩ := oB H; (try dsimp only at H)
 go_enter Tryz.func207, Tryz.ntmps207
 have H' := Aside0.mk H; clear H
 go_upto_if 5 with (first | ((with_reducible refine gd 1 ?_); refine bL 1 #[.int .i64 a0_0, .int .i64 a0_1, .int .i64 a0_2, .int .i64 a0_3] 156 ?_; intro gb331 w3 _ _ _) | ((with_reducible refine gate_callee (f := 206) rfl ?_); refine gC (some 4) Tryz.func206 (impl_TxOk.calls (w := _) (h := A2.out)) ?_; intro w4 _))
 have H := H'.out; clear H'
 by_cases c5 : t332 = true
 ·
  subst c5
  rw [if_pos rfl] at H
  obtain ⟨t333, A6, H⟩ := oB H; (try dsimp only at H)
  by_cases c7 : t333.size + 1 ≤ 9223372036854775807
  rotate_left
  ·
   rw [if_neg c7] at H
   exact absurd H (by simp)
  rw [if_pos c7] at H
  have c7b0 := eq_true c7; have c7b1 : decide (t333.size + 1 ≤ 9223372036854775807) = true := decide_eq_true c7
  try have c7b2 : (9223372036854775807 < t333.size + 1) = False := eq_false (Nat.not_lt.2 c7)
  obtain ⟨t334, A8, H⟩ := oB H; (try dsimp only at H)
  by_cases c9 : (t333 ++ (⟨#[62]⟩ : ByteArray)).size + t334.size ≤ 9223372036854775807
  rotate_left
  ·
   rw [if_neg c9] at H
   exact absurd H (by simp)
  rw [if_pos c9] at H
  have c9b0 := eq_true c9; have c9b1 : decide ((t333 ++ (⟨#[62]⟩ : ByteArray)).size + t334.size ≤ 9223372036854775807) = true := decide_eq_true c9
  try have c9b2 : (9223372036854775807 < (t333 ++ (⟨#[62]⟩ : ByteArray)).size + t334.size) = False := eq_false (Nat.not_lt.2 c9)
  (try have c9b3 : (9223372036854775807 < t333.size + 1 + t334.size) = False := eq_false (by have h_ := c9; simp only [ByteArray.size_append, ByteArray.size_extract, show (⟨#[62]⟩ : ByteArray).size = 1 from rfl] at h_; omega))
  by_cases c10 : ((t333 ++ (⟨#[62]⟩ : ByteArray)) ++ t334).size + 1 ≤ 9223372036854775807
  rotate_left
  ·
   rw [if_neg c10] at H
   exact absurd H (by simp)
  rw [if_pos c10] at H
  have c10b0 := eq_true c10; have c10b1 : decide (((t333 ++ (⟨#[62]⟩ : ByteArray)) ++ t334).size + 1 ≤ 9223372036854775807) = true := decide_eq_true c10
  try have c10b2 : (9223372036854775807 < ((t333 ++ (⟨#[62]⟩ : ByteArray)) ++ t334).size + 1) = False := eq_false (Nat.not_lt.2 c10)
  (try have c10b3 : (9223372036854775807 < t333.size + 1 + t334.size + 1) = False := eq_false (by have h_ := c10; simp only [ByteArray.size_append, ByteArray.size_extract, show (⟨#[62]⟩ : ByteArray).size = 1 from rfl] at h_; omega))
  obtain ⟨t335, A11, H⟩ := oB H; (try dsimp only at H)
  by_cases c12 : (((t333 ++ (⟨#[62]⟩ : ByteArray)) ++ t334) ++ (⟨#[58]⟩ : ByteArray)).size + t335.size ≤ 9223372036854775807
  rotate_left
  ·
   rw [if_neg c12] at H
   exact absurd H (by simp)
  rw [if_pos c12] at H
  have c12b0 := eq_true c12; have c12b1 : decide ((((t333 ++ (⟨#[62]⟩ : ByteArray)) ++ t334) ++ (⟨#[58]⟩ : ByteArray)).size + t335.size ≤ 9223372036854775807) = true := decide_eq_true c12
  try have c12b2 : (9223372036854775807 < (((t333 ++ (⟨#[62]⟩ : ByteArray)) ++ t334) ++ (⟨#[58]⟩ : ByteArray)).size + t335.size) = False := eq_false (Nat.not_lt.2 c12)
  (try have c12b3 : (9223372036854775807 < t333.size + 1 + t334.size + 1 + t335.size) = False := eq_false (by have h_ := c12; simp only [ByteArray.size_append, ByteArray.size_extract, show (⟨#[58]⟩ : ByteArray).size = 1 from rfl, show (⟨#[62]⟩ : ByteArray).size = 1 from rfl] at h_; omega))
  by_cases c13 : ((((t333 ++ (⟨#[62]⟩ : ByteArray)) ++ t334) ++ (⟨#[58]⟩ : ByteArray)) ++ t335).size + 1 ≤ 9223372036854775807
  rotate_left
  ·
   rw [if_neg c13] at H
   exact absurd H (by simp)
  rw [if_pos c13] at H
  have c13b0 := eq_true c13; have c13b1 : decide (((((t333 ++ (⟨#[62]⟩ : ByteArray)) ++ t334) ++ (⟨#[58]⟩ : ByteArray)) ++ t335).size + 1 ≤ 9223372036854775807) = true := decide_eq_true c13
  try have c13b2 : (9223372036854775807 < ((((t333 ++ (⟨#[62]⟩ : ByteArray)) ++ t334) ++ (⟨#[58]⟩ : ByteArray)) ++ t335).size + 1) = False := eq_false (Nat.not_lt.2 c13)
  (try have c13b3 : (9223372036854775807 < t333.size + 1 + t334.size + 1 + t335.size + 1) = False := eq_false (by have h_ := c13; simp only [ByteArray.size_append, ByteArray.size_extract, show (⟨#[58]⟩ : ByteArray).size = 1 from rfl, show (⟨#[62]⟩ : ByteArray).size = 1 from rfl] at h_; omega))
  obtain ⟨t336, A14, H⟩ := oB H; (try dsimp only at H)
  by_cases c15 : (((((t333 ++ (⟨#[62]⟩ : ByteArray)) ++ t334) ++ (⟨#[58]⟩ : ByteArray)) ++ t335) ++ (⟨#[35]⟩ : ByteArray)).size + t336.size ≤ 9223372036854775807
  rotate_left
  ·
   rw [if_neg c15] at H
   exact absurd H (by simp)
  rw [if_pos c15] at H
  have c15b0 := eq_true c15; have c15b1 : decide ((((((t333 ++ (⟨#[62]⟩ : ByteArray)) ++ t334) ++ (⟨#[58]⟩ : ByteArray)) ++ t335) ++ (⟨#[35]⟩ : ByteArray)).size + t336.size ≤ 9223372036854775807) = true := decide_eq_true c15
  try have c15b2 : (9223372036854775807 < (((((t333 ++ (⟨#[62]⟩ : ByteArray)) ++ t334) ++ (⟨#[58]⟩ : ByteArray)) ++ t335) ++ (⟨#[35]⟩ : ByteArray)).size + t336.size) = False := eq_false (Nat.not_lt.2 c15)
  (try have c15b3 : (9223372036854775807 < t333.size + 1 + t334.size + 1 + t335.size + 1 + t336.size) = False := eq_false (by have h_ := c15; simp only [ByteArray.size_append, ByteArray.size_extract, show (⟨#[35]⟩ : ByteArray).size = 1 from rfl, show (⟨#[58]⟩ : ByteArray).size = 1 from rfl, show (⟨#[62]⟩ : ByteArray).size = 1 from rfl] at h_; omega))
  obtain rfl := Option.some.inj H
  try go_wp2
  refine sB [] impl_TxText.tab3 impl_TxText.bits3 ?_; intro w16 _ HT_ HW_
  refine pA 0 (some 6) (bz 19 1) HT_ ?_
  refine tB 1 (some 7) (bz 19 3) HT_ HW_ ?_
  refine pA 4 (some 10) (bz 19 19) HT_ ?_
  refine tB 5 (some 11) (bz 19 51) HT_ HW_ ?_
  refine pA 9 (some 15) (bz 19 563) HT_ ?_
  refine tB 10 (some 16) (bz 19 1587) HT_ HW_ ?_
  refine pA 14 (some 20) (bz 19 0x4633) HT_ ?_
  refine tB 15 (some 21) (bz 19 0xc633) HT_ HW_ ?_
  refine o1 2 (some 8) (bz 19 0xc637) HT_ rfl (kC Tryz.func197 (impl_Digits.calls (w := _) (h := A6.out)) ?_); intro w17 _
  refine nA (some 8) ?_
  refine pA 3 (some 9) (bz 19 0xc63f) HT_ ?_
  refine o1 6 (some 12) (bz 19 0xc67f) HT_ rfl (kC Tryz.func197 (impl_Digits.calls (w := _) (h := A8.out)) ?_); intro w18 _
  refine nA (some 12) ?_
  refine pA 7 (some 13) (bz 19 0xc6ff) HT_ ?_
  refine pA 8 (some 14) (bz 19 0xc7ff) HT_ ?_
  refine o1 11 (some 17) (bz 19 0xcfff) HT_ rfl (kC Tryz.func197 (impl_Digits.calls (w := _) (h := A11.out)) ?_); intro w19 _
  refine nA (some 17) ?_
  refine pA 12 (some 18) (bz 19 0xdfff) HT_ ?_
  refine pA 13 (some 19) (bz 19 0xffff) HT_ ?_
  refine o1 16 (some 22) (bz 19 0x1ffff) HT_ rfl (kC Tryz.func197 (impl_Digits.calls (w := _) (h := A14.out)) ?_); intro w20 _
  refine nA (some 22) ?_
  refine pA 17 (some 23) (bz 19 0x3ffff) HT_ ?_
  refine pA 18 (some 2) (bz 19 0x7ffff) HT_ ?_
  refine done_ (done_of HT_.out (by kernel_rfl)) ?_
  try go_wp2
  go_ret
  exact ⟨y0_8, UpW.out⟩
 replace c5 := Bool.eq_false_iff.mpr c5; subst c5
 rw [if_neg Bool.false_ne_true] at H
 obtain rfl := Option.some.inj H
 go_wp2
 go_ret
 exact ⟨y0_8, UpW.out⟩
def impl_TxOf.f (k : Nat) (a0 : ByteArray) : Option (Int × Int × Int × Int × Bool) := (strings_Cut.f a0 (⟨#[62]⟩ : ByteArray)).bind fun c1 => (strings_Cut.f c1.2.1 (⟨#[58]⟩ : ByteArray)).bind fun c2 => (strings_Cut.f c2.2.1 (⟨#[35]⟩ : ByteArray)).bind fun c3 => (impl_Number.f k c1.1).bind fun n0 => (impl_Number.f k c2.1).bind fun n1 => (impl_Number.f k c3.1).bind fun n2 => (impl_Number.f k c3.2.1).bind fun n3 => (impl_TxOk.f n0.1 n1.1 n2.1 n3.1).bind fun b => (if b = true then ((impl_TxText.f n0.1 n1.1 n2.1 n3.1).bind fun t => (if t.toList = a0.toList then (some (n0.1, n1.1, n2.1, n3.1, true)) else (some (0, 0, 0, 0, false)))) else (some (0, 0, 0, 0, false)))
theorem impl_TxOf.mono : ∀ a0 k, LeO (impl_TxOf.f k a0) (impl_TxOf.f (k + 1) a0) := by
 intro a0 k
 unfold impl_TxOf.f
 repeat' first | (with_reducible exact impl_Number.mono _ _) | (with_reducible exact LeO.refl _) | (with_reducible exact LeO.none _) | (with_reducible refine LeO.ite ?_ ?_) | (with_reducible refine LeO.bind ?_ (fun _ => ?_))
section
variable {P : Program} {ops : Array Oper} {rest : List Oper} {o : Oper} {a : Act} {Q : Exit → Act → World → Prop}
theorem impl_TxOf.lit {W : World} (n : Nat) (cs : Array Value) (t : TypeId)
  (h : ∀ g, g = W.heap.size → ∀ w1, w1.heap[g]? = some (.cells cs t (0, 0)) → Below W.heap.size W w1 → wpList P ops Q rest (a.put o.dst (.slice (some ⟨g, 0, none⟩) n n)) w1)
  (hgd : o.guard = none := by rfl) (hrun : (execOp a.eval o).run P W = .ok (.value (.slice (some ⟨W.heap.size, 0, none⟩) n n)) (W.alloc (.cells cs t (0, 0))) := by first | (go_simp; done) | (go_simp; rfl) | rfl) : wpList P ops Q (o :: rest) a W :=
 Kd.event_run hgd hrun (h _ rfl _ (blk_new W _) (below_alloc (Below.refl _ _) _))
end
def impl_TxOf.arr (a b c d : Int) : Nat → Array Value
 | 0 => #[.int .i64 0, .int .i64 0, .int .i64 0, .int .i64 0]
 | 1 => #[.int .i64 a, .int .i64 0, .int .i64 0, .int .i64 0]
 | 2 => #[.int .i64 a, .int .i64 b, .int .i64 0, .int .i64 0]
 | 3 => #[.int .i64 a, .int .i64 b, .int .i64 c, .int .i64 0]
 | _ => #[.int .i64 a, .int .i64 b, .int .i64 c, .int .i64 d]
theorem impl_TxOf.calls (k : Nat) (a0 : ByteArray) (r1 : Int) (r2 : Int) (r3 : Int) (r4 : Int) (r5 : Bool) (w : World) (h : impl_TxOf.f k a0 = some (r1, r2, r3, r4, r5)) (hG : Glob w := by exact gG HG HB) :
  Calls Tryz.prog 198 #[.string a0] w fun e w' => e = .returned (.tuple #[.agg #[.int .i64 r1, .int .i64 r2, .int .i64 r3, .int .i64 r4], .bool r5]) ∧ Below w.heap.size w w' := by
 have HG := Aside0.mk hG; clear hG; have huT := Tryz.underlying156; have HB := Aside0.mk (Below.refl w.heap.size w); have H := h
 unfold impl_TxOf.f at H
 clear h; obtain ⟨⟨s1, s2, s3⟩, A10, H⟩ := Option.bind_eq_some_iff.mp H; obtain ⟨⟨s4, s5, s6⟩, A20, H⟩ := Option.bind_eq_some_iff.mp H; obtain ⟨⟨s7, s8, s9⟩, A30, H⟩ := Option.bind_eq_some_iff.mp H; obtain ⟨⟨n0, m0⟩, A40, H⟩ := Option.bind_eq_some_iff.mp H; obtain ⟨⟨n1, m1⟩, A50, H⟩ := Option.bind_eq_some_iff.mp H; obtain ⟨⟨n2, m2⟩, A60, H⟩ := Option.bind_eq_some_iff.mp H; obtain ⟨⟨n3, m3⟩, A70, H⟩ := Option.bind_eq_some_iff.mp H; obtain ⟨bk_, A80, H⟩ := Option.bind_eq_some_iff.mp H
 dsimp only at A10 A20 A30 A40 A50 A60 A70 A80 H
 have HH := Aside0.mk H; clear H; have A1 := Aside0.mk A10; clear A10; have A2 := Aside0.mk A20; clear A20; have A3 := Aside0.mk A30; clear A30; have A4 := Aside0.mk A40; clear A40; have A5 := Aside0.mk A50; clear A50; have A6 := Aside0.mk A60; clear A60; have A7 := Aside0.mk A70; clear A70; have A8 := Aside0.mk A80; clear A80
 go_enter Tryz.func198, Tryz.ntmps198
 go_wp2_with (first | ((with_reducible refine gd 2 ?_); refine bA 2 #[.int .i64 0, .int .i64 0, .int .i64 0, .int .i64 0] 156 ?_; intro gx hg w' hbox hb; have Kgx := Aside0.mk hbox; have GWgx := bg hg HB; have GJgx := gi GWgx; skip; replace HB := bs HB hb; clear hb hbox hg) | ((with_reducible refine gate_callee (f := 175) rfl ?_); refine gB (some 18) Tryz.func175 #[.string a0, .string (⟨#[62]⟩ : ByteArray)] ?_; (with_reducible refine (strings_Cut.calls a0 (⟨#[62]⟩ : ByteArray) s1 s2 s3 _ A1.out).mono ?_); rintro e w' ⟨rfl, hb⟩; refine ⟨_, rfl, ?_⟩; replace Kgx := bk Kgx hb; replace HB := bs HB hb; clear hb) | ((with_reducible refine gate_callee (f := 175) rfl ?_); refine gB (some 24) Tryz.func175 #[.string s2, .string (⟨#[58]⟩ : ByteArray)] ?_; (with_reducible refine (strings_Cut.calls s2 (⟨#[58]⟩ : ByteArray) s4 s5 s6 _ A2.out).mono ?_); rintro e w' ⟨rfl, hb⟩; refine ⟨_, rfl, ?_⟩; replace Kgx := bk Kgx hb; replace HB := bs HB hb; clear hb) | ((with_reducible refine gate_callee (f := 175) rfl ?_); refine gB (some 30) Tryz.func175 #[.string s5, .string (⟨#[35]⟩ : ByteArray)] ?_; (with_reducible refine (strings_Cut.calls s5 (⟨#[35]⟩ : ByteArray) s7 s8 s9 _ A3.out).mono ?_); rintro e w' ⟨rfl, hb⟩; refine ⟨_, rfl, ?_⟩; replace Kgx := bk Kgx hb; replace HB := bs HB hb; clear hb) | ((with_reducible refine gd 12 ?_); refine bA 12 #[.int .i64 0, .int .i64 0, .int .i64 0, .int .i64 0] 205 ?_; intro ga hg w' hbox hb; have Kga := Aside0.mk hbox; have GWga := bg hg HB; have GJga := gi GWga; have Ngxga := b1 Kgx hg; have NIgxga := ni Ngxga; have Ngagx := b2 Kgx hg; have NIgagx := ni Ngagx; replace Kgx := bk Kgx hb; replace HB := bs HB hb; clear hb hbox hg) | ((with_reducible refine gd 38 ?_); refine impl_TxOf.lit 4 #[.string s1, .string s4, .string s7, .string s8] 9 ?_; intro gl hg w' hbox hb; have Kgl := Aside0.mk hbox; have GWgl := bg hg HB; have GJgl := gi GWgl; have Ngxgl := b1 Kgx hg; have NIgxgl := ni Ngxgl; have Nglgx := b2 Kgx hg; have NIglgx := ni Nglgx; replace Kgx := bk Kgx hb; have Ngagl := b1 Kga hg; have NIgagl := ni Ngagl; have Nglga := b2 Kga hg; have NIglga := ni Nglga; replace Kga := bk Kga hb; replace HB := bs HB hb; clear hb hbox hg))
 go_loopg [40] 5 (fun kq v40 w' => ∃ (i_ : Nat), v40 = .int .i64 (i_ : Int) ∧ Aside0 (kq + i_ = 5 ∧ i_ ≤ 4) ∧ Aside0 (w'.heap[gx]? = some (.cells #[.int .i64 0, .int .i64 0, .int .i64 0, .int .i64 0] 156 (0, 0))) ∧ Aside0 (w'.heap[ga]? = some (.cells (impl_TxOf.arr n0 n1 n2 n3 i_) 205 (0, 0))) ∧ Aside0 (w'.heap[gl]? = some (.cells #[.string s1, .string s4, .string s7, .string s8] 9 (0, 0))) ∧ Aside0 (Below w.heap.size w w'))
 case atStart => exact ⟨0, rfl, ⟨by omega⟩, Kgx, ⟨kI Kga.out⟩, ⟨kI Kgl.out⟩, ⟨bI HB.out⟩⟩
 case round =>
  obtain ⟨i_, rfl, HI_, Kgx, Kga, Kgl, HB⟩ := hrel
  have hi5 : i_ = 0 ∨ i_ = 1 ∨ i_ = 2 ∨ i_ = 3 ∨ i_ = 4 := by have := HI_.out; omega
  rcases hi5 with rfl | rfl | rfl | rfl | rfl
  ·
   replace Kga : Aside0 (wr.heap[ga]? = some (.cells #[.int .i64 0, .int .i64 0, .int .i64 0, .int .i64 0] 205 (0, 0))) := Kga; obtain ⟨gk, rfl⟩ : ∃ q, gk = q + 1 := ⟨gk - 1, y0_12⟩; have hcs := bc0 Kgl.out; have hfs := blk_frozen Kgl.out 0; have hfa := blk_frozen Kga.out 0
   go_wp2_with (first | ((with_reducible refine gate_callee (f := 176) rfl ?_); refine gB (some 48) Tryz.func176 #[.string s1] ?_; (with_reducible refine (impl_Number.calls k s1 n0 m0 _ A4.out).mono ?_); rintro e w' ⟨rfl, hb⟩; refine ⟨_, rfl, ?_⟩; replace Kgx := bk Kgx hb; replace Kgl := bk Kgl hb; replace Kga := bk Kga hb; replace HB := bs HB hb; clear hb hfa; have hfa := blk_frozen Kga.out 0; have hca := bc0 Kga.out))
   go_roundg gk
   case measure => omega
   case rel => exact ⟨1, y0_9, ⟨y0_12⟩, ⟨gI Kgx.out⟩, ⟨pI Kga⟩, ⟨gI Kgl.out⟩, ⟨bI HB.out⟩⟩
  ·
   replace Kga : Aside0 (wr.heap[ga]? = some (.cells #[.int .i64 n0, .int .i64 0, .int .i64 0, .int .i64 0] 205 (0, 0))) := Kga; obtain ⟨gk, rfl⟩ : ∃ q, gk = q + 1 := ⟨gk - 1, y0_12⟩; have hcs := bc1 Kgl.out; have hfs := blk_frozen Kgl.out 1; have hfa := blk_frozen Kga.out 1
   go_wp2_with (first | ((with_reducible refine gate_callee (f := 176) rfl ?_); refine gB (some 48) Tryz.func176 #[.string s4] ?_; (with_reducible refine (impl_Number.calls k s4 n1 m1 _ A5.out).mono ?_); rintro e w' ⟨rfl, hb⟩; refine ⟨_, rfl, ?_⟩; replace Kgx := bk Kgx hb; replace Kgl := bk Kgl hb; replace Kga := bk Kga hb; replace HB := bs HB hb; clear hb hfa; have hfa := blk_frozen Kga.out 1; have hca := bc1 Kga.out))
   go_roundg gk
   case measure => omega
   case rel => exact ⟨2, y0_9, ⟨y0_12⟩, ⟨gI Kgx.out⟩, ⟨pI Kga⟩, ⟨gI Kgl.out⟩, ⟨bI HB.out⟩⟩
  ·
   replace Kga : Aside0 (wr.heap[ga]? = some (.cells #[.int .i64 n0, .int .i64 n1, .int .i64 0, .int .i64 0] 205 (0, 0))) := Kga; obtain ⟨gk, rfl⟩ : ∃ q, gk = q + 1 := ⟨gk - 1, y0_12⟩; have hcs := bc2 Kgl.out; have hfs := blk_frozen Kgl.out 2; have hfa := blk_frozen Kga.out 2
   go_wp2_with (first | ((with_reducible refine gate_callee (f := 176) rfl ?_); refine gB (some 48) Tryz.func176 #[.string s7] ?_; (with_reducible refine (impl_Number.calls k s7 n2 m2 _ A6.out).mono ?_); rintro e w' ⟨rfl, hb⟩; refine ⟨_, rfl, ?_⟩; replace Kgx := bk Kgx hb; replace Kgl := bk Kgl hb; replace Kga := bk Kga hb; replace HB := bs HB hb; clear hb hfa; have hfa := blk_frozen Kga.out 2; have hca := bc2 Kga.out))
   go_roundg gk
   case measure => omega
   case rel => exact ⟨3, y0_9, ⟨y0_12⟩, ⟨gI Kgx.out⟩, ⟨pI Kga⟩, ⟨gI Kgl.out⟩, ⟨bI HB.out⟩⟩
  ·
   replace Kga : Aside0 (wr.heap[ga]? = some (.cells #[.int .i64 n0, .int .i64 n1, .int .i64 n2, .int .i64 0] 205 (0, 0))) := Kga; obtain ⟨gk, rfl⟩ : ∃ q, gk = q + 1 := ⟨gk - 1, y0_12⟩; have hcs := bc3 Kgl.out; have hfs := blk_frozen Kgl.out 3; have hfa := blk_frozen Kga.out 3
   go_wp2_with (first | ((with_reducible refine gate_callee (f := 176) rfl ?_); refine gB (some 48) Tryz.func176 #[.string s8] ?_; (with_reducible refine (impl_Number.calls k s8 n3 m3 _ A7.out).mono ?_); rintro e w' ⟨rfl, hb⟩; refine ⟨_, rfl, ?_⟩; replace Kgx := bk Kgx hb; replace Kgl := bk Kgl hb; replace Kga := bk Kga hb; replace HB := bs HB hb; clear hb hfa; have hfa := blk_frozen Kga.out 3; have hca := bc3 Kga.out))
   go_roundg gk
   case measure => omega
   case rel => exact ⟨4, y0_9, ⟨y0_12⟩, ⟨gI Kgx.out⟩, ⟨pI Kga⟩, ⟨gI Kgl.out⟩, ⟨bI HB.out⟩⟩
  replace Kga : Aside0 (wr.heap[ga]? = some (.cells #[.int .i64 n0, .int .i64 n1, .int .i64 n2, .int .i64 n3] 205 (0, 0))) := Kga; have H := HH.out; clear HH; obtain ⟨hca0, hca1, hca2, hca3, hfa0, hfa1, hfa2, hfa3⟩ := cs4 Kga; obtain ⟨hcx0, hcx1, hcx2, hcx3, hfx0, hfx1, hfx2, hfx3⟩ := cs4 Kgx
  by_cases cb : bk_ = true
  ·
   subst cb
   rw [if_pos rfl] at H
   obtain ⟨t_, A90, H⟩ := Option.bind_eq_some_iff.mp H; have A9 := Aside0.mk A90; clear A90
   by_cases ct : t_.toList = a0.toList
   ·
    rw [if_pos ct] at H
    have ctb0 : (t_.toList == a0.toList) = true := beq_iff_eq.mpr ct; have ctb1 : (t_.toList != a0.toList) = false := bne_eq_false_iff_eq.mpr ct; clear ct
    simp only [Option.some.injEq, Prod.mk.injEq] at H
    obtain ⟨rfl, rfl, rfl, rfl, rfl⟩ := H
    go_wp2_with (first | ((with_reducible refine gd 15 ?_); refine bA 15 #[.int .i64 0, .int .i64 0, .int .i64 0, .int .i64 0] 156 ?_; intro gv hg w' hbox hb; have Kgv := Aside0.mk hbox; have GWgv := bg hg HB; have GJgv := gi GWgv; have Ngxgv := b1 Kgx hg; have NIgxgv := ni Ngxgv; have Ngvgx := b2 Kgx hg; have NIgvgx := ni Ngvgx; replace Kgx := bk Kgx hb; have Ngagv := b1 Kga hg; have NIgagv := ni Ngagv; have Ngvga := b2 Kga hg; have NIgvga := ni Ngvga; replace Kga := bk Kga hb; replace HB := bs HB hb; clear hb hbox hg; obtain ⟨hcv0, hcv1, hcv2, hcv3, hfv0, hfv1, hfv2, hfv3⟩ := cs4 Kgv; have hn1 := Ngxgv.out; have hn2 := Ngvgx.out) | (go_at_call 206; (with_reducible refine (impl_TxOk.calls n0 n1 n2 n3 true _ A8.out).mono ?_); rintro e w' ⟨rfl, hb⟩; replace Kgx := Aside0.mk (blk_below (gI Kgx.out) hb); replace Kgv := bp Kgv hb #[.int .i64 n0, .int .i64 n1, .int .i64 n2, .int .i64 n3]; replace HB := bs HB hb; clear hb; obtain ⟨hcx0, hcx1, hcx2, hcx3, hfx0, hfx1, hfx2, hfx3⟩ := cs4 Kgx; obtain ⟨hcv0, hcv1, hcv2, hcv3, hfv0, hfv1, hfv2, hfv3⟩ := cs4 Kgv) | (go_at_call 207; (with_reducible refine (impl_TxText.calls n0 n1 n2 n3 t_ _ A9.out).mono ?_); rintro e w' ⟨rfl, hb⟩; replace Kgx := Aside0.mk (blk_below (gI Kgx.out) hb); replace Kgv := bp Kgv hb #[.int .i64 n0, .int .i64 n1, .int .i64 n2, .int .i64 n3]; replace HB := bs HB hb; clear hb; obtain ⟨hcx0, hcx1, hcx2, hcx3, hfx0, hfx1, hfx2, hfx3⟩ := cs4 Kgx; obtain ⟨hcv0, hcv1, hcv2, hcv3, hfv0, hfv1, hfv2, hfv3⟩ := cs4 Kgv))
    refine bodyPost_ret (results_ct rfl _ _ gx 156 #[.int .i64 n0, .int .i64 n1, .int .i64 n2, .int .i64 n3] (0, 0) _ rfl (pI Kgx) Tryz.underlying156 rfl (by kernel_rfl)) rfl ?_
    exact ⟨y0_8, bI HB.out⟩
   rw [if_neg ct] at H
   have ctb0 : (t_.toList == a0.toList) = false := beq_eq_false_iff_ne.mpr ct; have ctb1 : (t_.toList != a0.toList) = true := bne_iff_ne.mpr ct
   simp only [Option.some.injEq, Prod.mk.injEq] at H
   obtain ⟨rfl, rfl, rfl, rfl, rfl⟩ := H
   go_wp2_with (first | ((with_reducible refine gd 15 ?_); refine bA 15 #[.int .i64 0, .int .i64 0, .int .i64 0, .int .i64 0] 156 ?_; intro gv hg w' hbox hb; have Kgv := Aside0.mk hbox; have GWgv := bg hg HB; have GJgv := gi GWgv; have Ngxgv := b1 Kgx hg; have NIgxgv := ni Ngxgv; have Ngvgx := b2 Kgx hg; have NIgvgx := ni Ngvgx; replace Kgx := bk Kgx hb; have Ngagv := b1 Kga hg; have NIgagv := ni Ngagv; have Ngvga := b2 Kga hg; have NIgvga := ni Ngvga; replace Kga := bk Kga hb; replace HB := bs HB hb; clear hb hbox hg; obtain ⟨hcv0, hcv1, hcv2, hcv3, hfv0, hfv1, hfv2, hfv3⟩ := cs4 Kgv; have hn1 := Ngxgv.out; have hn2 := Ngvgx.out) | (go_at_call 206; (with_reducible refine (impl_TxOk.calls n0 n1 n2 n3 true _ A8.out).mono ?_); rintro e w' ⟨rfl, hb⟩; replace Kgx := Aside0.mk (blk_below (gI Kgx.out) hb); replace Kgv := bp Kgv hb #[.int .i64 n0, .int .i64 n1, .int .i64 n2, .int .i64 n3]; replace HB := bs HB hb; clear hb; obtain ⟨hcx0, hcx1, hcx2, hcx3, hfx0, hfx1, hfx2, hfx3⟩ := cs4 Kgx; obtain ⟨hcv0, hcv1, hcv2, hcv3, hfv0, hfv1, hfv2, hfv3⟩ := cs4 Kgv) | (go_at_call 207; (with_reducible refine (impl_TxText.calls n0 n1 n2 n3 t_ _ A9.out).mono ?_); rintro e w' ⟨rfl, hb⟩; replace Kgx := Aside0.mk (blk_below (gI Kgx.out) hb); replace Kgv := bp Kgv hb #[.int .i64 n0, .int .i64 n1, .int .i64 n2, .int .i64 n3]; replace HB := bs HB hb; clear hb; obtain ⟨hcx0, hcx1, hcx2, hcx3, hfx0, hfx1, hfx2, hfx3⟩ := cs4 Kgx; obtain ⟨hcv0, hcv1, hcv2, hcv3, hfv0, hfv1, hfv2, hfv3⟩ := cs4 Kgv))
   refine bodyPost_ret (results_ct rfl _ _ gx 156 #[.int .i64 0, .int .i64 0, .int .i64 0, .int .i64 0] (0, 0) _ rfl (pI Kgx) Tryz.underlying156 rfl (by kernel_rfl)) rfl ?_
   exact ⟨y0_8, bI HB.out⟩
  replace cb := Bool.eq_false_iff.mpr cb; subst cb
  rw [if_neg Bool.false_ne_true] at H
  simp only [Option.some.injEq, Prod.mk.injEq] at H
  obtain ⟨rfl, rfl, rfl, rfl, rfl⟩ := H
  go_wp2_with (first | ((with_reducible refine gd 15 ?_); refine bA 15 #[.int .i64 0, .int .i64 0, .int .i64 0, .int .i64 0] 156 ?_; intro gv hg w' hbox hb; have Kgv := Aside0.mk hbox; have GWgv := bg hg HB; have GJgv := gi GWgv; have Ngxgv := b1 Kgx hg; have NIgxgv := ni Ngxgv; have Ngvgx := b2 Kgx hg; have NIgvgx := ni Ngvgx; replace Kgx := bk Kgx hb; have Ngagv := b1 Kga hg; have NIgagv := ni Ngagv; have Ngvga := b2 Kga hg; have NIgvga := ni Ngvga; replace Kga := bk Kga hb; replace HB := bs HB hb; clear hb hbox hg; obtain ⟨hcv0, hcv1, hcv2, hcv3, hfv0, hfv1, hfv2, hfv3⟩ := cs4 Kgv; have hn1 := Ngxgv.out; have hn2 := Ngvgx.out) | (go_at_call 206; (with_reducible refine (impl_TxOk.calls n0 n1 n2 n3 false _ A8.out).mono ?_); rintro e w' ⟨rfl, hb⟩; replace Kgx := Aside0.mk (blk_below (gI Kgx.out) hb); replace Kgv := bp Kgv hb #[.int .i64 n0, .int .i64 n1, .int .i64 n2, .int .i64 n3]; replace HB := bs HB hb; clear hb; obtain ⟨hcx0, hcx1, hcx2, hcx3, hfx0, hfx1, hfx2, hfx3⟩ := cs4 Kgx; obtain ⟨hcv0, hcv1, hcv2, hcv3, hfv0, hfv1, hfv2, hfv3⟩ := cs4 Kgv))
  refine bodyPost_ret (results_ct rfl _ _ gx 156 #[.int .i64 0, .int .i64 0, .int .i64 0, .int .i64 0] (0, 0) _ rfl (pI Kgx) Tryz.underlying156 rfl (by kernel_rfl)) rfl ?_
  exact ⟨y0_8, bI HB.out⟩
def impl_TxsOf.l0 : Nat → List (S156) → List ByteArray → Int → Int → Option ((List (S156)) × Bool)
 | 0, _, _, _, _ => none
 | k + 1, x4, x12, x13, x14 => if x14 < x13 then (if 0 ≤ x14 then (if x14 < (x12.length : Int) then ((impl_TxOf.f k (rdOf ByteArray.empty x12 x14)).bind fun bt341 => (if bt341.2.2.2.2 = true then (if x4.length < 4398046511104 then (impl_TxsOf.l0 k (x4 ++ [(⟨bt341.1, bt341.2.1, bt341.2.2.1, bt341.2.2.2.1⟩ : S156)]) x12 x13 (wrap64 (x14 + 1))) else (none)) else (some (([] : List (S156)), false)))) else (none)) else (none)) else (some (x4, true))
def impl_TxsOf.f (k : Nat) (a0 : ByteArray) : Option ((List (S156)) × Bool) := if a0.toList = ([] : List UInt8) then (some (([] : List (S156)), true)) else ((impl_Split.f a0 44).bind fun t337 => (impl_TxsOf.l0 k ([] : List (S156)) t337 (t337.length : Int) 0))
theorem impl_TxsOf.mono_l : ∀ k, (∀ y0 y1 y2 y3, LeO (impl_TxsOf.l0 k y0 y1 y2 y3) (impl_TxsOf.l0 (k + 1) y0 y1 y2 y3))
 | 0 => fun _ _ _ _ r h => by simp [impl_TxsOf.l0] at h
 | k + 1 => by
  have ih0 := impl_TxsOf.mono_l k
  intro y0 y1 y2 y3
  unfold impl_TxsOf.l0
  repeat' first | (with_reducible exact ih0 _ _ _ _) | (with_reducible exact impl_TxOf.mono _ _) | (with_reducible exact LeO.refl _) | (with_reducible exact LeO.none _) | (with_reducible refine LeO.ite ?_ ?_) | (with_reducible refine LeO.bind ?_ (fun _ => ?_))
theorem impl_TxsOf.mono : ∀ a0 k, LeO (impl_TxsOf.f k a0) (impl_TxsOf.f (k + 1) a0) := by
 intro a0 k
 have ih0 := impl_TxsOf.mono_l k
 unfold impl_TxsOf.f
 repeat' first | (with_reducible exact ih0 _ _ _ _) | (with_reducible exact impl_TxOf.mono _ _) | (with_reducible exact LeO.refl _) | (with_reducible exact LeO.none _) | (with_reducible refine LeO.ite ?_ ?_) | (with_reducible refine LeO.bind ?_ (fun _ => ?_))
theorem impl_TxsOf.calls (k : Nat) (a0 : ByteArray) (r1 : List (S156)) (r2 : Bool) (w : World) (h : impl_TxsOf.f k a0 = some (r1, r2)) (hG : Glob w := by exact gG HG HB) :
  Calls Tryz.prog 177 #[.string a0] w fun e w' => ∃ v0_ : Value, e = .returned (.tuple #[v0_, .bool r2]) ∧ Kd.R k156 156 w' w.heap.size (fun _ => True) v0_ r1 ∧ Below w.heap.size w w' := by
 have HG := Aside0.mk hG; clear hG; have hu156 := Tryz.underlying156; have HB := Aside0.mk (Below.refl w.heap.size w)
 have H := h; unfold impl_TxsOf.f at H
 clear h
 go_enter Tryz.func177, Tryz.ntmps177
 have H' := Aside0.mk H; clear H
 go_upto_if 10 with fail
 have H := H'.out; clear H'
 by_cases c2 : a0.toList = ([] : List UInt8)
 ·
  rw [if_pos c2] at H
  have c2b0 : (a0.toList == ([] : List UInt8)) = true := beq_iff_eq.mpr c2; have c2b1 : (a0.toList != ([] : List UInt8)) = false := bne_eq_false_iff_eq.mpr c2; clear c2
  (first | rw [c2b0] | (simp only [i64_w, i32_w]; rw [c2b0]) | rw [show List.isEmpty (a0.toList) = true from by simpa using c2b0] | skip)
  simp only [Option.some.injEq, Prod.mk.injEq] at H
  obtain ⟨rfl, rfl⟩ := H
  go_wp2
  go_ret2
  exact ⟨_, y0_8, Kd.R_nil _ _ _ _ _, UpW.out⟩
 rw [if_neg c2] at H
 have c2b0 : (a0.toList == ([] : List UInt8)) = false := beq_eq_false_iff_ne.mpr c2; have c2b1 : (a0.toList != ([] : List UInt8)) = true := bne_iff_ne.mpr c2
 (first | rw [c2b0] | (simp only [i64_w, i32_w]; rw [c2b0]) | rw [show List.isEmpty (a0.toList) = false from by simpa using c2b0] | skip)
 obtain ⟨t337, A3, H⟩ := oB H; (try dsimp only at H); have H' := Aside0.mk H; clear H
 go_wp2_with (first | ((with_reducible refine gate_callee (f := 174) rfl ?_); refine gC1 (some 12) Tryz.func174 (impl_Split.calls (w := _) (h := A3.out)) ?_; intro Ao338 co338 w4 _ HO339))
 refine wC ?_; intro w5 _
 go_loopg [4, 14] k (fun kq v4 v14 w' => ∃ (x4_1 : List (S156)) (x14_1 : Int) (Ao4_1 : Option Addr) (co4_1 : Nat), v4 = .slice Ao4_1 x4_1.length co4_1 ∧ v14 = .int .i64 x14_1 ∧ Aside0 (impl_TxsOf.l0 kq x4_1 t337 (t337.length : Int) x14_1 = some (r1, r2)) ∧ Aside0 (kq ≤ k) ∧ Aside0 (Kd.R k156 156 w' w5.heap.size (iv w5 w') (.slice Ao4_1 x4_1.length co4_1) x4_1) ∧ KT w5 [] w5 _ k156 156 w' ∧ LB w w')
 case atStart => exact ⟨(([] : List (S156))), (0), (none), (0), y0_8, y0_8, H', ⟨Nat.le_refl _⟩, ⟨Kd.R_nil _ _ _ _ _⟩, ⟨UpT.out⟩, ⟨UpW.out⟩⟩
 case round =>
  clear H'; obtain ⟨x4_1, x14_1, Ao4_1, co4_1, rfl, rfl, HA, HK1, HO_4, _, _⟩ := hrel; have HO_12 := HO339; cases gk with
  | zero => exact absurd HA.out (by simp [impl_TxsOf.l0])
  | succ k1 =>
   have H := HA.out; clear HA
   simp only [impl_TxsOf.l0] at H
   by_cases c6 : x14_1 < (t337.length : Int)
   ·
    rw [if_pos c6] at H
    have c6b0 : decide (x14_1 < (t337.length : Int)) = true := decide_eq_true c6; clear c6
    by_cases c7 : 0 ≤ x14_1
    rotate_left
    ·
     rw [if_neg c7] at H
     exact absurd H (by simp)
    rw [if_pos c7] at H
    have c7b0 : decide (0 ≤ x14_1) = true := decide_eq_true c7; clear c7
    by_cases c8 : x14_1 < (t337.length : Int)
    rotate_left
    ·
     rw [if_neg c8] at H
     exact absurd H (by simp)
    rw [if_pos c8] at H
    have c8b0 : decide (x14_1 < (t337.length : Int)) = true := decide_eq_true c8; clear c8; obtain ⟨⟨t341, t342, t343, t344, t345⟩, A9, H⟩ := oB H; (try dsimp only at H); have H' := Aside0.mk H; clear H; have p340 : 0 ≤ (x14_1 : Int) := of_decide_eq_true y0_7; have q340 : x14_1 < (t337.length : Int) := of_decide_eq_true y0_7; obtain ⟨ad340, e340, hx340_0⟩ := Kd.at_string (rC (W := w4) HO_12) x14_1 p340 q340; cases e340; clear hx340_0
    have hx340_0 : ∀ W_, UpR Kd.string 9 w4 W_ → W_.cell? (ad340.add (x14_1 : Int).toNat) = some (.string (rdOf ByteArray.empty t337 x14_1)) := fun W_ u_ => (by obtain ⟨ad_, e_, h0_⟩ := Kd.at_string (rC (W := W_) HO_12) x14_1 p340 q340; cases e_; exact h0_)
    have i340_0_ := RdR.mk hx340_0; clear hx340_0; replace p340 := eq_true p340; replace q340 := eq_true q340
    go_upto_if 24 with (first | ((with_reducible refine gate_callee (f := 198) rfl ?_); refine gC (some 20) Tryz.func198 (impl_TxOf.calls (w := _) (h := A9.out)) ?_; intro w10 _) | ((with_reducible refine gd 7 ?_); refine bL 7 #[.int .i64 0, .int .i64 0, .int .i64 0, .int .i64 0] 156 ?_; intro gb346 w11 _ _ _))
    have H := H'.out; clear H'
    by_cases c12 : t345 = true
    ·
     subst c12
     rw [if_pos rfl] at H
     by_cases c13 : x4_1.length < 4398046511104
     rotate_left
     ·
      rw [if_neg c13] at H
      exact absurd H (by simp)
     rw [if_pos c13] at H
     have LMc13 := Aside0.mk c13; clear c13; obtain ⟨y347, hy347⟩ : ∃ y_ : List (S156), y_ = (x4_1 ++ [(⟨t341, t342, t343, t344⟩ : S156)]) := ⟨_, rfl⟩
     replace H : (impl_TxsOf.l0 k1 y347 t337 (t337.length : Int) (wrap64 (x14_1 + 1))) = some (r1, r2) := by first | (rw [hy347]; with_reducible exact H) | (rw [hy347]; with_reducible exact (Option.bind_some _ _).symm.trans H) | (rw [hy347]; exact H) | exact H
     have Ny347 := Aside0.mk hy347; clear hy347; have H' := Aside0.mk H; clear H
     go_wp2_with (first | ((with_reducible refine gate_builtin (b := .append) (xs := #[.tmp 25, .tmp 27]) rfl ?_); at_builtin; refine gA k156 (.tmp 25) (.tmp 27) 154 156 (.agg #[(.int .i64 0), (.int .i64 0), (.int .i64 0), (.int .i64 0)]) 32 (⟨t341, t342, t343, t344⟩ : S156) [.int .i64 t341, .int .i64 t342, .int .i64 t343, .int .i64 t344] w5 Ny347 HO_4 (k156_mkM _ _ _ (⟨t341, t342, t343, t344⟩ : S156)) (by have := LMc13.out; omega) ?_ (ht := Tryz.underlying154) (hinfo := info156); intro Ao348 co348 w14 _ _ HO349))
     go_roundg k1
     case measure => have := HK1.out; omega
     case rel => exact ⟨(y347), (wrap64 (x14_1 + 1)), (Ao348), (co348), y0_8, y0_8, H', ⟨y0_11⟩, ⟨rJ HO349⟩, ⟨UpT.out⟩, ⟨UpW.out⟩⟩
    replace c12 := Bool.eq_false_iff.mpr c12; subst c12
    rw [if_neg Bool.false_ne_true] at H
    simp only [Option.some.injEq, Prod.mk.injEq] at H
    obtain ⟨rfl, rfl⟩ := H
    go_wp2
    go_ret2
    exact ⟨_, y0_8, Kd.R_nil _ _ _ _ _, UpW.out⟩
   rw [if_neg c6] at H
   have c6b0 : decide (x14_1 < (t337.length : Int)) = false := decide_eq_false c6; clear c6
   simp only [Option.some.injEq, Prod.mk.injEq] at H
   obtain ⟨rfl, rfl⟩ := H
   go_wp2
   go_ret2
   exact ⟨_, y0_8, rR HO_4, UpW.out⟩
mutual
def impl_Steps.j0 : Nat → List ByteArray → Bool → Option ((List (S163)) × Bool)
 | 0, _, _ => none
 | k + 1, x4, x29 => if x29 = true then (some (([] : List (S163)), false)) else (if 1 ≤ (x4.length : Int) then ((some (x4.drop 1 : List ByteArray)).bind fun y354 => (impl_Steps.l0 k ([] : List (S163)) 0 y354 (y354.length : Int) 0)) else (none))
def impl_Steps.l0 : Nat → List (S163) → Int → List ByteArray → Int → Int → Option ((List (S163)) × Bool)
 | 0, _, _, _, _, _ => none
 | k + 1, x5, x6, x31, x32, x33 => if x33 < x32 then (if 0 ≤ x33 then (if x33 < (x31.length : Int) then ((strings_Cut.f (rdOf ByteArray.empty x31 x33) (⟨#[124]⟩ : ByteArray)).bind fun bt359 => ((impl_Number.f k bt359.1).bind fun bt362 => ((impl_TxsOf.f k bt359.2.1).bind fun bt364 => (if bt359.2.2 = true then (if bt362.2 = true then (if bt364.2 = true then ((impl_within.f bt362.1 (wrap64 (x6 + 1)) 60).bind fun t368 => (if t368 = true then (if (bt364.1.length : Int) > 2 then (some (([] : List (S163)), false)) else (if x5.length < 4398046511104 then (impl_Steps.l0 k (x5 ++ [(⟨bt362.1, bt364.1⟩ : S163)]) bt362.1 x31 x32 (wrap64 (x33 + 1))) else (none))) else (some (([] : List (S163)), false)))) else (some (([] : List (S163)), false))) else (some (([] : List (S163)), false))) else (some (([] : List (S163)), false)))))) else (none)) else (none)) else (some (x5, true))
end
def impl_Steps.f (k : Nat) (a0 : ByteArray) : Option ((List (S163)) × Bool) := if a0.toList = ([] : List UInt8) then (some (([] : List (S163)), true)) else ((impl_Split.f a0 47).bind fun t350 => (if 0 < (t350.length : Int) then (if (rdOf ByteArray.empty t350 0).toList = ([] : List UInt8) then (impl_Steps.j0 k t350 (decide ((wrap64 ((t350.length : Int) - 1)) > 30))) else (impl_Steps.j0 k t350 true)) else (none)))
theorem impl_Steps.mono_l : ∀ k, (∀ y0 y1, LeO (impl_Steps.j0 k y0 y1) (impl_Steps.j0 (k + 1) y0 y1)) ∧ (∀ y0 y1 y2 y3 y4, LeO (impl_Steps.l0 k y0 y1 y2 y3 y4) (impl_Steps.l0 (k + 1) y0 y1 y2 y3 y4))
 | 0 => ⟨fun _ _ r h => by simp [impl_Steps.j0] at h, fun _ _ _ _ _ r h => by simp [impl_Steps.l0] at h⟩
 | k + 1 => by
  obtain ⟨ih0, ih1⟩ := impl_Steps.mono_l k
  refine ⟨?_, ?_⟩
  ·
   intro y0 y1
   unfold impl_Steps.j0
   repeat' first | (with_reducible exact ih0 _ _) | (with_reducible exact ih1 _ _ _ _ _) | (with_reducible exact impl_Number.mono _ _) | (with_reducible exact impl_TxsOf.mono _ _) | (with_reducible exact LeO.refl _) | (with_reducible exact LeO.none _) | (with_reducible refine LeO.ite ?_ ?_) | (with_reducible refine LeO.bind ?_ (fun _ => ?_))
  intro y0 y1 y2 y3 y4
  unfold impl_Steps.l0
  repeat' first | (with_reducible exact ih0 _ _) | (with_reducible exact ih1 _ _ _ _ _) | (with_reducible exact impl_Number.mono _ _) | (with_reducible exact impl_TxsOf.mono _ _) | (with_reducible exact LeO.refl _) | (with_reducible exact LeO.none _) | (with_reducible refine LeO.ite ?_ ?_) | (with_reducible refine LeO.bind ?_ (fun _ => ?_))
theorem impl_Steps.mono : ∀ a0 k, LeO (impl_Steps.f k a0) (impl_Steps.f (k + 1) a0) := by
 intro a0 k
 obtain ⟨ih0, ih1⟩ := impl_Steps.mono_l k
 unfold impl_Steps.f
 repeat' first | (with_reducible exact ih0 _ _) | (with_reducible exact ih1 _ _ _ _ _) | (with_reducible exact impl_Number.mono _ _) | (with_reducible exact impl_TxsOf.mono _ _) | (with_reducible exact LeO.refl _) | (with_reducible exact LeO.none _) | (with_reducible refine LeO.ite ?_ ?_) | (with_reducible refine LeO.bind ?_ (fun _ => ?_))
theorem impl_Steps.calls (k : Nat) (a0 : ByteArray) (r1 : List (S163)) (r2 : Bool) (w : World) (h : impl_Steps.f k a0 = some (r1, r2)) (hG : Glob w := by exact gG HG HB) :
  Calls Tryz.prog 151 #[.string a0] w fun e w' => ∃ v0_ : Value, e = .returned (.tuple #[v0_, .bool r2]) ∧ Kd.S k163 163 w' w.heap.size (fun _ => True) v0_ r1 ∧ Below w.heap.size w w' := by
 have HG := Aside0.mk hG; clear hG; have hu163 := Tryz.underlying163; have HB := Aside0.mk (Below.refl w.heap.size w)
 have H := h; unfold impl_Steps.f at H
 clear h
 by_cases c2 : a0.toList = ([] : List UInt8)
 ·
  rw [if_pos c2] at H
  have c2b0 : (a0.toList == ([] : List UInt8)) = true := beq_iff_eq.mpr c2; have c2b1 : (a0.toList != ([] : List UInt8)) = false := bne_eq_false_iff_eq.mpr c2; clear c2
  simp only [Option.some.injEq, Prod.mk.injEq] at H
  obtain ⟨rfl, rfl⟩ := H
  go_enter Tryz.func151, Tryz.ntmps151
  go_wp2
  go_ret2
  exact ⟨_, y0_3, y0_0, bI HB.out⟩
 rw [if_neg c2] at H
 have c2b0 : (a0.toList == ([] : List UInt8)) = false := beq_eq_false_iff_ne.mpr c2; have c2b1 : (a0.toList != ([] : List UInt8)) = true := bne_iff_ne.mpr c2; obtain ⟨t350, A3, H⟩ := oB H; (try dsimp only at H); have HC4 := Aside0.mk H; clear H
 go_enter Tryz.func151, Tryz.ntmps151
 go_upto_region 4 with (first | ((with_reducible refine gate_callee (f := 174) rfl ?_); refine gB (some 19) Tryz.func174 #[.string a0, .int .u8 47] ?_; (with_reducible refine (impl_Split.calls a0 47 t350 _ A3.out).mono ?_); rintro e w5 ⟨v351, rfl, ho0, hb⟩; refine ⟨_, rfl, ?_⟩; have HO352 := Aside0.mk (Kd.R_lower ho0 (below_size (bI HB.out))); replace HB := bs HB hb; (try clear hb); (try clear ho0)))
 (try simp only [Act.put, List.setIfInBounds_toArray, List.set_cons_zero, List.set_cons_succ])
 go_cut [29] (fun v29 wc => ∃ (kq : Nat) (x29_3 : Bool), v29 = .bool x29_3 ∧ Aside0 (impl_Steps.j0 kq t350 x29_3 = some (r1, r2)) ∧ Aside0 (kq ≤ k) ∧ Aside0 (Kd.R Kd.string 9 wc w.heap.size (fun _ => True) v351 t350) ∧ Aside0 (Below w.heap.size w wc))
 case first =>
  have H := HC4.out; clear HC4
  by_cases c6 : 0 < (t350.length : Int)
  rotate_left
  ·
   rw [if_neg c6] at H
   exact absurd H (by simp)
  rw [if_pos c6] at H
  have c6b0 : decide (0 < (t350.length : Int)) = true := decide_eq_true c6
  have c6b1 : decide (0 < t350.length) = true := decide_eq_true (by omega)
  clear c6
  (first | rw [c6b0] | rw [c6b1] | (simp only [i64_w, i32_w]; rw [c6b0]) | skip)
  by_cases c7 : (rdOf ByteArray.empty t350 0).toList = ([] : List UInt8)
  ·
   rw [if_pos c7] at H
   have c7b0 : ((rdOf ByteArray.empty t350 0).toList == ([] : List UInt8)) = true := beq_iff_eq.mpr c7; have c7b1 : ((rdOf ByteArray.empty t350 0).toList != ([] : List UInt8)) = false := bne_eq_false_iff_eq.mpr c7; clear c7; have H' := Aside0.mk H; clear H; obtain ⟨Ao8, co8, eo8⟩ := Kd.R_slice HO352.out; subst eo8
   have p353 : 0 ≤ (0 : Int) := (by omega)
   have q353 : 0 < (t350.length : Int) := of_decide_eq_true y0_7; obtain ⟨ad353, e353, hx353_0⟩ := Kd.at_string (Kd.R_reads' HO352.out).2.2 0 p353 q353; cases e353
   have qi353 : (0 < t350.length) = True := eq_true (by omega)
   (try rw [show ((0 : Int)).toNat = 0 from rfl] at hx353_0)
   (try rw [Addr.add_zero'] at hx353_0)
   replace p353 := eq_true p353; replace q353 := eq_true q353
   go_wp2
   go_meet
   case rel => exact ⟨_, (decide ((wrap64 ((t350.length : Int) - 1)) > 30)), y0_8, H', ⟨by first | omega | exact Nat.le_refl _⟩, ⟨by (with_reducible repeat (first | apply Kd.R_alloc | apply Kd.R_drewN | apply Kd.R_drew)); exact HO352.out⟩, ⟨bI HB.out⟩⟩
  rw [if_neg c7] at H
  have c7b0 : ((rdOf ByteArray.empty t350 0).toList == ([] : List UInt8)) = false := beq_eq_false_iff_ne.mpr c7; have c7b1 : ((rdOf ByteArray.empty t350 0).toList != ([] : List UInt8)) = true := bne_iff_ne.mpr c7; have H' := Aside0.mk H; clear H; obtain ⟨Ao9, co9, eo9⟩ := Kd.R_slice HO352.out; subst eo9
  have p353 : 0 ≤ (0 : Int) := (by omega)
  have q353 : 0 < (t350.length : Int) := of_decide_eq_true y0_7; obtain ⟨ad353, e353, hx353_0⟩ := Kd.at_string (Kd.R_reads' HO352.out).2.2 0 p353 q353; cases e353
  have qi353 : (0 < t350.length) = True := eq_true (by omega)
  (try rw [show ((0 : Int)).toNat = 0 from rfl] at hx353_0)
  (try rw [Addr.add_zero'] at hx353_0)
  replace p353 := eq_true p353; replace q353 := eq_true q353
  go_wp2
  go_meet
  case rel => exact ⟨_, (true), y0_8, H', ⟨by first | omega | exact Nat.le_refl _⟩, ⟨by (with_reducible repeat (first | apply Kd.R_alloc | apply Kd.R_drewN | apply Kd.R_drew)); exact HO352.out⟩, ⟨bI HB.out⟩⟩
 case rest =>
  clear HC4
  try clear c1
  try clear c2
  try clear c2b0
  try clear c2b1
  try clear p2
  try clear p3
  try clear q3
  try clear hx3
  try clear qi3
  try clear c6
  try clear c6b0
  try clear c6b1
  try clear p6
  try clear c7
  try clear c7b0
  try clear c7b1
  try clear hx353_0
  try clear p353
  try clear q353
  obtain ⟨kq, x29_3, rfl, HA, HJ3, HO_4, HB⟩ := hcut; cases kq with
  | zero => exact absurd HA.out (by simp [impl_Steps.j0])
  | succ kj3 =>
   have H := HA.out; clear HA
   simp only [impl_Steps.j0] at H
   by_cases c10 : x29_3 = true
   ·
    subst c10
    rw [if_pos rfl] at H
    simp only [Option.some.injEq, Prod.mk.injEq] at H
    obtain ⟨rfl, rfl⟩ := H
    go_wp2
    go_ret2
    exact ⟨_, y0_3, y0_0, bI HB.out⟩
   replace c10 := Bool.eq_false_iff.mpr c10; subst c10
   rw [if_neg Bool.false_ne_true] at H
   by_cases c11 : 1 ≤ (t350.length : Int)
   ·
    rw [if_pos c11] at H
    have c11b0 := eq_true c11; have c11b1 : decide (1 ≤ (t350.length : Int)) = true := decide_eq_true c11; clear c11; obtain ⟨y354, hy354⟩ : ∃ y_ : List ByteArray, y_ = (t350.drop 1) := ⟨_, rfl⟩
    replace H : (impl_Steps.l0 kj3 ([] : List (S163)) 0 y354 (y354.length : Int) 0) = some (r1, r2) := by first | (rw [hy354]; with_reducible exact H) | (rw [hy354]; with_reducible exact (Option.bind_some _ _).symm.trans H) | (rw [hy354]; exact H) | exact H
    have Ny354 := Aside0.mk hy354; clear hy354; have H' := Aside0.mk H; clear H; obtain ⟨Ao13, co13, eo13⟩ := Kd.R_slice HO_4.out; subst eo13; have q12 : (1 : Int) ≤ ((t350.length : Int) : Int) := of_decide_eq_true y0_7; obtain ⟨i012, hi012, _, hsz12, _⟩ := info_parts info9; have hroom12 : t350.length ≤ co13 := (Kd.R_reads' HO_4.out).2.1; have hC12 : Kd.C Kd.string _ Ao13 t350.length t350 := (Kd.R_reads' HO_4.out).2.2
    have hcut12 := cut_from (P := Tryz.prog) 178 9 .i64 Tryz.underlying178 hi012 1 hsz12 Ao13 t350.length co13 1 (by omega) q12
    have hr12 := Kd.C_drop (m := (1 : Int).toNat) (c := co13) hC12 (by omega) hroom12
    obtain ⟨A12, hA12⟩ : ∃ A1, A1 = (if co13 = (1 : Int).toNat then Ao13 else (Ao13 : Option Addr).map (·.add ((1 : Int).toNat * 1))) := ⟨_, rfl⟩
    obtain ⟨c12, hc12⟩ : ∃ c1, c1 = co13 - (1 : Int).toNat := ⟨_, rfl⟩
    have hy12 : y354.length = t350.length - (1 : Int).toNat := (by rw [Ny354.out, List.length_drop] <;> omega)
    rw [show (t350).drop (1 : Int).toNat = y354 from Ny354.out.symm] at hr12
    replace hr12 : Kd.C Kd.string _ A12 y354.length y354 := (by rw [hA12]; exact hr12)
    rw [← hy12, ← hA12, ← hc12] at hcut12
    have HR357 := Aside0.mk hr12
    have HC357 := Aside0.mk (show y354.length ≤ c12 from by rw [hy12, hc12]; exact Nat.sub_le_sub_right hroom12 _)
    clear hr12 hC12 hroom12 hi012 hsz12 hc12; have KY12 := Aside0.mk hy12; have KA12 := Aside0.mk hA12; clear hy12 hA12
    have KL12 := Aside0.mk (show 1 ≤ t350.length from by omega)
    replace q12 := eq_true q12
    go_wp2
    have HB0 := HB; replace HG := Aside0.mk (HG.out.below HB.out); replace HB := Aside0.mk (Below.refl wc.heap.size wc)
    go_loopg [5, 6, 33] kj3 (fun kq v5 v6 v33 w' => ∃ (x5_2 : List (S163)) (x6_2 : Int) (x33_2 : Int), v6 = .int .i64 x6_2 ∧ v33 = .int .i64 x33_2 ∧ Aside0 (impl_Steps.l0 kq x5_2 x6_2 y354 (y354.length : Int) x33_2 = some (r1, r2)) ∧ Aside0 (kq ≤ kj3) ∧ Aside0 (Kd.S k163 163 w' wc.heap.size (fun _ => True) v5 x5_2) ∧ Aside0 (Below wc.heap.size wc w'))
    case atStart => exact ⟨(([] : List (S163))), (0), (0), y0_8, y0_8, H', ⟨Nat.le_refl _⟩, ⟨y0_0⟩, ⟨bI HB.out⟩⟩
    case round =>
     clear H'
     try clear c1
     try clear q1
     try clear c2
     try clear c2b0
     try clear c2b1
     try clear p2
     try clear p3
     try clear q3
     try clear hx3
     try clear qi3
     try clear c6
     try clear c6b0
     try clear c6b1
     try clear p6
     try clear c7
     try clear c7b0
     try clear c7b1
     try clear c10
     try clear c11
     try clear c11b0
     try clear c11b1
     try clear c12
     try clear q12
     try clear hx353_0
     try clear p2
     try clear p3
     try clear p353
     try clear p6
     try clear q12
     try clear q3
     try clear q353
     obtain ⟨x5_2, x6_2, x33_2, rfl, rfl, HA, HK2, HO_5, HB⟩ := hrel; cases gk with
     | zero => exact absurd HA.out (by simp [impl_Steps.l0])
     | succ k2 =>
      have H := HA.out; clear HA
      simp only [impl_Steps.l0] at H
      by_cases c14 : x33_2 < (y354.length : Int)
      ·
       rw [if_pos c14] at H
       have c14b0 : decide (x33_2 < (y354.length : Int)) = true := decide_eq_true c14; clear c14
       by_cases c15 : 0 ≤ x33_2
       rotate_left
       ·
        rw [if_neg c15] at H
        exact absurd H (by simp)
       rw [if_pos c15] at H
       have c15b0 : decide (0 ≤ x33_2) = true := decide_eq_true c15; clear c15
       by_cases c16 : x33_2 < (y354.length : Int)
       rotate_left
       ·
        rw [if_neg c16] at H
        exact absurd H (by simp)
       rw [if_pos c16] at H
       have c16b0 : decide (x33_2 < (y354.length : Int)) = true := decide_eq_true c16; clear c16; obtain ⟨⟨t359, t360, t361⟩, A17, H⟩ := oB H; (try dsimp only at H); obtain ⟨⟨t362, t363⟩, A18, H⟩ := oB H; (try dsimp only at H); obtain ⟨⟨t364, t365⟩, A19, H⟩ := oB H; (try dsimp only at H)
       by_cases c20 : t361 = true
       ·
        subst c20
        rw [if_pos rfl] at H
        by_cases c21 : t363 = true
        ·
         subst c21
         rw [if_pos rfl] at H
         by_cases c22 : t365 = true
         ·
          subst c22
          rw [if_pos rfl] at H
          obtain ⟨t368, A23, H⟩ := oB H; (try dsimp only at H)
          by_cases c24 : t368 = true
          ·
           subst c24
           rw [if_pos rfl] at H
           by_cases c25 : (t364.length : Int) > 2
           ·
            rw [if_pos c25] at H
            have c25b0 : decide (2 < (t364.length : Int)) = true := decide_eq_true c25
            have c25b1 : decide (2 < t364.length) = true := decide_eq_true (by omega)
            clear c25
            simp only [Option.some.injEq, Prod.mk.injEq] at H
            obtain ⟨rfl, rfl⟩ := H; have p358 : 0 ≤ (x33_2 : Int) := of_decide_eq_true y0_7; have q358 : x33_2 < (y354.length : Int) := of_decide_eq_true y0_7; obtain ⟨ad358, e358, hx358_0⟩ := Kd.at_string HR357.out x33_2 p358 q358; cases e358; replace hx358_0 := bx HB hx358_0; replace p358 := eq_true p358; replace q358 := eq_true q358
            go_wp2_with (first | ((with_reducible refine gate_callee (f := 175) rfl ?_); refine gB (some 39) Tryz.func175 #[.string (rdOf ByteArray.empty y354 x33_2), .string (⟨#[124]⟩ : ByteArray)] ?_; (with_reducible refine (strings_Cut.calls (rdOf ByteArray.empty y354 x33_2) (⟨#[124]⟩ : ByteArray) t359 t360 true _ A17.out).mono ?_); rintro e w26 ⟨rfl, hb⟩; refine ⟨_, rfl, ?_⟩; replace HO_5 := sb HO_5 hb; replace HB := bs HB hb; (try clear hb); (try clear hb2); (try clear hk); (try clear hi)) | ((with_reducible refine gate_callee (f := 176) rfl ?_); refine gB (some 45) Tryz.func176 #[.string t359] ?_; (with_reducible refine (impl_Number.calls k2 t359 t362 true _ A18.out).mono ?_); rintro e w27 ⟨rfl, hb⟩; refine ⟨_, rfl, ?_⟩; replace HO_5 := sb HO_5 hb; replace HB := bs HB hb; (try clear hb); (try clear hb2); (try clear hk); (try clear hi)) | ((with_reducible refine gate_callee (f := 177) rfl ?_); refine gB (some 50) Tryz.func177 #[.string t360] ?_; (with_reducible refine (impl_TxsOf.calls k2 t360 t364 true _ A19.out).mono ?_); rintro e w28 ⟨v366, rfl, ho0, hb⟩; refine ⟨_, rfl, ?_⟩; replace HO_5 := Aside0.mk (Kd.S_elder' (sI HO_5.out) (Kd.R_base ho0) hb); have HO367 := Aside0.mk (Kd.R_lower ho0 (below_size (bI HB.out))); replace HB := bs HB hb; (try clear hb)) | (go_at_call 106; (with_reducible refine (impl_within.calls t362 (wrap64 (x6_2 + 1)) 60 true _ A23.out).mono ?_); rintro e w' ⟨rfl, ⟨nd, rfl⟩⟩; obtain ⟨Ao29, co29, eo29⟩ := Kd.R_slice HO367.out; subst eo29))
            go_ret2
            exact ⟨_, y0_3, Kd.S_lower (base := wc.heap.size) y0_0 (below_size HB0.out), below_step HB0.out (bI HB.out)⟩
           rw [if_neg c25] at H
           have c25b0 : decide (2 < (t364.length : Int)) = false := decide_eq_false c25
           have c25b1 : decide (2 < t364.length) = false := decide_eq_false (by omega)
           clear c25
           by_cases c30 : x5_2.length < 4398046511104
           rotate_left
           ·
            rw [if_neg c30] at H
            exact absurd H (by simp)
           rw [if_pos c30] at H
           have LMc30 := Aside0.mk c30; clear c30; obtain ⟨y369, hy369⟩ : ∃ y_ : List (S163), y_ = (x5_2 ++ [(⟨t362, t364⟩ : S163)]) := ⟨_, rfl⟩
           replace H : (impl_Steps.l0 k2 y369 t362 y354 (y354.length : Int) (wrap64 (x33_2 + 1))) = some (r1, r2) := by first | (rw [hy369]; with_reducible exact H) | (rw [hy369]; with_reducible exact (Option.bind_some _ _).symm.trans H) | (rw [hy369]; exact H) | exact H
           have Ny369 := Aside0.mk hy369; clear hy369; have H' := Aside0.mk H; clear H; have p358 : 0 ≤ (x33_2 : Int) := of_decide_eq_true y0_7; have q358 : x33_2 < (y354.length : Int) := of_decide_eq_true y0_7; obtain ⟨ad358, e358, hx358_0⟩ := Kd.at_string HR357.out x33_2 p358 q358; cases e358; replace hx358_0 := bx HB hx358_0; replace p358 := eq_true p358; replace q358 := eq_true q358
           go_wp2_with (first | ((with_reducible refine gate_callee (f := 175) rfl ?_); refine gB (some 39) Tryz.func175 #[.string (rdOf ByteArray.empty y354 x33_2), .string (⟨#[124]⟩ : ByteArray)] ?_; (with_reducible refine (strings_Cut.calls (rdOf ByteArray.empty y354 x33_2) (⟨#[124]⟩ : ByteArray) t359 t360 true _ A17.out).mono ?_); rintro e w31 ⟨rfl, hb⟩; refine ⟨_, rfl, ?_⟩; replace HO_5 := sb HO_5 hb; replace HB := bs HB hb; (try clear hb); (try clear hb2); (try clear hk); (try clear hi)) | ((with_reducible refine gate_callee (f := 176) rfl ?_); refine gB (some 45) Tryz.func176 #[.string t359] ?_; (with_reducible refine (impl_Number.calls k2 t359 t362 true _ A18.out).mono ?_); rintro e w32 ⟨rfl, hb⟩; refine ⟨_, rfl, ?_⟩; replace HO_5 := sb HO_5 hb; replace HB := bs HB hb; (try clear hb); (try clear hb2); (try clear hk); (try clear hi)) | ((with_reducible refine gate_callee (f := 177) rfl ?_); refine gB (some 50) Tryz.func177 #[.string t360] ?_; (with_reducible refine (impl_TxsOf.calls k2 t360 t364 true _ A19.out).mono ?_); rintro e w33 ⟨v366, rfl, ho0, hb⟩; refine ⟨_, rfl, ?_⟩; replace HO_5 := Aside0.mk (Kd.S_elder' (sI HO_5.out) (Kd.R_base ho0) hb); have HO367 := Aside0.mk (Kd.R_lower ho0 (below_size (bI HB.out))); replace HB := bs HB hb; (try clear hb)) | (go_at_call 106; (with_reducible refine (impl_within.calls t362 (wrap64 (x6_2 + 1)) 60 true _ A23.out).mono ?_); rintro e w' ⟨rfl, ⟨nd, rfl⟩⟩; obtain ⟨Ao34, co34, eo34⟩ := Kd.R_slice HO367.out; subst eo34) | ((with_reducible refine gate_builtin (b := .append) (xs := #[.tmp 75, .tmp 79]) rfl ?_); (try (refine gate_guard (by rfl) ?_; dsimp only)); at_builtin; refine Kd.S_append k163 (w0 := wc) wc.heap.size rfl (.tmp 75) (.tmp 79) 159 163 (.agg #[(.int .i64 0), (.slice none 0 0)]) 32 rfl Tryz.underlying159 info163 rfl (by decide) (by omega) u5 x5_2 (⟨t362, t364⟩ : S163) [.int .i64 t362, .slice Ao34 t364.length co34] (fun _ => True) (fun k_ => some k_ = (.slice Ao34 t364.length co34 : Value).ownBlock) rfl rfl ?aP (fun k_ hk_ => ((Kd.R_mono (ok' := fun k_ => ((fun _ => True)) k_ ∧ some k_ ≠ (u5 : Value).ownBlock) (Kd.R_apart' (HO367.out) (Kd.S_typed HO_5.out) (by decide)) (fun k_ hk => ⟨trivial, hk.2⟩))).1 k_ hk_.symm) ?aF ?aO ?aB ?aS ?aL ?_; (case aP => exact k163_mkM _ _ _ (⟨t362, t364⟩ : S163) (Kd.R_mono (Kd.R_tight rfl (Kd.R_mono (ok' := fun k_ => ((fun _ => True)) k_ ∧ some k_ ≠ (u5 : Value).ownBlock) (Kd.R_apart' (HO367.out) (Kd.S_typed HO_5.out) (by decide)) (fun k_ hk => ⟨trivial, hk.2⟩))) (fun _ h_ => h_))); (case aB => exact (bI HB.out)); (case aF => exact (fun _ _ => trivial)); (case aO => exact (sI (Kd.S_mono HO_5.out (fun k_ hk => ⟨trivial, fun e_ => hk.2 e_⟩)))); (case aS => exact (below_size (bI HB.out))); (case aL => have := LMc30.out; omega); intro v370 w35 ho hb hg hat; rw [← Ny369.out] at ho; have n0_ := Aside0.mk (hb); have n1_ := Aside0.mk (ho); clear HB; clear HO_5; clear HO367; have HB := n0_; have HO371 := n1_; clear n0_ n1_; clear ho hb hg hat))
           go_roundg k2
           case measure => have := HJ3.out; have := HK2.out; omega
           case rel => exact ⟨(y369), (t362), (wrap64 (x33_2 + 1)), y0_8, y0_8, H', ⟨by have := HJ3.out; have := HK2.out; omega⟩, ⟨by (with_reducible repeat (first | apply Kd.S_alloc | apply Kd.S_drewN | apply Kd.S_drew)); exact HO371.out⟩, ⟨bI HB.out⟩⟩
          replace c24 := Bool.eq_false_iff.mpr c24; subst c24
          rw [if_neg Bool.false_ne_true] at H
          simp only [Option.some.injEq, Prod.mk.injEq] at H
          obtain ⟨rfl, rfl⟩ := H; have p358 : 0 ≤ (x33_2 : Int) := of_decide_eq_true y0_7; have q358 : x33_2 < (y354.length : Int) := of_decide_eq_true y0_7; obtain ⟨ad358, e358, hx358_0⟩ := Kd.at_string HR357.out x33_2 p358 q358; cases e358; replace hx358_0 := bx HB hx358_0; replace p358 := eq_true p358; replace q358 := eq_true q358
          go_wp2_with (first | ((with_reducible refine gate_callee (f := 175) rfl ?_); refine gB (some 39) Tryz.func175 #[.string (rdOf ByteArray.empty y354 x33_2), .string (⟨#[124]⟩ : ByteArray)] ?_; (with_reducible refine (strings_Cut.calls (rdOf ByteArray.empty y354 x33_2) (⟨#[124]⟩ : ByteArray) t359 t360 true _ A17.out).mono ?_); rintro e w36 ⟨rfl, hb⟩; refine ⟨_, rfl, ?_⟩; replace HO_5 := sb HO_5 hb; replace HB := bs HB hb; (try clear hb); (try clear hb2); (try clear hk); (try clear hi)) | ((with_reducible refine gate_callee (f := 176) rfl ?_); refine gB (some 45) Tryz.func176 #[.string t359] ?_; (with_reducible refine (impl_Number.calls k2 t359 t362 true _ A18.out).mono ?_); rintro e w37 ⟨rfl, hb⟩; refine ⟨_, rfl, ?_⟩; replace HO_5 := sb HO_5 hb; replace HB := bs HB hb; (try clear hb); (try clear hb2); (try clear hk); (try clear hi)) | ((with_reducible refine gate_callee (f := 177) rfl ?_); refine gB (some 50) Tryz.func177 #[.string t360] ?_; (with_reducible refine (impl_TxsOf.calls k2 t360 t364 true _ A19.out).mono ?_); rintro e w38 ⟨v366, rfl, ho0, hb⟩; refine ⟨_, rfl, ?_⟩; replace HO_5 := Aside0.mk (Kd.S_elder' (sI HO_5.out) (Kd.R_base ho0) hb); have HO367 := Aside0.mk (Kd.R_lower ho0 (below_size (bI HB.out))); replace HB := bs HB hb; (try clear hb)) | (go_at_call 106; (with_reducible refine (impl_within.calls t362 (wrap64 (x6_2 + 1)) 60 false _ A23.out).mono ?_); rintro e w' ⟨rfl, ⟨nd, rfl⟩⟩))
          go_ret2
          exact ⟨_, y0_3, Kd.S_lower (base := wc.heap.size) y0_0 (below_size HB0.out), below_step HB0.out (bI HB.out)⟩
         replace c22 := Bool.eq_false_iff.mpr c22; subst c22
         rw [if_neg Bool.false_ne_true] at H
         simp only [Option.some.injEq, Prod.mk.injEq] at H
         obtain ⟨rfl, rfl⟩ := H; have p358 : 0 ≤ (x33_2 : Int) := of_decide_eq_true y0_7; have q358 : x33_2 < (y354.length : Int) := of_decide_eq_true y0_7; obtain ⟨ad358, e358, hx358_0⟩ := Kd.at_string HR357.out x33_2 p358 q358; cases e358; replace hx358_0 := bx HB hx358_0; replace p358 := eq_true p358; replace q358 := eq_true q358
         go_wp2_with (first | ((with_reducible refine gate_callee (f := 175) rfl ?_); refine gB (some 39) Tryz.func175 #[.string (rdOf ByteArray.empty y354 x33_2), .string (⟨#[124]⟩ : ByteArray)] ?_; (with_reducible refine (strings_Cut.calls (rdOf ByteArray.empty y354 x33_2) (⟨#[124]⟩ : ByteArray) t359 t360 true _ A17.out).mono ?_); rintro e w39 ⟨rfl, hb⟩; refine ⟨_, rfl, ?_⟩; replace HO_5 := sb HO_5 hb; replace HB := bs HB hb; (try clear hb); (try clear hb2); (try clear hk); (try clear hi)) | ((with_reducible refine gate_callee (f := 176) rfl ?_); refine gB (some 45) Tryz.func176 #[.string t359] ?_; (with_reducible refine (impl_Number.calls k2 t359 t362 true _ A18.out).mono ?_); rintro e w40 ⟨rfl, hb⟩; refine ⟨_, rfl, ?_⟩; replace HO_5 := sb HO_5 hb; replace HB := bs HB hb; (try clear hb); (try clear hb2); (try clear hk); (try clear hi)) | ((with_reducible refine gate_callee (f := 177) rfl ?_); refine gB (some 50) Tryz.func177 #[.string t360] ?_; (with_reducible refine (impl_TxsOf.calls k2 t360 t364 false _ A19.out).mono ?_); rintro e w41 ⟨v366, rfl, ho0, hb⟩; refine ⟨_, rfl, ?_⟩; replace HO_5 := Aside0.mk (Kd.S_elder' (sI HO_5.out) (Kd.R_base ho0) hb); have HO367 := Aside0.mk (Kd.R_lower ho0 (below_size (bI HB.out))); replace HB := bs HB hb; (try clear hb)))
         go_ret2
         exact ⟨_, y0_3, Kd.S_lower (base := wc.heap.size) y0_0 (below_size HB0.out), below_step HB0.out (bI HB.out)⟩
        replace c21 := Bool.eq_false_iff.mpr c21; subst c21
        rw [if_neg Bool.false_ne_true] at H
        simp only [Option.some.injEq, Prod.mk.injEq] at H
        obtain ⟨rfl, rfl⟩ := H; have p358 : 0 ≤ (x33_2 : Int) := of_decide_eq_true y0_7; have q358 : x33_2 < (y354.length : Int) := of_decide_eq_true y0_7; obtain ⟨ad358, e358, hx358_0⟩ := Kd.at_string HR357.out x33_2 p358 q358; cases e358; replace hx358_0 := bx HB hx358_0; replace p358 := eq_true p358; replace q358 := eq_true q358
        go_wp2_with (first | ((with_reducible refine gate_callee (f := 175) rfl ?_); refine gB (some 39) Tryz.func175 #[.string (rdOf ByteArray.empty y354 x33_2), .string (⟨#[124]⟩ : ByteArray)] ?_; (with_reducible refine (strings_Cut.calls (rdOf ByteArray.empty y354 x33_2) (⟨#[124]⟩ : ByteArray) t359 t360 true _ A17.out).mono ?_); rintro e w42 ⟨rfl, hb⟩; refine ⟨_, rfl, ?_⟩; replace HO_5 := sb HO_5 hb; replace HB := bs HB hb; (try clear hb); (try clear hb2); (try clear hk); (try clear hi)) | ((with_reducible refine gate_callee (f := 176) rfl ?_); refine gB (some 45) Tryz.func176 #[.string t359] ?_; (with_reducible refine (impl_Number.calls k2 t359 t362 false _ A18.out).mono ?_); rintro e w43 ⟨rfl, hb⟩; refine ⟨_, rfl, ?_⟩; replace HO_5 := sb HO_5 hb; replace HB := bs HB hb; (try clear hb); (try clear hb2); (try clear hk); (try clear hi)) | ((with_reducible refine gate_callee (f := 177) rfl ?_); refine gB (some 50) Tryz.func177 #[.string t360] ?_; (with_reducible refine (impl_TxsOf.calls k2 t360 t364 t365 _ A19.out).mono ?_); rintro e w44 ⟨v366, rfl, ho0, hb⟩; refine ⟨_, rfl, ?_⟩; replace HO_5 := Aside0.mk (Kd.S_elder' (sI HO_5.out) (Kd.R_base ho0) hb); have HO367 := Aside0.mk (Kd.R_lower ho0 (below_size (bI HB.out))); replace HB := bs HB hb; (try clear hb)))
        go_ret2
        exact ⟨_, y0_3, Kd.S_lower (base := wc.heap.size) y0_0 (below_size HB0.out), below_step HB0.out (bI HB.out)⟩
       replace c20 := Bool.eq_false_iff.mpr c20; subst c20
       rw [if_neg Bool.false_ne_true] at H
       simp only [Option.some.injEq, Prod.mk.injEq] at H
       obtain ⟨rfl, rfl⟩ := H; have p358 : 0 ≤ (x33_2 : Int) := of_decide_eq_true y0_7; have q358 : x33_2 < (y354.length : Int) := of_decide_eq_true y0_7; obtain ⟨ad358, e358, hx358_0⟩ := Kd.at_string HR357.out x33_2 p358 q358; cases e358; replace hx358_0 := bx HB hx358_0; replace p358 := eq_true p358; replace q358 := eq_true q358
       go_wp2_with (first | ((with_reducible refine gate_callee (f := 175) rfl ?_); refine gB (some 39) Tryz.func175 #[.string (rdOf ByteArray.empty y354 x33_2), .string (⟨#[124]⟩ : ByteArray)] ?_; (with_reducible refine (strings_Cut.calls (rdOf ByteArray.empty y354 x33_2) (⟨#[124]⟩ : ByteArray) t359 t360 false _ A17.out).mono ?_); rintro e w45 ⟨rfl, hb⟩; refine ⟨_, rfl, ?_⟩; replace HO_5 := sb HO_5 hb; replace HB := bs HB hb; (try clear hb); (try clear hb2); (try clear hk); (try clear hi)) | ((with_reducible refine gate_callee (f := 176) rfl ?_); refine gB (some 45) Tryz.func176 #[.string t359] ?_; (with_reducible refine (impl_Number.calls k2 t359 t362 t363 _ A18.out).mono ?_); rintro e w46 ⟨rfl, hb⟩; refine ⟨_, rfl, ?_⟩; replace HO_5 := sb HO_5 hb; replace HB := bs HB hb; (try clear hb); (try clear hb2); (try clear hk); (try clear hi)) | ((with_reducible refine gate_callee (f := 177) rfl ?_); refine gB (some 50) Tryz.func177 #[.string t360] ?_; (with_reducible refine (impl_TxsOf.calls k2 t360 t364 t365 _ A19.out).mono ?_); rintro e w47 ⟨v366, rfl, ho0, hb⟩; refine ⟨_, rfl, ?_⟩; replace HO_5 := Aside0.mk (Kd.S_elder' (sI HO_5.out) (Kd.R_base ho0) hb); have HO367 := Aside0.mk (Kd.R_lower ho0 (below_size (bI HB.out))); replace HB := bs HB hb; (try clear hb)))
       go_ret2
       exact ⟨_, y0_3, Kd.S_lower (base := wc.heap.size) y0_0 (below_size HB0.out), below_step HB0.out (bI HB.out)⟩
      rw [if_neg c14] at H
      have c14b0 : decide (x33_2 < (y354.length : Int)) = false := decide_eq_false c14; clear c14
      simp only [Option.some.injEq, Prod.mk.injEq] at H
      obtain ⟨rfl, rfl⟩ := H
      go_wp2
      go_ret2
      exact ⟨_, y0_3, Kd.S_lower (base := wc.heap.size) (by (with_reducible repeat (first | apply Kd.S_alloc | apply Kd.S_drewN | apply Kd.S_drew)); exact HO_5.out) (below_size HB0.out), below_step HB0.out (bI HB.out)⟩
   rw [if_neg c11] at H
   exact absurd H (by simp)
def impl_NameOk.f (k : Nat) (a0 : ByteArray) : Option (Bool) := (impl_Steps.f k a0).bind fun bt372 => (some bt372.2)
theorem impl_NameOk.calls (k : Nat) (a0 : ByteArray) (r : Bool) (w : World) (h : impl_NameOk.f k a0 = some r) (hG : Glob w := by exact gG HG HB) :
  Calls Tryz.prog 107 #[.string a0] w fun e w' => e = .returned (.bool r) ∧ Below w.heap.size w w' := by
 have HG := Aside0.mk hG; clear hG; have HB := Aside0.mk (Below.refl w.heap.size w)
 have H := h; unfold impl_NameOk.f at H
 clear h; obtain ⟨⟨t372, t373⟩, A2, H⟩ := oB H; (try dsimp only at H); obtain rfl := Option.some.inj H
 go_enter Tryz.func107, Tryz.ntmps107
 go_wp2_with (first | ((with_reducible refine gate_callee (f := 151) rfl ?_); refine gS1 (some 7) Tryz.func151 (impl_Steps.calls (w := _) (h := A2.out)) ?_; intro Ao374 co374 w3 _ HO375))
 go_ret
 exact ⟨y0_8, UpW.out⟩
def impl_ViewOf.f (k : Nat) (a0 : ByteArray) : Option (Int) := (impl_Steps.f k a0).bind fun bt376 => (if (bt376.1.length : Int) = 0 then (some 0) else (if 0 ≤ (wrap64 ((bt376.1.length : Int) - 1)) then (if (wrap64 ((bt376.1.length : Int) - 1)) < (bt376.1.length : Int) then (some ((rd_T163 bt376.1 (wrap64 ((bt376.1.length : Int) - 1))).f0)) else (none)) else (none)))
theorem impl_ViewOf.calls (k : Nat) (a0 : ByteArray) (r : Int) (w : World) (h : impl_ViewOf.f k a0 = some r) (hG : Glob w := by exact gG HG HB) :
  Calls Tryz.prog 108 #[.string a0] w fun e w' => e = .returned (.int .i64 r) ∧ Below w.heap.size w w' := by
 have HG := Aside0.mk hG; clear hG; have HB := Aside0.mk (Below.refl w.heap.size w)
 have H := h; unfold impl_ViewOf.f at H
 clear h; obtain ⟨⟨t376, t377⟩, A2, H⟩ := oB H; (try dsimp only at H)
 go_enter Tryz.func108, Tryz.ntmps108
 have H' := Aside0.mk H; clear H
 go_upto_if 12 with (first | ((with_reducible refine gate_callee (f := 151) rfl ?_); refine gS1 (some 7) Tryz.func151 (impl_Steps.calls (w := _) (h := A2.out)) ?_; intro Ao378 co378 w3 _ HO379))
 have H := H'.out; clear H'
 by_cases c4 : (t376.length : Int) = 0
 ·
  rw [if_pos c4] at H
  have c4b0 : ((t376.length : Int) == 0) = true := beq_iff_eq.mpr c4; have c4b1 : ((t376.length : Int) != 0) = false := bne_eq_false_iff_eq.mpr c4; clear c4
  (first | rw [c4b0] | (simp only [i64_w, i32_w]; rw [c4b0]) | skip)
  obtain rfl := Option.some.inj H
  go_wp2
  go_ret
  exact ⟨y0_8, UpW.out⟩
 rw [if_neg c4] at H
 have c4b0 : ((t376.length : Int) == 0) = false := beq_eq_false_iff_ne.mpr c4; have c4b1 : ((t376.length : Int) != 0) = true := bne_iff_ne.mpr c4
 have c4b2 : ¬ (t376 = []) := fun h_ => c4 (by rw [h_]; rfl)
 (first | rw [c4b0] | (simp only [i64_w, i32_w]; rw [c4b0]) | skip)
 obtain ⟨ji5, hji5⟩ : ∃ j_ : Int, (wrap64 ((t376.length : Int) - 1)) = j_ := ⟨_, rfl⟩
 replace H : (if 0 ≤ (ji5) then (if (ji5) < (t376.length : Int) then (some ((rd_T163 t376 (ji5)).f0)) else (none)) else (none)) = some r := by first | (rw [hji5] at H; exact H) | (simp only [hji5] at H ⊢; exact H)
 have hji5w : (IntKind.i64.wrap ((t376.length : Int) - 1)) = ji5 := (i64_w _).trans hji5
 by_cases c6 : 0 ≤ (ji5)
 ·
  rw [if_pos c6] at H
  have c6b0 : decide (0 ≤ (ji5)) = true := decide_eq_true c6; clear c6
  by_cases c7 : (ji5) < (t376.length : Int)
  rotate_left
  ·
   rw [if_neg c7] at H
   exact absurd H (by simp)
  rw [if_pos c7] at H
  have c7b0 : decide ((ji5) < (t376.length : Int)) = true := decide_eq_true c7; clear c7; obtain rfl := Option.some.inj H; have p380 : 0 ≤ ((ji5) : Int) := of_decide_eq_true y0_7; have q380 : (ji5) < (t376.length : Int) := of_decide_eq_true y0_7
  obtain ⟨go380, cc380, eo380, hb380, _, hg380⟩ := Kd.S_form HO379.out (by omega)
  have bo380 : BornI go380 _ := ⟨hb380⟩
  injection eo380 with ea_ en_ ec_
  subst ea_; subst ec_; clear en_; have sb380 : StB go380 w3 163 := ⟨hg380⟩; obtain ⟨ok380, ce380, _, hM380, hcc380, _, _, _⟩ := Kd.S_elem HO379.out z163 (ji5) p380 q380; obtain ⟨ve380_1, rfl, ge380_1⟩ := k163_openM hM380; obtain ⟨A380_1, c380_1, ev380_1⟩ := Kd.R_slice ge380_1; subst ev380_1; have i380_0_ : RdG go380 (((ji5) : Int).toNat * 2) w3 (.int .i64 ((rd_T163 t376 (ji5)).f0)) := RdG.of hg380 (hcc380 0 _ rfl); have i380_1_ : RdG go380 (((ji5) : Int).toNat * 2 + 1) w3 (.slice A380_1 ((rd_T163 t376 (ji5)).f1).length c380_1) := RdG.of hg380 (hcc380 1 _ rfl)
  have HR380_1 := Aside0.mk (show Kd.R k156 156 w3 _ ok380 (.slice A380_1 ((rd_T163 t376 (ji5)).f1).length c380_1) ((rd_T163 t376 (ji5)).f1) from ge380_1)
  replace p380 := eq_true p380; replace q380 := eq_true q380
  go_wp2
  go_ret
  exact ⟨by first | rfl | (simp; done) | (simp only [← hji5] <;> (first | rfl | simp)) | (simp [*]; done), UpW.out⟩
 rw [if_neg c6] at H
 exact absurd H (by simp)
def impl_QcFirst.f  : Option (Int × ByteArray × List Int) := some (0, (⟨#[]⟩ : ByteArray), ([] : List Int))
theorem impl_QcFirst.calls  (r1 : Int) (r2 : ByteArray) (r3 : List Int) (w : World) (h : impl_QcFirst.f  = some (r1, r2, r3)) :
  Calls Tryz.prog 114 #[] w fun e w' => ∃ v2_ : Value, e = .returned (.agg #[.int .i64 r1, .string r2, v2_]) ∧ Kd.R (Kd.int .i64) 3 w' w.heap.size (fun _ => True) v2_ r3 ∧ Below w.heap.size w w' := by
 have hu27 := Tryz.underlying27; have HB := Aside0.mk (Below.refl w.heap.size w); have H := h; unfold impl_QcFirst.f at H; clear h
 simp only [Option.some.injEq, Prod.mk.injEq] at H
 obtain ⟨rfl, rfl, rfl⟩ := H
 go_enter Tryz.func114, Tryz.ntmps114
 go_wp2_with (first | ((with_reducible refine gd 0 ?_); refine bL 0 #[.int .i64 0, .string (⟨#[]⟩ : ByteArray), .slice none 0 0] 27 ?_; intro gb381 w1 _ _ _))
 refine bodyPost_ret (results_cell_row rfl _ _ gb381 27 #[.int .i64 0, .string (⟨#[]⟩ : ByteArray), .slice none 0 0] (0, 0) _ rfl xB Tryz.underlying27 rfl (by kernel_rfl)) rfl ?_
 exact ⟨_, y0_8, Kd.R_nil _ _ _ _ _, UpW.out⟩
def impl_Faults.f (a0_0 : Int) (a0_1 : Int) : Option (Int) := (impl_ConfOk.f a0_0 a0_1).bind fun t383 => (if t383 = true then (some (wrap64 (Int.tdiv (wrap64 (a0_0 - 1)) 3))) else (some 0))
theorem impl_Faults.calls (a0_0 : Int) (a0_1 : Int) (r : Int) (w : World) (h : impl_Faults.f a0_0 a0_1 = some r) :
  Calls Tryz.prog 153 #[.agg #[.int .i64 a0_0, .int .i64 a0_1]] w fun e w' => e = .returned (.int .i64 r) ∧ Below w.heap.size w w' := by
 have hu32 := Tryz.underlying32; have HB := Aside0.mk (Below.refl w.heap.size w)
 have H := h; unfold impl_Faults.f at H
 clear h; obtain ⟨t383, A2, H⟩ := oB H; (try dsimp only at H)
 go_enter Tryz.func153, Tryz.ntmps153
 have H' := Aside0.mk H; clear H
 go_upto_if 5 with (first | ((with_reducible refine gd 1 ?_); refine bL 1 #[.int .i64 a0_0, .int .i64 a0_1] 32 ?_; intro gb382 w3 _ _ _) | ((with_reducible refine gate_callee (f := 105) rfl ?_); refine gC (some 4) Tryz.func105 (impl_ConfOk.calls (w := _) (h := A2.out)) ?_; intro w4 _))
 have H := H'.out; clear H'
 by_cases c5 : t383 = true
 ·
  subst c5
  rw [if_pos rfl] at H
  obtain rfl := Option.some.inj H
  go_wp2
  go_ret
  exact ⟨y0_8, UpW.out⟩
 replace c5 := Bool.eq_false_iff.mpr c5; subst c5
 rw [if_neg Bool.false_ne_true] at H
 obtain rfl := Option.some.inj H
 go_wp2
 go_ret
 exact ⟨y0_8, UpW.out⟩
def impl_Quorum.f (a0_0 : Int) (a0_1 : Int) : Option (Int) := (impl_ConfOk.f a0_0 a0_1).bind fun t385 => (if t385 = true then ((impl_Faults.f a0_0 a0_1).bind fun t386 => (some (wrap64 (a0_0 - t386)))) else (some 0))
def impl_Quorum.T3 : Bool × List (List Nat × List Nat) := (true, [([], []), ([0], [0]), ([], []), ([2], [2]), ([1, 3], [1, 3]), ([4, 3, 0, 1, 2, 3, 4], [4])])
def impl_Quorum.B3 : List Nat := [0, 1, 0, 4, 15, 31]
theorem impl_Quorum.tab3 : rtab .any (opsOf Tryz.f115 3) = impl_Quorum.T3 := by kernel_rfl
theorem impl_Quorum.bits3 : waitsOk impl_Quorum.T3.2 impl_Quorum.B3 = true := by kernel_rfl
theorem impl_Quorum.calls (a0_0 : Int) (a0_1 : Int) (r : Int) (w : World) (h : impl_Quorum.f a0_0 a0_1 = some r) :
  Calls Tryz.prog 115 #[.agg #[.int .i64 a0_0, .int .i64 a0_1]] w fun e w' => e = .returned (.int .i64 r) ∧ Below w.heap.size w w' := by
 have hu32 := Tryz.underlying32; have HB := Aside0.mk (Below.refl w.heap.size w)
 have H := h; unfold impl_Quorum.f at H
 clear h; obtain ⟨t385, A2, H⟩ := oB H; (try dsimp only at H)
 go_enter Tryz.func115, Tryz.ntmps115
 have H' := Aside0.mk H; clear H
 go_upto_if 5 with (first | ((with_reducible refine gd 1 ?_); refine bL 1 #[.int .i64 a0_0, .int .i64 a0_1] 32 ?_; intro gb384 w3 _ _ _) | ((with_reducible refine gate_callee (f := 105) rfl ?_); refine gC (some 4) Tryz.func105 (impl_ConfOk.calls (w := _) (h := A2.out)) ?_; intro w4 _))
 have H := H'.out; clear H'
 by_cases c5 : t385 = true
 ·
  subst c5
  rw [if_pos rfl] at H
  obtain ⟨t386, A6, H⟩ := oB H; (try dsimp only at H); obtain rfl := Option.some.inj H
  try go_wp2
  refine sB [] impl_Quorum.tab3 impl_Quorum.bits3 ?_; intro w7 _ HT_ HW_
  refine pA 0 (some 6) (bz 6 1) HT_ ?_
  refine tB 1 (some 7) (bz 6 3) HT_ HW_ ?_
  refine tB 2 (some 8) (bz 6 7) HT_ HW_ ?_
  refine o1 3 (some 9) (bz 6 15) HT_ rfl (kC Tryz.func153 (impl_Faults.calls (w := _) (h := A6.out)) ?_); intro w8 _
  refine nA (some 9) ?_
  refine pA 4 (some 10) (bz 6 31) HT_ ?_
  refine pA 5 (some 2) (bz 6 63) HT_ ?_
  refine done_ (done_of HT_.out (by kernel_rfl)) ?_
  try go_wp2
  go_ret
  exact ⟨y0_8, UpW.out⟩
 replace c5 := Bool.eq_false_iff.mpr c5; subst c5
 rw [if_neg Bool.false_ne_true] at H
 obtain rfl := Option.some.inj H
 go_wp2
 go_ret
 exact ⟨y0_8, UpW.out⟩
def impl_QcOk.f (k : Nat) (a0_0 : Int) (a0_1 : Int) (a1_0 : Int) (a1_1 : ByteArray) (l1_2 : List Int) : Option (Bool) := (impl_ConfOk.f a0_0 a0_1).bind fun t389 => (if t389 = true then ((impl_QcFirst.f).bind fun bt390 => ((impl_QcSame.f k a1_0 a1_1 l1_2 bt390.1 bt390.2.1 bt390.2.2).bind fun t395 => (if t395 = true then (some true) else (if a1_0 ≥ 1 then ((impl_NameOk.f k a1_1).bind fun t396 => (if t396 = true then ((impl_ViewOf.f k a1_1).bind fun t397 => (if a1_0 = t397 then ((impl_SetOk.f k a0_0 l1_2).bind fun t398 => (if t398 = true then ((impl_Quorum.f a0_0 a0_1).bind fun t399 => (some (decide ((l1_2.length : Int) ≥ t399)))) else (some false))) else (some false))) else (some false))) else (some false))))) else (some false))
def impl_QcOk.T3 : Bool × List (List Nat × List Nat) := (true, [([], []), ([], []), ([0, 1, 1], [0, 1]), ([2, 2], [2]), ([3], [3]), ([4, 3], [3, 4]), ([5, 3], [3, 5]), ([6, 3, 3], [3, 6]), ([7], [7]), ([8, 7], [7, 8]), ([9, 7, 7], [7, 9]), ([7, 10, 3], [3, 7, 10]), ([11, 10, 3], [3, 11]), ([12], [12]), ([13, 12], [12, 13]), ([12], [12]), ([15, 12], [12, 15]), ([16, 12, 12], [12, 16]), ([14, 17, 12], [12, 14, 17]), ([12, 18, 3], [3, 12, 18]), ([19, 17, 3], [3, 19]), ([20], [20]), ([21, 20], [20, 21]), ([20], [20]), ([23, 20], [20, 23]), ([22, 24, 20, 20], [20, 22, 24]), ([20, 25, 3], [3, 20, 25]), ([26, 25, 3], [3, 26]), ([27], [27]), ([28, 27], [27, 28]), ([29, 27], [27, 29]), ([27], [27]), ([31, 27, 27], [27, 31]), ([30, 32, 27], [27, 30, 32]), ([27, 33, 3], [3, 27, 33]), ([3, 34], [3, 34]), ([35, 32, 0, 1, 2, 3, 4, 5, 6, 7, 8, 9, 10, 11, 12, 13, 14, 15, 16, 17, 18, 19, 20, 21, 22, 23, 24, 25, 26, 27, 28, 29, 30, 31, 32, 33, 34, 35], [35])])
def impl_QcOk.B3 : List Nat := [0, 0, 3, 7, 15, 31, 63, 127, 255, 511, 1023, 2047, 4095, 8191, 16383, 8191, 40959, 106495, 262143, 524287, 1048575, 2097151, 4194303, 2097151, 10485759, 33554431, 67108863, 134217727, 268435455, 536870911, 1073741823, 268435455, 2415919103, 8589934591, 17179869183, 34359738367, 68719476735]
theorem impl_QcOk.tab3 : rtab .any (opsOf Tryz.f50 3) = impl_QcOk.T3 := by kernel_rfl
theorem impl_QcOk.bits3 : waitsOk impl_QcOk.T3.2 impl_QcOk.B3 = true := by kernel_rfl
theorem impl_QcOk.calls (k : Nat) (a0_0 : Int) (a0_1 : Int) (a1_0 : Int) (a1_1 : ByteArray) (A1_2 : Option Addr) (c1_2 : Nat) (l1_2 : List Int) (r : Bool) (w : World) (hr1_2 : Kd.C (Kd.int .i64) w A1_2 l1_2.length l1_2) (hc1_2 : l1_2.length ≤ c1_2) (h : impl_QcOk.f k a0_0 a0_1 a1_0 a1_1 l1_2 = some r) (hG : Glob w := by exact gG HG HB) :
  Calls Tryz.prog 50 #[.agg #[.int .i64 a0_0, .int .i64 a0_1], .agg #[.int .i64 a1_0, .string a1_1, .slice A1_2 l1_2.length c1_2]] w fun e w' => e = .returned (.bool r) ∧ Below w.heap.size w w' := by
 have HG := Aside0.mk hG; clear hG; have hu32 := Tryz.underlying32; have hu27 := Tryz.underlying27; have HR1_2 := Aside0.mk hr1_2; have HC1_2 := Aside0.mk hc1_2; clear hr1_2 hc1_2; have HB := Aside0.mk (Below.refl w.heap.size w)
 have H := h; unfold impl_QcOk.f at H
 clear h; obtain ⟨t389, A3, H⟩ := oB H; (try dsimp only at H)
 go_enter Tryz.func50, Tryz.ntmps50
 have H' := Aside0.mk H; clear H
 go_upto_if 7 with (first | ((with_reducible refine gd 2 ?_); refine bL 2 #[.int .i64 a0_0, .int .i64 a0_1] 32 ?_; intro gb387 w4 _ _ _) | ((with_reducible refine gd 3 ?_); refine bL 3 #[.int .i64 a1_0, .string a1_1, .slice A1_2 l1_2.length c1_2] 27 ?_; intro gb388 w5 _ _ _) | ((with_reducible refine gate_callee (f := 105) rfl ?_); refine gC (some 6) Tryz.func105 (impl_ConfOk.calls (w := _) (h := A3.out)) ?_; intro w6 _))
 have H := H'.out; clear H'
 by_cases c7 : t389 = true
 ·
  subst c7
  rw [if_pos rfl] at H
  obtain ⟨⟨t390, t391, t392⟩, A8, H⟩ := oB H; (try dsimp only at H); obtain ⟨t395, A9, H⟩ := oB H; (try dsimp only at H)
  by_cases c10 : t395 = true
  ·
   subst c10
   rw [if_pos rfl] at H
   obtain rfl := Option.some.inj H
   try go_wp2
   refine sB [] impl_QcOk.tab3 impl_QcOk.bits3 ?_; intro w11 _ HT_ HW_
   refine tB 0 (some 8) (bz 37 1) HT_ HW_ ?_
   refine o1 1 (some 9) (bz 37 3) HT_ rfl (kC1 Tryz.func114 (impl_QcFirst.calls (w := _) (h := A8.out)) ?_); intro Ao393 co393 w12 _ HO394
   refine nA (some 9) ?_
   refine o1 2 (some 10) (bz 37 7) HT_ rfl (kC Tryz.func41 (impl_QcSame.calls (hr0_2 := pC HR1_2) (hc0_2 := HC1_2.out) (hr1_2 := rC HO394) (hc1_2 := rL HO394) (w := _) (h := A9.out)) ?_); intro w13 _
   refine nA (some 10) ?_
   refine pA 3 (some 11) (bz 37 15) HT_ ?_
   refine pU 4 (some 12) (bz 37 31) HT_ ?_
   refine pU 5 (some 13) (bz 37 63) HT_ ?_
   refine pU 6 (some 14) (bz 37 127) HT_ ?_
   refine pU 7 (some 15) (bz 37 255) HT_ ?_
   refine pU 8 (some 16) (bz 37 511) HT_ ?_
   refine pU 9 (some 17) (bz 37 1023) HT_ ?_
   refine pU 10 (some 18) (bz 37 2047) HT_ ?_
   refine pU 11 (some 19) (bz 37 4095) HT_ ?_
   refine pU 12 (some 20) (bz 37 0x1fff) HT_ ?_
   refine pU 13 (some 21) (bz 37 0x3fff) HT_ ?_
   refine pU 14 (some 22) (bz 37 0x7fff) HT_ ?_
   refine pU 15 (some 23) (bz 37 0xffff) HT_ ?_
   refine pU 16 (some 24) (bz 37 0x1ffff) HT_ ?_
   refine pU 17 (some 25) (bz 37 0x3ffff) HT_ ?_
   refine pU 18 (some 26) (bz 37 0x7ffff) HT_ ?_
   refine pU 19 (some 27) (bz 37 0xfffff) HT_ ?_
   refine pU 20 (some 28) (bz 37 0x1fffff) HT_ ?_
   refine pU 21 (some 29) (bz 37 0x3fffff) HT_ ?_
   refine pU 22 (some 30) (bz 37 0x7fffff) HT_ ?_
   refine pU 23 (some 31) (bz 37 0xffffff) HT_ ?_
   refine pU 24 (some 32) (bz 37 0x1ffffff) HT_ ?_
   refine pU 25 (some 33) (bz 37 0x3ffffff) HT_ ?_
   refine pU 26 (some 34) (bz 37 0x7ffffff) HT_ ?_
   refine pU 27 (some 35) (bz 37 0xfffffff) HT_ ?_
   refine pU 28 (some 36) (bz 37 0x1fffffff) HT_ ?_
   refine pU 29 (some 37) (bz 37 0x3fffffff) HT_ ?_
   refine pU 30 (some 38) (bz 37 0x7fffffff) HT_ ?_
   refine pU 31 (some 39) (bz 37 0xffffffff) HT_ ?_
   refine pU 32 (some 40) (bz 37 0x1ffffffff) HT_ ?_
   refine pU 33 (some 41) (bz 37 0x3ffffffff) HT_ ?_
   refine pU 34 (some 42) (bz 37 0x7ffffffff) HT_ ?_
   refine pA 35 (some 43) (bz 37 0xfffffffff) HT_ ?_
   refine pA 36 (some 4) (bz 37 0x1fffffffff) HT_ ?_
   refine done_ (done_of HT_.out (by kernel_rfl)) ?_
   try go_wp2
   go_ret
   exact ⟨y0_8, UpW.out⟩
  replace c10 := Bool.eq_false_iff.mpr c10; subst c10
  rw [if_neg Bool.false_ne_true] at H
  by_cases c14 : a1_0 ≥ 1
  ·
   rw [if_pos c14] at H
   have c14b0 : decide (1 ≤ a1_0) = true := decide_eq_true c14; clear c14
   (first | rw [c14b0] | (simp only [i64_w, i32_w]; rw [c14b0]) | skip)
   obtain ⟨t396, A15, H⟩ := oB H; (try dsimp only at H)
   by_cases c16 : t396 = true
   ·
    subst c16
    rw [if_pos rfl] at H
    obtain ⟨t397, A17, H⟩ := oB H; (try dsimp only at H)
    by_cases c18 : a1_0 = t397
    ·
     rw [if_pos c18] at H
     have c18b0 : (a1_0 == t397) = true := beq_iff_eq.mpr c18; have c18b1 : (a1_0 != t397) = false := bne_eq_false_iff_eq.mpr c18; clear c18; obtain ⟨t398, A19, H⟩ := oB H; (try dsimp only at H)
     by_cases c20 : t398 = true
     ·
      subst c20
      rw [if_pos rfl] at H
      obtain ⟨t399, A21, H⟩ := oB H; (try dsimp only at H); obtain rfl := Option.some.inj H
      try go_wp2
      refine sB [] impl_QcOk.tab3 impl_QcOk.bits3 ?_; intro w22 _ HT_ HW_
      refine tB 0 (some 8) (bz 37 1) HT_ HW_ ?_
      refine o1 1 (some 9) (bz 37 3) HT_ rfl (kC1 Tryz.func114 (impl_QcFirst.calls (w := _) (h := A8.out)) ?_); intro Ao393 co393 w23 _ HO394
      refine nA (some 9) ?_
      refine o1 2 (some 10) (bz 37 7) HT_ rfl (kC Tryz.func41 (impl_QcSame.calls (hr0_2 := pC HR1_2) (hc0_2 := HC1_2.out) (hr1_2 := rC HO394) (hc1_2 := rL HO394) (w := _) (h := A9.out)) ?_); intro w24 _
      refine nA (some 10) ?_
      refine pA 3 (some 11) (bz 37 15) HT_ ?_
      refine pA 4 (some 12) (bz 37 31) HT_ ?_
      refine tB 5 (some 13) (bz 37 63) HT_ HW_ ?_
      refine pA 6 (some 14) (bz 37 127) HT_ ?_
      refine pA 7 (some 15) (bz 37 255) HT_ ?_
      refine pA 8 (some 16) (bz 37 511) HT_ ?_
      refine tB 9 (some 17) (bz 37 1023) HT_ HW_ ?_
      refine o1 10 (some 18) (bz 37 2047) HT_ rfl (kC Tryz.func107 (impl_NameOk.calls (w := _) (h := A15.out)) ?_); intro w25 _
      refine nA (some 18) ?_
      refine pA 11 (some 19) (bz 37 4095) HT_ ?_
      refine pA 12 (some 20) (bz 37 0x1fff) HT_ ?_
      refine pA 13 (some 21) (bz 37 0x3fff) HT_ ?_
      refine tB 14 (some 22) (bz 37 0x7fff) HT_ HW_ ?_
      refine pA 15 (some 23) (bz 37 0xffff) HT_ ?_
      refine tB 16 (some 24) (bz 37 0x1ffff) HT_ HW_ ?_
      refine o1 17 (some 25) (bz 37 0x3ffff) HT_ rfl (kC Tryz.func108 (impl_ViewOf.calls (w := _) (h := A17.out)) ?_); intro w26 _
      refine nA (some 25) ?_
      refine pA 18 (some 26) (bz 37 0x7ffff) HT_ ?_
      refine pA 19 (some 27) (bz 37 0xfffff) HT_ ?_
      refine pA 20 (some 28) (bz 37 0x1fffff) HT_ ?_
      refine pA 21 (some 29) (bz 37 0x3fffff) HT_ ?_
      refine tB 22 (some 30) (bz 37 0x7fffff) HT_ HW_ ?_
      refine pA 23 (some 31) (bz 37 0xffffff) HT_ ?_
      refine tB 24 (some 32) (bz 37 0x1ffffff) HT_ HW_ ?_
      refine o1 25 (some 33) (bz 37 0x3ffffff) HT_ rfl (kD Tryz.func51 (impl_SetOk.calls (hr1 := pC HR1_2) (hc1 := HC1_2.out) (w := _) (h := A19.out)) ?_); intro w27 _
      refine nA (some 33) ?_
      refine pA 26 (some 34) (bz 37 0x7ffffff) HT_ ?_
      refine pA 27 (some 35) (bz 37 0xfffffff) HT_ ?_
      refine pA 28 (some 36) (bz 37 0x1fffffff) HT_ ?_
      refine tB 29 (some 37) (bz 37 0x3fffffff) HT_ HW_ ?_
      refine pA 30 (some 38) (bz 37 0x7fffffff) HT_ ?_
      refine tB 31 (some 39) (bz 37 0xffffffff) HT_ HW_ ?_
      refine o1 32 (some 40) (bz 37 0x1ffffffff) HT_ rfl (kC Tryz.func115 (impl_Quorum.calls (w := _) (h := A21.out)) ?_); intro w28 _
      refine nA (some 40) ?_
      refine pA 33 (some 41) (bz 37 0x3ffffffff) HT_ ?_
      refine pA 34 (some 42) (bz 37 0x7ffffffff) HT_ ?_
      refine pA 35 (some 43) (bz 37 0xfffffffff) HT_ ?_
      refine pA 36 (some 4) (bz 37 0x1fffffffff) HT_ ?_
      refine done_ (done_of HT_.out (by kernel_rfl)) ?_
      try go_wp2
      go_ret
      exact ⟨y0_8, UpW.out⟩
     replace c20 := Bool.eq_false_iff.mpr c20; subst c20
     rw [if_neg Bool.false_ne_true] at H
     obtain rfl := Option.some.inj H
     try go_wp2
     refine sB [] impl_QcOk.tab3 impl_QcOk.bits3 ?_; intro w29 _ HT_ HW_
     refine tB 0 (some 8) (bz 37 1) HT_ HW_ ?_
     refine o1 1 (some 9) (bz 37 3) HT_ rfl (kC1 Tryz.func114 (impl_QcFirst.calls (w := _) (h := A8.out)) ?_); intro Ao393 co393 w30 _ HO394
     refine nA (some 9) ?_
     refine o1 2 (some 10) (bz 37 7) HT_ rfl (kC Tryz.func41 (impl_QcSame.calls (hr0_2 := pC HR1_2) (hc0_2 := HC1_2.out) (hr1_2 := rC HO394) (hc1_2 := rL HO394) (w := _) (h := A9.out)) ?_); intro w31 _
     refine nA (some 10) ?_
     refine pA 3 (some 11) (bz 37 15) HT_ ?_
     refine pA 4 (some 12) (bz 37 31) HT_ ?_
     refine tB 5 (some 13) (bz 37 63) HT_ HW_ ?_
     refine pA 6 (some 14) (bz 37 127) HT_ ?_
     refine pA 7 (some 15) (bz 37 255) HT_ ?_
     refine pA 8 (some 16) (bz 37 511) HT_ ?_
     refine tB 9 (some 17) (bz 37 1023) HT_ HW_ ?_
     refine o1 10 (some 18) (bz 37 2047) HT_ rfl (kC Tryz.func107 (impl_NameOk.calls (w := _) (h := A15.out)) ?_); intro w32 _
     refine nA (some 18) ?_
     refine pA 11 (some 19) (bz 37 4095) HT_ ?_
     refine pA 12 (some 20) (bz 37 0x1fff) HT_ ?_
     refine pA 13 (some 21) (bz 37 0x3fff) HT_ ?_
     refine tB 14 (some 22) (bz 37 0x7fff) HT_ HW_ ?_
     refine pA 15 (some 23) (bz 37 0xffff) HT_ ?_
     refine tB 16 (some 24) (bz 37 0x1ffff) HT_ HW_ ?_
     refine o1 17 (some 25) (bz 37 0x3ffff) HT_ rfl (kC Tryz.func108 (impl_ViewOf.calls (w := _) (h := A17.out)) ?_); intro w33 _
     refine nA (some 25) ?_
     refine pA 18 (some 26) (bz 37 0x7ffff) HT_ ?_
     refine pA 19 (some 27) (bz 37 0xfffff) HT_ ?_
     refine pA 20 (some 28) (bz 37 0x1fffff) HT_ ?_
     refine pA 21 (some 29) (bz 37 0x3fffff) HT_ ?_
     refine tB 22 (some 30) (bz 37 0x7fffff) HT_ HW_ ?_
     refine pA 23 (some 31) (bz 37 0xffffff) HT_ ?_
     refine tB 24 (some 32) (bz 37 0x1ffffff) HT_ HW_ ?_
     refine o1 25 (some 33) (bz 37 0x3ffffff) HT_ rfl (kD Tryz.func51 (impl_SetOk.calls (hr1 := pC HR1_2) (hc1 := HC1_2.out) (w := _) (h := A19.out)) ?_); intro w34 _
     refine nA (some 33) ?_
     refine pA 26 (some 34) (bz 37 0x7ffffff) HT_ ?_
     refine pA 27 (some 35) (bz 37 0xfffffff) HT_ ?_
     refine pU 28 (some 36) (bz 37 0x1fffffff) HT_ ?_
     refine pU 29 (some 37) (bz 37 0x3fffffff) HT_ ?_
     refine pU 30 (some 38) (bz 37 0x7fffffff) HT_ ?_
     refine pU 31 (some 39) (bz 37 0xffffffff) HT_ ?_
     refine pU 32 (some 40) (bz 37 0x1ffffffff) HT_ ?_
     refine pU 33 (some 41) (bz 37 0x3ffffffff) HT_ ?_
     refine pA 34 (some 42) (bz 37 0x7ffffffff) HT_ ?_
     refine pA 35 (some 43) (bz 37 0xfffffffff) HT_ ?_
     refine pA 36 (some 4) (bz 37 0x1fffffffff) HT_ ?_
     refine done_ (done_of HT_.out (by kernel_rfl)) ?_
     try go_wp2
     go_ret
     exact ⟨y0_8, UpW.out⟩
    rw [if_neg c18] at H
    have c18b0 : (a1_0 == t397) = false := beq_eq_false_iff_ne.mpr c18; have c18b1 : (a1_0 != t397) = true := bne_iff_ne.mpr c18; obtain rfl := Option.some.inj H
    try go_wp2
    refine sB [] impl_QcOk.tab3 impl_QcOk.bits3 ?_; intro w35 _ HT_ HW_
    refine tB 0 (some 8) (bz 37 1) HT_ HW_ ?_
    refine o1 1 (some 9) (bz 37 3) HT_ rfl (kC1 Tryz.func114 (impl_QcFirst.calls (w := _) (h := A8.out)) ?_); intro Ao393 co393 w36 _ HO394
    refine nA (some 9) ?_
    refine o1 2 (some 10) (bz 37 7) HT_ rfl (kC Tryz.func41 (impl_QcSame.calls (hr0_2 := pC HR1_2) (hc0_2 := HC1_2.out) (hr1_2 := rC HO394) (hc1_2 := rL HO394) (w := _) (h := A9.out)) ?_); intro w37 _
    refine nA (some 10) ?_
    refine pA 3 (some 11) (bz 37 15) HT_ ?_
    refine pA 4 (some 12) (bz 37 31) HT_ ?_
    refine tB 5 (some 13) (bz 37 63) HT_ HW_ ?_
    refine pA 6 (some 14) (bz 37 127) HT_ ?_
    refine pA 7 (some 15) (bz 37 255) HT_ ?_
    refine pA 8 (some 16) (bz 37 511) HT_ ?_
    refine tB 9 (some 17) (bz 37 1023) HT_ HW_ ?_
    refine o1 10 (some 18) (bz 37 2047) HT_ rfl (kC Tryz.func107 (impl_NameOk.calls (w := _) (h := A15.out)) ?_); intro w38 _
    refine nA (some 18) ?_
    refine pA 11 (some 19) (bz 37 4095) HT_ ?_
    refine pA 12 (some 20) (bz 37 0x1fff) HT_ ?_
    refine pA 13 (some 21) (bz 37 0x3fff) HT_ ?_
    refine tB 14 (some 22) (bz 37 0x7fff) HT_ HW_ ?_
    refine pA 15 (some 23) (bz 37 0xffff) HT_ ?_
    refine tB 16 (some 24) (bz 37 0x1ffff) HT_ HW_ ?_
    refine o1 17 (some 25) (bz 37 0x3ffff) HT_ rfl (kC Tryz.func108 (impl_ViewOf.calls (w := _) (h := A17.out)) ?_); intro w39 _
    refine nA (some 25) ?_
    refine pA 18 (some 26) (bz 37 0x7ffff) HT_ ?_
    refine pA 19 (some 27) (bz 37 0xfffff) HT_ ?_
    refine pA 20 (some 28) (bz 37 0x1fffff) HT_ ?_
    refine pU 21 (some 29) (bz 37 0x3fffff) HT_ ?_
    refine pU 22 (some 30) (bz 37 0x7fffff) HT_ ?_
    refine pU 23 (some 31) (bz 37 0xffffff) HT_ ?_
    refine pU 24 (some 32) (bz 37 0x1ffffff) HT_ ?_
    refine pU 25 (some 33) (bz 37 0x3ffffff) HT_ ?_
    refine pA 26 (some 34) (bz 37 0x7ffffff) HT_ ?_
    refine pA 27 (some 35) (bz 37 0xfffffff) HT_ ?_
    refine pU 28 (some 36) (bz 37 0x1fffffff) HT_ ?_
    refine pU 29 (some 37) (bz 37 0x3fffffff) HT_ ?_
    refine pU 30 (some 38) (bz 37 0x7fffffff) HT_ ?_
    refine pU 31 (some 39) (bz 37 0xffffffff) HT_ ?_
    refine pU 32 (some 40) (bz 37 0x1ffffffff) HT_ ?_
    refine pU 33 (some 41) (bz 37 0x3ffffffff) HT_ ?_
    refine pA 34 (some 42) (bz 37 0x7ffffffff) HT_ ?_
    refine pA 35 (some 43) (bz 37 0xfffffffff) HT_ ?_
    refine pA 36 (some 4) (bz 37 0x1fffffffff) HT_ ?_
    refine done_ (done_of HT_.out (by kernel_rfl)) ?_
    try go_wp2
    go_ret
    exact ⟨y0_8, UpW.out⟩
   replace c16 := Bool.eq_false_iff.mpr c16; subst c16
   rw [if_neg Bool.false_ne_true] at H
   obtain rfl := Option.some.inj H
   try go_wp2
   refine sB [] impl_QcOk.tab3 impl_QcOk.bits3 ?_; intro w40 _ HT_ HW_
   refine tB 0 (some 8) (bz 37 1) HT_ HW_ ?_
   refine o1 1 (some 9) (bz 37 3) HT_ rfl (kC1 Tryz.func114 (impl_QcFirst.calls (w := _) (h := A8.out)) ?_); intro Ao393 co393 w41 _ HO394
   refine nA (some 9) ?_
   refine o1 2 (some 10) (bz 37 7) HT_ rfl (kC Tryz.func41 (impl_QcSame.calls (hr0_2 := pC HR1_2) (hc0_2 := HC1_2.out) (hr1_2 := rC HO394) (hc1_2 := rL HO394) (w := _) (h := A9.out)) ?_); intro w42 _
   refine nA (some 10) ?_
   refine pA 3 (some 11) (bz 37 15) HT_ ?_
   refine pA 4 (some 12) (bz 37 31) HT_ ?_
   refine tB 5 (some 13) (bz 37 63) HT_ HW_ ?_
   refine pA 6 (some 14) (bz 37 127) HT_ ?_
   refine pA 7 (some 15) (bz 37 255) HT_ ?_
   refine pA 8 (some 16) (bz 37 511) HT_ ?_
   refine tB 9 (some 17) (bz 37 1023) HT_ HW_ ?_
   refine o1 10 (some 18) (bz 37 2047) HT_ rfl (kC Tryz.func107 (impl_NameOk.calls (w := _) (h := A15.out)) ?_); intro w43 _
   refine nA (some 18) ?_
   refine pA 11 (some 19) (bz 37 4095) HT_ ?_
   refine pA 12 (some 20) (bz 37 0x1fff) HT_ ?_
   refine pU 13 (some 21) (bz 37 0x3fff) HT_ ?_
   refine pU 14 (some 22) (bz 37 0x7fff) HT_ ?_
   refine pU 15 (some 23) (bz 37 0xffff) HT_ ?_
   refine pU 16 (some 24) (bz 37 0x1ffff) HT_ ?_
   refine pU 17 (some 25) (bz 37 0x3ffff) HT_ ?_
   refine pU 18 (some 26) (bz 37 0x7ffff) HT_ ?_
   refine pA 19 (some 27) (bz 37 0xfffff) HT_ ?_
   refine pA 20 (some 28) (bz 37 0x1fffff) HT_ ?_
   refine pU 21 (some 29) (bz 37 0x3fffff) HT_ ?_
   refine pU 22 (some 30) (bz 37 0x7fffff) HT_ ?_
   refine pU 23 (some 31) (bz 37 0xffffff) HT_ ?_
   refine pU 24 (some 32) (bz 37 0x1ffffff) HT_ ?_
   refine pU 25 (some 33) (bz 37 0x3ffffff) HT_ ?_
   refine pA 26 (some 34) (bz 37 0x7ffffff) HT_ ?_
   refine pA 27 (some 35) (bz 37 0xfffffff) HT_ ?_
   refine pU 28 (some 36) (bz 37 0x1fffffff) HT_ ?_
   refine pU 29 (some 37) (bz 37 0x3fffffff) HT_ ?_
   refine pU 30 (some 38) (bz 37 0x7fffffff) HT_ ?_
   refine pU 31 (some 39) (bz 37 0xffffffff) HT_ ?_
   refine pU 32 (some 40) (bz 37 0x1ffffffff) HT_ ?_
   refine pU 33 (some 41) (bz 37 0x3ffffffff) HT_ ?_
   refine pA 34 (some 42) (bz 37 0x7ffffffff) HT_ ?_
   refine pA 35 (some 43) (bz 37 0xfffffffff) HT_ ?_
   refine pA 36 (some 4) (bz 37 0x1fffffffff) HT_ ?_
   refine done_ (done_of HT_.out (by kernel_rfl)) ?_
   try go_wp2
   go_ret
   exact ⟨y0_8, UpW.out⟩
  rw [if_neg c14] at H
  have c14b0 : decide (1 ≤ a1_0) = false := decide_eq_false c14; clear c14
  (first | rw [c14b0] | (simp only [i64_w, i32_w]; rw [c14b0]) | skip)
  obtain rfl := Option.some.inj H
  try go_wp2
  refine sB [] impl_QcOk.tab3 impl_QcOk.bits3 ?_; intro w44 _ HT_ HW_
  refine tB 0 (some 8) (bz 37 1) HT_ HW_ ?_
  refine o1 1 (some 9) (bz 37 3) HT_ rfl (kC1 Tryz.func114 (impl_QcFirst.calls (w := _) (h := A8.out)) ?_); intro Ao393 co393 w45 _ HO394
  refine nA (some 9) ?_
  refine o1 2 (some 10) (bz 37 7) HT_ rfl (kC Tryz.func41 (impl_QcSame.calls (hr0_2 := pC HR1_2) (hc0_2 := HC1_2.out) (hr1_2 := rC HO394) (hc1_2 := rL HO394) (w := _) (h := A9.out)) ?_); intro w46 _
  refine nA (some 10) ?_
  refine pA 3 (some 11) (bz 37 15) HT_ ?_
  refine pA 4 (some 12) (bz 37 31) HT_ ?_
  refine tB 5 (some 13) (bz 37 63) HT_ HW_ ?_
  refine pA 6 (some 14) (bz 37 127) HT_ ?_
  refine pA 7 (some 15) (bz 37 255) HT_ ?_
  refine pU 8 (some 16) (bz 37 511) HT_ ?_
  refine pU 9 (some 17) (bz 37 1023) HT_ ?_
  refine pU 10 (some 18) (bz 37 2047) HT_ ?_
  refine pA 11 (some 19) (bz 37 4095) HT_ ?_
  refine pA 12 (some 20) (bz 37 0x1fff) HT_ ?_
  refine pU 13 (some 21) (bz 37 0x3fff) HT_ ?_
  refine pU 14 (some 22) (bz 37 0x7fff) HT_ ?_
  refine pU 15 (some 23) (bz 37 0xffff) HT_ ?_
  refine pU 16 (some 24) (bz 37 0x1ffff) HT_ ?_
  refine pU 17 (some 25) (bz 37 0x3ffff) HT_ ?_
  refine pU 18 (some 26) (bz 37 0x7ffff) HT_ ?_
  refine pA 19 (some 27) (bz 37 0xfffff) HT_ ?_
  refine pA 20 (some 28) (bz 37 0x1fffff) HT_ ?_
  refine pU 21 (some 29) (bz 37 0x3fffff) HT_ ?_
  refine pU 22 (some 30) (bz 37 0x7fffff) HT_ ?_
  refine pU 23 (some 31) (bz 37 0xffffff) HT_ ?_
  refine pU 24 (some 32) (bz 37 0x1ffffff) HT_ ?_
  refine pU 25 (some 33) (bz 37 0x3ffffff) HT_ ?_
  refine pA 26 (some 34) (bz 37 0x7ffffff) HT_ ?_
  refine pA 27 (some 35) (bz 37 0xfffffff) HT_ ?_
  refine pU 28 (some 36) (bz 37 0x1fffffff) HT_ ?_
  refine pU 29 (some 37) (bz 37 0x3fffffff) HT_ ?_
  refine pU 30 (some 38) (bz 37 0x7fffffff) HT_ ?_
  refine pU 31 (some 39) (bz 37 0xffffffff) HT_ ?_
  refine pU 32 (some 40) (bz 37 0x1ffffffff) HT_ ?_
  refine pU 33 (some 41) (bz 37 0x3ffffffff) HT_ ?_
  refine pA 34 (some 42) (bz 37 0x7ffffffff) HT_ ?_
  refine pA 35 (some 43) (bz 37 0xfffffffff) HT_ ?_
  refine pA 36 (some 4) (bz 37 0x1fffffffff) HT_ ?_
  refine done_ (done_of HT_.out (by kernel_rfl)) ?_
  try go_wp2
  go_ret
  exact ⟨y0_8, UpW.out⟩
 replace c7 := Bool.eq_false_iff.mpr c7; subst c7
 rw [if_neg Bool.false_ne_true] at H
 obtain rfl := Option.some.inj H
 go_wp2
 go_ret
 exact ⟨y0_8, UpW.out⟩
def impl_SafeOk.f (k : Nat) (a0_0 : Int) (a0_1 : Int) (a1_0 : Int) (a1_1 : Int) (a1_2 : Int) (a1_3 : ByteArray) (l1_4 : List Int) (a1_5 : ByteArray) : Option (Bool) := (impl_within.f a1_0 0 60).bind fun t402 => (if t402 = true then ((impl_within.f a1_1 0 60).bind fun t403 => (if t403 = true then ((impl_QcOk.f k a0_0 a0_1 a1_2 a1_3 l1_4).bind fun t404 => (if t404 = true then ((impl_NameOk.f k a1_5).bind fun t405 => (some t405)) else (some false))) else (some false))) else (some false))
theorem impl_SafeOk.calls (k : Nat) (a0_0 : Int) (a0_1 : Int) (a1_0 : Int) (a1_1 : Int) (a1_2 : Int) (a1_3 : ByteArray) (A1_4 : Option Addr) (c1_4 : Nat) (l1_4 : List Int) (a1_5 : ByteArray) (r : Bool) (w : World) (hr1_4 : Kd.C (Kd.int .i64) w A1_4 l1_4.length l1_4) (hc1_4 : l1_4.length ≤ c1_4) (h : impl_SafeOk.f k a0_0 a0_1 a1_0 a1_1 a1_2 a1_3 l1_4 a1_5 = some r) (hG : Glob w := by exact gG HG HB) :
  Calls Tryz.prog 69 #[.agg #[.int .i64 a0_0, .int .i64 a0_1], .agg #[.int .i64 a1_0, .int .i64 a1_1, .int .i64 a1_2, .string a1_3, .slice A1_4 l1_4.length c1_4, .string a1_5]] w fun e w' => e = .returned (.bool r) ∧ Below w.heap.size w w' := by
 have HG := Aside0.mk hG; clear hG; have hu32 := Tryz.underlying32; have hu29 := Tryz.underlying29; have hu27 := Tryz.underlying27; have HR1_4 := Aside0.mk hr1_4; have HC1_4 := Aside0.mk hc1_4; clear hr1_4 hc1_4; have HB := Aside0.mk (Below.refl w.heap.size w)
 have H := h; unfold impl_SafeOk.f at H
 clear h
 go_enter Tryz.func69, Tryz.ntmps69
 have H' := Aside0.mk H; clear H
 go_upto_region 1 with (first | ((with_reducible refine gd 2 ?_); refine bL 2 #[.int .i64 a0_0, .int .i64 a0_1] 32 ?_; intro gb400 w3 _ _ _) | ((with_reducible refine gd 3 ?_); refine bL 3 #[.int .i64 a1_0, .int .i64 a1_1, .int .i64 a1_2, .string a1_3, .slice A1_4 l1_4.length c1_4, .string a1_5] 29 ?_; intro gb401 w4 _ _ _))
 have H := H'.out; clear H'; obtain ⟨t402, A5, H⟩ := oB H; (try dsimp only at H)
 by_cases c6 : t402 = true
 ·
  subst c6
  rw [if_pos rfl] at H
  obtain ⟨t403, A7, H⟩ := oB H; (try dsimp only at H)
  by_cases c8 : t403 = true
  ·
   subst c8
   rw [if_pos rfl] at H
   obtain ⟨t404, A9, H⟩ := oB H; (try dsimp only at H)
   by_cases c10 : t404 = true
   ·
    subst c10
    rw [if_pos rfl] at H
    obtain ⟨t405, A11, H⟩ := oB H; (try dsimp only at H); obtain rfl := Option.some.inj H
    go_wp2_with (first | ((with_reducible refine gate_callee (f := 106) rfl ?_); refine gD (some 7) Tryz.func106 (impl_within.calls (w := _) (h := A5.out)) ?_; intro w12 _) | (go_at_call 106; refine aD (impl_within.calls (w := _) (h := A7.out)) ?_; intro w13 _) | (go_at_call 50; refine aC (impl_QcOk.calls (hr1_2 := pC HR1_4) (hc1_2 := HC1_4.out) (w := _) (h := A9.out)) ?_; intro w14 _) | (go_at_call 107; refine aC (impl_NameOk.calls (w := _) (h := A11.out)) ?_; intro w15 _))
    go_ret
    exact ⟨y0_8, UpW.out⟩
   replace c10 := Bool.eq_false_iff.mpr c10; subst c10
   rw [if_neg Bool.false_ne_true] at H
   obtain rfl := Option.some.inj H
   go_wp2_with (first | ((with_reducible refine gate_callee (f := 106) rfl ?_); refine gD (some 7) Tryz.func106 (impl_within.calls (w := _) (h := A5.out)) ?_; intro w16 _) | (go_at_call 106; refine aD (impl_within.calls (w := _) (h := A7.out)) ?_; intro w17 _) | (go_at_call 50; refine aC (impl_QcOk.calls (hr1_2 := pC HR1_4) (hc1_2 := HC1_4.out) (w := _) (h := A9.out)) ?_; intro w18 _))
   go_ret
   exact ⟨y0_8, UpW.out⟩
  replace c8 := Bool.eq_false_iff.mpr c8; subst c8
  rw [if_neg Bool.false_ne_true] at H
  obtain rfl := Option.some.inj H
  go_wp2_with (first | ((with_reducible refine gate_callee (f := 106) rfl ?_); refine gD (some 7) Tryz.func106 (impl_within.calls (w := _) (h := A5.out)) ?_; intro w19 _) | (go_at_call 106; refine aD (impl_within.calls (w := _) (h := A7.out)) ?_; intro w20 _))
  go_ret
  exact ⟨y0_8, UpW.out⟩
 replace c6 := Bool.eq_false_iff.mpr c6; subst c6
 rw [if_neg Bool.false_ne_true] at H
 obtain rfl := Option.some.inj H
 go_wp2_with (first | ((with_reducible refine gate_callee (f := 106) rfl ?_); refine gD (some 7) Tryz.func106 (impl_within.calls (w := _) (h := A5.out)) ?_; intro w21 _))
 go_ret
 exact ⟨y0_8, UpW.out⟩
def impl_PutNum.l0 : Nat → Int → List Int → Option (List Int)
 | 0, _, _ => none
 | k + 1, x0, x3 => if x0 ≥ 128 then (if x3.length < 140737488355328 then (impl_PutNum.l0 k (wrap64 (Int.tdiv x0 128)) (x3 ++ [(wrap64 ((Int.tmod x0 128) + 128)) % 256])) else (none)) else (if x3.length < 140737488355328 then (some (x3 ++ [(x0) % 256])) else (none))
def impl_PutNum.f (k : Nat) (a0 : Int) : Option (List Int) := (impl_within.f a0 0 2147483647).bind fun t406 => (if t406 = true then (impl_PutNum.l0 k a0 ([] : List Int)) else (some ([] : List Int)))
theorem impl_PutNum.calls (k : Nat) (a0 : Int) (r : List Int) (w : World) (h : impl_PutNum.f k a0 = some r) :
  Calls Tryz.prog 120 #[.int .i64 a0] w fun e w' => ∃ v0_ : Value, e = .returned (v0_) ∧ Kd.R (Kd.int .u8) 5 w' w.heap.size (fun _ => True) v0_ r ∧ Below w.heap.size w w' := by
 have HB := Aside0.mk (Below.refl w.heap.size w)
 have H := h; unfold impl_PutNum.f at H
 clear h; obtain ⟨t406, A2, H⟩ := oB H; (try dsimp only at H)
 go_enter Tryz.func120, Tryz.ntmps120
 have H' := Aside0.mk H; clear H
 go_upto_if 6 with (first | ((with_reducible refine gate_callee (f := 106) rfl ?_); refine gD (some 5) Tryz.func106 (impl_within.calls (w := _) (h := A2.out)) ?_; intro w3 _))
 have H := H'.out; clear H'
 by_cases c4 : t406 = true
 ·
  subst c4
  rw [if_pos rfl] at H
  have H' := Aside0.mk H; clear H
  go_wp2
  refine wC ?_; intro w5 _
  go_loopg [0, 3] k (fun kq v0 v3 w' => ∃ (x0_1 : Int) (x3_1 : List Int) (Ao3_1 : Option Addr) (co3_1 : Nat), v0 = .int .i64 x0_1 ∧ v3 = .slice Ao3_1 x3_1.length co3_1 ∧ Aside0 (impl_PutNum.l0 kq x0_1 x3_1 = some r) ∧ Aside0 (kq ≤ k) ∧ Aside0 (Kd.R (Kd.int .u8) 5 w' w5.heap.size (iv w5 w') (.slice Ao3_1 x3_1.length co3_1) x3_1) ∧ KT w5 [] w5 _ (Kd.int .u8) 5 w' ∧ LB w w')
  case atStart => exact ⟨(a0), (([] : List Int)), (none), (0), y0_8, y0_8, H', ⟨Nat.le_refl _⟩, ⟨Kd.R_nil _ _ _ _ _⟩, ⟨UpT.out⟩, ⟨UpW.out⟩⟩
  case round =>
   clear H'; obtain ⟨x0_1, x3_1, Ao3_1, co3_1, rfl, rfl, HA, HK1, HO_3, _, _⟩ := hrel; cases gk with
   | zero => exact absurd HA.out (by simp [impl_PutNum.l0])
   | succ k1 =>
    have H := HA.out; clear HA
    simp only [impl_PutNum.l0] at H
    by_cases c6 : x0_1 ≥ 128
    ·
     rw [if_pos c6] at H
     have c6b0 : decide (128 ≤ x0_1) = true := decide_eq_true c6; clear c6
     (first | rw [c6b0] | (simp only [i64_w, i32_w]; rw [c6b0]) | skip)
     by_cases c7 : x3_1.length < 140737488355328
     rotate_left
     ·
      rw [if_neg c7] at H
      exact absurd H (by simp)
     rw [if_pos c7] at H
     have LMc7 := Aside0.mk c7; clear c7; obtain ⟨y407, hy407⟩ : ∃ y_ : List Int, y_ = (x3_1 ++ [(wrap64 ((Int.tmod x0_1 128) + 128)) % 256]) := ⟨_, rfl⟩
     replace H : (impl_PutNum.l0 k1 (wrap64 (Int.tdiv x0_1 128)) y407) = some r := by first | (rw [hy407]; with_reducible exact H) | (rw [hy407]; with_reducible exact (Option.bind_some _ _).symm.trans H) | (rw [hy407]; exact H) | exact H
     have Ny407 := Aside0.mk hy407; clear hy407; have H' := Aside0.mk H; clear H
     go_wp2_with (first | ((with_reducible refine gate_builtin (b := .append) (xs := #[.tmp 9, .tmp 14]) rfl ?_); at_builtin; refine gA (Kd.int .u8) (.tmp 9) (.tmp 14) 24 5 (.int .u8 0) 1 ((wrap64 ((Int.tmod x0_1 128) + 128)) % 256) [.int .u8 ((wrap64 ((Int.tmod x0_1 128) + 128)) % 256)] w5 Ny407 HO_3 rfl (by have := LMc7.out; omega) ?_ (ht := Tryz.underlying24) (hinfo := info5); intro Ao408 co408 w8 _ _ HO409))
     go_roundg k1
     case measure => have := HK1.out; omega
     case rel => exact ⟨(wrap64 (Int.tdiv x0_1 128)), (y407), (Ao408), (co408), y0_8, y0_8, H', ⟨y0_11⟩, ⟨rJ HO409⟩, ⟨UpT.out⟩, ⟨UpW.out⟩⟩
    rw [if_neg c6] at H
    have c6b0 : decide (128 ≤ x0_1) = false := decide_eq_false c6; clear c6
    (first | rw [c6b0] | (simp only [i64_w, i32_w]; rw [c6b0]) | skip)
    by_cases c9 : x3_1.length < 140737488355328
    rotate_left
    ·
     rw [if_neg c9] at H
     exact absurd H (by simp)
    rw [if_pos c9] at H
    have LMc9 := Aside0.mk c9; clear c9; obtain ⟨y410, hy410⟩ : ∃ y_ : List Int, y_ = (x3_1 ++ [(x0_1) % 256]) := ⟨_, rfl⟩
    replace H : (some y410) = some r := by first | (rw [hy410]; with_reducible exact H) | (rw [hy410]; with_reducible exact (Option.bind_some _ _).symm.trans H) | (rw [hy410]; exact H) | exact H
    have Ny410 := Aside0.mk hy410; clear hy410; obtain rfl := Option.some.inj H
    go_wp2_with (first | ((with_reducible refine gate_builtin (b := .append) (xs := #[.tmp 18, .tmp 21]) rfl ?_); at_builtin; refine gA (Kd.int .u8) (.tmp 18) (.tmp 21) 24 5 (.int .u8 0) 1 ((x0_1) % 256) [.int .u8 ((x0_1) % 256)] w5 Ny410 HO_3 rfl (by have := LMc9.out; omega) ?_ (ht := Tryz.underlying24) (hinfo := info5); intro Ao411 co411 w10 _ _ HO412))
    go_ret
    exact ⟨_, y0_8, rR HO412, UpW.out⟩
 replace c4 := Bool.eq_false_iff.mpr c4; subst c4
 rw [if_neg Bool.false_ne_true] at H
 obtain rfl := Option.some.inj H
 go_wp2
 go_ret
 exact ⟨_, y0_8, Kd.R_nil _ _ _ _ _, UpW.out⟩
def impl_GetNum.l0 : Nat → List Int → Int → Int → Int → Option (Int × Int × Bool)
 | 0, _, _, _, _ => none
 | k + 1, x0, x1, x7, x8 => if x8 < 5 then (if (wrap64 (x1 + x8)) < (x0.length : Int) then (if 0 ≤ (wrap64 (x1 + x8)) then (if 0 ≤ (wrap64 (7 * x8)) then (if (wrap64 (rd x0 (wrap64 (x1 + x8)))) < 128 then ((impl_PutNum.f k (wrap64 (x7 + (shl .i64 (Int.tmod (wrap64 (rd x0 (wrap64 (x1 + x8)))) 128) (wrap64 (7 * x8)))))).bind fun t415 => (if (t415.length : Int) = (wrap64 (x8 + 1)) then (some (wrap64 (x7 + (shl .i64 (Int.tmod (wrap64 (rd x0 (wrap64 (x1 + x8)))) 128) (wrap64 (7 * x8)))), wrap64 ((wrap64 (x1 + x8)) + 1), true)) else (some (0, 0, false)))) else (impl_GetNum.l0 k x0 x1 (wrap64 (x7 + (shl .i64 (Int.tmod (wrap64 (rd x0 (wrap64 (x1 + x8)))) 128) (wrap64 (7 * x8))))) (wrap64 (x8 + 1)))) else (none)) else (none)) else (some (0, 0, false))) else (some (0, 0, false))
def impl_GetNum.f (k : Nat) (l0 : List Int) (a1 : Int) : Option (Int × Int × Bool) := (impl_within.f a1 0 (wrap64 ((l0.length : Int) - 1))).bind fun t413 => (if t413 = true then (impl_GetNum.l0 k l0 a1 0 0) else (some (0, 0, false)))
theorem impl_GetNum.calls (k : Nat) (A0 : Option Addr) (c0 : Nat) (l0 : List Int) (a1 : Int) (r1 : Int) (r2 : Int) (r3 : Bool) (w : World) (hr0 : Kd.C (Kd.int .u8) w A0 l0.length l0) (hc0 : l0.length ≤ c0) (h : impl_GetNum.f k l0 a1 = some (r1, r2, r3)) :
  Calls Tryz.prog 135 #[.slice A0 l0.length c0, .int .i64 a1] w fun e w' => e = .returned (.tuple #[.int .i64 r1, .int .i64 r2, .bool r3]) ∧ Below w.heap.size w w' := by
 have HR0 := Aside0.mk hr0; have HC0 := Aside0.mk hc0; clear hr0 hc0; have HB := Aside0.mk (Below.refl w.heap.size w)
 have H := h; unfold impl_GetNum.f at H
 clear h; obtain ⟨t413, A3, H⟩ := oB H; (try dsimp only at H)
 go_enter Tryz.func135, Tryz.ntmps135
 have H' := Aside0.mk H; clear H
 go_upto_if 15 with (first | ((with_reducible refine gate_callee (f := 106) rfl ?_); refine gD (some 14) Tryz.func106 (impl_within.calls (w := _) (h := A3.out)) ?_; intro w4 _))
 have H := H'.out; clear H'
 by_cases c5 : t413 = true
 ·
  subst c5
  rw [if_pos rfl] at H
  have H' := Aside0.mk H; clear H
  go_wp2
  refine wC ?_; intro w6 _
  go_loopg [7, 8] k (fun kq v7 v8 w' => ∃ (x7_1 : Int) (x8_1 : Int), v7 = .int .i64 x7_1 ∧ v8 = .int .i64 x8_1 ∧ Aside0 (impl_GetNum.l0 kq l0 a1 x7_1 x8_1 = some (r1, r2, r3)) ∧ Aside0 (kq ≤ k) ∧ UB w6 w')
  case atStart => exact ⟨(0), (0), y0_8, y0_8, H', ⟨Nat.le_refl _⟩, ⟨UpW.out⟩⟩
  case round =>
   clear H'; obtain ⟨x7_1, x8_1, rfl, rfl, HA, HK1, _⟩ := hrel; cases gk with
   | zero => exact absurd HA.out (by simp [impl_GetNum.l0])
   | succ k1 =>
    have H := HA.out; clear HA
    simp only [impl_GetNum.l0] at H
    by_cases c7 : x8_1 < 5
    ·
     rw [if_pos c7] at H
     have c7b0 : decide (x8_1 < 5) = true := decide_eq_true c7; clear c7
     (first | rw [c7b0] | (simp only [i64_w, i32_w]; rw [c7b0]) | skip)
     by_cases c8 : (wrap64 (a1 + x8_1)) < (l0.length : Int)
     ·
      rw [if_pos c8] at H
      have c8b0 : decide ((wrap64 (a1 + x8_1)) < (l0.length : Int)) = true := decide_eq_true c8; clear c8; obtain ⟨ji9, hji9⟩ : ∃ j_ : Int, (wrap64 (a1 + x8_1)) = j_ := ⟨_, rfl⟩
      replace H : (if 0 ≤ (ji9) then (if 0 ≤ (wrap64 (7 * x8_1)) then (if (wrap64 (rd l0 (ji9))) < 128 then ((impl_PutNum.f k1 (wrap64 (x7_1 + (shl .i64 (Int.tmod (wrap64 (rd l0 (ji9))) 128) (wrap64 (7 * x8_1)))))).bind fun t415 => (if (t415.length : Int) = (wrap64 (x8_1 + 1)) then (some (wrap64 (x7_1 + (shl .i64 (Int.tmod (wrap64 (rd l0 (ji9))) 128) (wrap64 (7 * x8_1)))), wrap64 ((ji9) + 1), true)) else (some (0, 0, false)))) else (impl_GetNum.l0 k1 l0 a1 (wrap64 (x7_1 + (shl .i64 (Int.tmod (wrap64 (rd l0 (ji9))) 128) (wrap64 (7 * x8_1))))) (wrap64 (x8_1 + 1)))) else (none)) else (none)) = some (r1, r2, r3) := by first | (rw [hji9] at H; exact H) | (simp only [hji9] at H ⊢; exact H)
      (try rw [hji9] at c8b0)
      have hji9w : (IntKind.i64.wrap (a1 + x8_1)) = ji9 := (i64_w _).trans hji9
      by_cases c10 : 0 ≤ (ji9)
      rotate_left
      ·
       rw [if_neg c10] at H
       exact absurd H (by simp)
      rw [if_pos c10] at H
      have c10b0 : decide (0 ≤ (ji9)) = true := decide_eq_true c10; clear c10; obtain ⟨ji11, hji11⟩ : ∃ j_ : Int, (wrap64 (7 * x8_1)) = j_ := ⟨_, rfl⟩
      replace H : (if 0 ≤ (ji11) then (if (wrap64 (rd l0 (ji9))) < 128 then ((impl_PutNum.f k1 (wrap64 (x7_1 + (shl .i64 (Int.tmod (wrap64 (rd l0 (ji9))) 128) (ji11))))).bind fun t415 => (if (t415.length : Int) = (wrap64 (x8_1 + 1)) then (some (wrap64 (x7_1 + (shl .i64 (Int.tmod (wrap64 (rd l0 (ji9))) 128) (ji11))), wrap64 ((ji9) + 1), true)) else (some (0, 0, false)))) else (impl_GetNum.l0 k1 l0 a1 (wrap64 (x7_1 + (shl .i64 (Int.tmod (wrap64 (rd l0 (ji9))) 128) (ji11)))) (wrap64 (x8_1 + 1)))) else (none)) = some (r1, r2, r3) := by first | (rw [hji11] at H; exact H) | (simp only [hji11] at H ⊢; exact H)
      have hji11w : (IntKind.i64.wrap (7 * x8_1)) = ji11 := (i64_w _).trans hji11
      by_cases c12 : 0 ≤ (ji11)
      rotate_left
      ·
       rw [if_neg c12] at H
       exact absurd H (by simp)
      rw [if_pos c12] at H
      have c12b0 := eq_true c12; have c12b1 : decide (0 ≤ (ji11)) = true := decide_eq_true c12; clear c12; obtain ⟨ji13, hji13⟩ : ∃ j_ : Int, (shl .i64 (Int.tmod (wrap64 (rd l0 (ji9))) 128) (ji11)) = j_ := ⟨_, rfl⟩
      replace H : (if (wrap64 (rd l0 (ji9))) < 128 then ((impl_PutNum.f k1 (wrap64 (x7_1 + (ji13)))).bind fun t415 => (if (t415.length : Int) = (wrap64 (x8_1 + 1)) then (some (wrap64 (x7_1 + (ji13)), wrap64 ((ji9) + 1), true)) else (some (0, 0, false)))) else (impl_GetNum.l0 k1 l0 a1 (wrap64 (x7_1 + (ji13))) (wrap64 (x8_1 + 1)))) = some (r1, r2, r3) := by first | (rw [hji13] at H; exact H) | (simp only [hji13] at H ⊢; exact H)
      have hji13_ : (IntKind.i64.wrap ((Int.tmod (wrap64 (rd l0 (ji9))) 128) * 2 ^ min (ji11).toNat 64)) = ji13 := hji13; have hji13z : (ji11) ≤ 64 → (IntKind.i64.wrap ((Int.tmod (wrap64 (rd l0 (ji9))) 128) * 2 ^ (ji11).toNat)) = ji13 := shl_small hji13; have hji13y : (wrap64 ((Int.tmod (wrap64 (rd l0 (ji9))) 128) * 2 ^ min (ji11).toNat 64)) = ji13 := (i64_w _).symm.trans hji13_
      have hji13x : (ji11) ≤ 64 → (wrap64 ((Int.tmod (wrap64 (rd l0 (ji9))) 128) * 2 ^ (ji11).toNat)) = ji13 := fun h_ => (i64_w _).symm.trans (hji13z h_)
      have H' := Aside0.mk H; clear H; have p414 : 0 ≤ ((ji9) : Int) := of_decide_eq_true y0_7; have q414 : (ji9) < (l0.length : Int) := of_decide_eq_true y0_7; obtain ⟨ad414, e414, hx414_0⟩ := Kd.at_int HR0.out (ji9) p414 q414; cases e414; have i414_0_ := RdP.mk hx414_0; clear hx414_0; replace p414 := eq_true p414; replace q414 := eq_true q414
      go_upto_if 43 with fail
      have H := H'.out; clear H'
      by_cases c14 : (wrap64 (rd l0 (ji9))) < 128
      ·
       rw [if_pos c14] at H
       have c14b0 : decide ((wrap64 (rd l0 (ji9))) < 128) = true := decide_eq_true c14; clear c14
       (first | rw [c14b0] | (simp only [i64_w, i32_w]; rw [c14b0]) | skip)
       obtain ⟨t415, A15, H⟩ := oB H; (try dsimp only at H); have H' := Aside0.mk H; clear H
       go_upto_if 49 with (first | ((with_reducible refine gate_callee (f := 120) rfl ?_); refine gC1 (some 45) Tryz.func120 (impl_PutNum.calls (w := _) (h := A15.out)) ?_; intro Ao416 co416 w16 _ HO417))
       have H := H'.out; clear H'
       by_cases c17 : (t415.length : Int) = (wrap64 (x8_1 + 1))
       ·
        rw [if_pos c17] at H
        have c17b0 : ((t415.length : Int) == (wrap64 (x8_1 + 1))) = true := beq_iff_eq.mpr c17; have c17b1 : ((t415.length : Int) != (wrap64 (x8_1 + 1))) = false := bne_eq_false_iff_eq.mpr c17; clear c17
        (first | rw [c17b0] | (simp only [i64_w, i32_w]; rw [c17b0]) | skip)
        simp only [Option.some.injEq, Prod.mk.injEq] at H
        obtain ⟨rfl, rfl, rfl⟩ := H
        go_wp2
        go_ret3
        exact ⟨by first | rfl | (simp; done) | (simp only [← hji9, ← hji11, ← hji13] <;> (first | rfl | simp)) | (simp [*]; done), UpW.out⟩
       rw [if_neg c17] at H
       have c17b0 : ((t415.length : Int) == (wrap64 (x8_1 + 1))) = false := beq_eq_false_iff_ne.mpr c17; have c17b1 : ((t415.length : Int) != (wrap64 (x8_1 + 1))) = true := bne_iff_ne.mpr c17
       (first | rw [c17b0] | (simp only [i64_w, i32_w]; rw [c17b0]) | skip)
       simp only [Option.some.injEq, Prod.mk.injEq] at H
       obtain ⟨rfl, rfl, rfl⟩ := H
       go_wp2
       go_ret3
       exact ⟨by first | rfl | (simp; done) | (simp only [← hji9, ← hji11, ← hji13] <;> (first | rfl | simp)) | (simp [*]; done), UpW.out⟩
      rw [if_neg c14] at H
      have c14b0 : decide ((wrap64 (rd l0 (ji9))) < 128) = false := decide_eq_false c14; clear c14
      (first | rw [c14b0] | (simp only [i64_w, i32_w]; rw [c14b0]) | skip)
      have H' := Aside0.mk H; clear H
      go_wp2
      go_roundg k1
      case measure => have := HK1.out; omega
      case rel => exact ⟨(wrap64 (x7_1 + (ji13))), (wrap64 (x8_1 + 1)), y0_4, y0_8, H', ⟨y0_11⟩, ⟨UpW.out⟩⟩
     rw [if_neg c8] at H
     have c8b0 : decide ((wrap64 (a1 + x8_1)) < (l0.length : Int)) = false := decide_eq_false c8; clear c8
     simp only [Option.some.injEq, Prod.mk.injEq] at H
     obtain ⟨rfl, rfl, rfl⟩ := H
     go_wp2
     go_ret3
     exact ⟨y0_8, UpW.out⟩
    rw [if_neg c7] at H
    have c7b0 : decide (x8_1 < 5) = false := decide_eq_false c7; clear c7
    (first | rw [c7b0] | (simp only [i64_w, i32_w]; rw [c7b0]) | skip)
    simp only [Option.some.injEq, Prod.mk.injEq] at H
    obtain ⟨rfl, rfl, rfl⟩ := H
    go_wp2
    go_ret3
    exact ⟨y0_8, UpW.out⟩
 replace c5 := Bool.eq_false_iff.mpr c5; subst c5
 rw [if_neg Bool.false_ne_true] at H
 simp only [Option.some.injEq, Prod.mk.injEq] at H
 obtain ⟨rfl, rfl, rfl⟩ := H
 go_wp2
 go_ret3
 exact ⟨y0_8, UpW.out⟩
end Go.Proofs.YtdmjhgogljhfkaaGreatDoor.PFnNotes
