-- By a program of this session, out of the translation (the print of the kit, with turns of its own). Lean checks it.
import Derived.Test.YtemjmefacifdeaaPFnExactPartJoinx0
import Derived.Test.YtemjmefacifdeaaPFnExactPartJoinx2
namespace Go.Proofs.Ytemjmefacifdeaa.PFnExactPartJoin
open Go.RowKit Go.Proofs.YtemjmefacifdeaaW.PrintWords Go.Proofs.YtemjmefacifdeaaW.PrintLast Go.Proofs.YtemjmefacifdeaaW.PrintMore
attribute [local go_sem] max2_int min2_int max_two min_two max_three min_three max_four min_four   -- for this text's walks alone
set_option linter.unusedVariables false
set_option linter.unusedSimpArgs false

/-! ### impl_SetAdd: function 18 -/
def impl_SetAdd.at_ (l0 : List Int) (a1 : Int) : Nat := (l0.takeWhile (fun y => decide (y < a1))).length
theorem impl_SetAdd.at_le (l0 : List Int) (a1 : Int) : impl_SetAdd.at_ l0 a1 ≤ l0.length := (List.takeWhile_sublist _).length_le
theorem impl_SetAdd.idx (a1 : Int) : ∀ (l0 : List Int) (n : Nat), Lib.idxByFrom (fun _ y => decide (y ≥ a1)) default l0 n = if impl_SetAdd.at_ l0 a1 = l0.length then -1 else ((n + impl_SetAdd.at_ l0 a1 : Nat) : Int)
 | [], n => rfl
 | y :: r, n => by
  unfold Lib.idxByFrom
  by_cases hy : y ≥ a1
  ·
   rw [if_pos (decide_eq_true hy)]
   have : impl_SetAdd.at_ (y :: r) a1 = 0 := by
    unfold impl_SetAdd.at_
    rw [List.takeWhile_cons_of_neg (by simpa using hy)]; rfl
   rw [this, if_neg (by simp)]; simp
  rw [if_neg (by simpa using hy), impl_SetAdd.idx a1 r (n + 1)]
  have : impl_SetAdd.at_ (y :: r) a1 = impl_SetAdd.at_ r a1 + 1 := by
   unfold impl_SetAdd.at_
   rw [List.takeWhile_cons_of_pos (by simpa using hy)]; rfl
  rw [this, List.length_cons]
  by_cases he : impl_SetAdd.at_ r a1 = r.length
  ·
   rw [if_pos he, if_pos (by omega)]
  rw [if_neg he, if_neg (by omega)]
  congr 1; omega
def impl_SetAdd.f (k : Nat) (l0 : List Int) (a1 : Int) : Option (List Int) := (impl_SetHas.f k l0 a1).bind fun b => (impl_copyInts.f l0).bind fun c => if b = true then some c else some (c.take (impl_SetAdd.at_ l0 a1) ++ a1 :: c.drop (impl_SetAdd.at_ l0 a1))
theorem impl_SetAdd.mono : ∀ a0 a1 k, LeO (impl_SetAdd.f k a0 a1) (impl_SetAdd.f (k + 1) a0 a1) := by
 intro a0 a1 k
 unfold impl_SetAdd.f
 exact LeO.bind (impl_SetHas.mono _ _ _) (fun _ => LeO.refl _)
theorem impl_SetAdd.find (A0 : Option Addr) (c0 : Nat) (l0 : List Int) (a1 : Int) (g : Nat) (w : World) (hr0 : Kd.C (Kd.int .i64) w A0 l0.length l0) (hg : w.heap[g]? = some (.cells #[.int .i64 a1] 3 (0, 0))) :
  Calls Try.prog 38 #[.slice A0 l0.length c0, .func (.func 39) #[] #[.pointer (some ⟨g, 0, none⟩)]] w fun e w' => e = .returned (.int .i64 (if impl_SetAdd.at_ l0 a1 = l0.length then -1 else (impl_SetAdd.at_ l0 a1 : Int))) ∧ ∃ q, w' = w.drewN q := by
 rcases Nat.eq_zero_or_pos l0.length with h0 | h0
 ·
  have hx : l0 = [] := List.length_eq_zero_iff.1 h0; subst hx
  refine (Try.slices_IndexFunc_empty (α := Int) A0 c0 _ w).mono ?_
  rintro e w' ⟨rfl, rfl⟩
  exact ⟨rfl, 0, rfl⟩
 obtain ⟨ad, rfl, hc⟩ := hr0.2.2 h0
 have hc' : ∀ j (hj : j < l0.length), w.cell? ((ad.add j)) = some (.int .i64 l0[j]) := by
  intro j hj
  obtain ⟨c, _, hK, hu⟩ := hc j _ (List.getElem?_eq_getElem hj)
  have hK' : c = [Value.int .i64 l0[j]] := hK; subst hK'; have := hu 0 _ rfl
  have e : j * (Kd.int IntKind.i64).sz + 0 = j := by show j * 1 + 0 = j; omega
  rwa [e] at this
 obtain ⟨b, off, sp⟩ := ad
 have hsp : sp = none := by
  cases sp with
  | none => rfl
  | some s =>
   have h1 := hc' 0 h0
   simp [Addr.add, World.cell?] at h1
   split at h1 <;> simp at h1
 subst hsp
 have hc2 : ∀ j, j < l0.length → w.cell? ⟨b, off + j, none⟩ = some (Value.int .i64 l0[j]!) := by
  intro j hj
  have h1 := hc' j hj
  rw [getElem!_pos l0 j hj]
  by_cases hj0 : j = 0
  ·
   subst hj0
   simpa [Addr.add] using h1
  simpa [Addr.add, hj0] using h1
 refine (Try.slices_IndexFunc (α := Int) (Value.int .i64) (fun x => decide (x ≥ a1)) 39 #[.pointer (some ⟨g, 0, none⟩)] (fun _ _ => rfl) b off l0.length c0 l0 w (Ins.pred w g a1 hg) (Nat.le_refl _) hr0.2.1 hc2).mono ?_
 rintro e w' ⟨rfl, hq⟩
 refine ⟨?_, hq⟩
 have h1 := impl_SetAdd.idx a1 l0 0
 rw [List.take_length]
 unfold Lib.idxBy
 rw [h1, Nat.zero_add]
theorem impl_SetAdd.find2 (A0 : Option Addr) (c0 : Nat) (l0 : List Int) (a1 : Int) (g : Nat) (w : World) (z : Int) (hr0 : Kd.C (Kd.int .i64) w A0 l0.length l0) (hg : w.heap[g]? = some (.cells #[.int .i64 a1] 3 (0, 0))) (hz : (if impl_SetAdd.at_ l0 a1 = l0.length then -1 else (impl_SetAdd.at_ l0 a1 : Int)) = z) :
  Calls Try.prog 38 #[.slice A0 l0.length c0, .func (.func 39) #[] #[.pointer (some ⟨g, 0, none⟩)]] w fun e w' => e = .returned (.int .i64 z) ∧ ∃ q, w' = w.drewN q := by
 subst hz
 exact impl_SetAdd.find A0 c0 l0 a1 g w hr0 hg
section
variable {P : Program} {ops : Array Oper} {rest : List Oper} {o : Oper} {a : Act} {Q : Exit → Act → World → Prop}
/-- A literal row, its block told. -/
theorem impl_SetAdd.lit {W : World} (n : Nat) (cs : Array Value) (t : TypeId)
  (h : ∀ g, g = W.heap.size → ∀ w1, w1.heap[g]? = some (.cells cs t (0, 0)) → Below W.heap.size W w1 → wpList P ops Q rest (a.put o.dst (.slice (some ⟨g, 0, none⟩) n n)) w1)
  (hgd : o.guard = none := by rfl) (hrun : (execOp a.eval o).run P W = .ok (.value (.slice (some ⟨W.heap.size, 0, none⟩) n n)) (W.alloc (.cells cs t (0, 0))) := by first | (go_simp; done) | (go_simp; rfl) | rfl) : wpList P ops Q (o :: rest) a W :=
 Kd.event_run hgd hrun (h _ rfl _ (blk_new W _) (below_alloc (Below.refl _ _) _))
end
section
variable {P : Program} {ops : Array Oper} {o : Oper} {a : Act} {Q : Exit → Act → World → Prop} {Kc : Act → World → Prop}
theorem impl_SetAdd.lit_step {W : World} (n : Nat) (cs : Array Value) (t : TypeId)
  (h : ∀ g, g = W.heap.size → ∀ w1, w1.heap[g]? = some (.cells cs t (0, 0)) → Below W.heap.size W w1 → Kc (a.put o.dst (.slice (some ⟨g, 0, none⟩) n n)) w1)
  (hw : Region.wanted o (yielded ops a.tmps) = true := by rfl) (hrun : (execOp a.eval o).run P W = .ok (.value (.slice (some ⟨W.heap.size, 0, none⟩) n n)) (W.alloc (.cells cs t (0, 0))) := by first | (go_simp; done) | (go_simp; rfl) | rfl) :
  if Region.wanted o (yielded ops a.tmps) = true then Oper.wp P o a W Kc Q else Kc (a.put o.dst undef) W :=
 event_step hw hrun (h _ rfl _ (blk_new W _) (below_alloc (Below.refl _ _) _))
end
section
variable {P : Program} {ops : Array Oper} {Q : Exit → Act → World → Prop} {md : Region.Mode} {S : World → Prop} {ds : List Nat}
theorem impl_SetAdd.two {i j : Nat} {Ni Nj : Option Tmp} {oi oj : Oper} {fuel : Nat} {l : Array Bool} {a : Act} {w : World} (li lj : Array Bool) (hi : ops[i]? = some oi) (hj : ops[j]? = some oj) (hNi : oi.dst = Ni) (hNj : oj.dst = Nj)
  (hc : (Region.ready md ops l == [i, j] && l.setIfInBounds i true == li && l.setIfInBounds j true == lj) = true) (hdi : i ∉ ds) (hdj : j ∉ ds)
  (h1 : ∀ K : Act → World → Prop, Shut (∀ a' w', S w' → (S w' → wpAnyLast P md ops Q S ds fuel li a' w') → K a' w') → if Region.wanted oi (yielded ops a.tmps) = true then Oper.wp P oi a w K Q else K (a.put Ni undef) w)
  (h2 : ∀ K : Act → World → Prop, Shut (∀ a' w', S w' → (S w' → wpAnyLast P md ops Q S ds fuel lj a' w') → K a' w') → if Region.wanted oj (yielded ops a.tmps) = true then Oper.wp P oj a w K Q else K (a.put Nj undef) w) :
  wpAnyLast P md ops Q S ds (fuel + 1) l a w := by
 subst hNi; subst hNj
 simp only [Bool.and_eq_true, beq_iff_eq] at hc
 obtain ⟨⟨h3, h4⟩, h5⟩ := hc; subst h4; subst h5
 exact wpAnyLast_ready h3 (by simp) (AllReadyL.cons hi hdi (fun K hK => h1 K hK) (AllReadyL.cons hj hdj (fun K hK => h2 K hK) AllReadyL.nil))
end
theorem impl_SetAdd.copied {l0 c : List Int} (h : impl_copyInts.f l0 = some c) : c = l0 ∧ l0.length < 17592186044416 := by
 unfold impl_copyInts.f at h
 by_cases hc : ([] : List Int).length + l0.length < 17592186044416
 rotate_left
 ·
  rw [if_neg hc] at h
  exact absurd h (by simp)
 rw [if_pos hc] at h
 exact ⟨by simpa using (Option.some.inj h).symm, by simpa using hc⟩
set_option maxHeartbeats 8000000 in
set_option maxRecDepth 100000 in
theorem impl_SetAdd.calls (k : Nat) (A0 : Option Addr) (c0 : Nat) (l0 : List Int) (a1 : Int) (r : List Int) (w : World) (hr0 : Kd.C (Kd.int .i64) w A0 l0.length l0) (hc0 : l0.length ≤ c0) (h : impl_SetAdd.f k l0 a1 = some r) :
  Calls Try.prog 18 #[.slice A0 l0.length c0, .int .i64 a1] w fun e w' => ∃ v0_ : Value, e = .returned (v0_) ∧ Kd.R (Kd.int .i64) 3 w' w.heap.size (fun _ => True) v0_ r ∧ Below w.heap.size w w' := by
 have HR0 := Aside0.mk hr0; have HC0 := Aside0.mk hc0; clear hr0 hc0; have HB := Aside0.mk (Below.refl w.heap.size w); obtain ⟨b, A1, H⟩ := Option.bind_eq_some_iff.mp h; obtain ⟨c, A2, H⟩ := Option.bind_eq_some_iff.mp H; obtain ⟨hcl, hln⟩ := impl_SetAdd.copied A2; subst hcl; have A1 := Aside0.mk A1; have A2 := Aside0.mk A2; have LN := Aside0.mk hln; clear h hln; cases b with
 | true =>
  rw [if_pos rfl] at H
  obtain rfl := Option.some.inj H
  go_enter Try.func18, Try.ntmps18
  go_wp2_with (first | ((with_reducible refine gd 3 ?_); refine bA 3 #[.int .i64 a1] 3 ?_; intro gb hg w2 hbox hb; have BK := Aside0.mk hbox; have hcz := bc0 hbox; have hfz := blk_frozen hbox 0; have GW := bg hg HB; replace HB := bs HB hb; clear hb hbox hg) | ((with_reducible refine gate_callee (f := 36) rfl ?_); refine gB (some 8) Try.func36 #[.slice A0 c.length c0, .int .i64 a1] ?_; (with_reducible refine (impl_SetHas.calls k _ _ c a1 true _ ?side1 ?side2 A1.out).mono ?_); (case side1 => exact ch HR0 HB); (case side2 => exact HC0.out); rintro e w' ⟨rfl, ⟨nd, rfl⟩⟩; refine ⟨_, rfl, ?_⟩) | ((with_reducible refine gate_callee (f := 37) rfl ?_); refine gB (some 10) Try.func37 #[.slice A0 c.length c0] ?_; (with_reducible refine (impl_copyInts.calls _ _ c c _ ?side1 ?side2 A2.out).mono ?_); (case side1 => exact ch HR0 HB); (case side2 => exact HC0.out); rintro e w' ⟨v0, rfl, ho, hb⟩; refine ⟨_, rfl, ?_⟩; have HO := Aside0.mk (Kd.R_lower ho (below_size (bI HB.out))); replace HB := bs HB hb; clear hb ho))
  go_ret
  exact ⟨_, rfl, rI HO.out, bI HB.out⟩
 | false =>
  rw [if_neg (show ¬ (false = true) by decide)] at H
  obtain ⟨m, hm⟩ : ∃ m, m = impl_SetAdd.at_ c a1 := ⟨_, rfl⟩; have ML := Aside0.mk (impl_SetAdd.at_le c a1)
  rw [← hm] at H ML
  obtain rfl := Option.some.inj H
  by_cases he : m = c.length
  ·
   have HZ : Aside0 ((if impl_SetAdd.at_ c a1 = c.length then -1 else (impl_SetAdd.at_ c a1 : Int)) = -1) := Aside0.mk (if_pos (hm ▸ he)); clear hm; subst he
   go_enter Try.func18, Try.ntmps18
   go_wp2_with (first | ((with_reducible refine gd 3 ?_); refine bA 3 #[.int .i64 a1] 3 ?_; intro gb hg w2 hbox hb; have BK := Aside0.mk hbox; have hcz := bc0 hbox; have hfz := blk_frozen hbox 0; have GW := bg hg HB; replace HB := bs HB hb; clear hb hbox hg) | ((with_reducible refine gate_callee (f := 36) rfl ?_); refine gB (some 8) Try.func36 #[.slice A0 c.length c0, .int .i64 a1] ?_; (with_reducible refine (impl_SetHas.calls k _ _ c a1 false _ ?side1 ?side2 A1.out).mono ?_); (case side1 => exact ch HR0 HB); (case side2 => exact HC0.out); rintro e w' ⟨rfl, ⟨nd, rfl⟩⟩; refine ⟨_, rfl, ?_⟩) | ((with_reducible refine gate_callee (f := 38) rfl ?_); refine gB (some 13) Try.func38 #[.slice A0 c.length c0, .func (.func 39) #[] #[.pointer (some ⟨gb, 0, none⟩)]] ?_; (with_reducible refine (impl_SetAdd.find2 A0 c0 c a1 gb _ (-1) ?side1 ?side2 HZ.out).mono ?_); (case side1 => exact ch HR0 HB); (case side2 => exact kI BK.out); rintro e w' ⟨rfl, ⟨nf, rfl⟩⟩; refine ⟨_, rfl, ?_⟩) | ((with_reducible refine gate_callee (f := 37) rfl ?_); refine gB (some 19) Try.func37 #[.slice A0 c.length c0] ?_; (with_reducible refine (impl_copyInts.calls _ _ c c _ ?side1 ?side2 A2.out).mono ?_); (case side1 => exact ch HR0 HB); (case side2 => exact HC0.out); rintro e w' ⟨v0, rfl, ho, hb⟩; refine ⟨_, rfl, ?_⟩; have HO := Aside0.mk (Kd.R_lower ho (below_size (bI HB.out))); replace BK := bk BK hb; replace HB := bs HB hb; clear hb ho; clear hcz hfz; have hcz := bc0 BK.out; have hfz := blk_frozen BK.out 0; obtain ⟨Ao, co, eo⟩ := Kd.R_slice HO.out; subst eo) | ((with_reducible refine gd 22 ?_); refine impl_SetAdd.lit 1 #[.int .i64 a1] 3 ?_; intro gl hg w4 hbox hb; have KL := Aside0.mk hbox; have NE : Aside0 (some gl ≠ (Value.slice Ao c.length co).ownBlock) := Aside0.mk (fun e => by have h1 := ((Kd.own_of_R (rI HO.out)).lt _ e.symm).2; rw [hg] at h1; exact Nat.lt_irrefl _ h1); replace HO := rb HO hb; replace HB := bs HB hb; clear hb hbox hg) | ((with_reducible refine gate_callee (f := 40) rfl ?_); refine gB (some 23) Try.func40 #[.slice Ao c.length co, .int .i64 (c.length : Int), .slice (some ⟨gl, 0, none⟩) 1 1] ?_; (with_reducible refine (Ins.ins _ w.heap.size (fun _ => True) _ c c.length a1 gl ?side1 ?side2 ?side3 ?side4 ?side5 NE.out).mono ?_); (case side1 => exact rI HO.out); (case side2 => exact below_size (bI HB.out)); (case side3 => exact ML.out); (case side4 => have := LN.out; omega); (case side5 => exact kI KL.out); rintro e w' ⟨v1, rfl, ho, hb⟩; refine ⟨_, rfl, ?_⟩; have HO2 := Aside0.mk ho; have HB2 := Aside0.mk ((bI HB.out).trans hb); clear hb ho))
   refine start_ (n := 7) (S := fun w' => w'.cell? ⟨gb, 0, none⟩ = some (.int .i64 a1)) (ds := [5]) #[false, false, false, false, false, false, false] (by kernel_rfl) rfl rfl (bc0 (kI BK.out)) (fun hHeld => ?_)
   refine pure_ (i := 0) (N := some 18) (v := ?_) (a' := ?_) #[true, false, false, false, false, false, false] rfl rfl (by kernel_rfl) (fun _ _ _ h => h) (Or.inl ⟨by rfl, ?_⟩) ?_ ?_
   rotate_left
   ·
    intro w'
    go_simp
    with_reducible rfl
   rotate_left
   ·
    simp only [Act.put, List.setIfInBounds_toArray, List.set_cons_zero, List.set_cons_succ, i64_w, i32_w]
    rfl
   refine pure_ (i := 2) (N := some 20) (v := ?_) (a' := ?_) #[true, false, true, false, false, false, false] rfl rfl (by kernel_rfl) (fun _ _ _ h => h) (Or.inl ⟨by rfl, ?_⟩) ?_ ?_
   rotate_left
   ·
    intro w'
    go_simp
    with_reducible rfl
   rotate_left
   ·
    simp only [Act.put, List.setIfInBounds_toArray, List.set_cons_zero, List.set_cons_succ, i64_w, i32_w]
    rfl
   refine take_ (i := 3) (N := some 21) (v := ?_) (a' := ?_) #[true, false, true, true, false, false, false] rfl rfl (by kernel_rfl) (fun _ _ _ h => h) (Or.inl ⟨by rfl, ?_⟩) hHeld ?_ ?_
   rotate_left
   ·
    intro w' s0
    go_simp
    with_reducible rfl
   rotate_left
   ·
    simp only [Act.put, List.setIfInBounds_toArray, List.set_cons_zero, List.set_cons_succ, i64_w, i32_w]
    rfl
   refine impl_SetAdd.two (i := 1) (j := 4) (Ni := some 19) (Nj := some 22) #[true, true, true, true, false, false, false] #[true, false, true, true, true, false, false] rfl rfl rfl rfl (by kernel_rfl) (by decide) (by decide) (fun K hK => ?_) (fun K hK => ?_)
   ·
    refine gA Try.func37 #[.slice A0 c.length c0] ?_
    with_reducible refine (impl_copyInts.calls _ _ c c _ ?side1 ?side2 A2.out).mono ?_
    (case side1 => exact ch HR0 HB)
    (case side2 => exact HC0.out)
    rintro e w5 ⟨v0, rfl, ho, hb⟩
    refine ⟨_, rfl, ?_⟩
    have HO := Aside0.mk (Kd.R_lower ho (below_size (bI HB.out))); replace BK := bk BK hb; replace HB := bs HB hb; clear hb ho
    refine hK.out _ _ (bc0 BK.out) (fun hHeld => ?_)
    clear hK K; obtain ⟨Ao, co, eo⟩ := Kd.R_slice HO.out; subst eo
    refine nA (some 19) ?_
    refine one_ (i := 4) (N := some 22) #[true, true, true, true, true, false, false] rfl rfl (by kernel_rfl) (by decide) (fun K hK => ?_)
    refine impl_SetAdd.lit_step 1 #[.int .i64 a1] 3 ?_
    intro gl hg w4 hbox hb
    have KL := Aside0.mk hbox
    have NE : Aside0 (some gl ≠ (Value.slice Ao c.length co).ownBlock) := Aside0.mk (fun e => by have h1 := ((Kd.own_of_R HO.out).lt _ e.symm).2; rw [hg] at h1; exact Nat.lt_irrefl _ h1)
    replace HO := rb HO hb; replace BK := bk BK hb; replace HB := bs HB hb; clear hb hbox hg
    refine hK.out _ _ (bc0 BK.out) (fun hHeld => ?_)
    clear hK K
    refine nA (some 22) ?_
    refine last_ (i := 5) (N := some 23) #[true, true, true, true, true, true, false] rfl rfl (by kernel_rfl) (by decide) (fun K hK => ?_)
    refine gA Try.func40 #[.slice Ao c.length co, .int .i64 (c.length : Int), .slice (some ⟨gl, 0, none⟩) 1 1] ?_
    with_reducible refine (Ins.ins _ w.heap.size (fun _ => True) _ c c.length a1 gl ?side1 ?side2 ?side3 ?side4 ?side5 NE.out).mono ?_
    (case side1 => exact rI HO.out)
    (case side2 => exact below_size (bI HB.out))
    (case side3 => exact ML.out)
    (case side4 => have := LN.out; omega)
    (case side5 => exact kI KL.out)
    rintro e w6 ⟨v1, rfl, ho, hb⟩
    refine ⟨_, rfl, ?_⟩
    have HO2 := Aside0.mk ho; have HB2 := Aside0.mk ((bI HB.out).trans hb)
    refine hK.out _ _ ?_
    clear hK K hb ho
    refine nA (some 23) ?_
    refine pure_ (i := 6) (N := some 4) (v := ?_) (a' := ?_) #[true, true, true, true, true, true, true] rfl rfl (by kernel_rfl) (fun _ _ _ h => h) (Or.inl ⟨by rfl, ?_⟩) ?_ ?_
    rotate_left
    ·
     intro w'
     go_simp
     with_reducible rfl
    rotate_left
    ·
     simp only [Act.put, List.setIfInBounds_toArray, List.set_cons_zero, List.set_cons_succ, i64_w, i32_w]
     rfl
    refine done_ (by kernel_rfl) ?_
    go_wp2
    go_ret
    exact ⟨_, rfl, HO2.out, HB2.out⟩
   refine impl_SetAdd.lit_step 1 #[.int .i64 a1] 3 ?_
   intro gl hg w4 hbox hb
   have KL := Aside0.mk hbox; replace BK := bk BK hb; replace HB := bs HB hb; clear hb hbox hg
   refine hK.out _ _ (bc0 BK.out) (fun hHeld => ?_)
   clear hK K
   refine nA (some 22) ?_
   refine one_ (i := 1) (N := some 19) #[true, true, true, true, true, false, false] rfl rfl (by kernel_rfl) (by decide) (fun K hK => ?_)
   refine gA Try.func37 #[.slice A0 c.length c0] ?_
   with_reducible refine (impl_copyInts.calls _ _ c c _ ?side1 ?side2 A2.out).mono ?_
   (case side1 => exact ch HR0 HB)
   (case side2 => exact HC0.out)
   rintro e w5 ⟨v0, rfl, ho, hb⟩
   refine ⟨_, rfl, ?_⟩
   have HO := Aside0.mk (Kd.R_lower ho (below_size (bI HB.out))); replace BK := bk BK hb; have KL' := bk KL hb
   have NE : Aside0 (some gl ≠ v0.ownBlock) := Aside0.mk (fun e => by have h1 := ((Kd.own_of_R ho).lt _ e.symm).1; exact (Nat.not_lt.2 h1) (blk_lt (kI KL.out)))
   replace KL := KL'; clear KL'; replace HB := bs HB hb; clear hb ho
   refine hK.out _ _ (bc0 BK.out) (fun hHeld => ?_)
   clear hK K; obtain ⟨Ao, co, eo⟩ := Kd.R_slice HO.out; subst eo
   refine nA (some 19) ?_
   refine last_ (i := 5) (N := some 23) #[true, true, true, true, true, true, false] rfl rfl (by kernel_rfl) (by decide) (fun K hK => ?_)
   refine gA Try.func40 #[.slice Ao c.length co, .int .i64 (c.length : Int), .slice (some ⟨gl, 0, none⟩) 1 1] ?_
   with_reducible refine (Ins.ins _ w.heap.size (fun _ => True) _ c c.length a1 gl ?side1 ?side2 ?side3 ?side4 ?side5 NE.out).mono ?_
   (case side1 => exact rI HO.out)
   (case side2 => exact below_size (bI HB.out))
   (case side3 => exact ML.out)
   (case side4 => have := LN.out; omega)
   (case side5 => exact kI KL.out)
   rintro e w6 ⟨v1, rfl, ho, hb⟩
   refine ⟨_, rfl, ?_⟩
   have HO2 := Aside0.mk ho; have HB2 := Aside0.mk ((bI HB.out).trans hb)
   refine hK.out _ _ ?_
   clear hK K hb ho
   refine nA (some 23) ?_
   refine pure_ (i := 6) (N := some 4) (v := ?_) (a' := ?_) #[true, true, true, true, true, true, true] rfl rfl (by kernel_rfl) (fun _ _ _ h => h) (Or.inl ⟨by rfl, ?_⟩) ?_ ?_
   rotate_left
   ·
    intro w'
    go_simp
    with_reducible rfl
   rotate_left
   ·
    simp only [Act.put, List.setIfInBounds_toArray, List.set_cons_zero, List.set_cons_succ, i64_w, i32_w]
    rfl
   refine done_ (by kernel_rfl) ?_
   go_wp2
   go_ret
   exact ⟨_, rfl, HO2.out, HB2.out⟩
  have HZ : Aside0 ((if impl_SetAdd.at_ c a1 = c.length then -1 else (impl_SetAdd.at_ c a1 : Int)) = (m : Int)) := Aside0.mk (by rw [← hm, if_neg he])
  clear hm he
  have hd : decide ((m : Int) < 0) = false := decide_eq_false (by omega)
  go_enter Try.func18, Try.ntmps18
  go_wp2_with (first | ((with_reducible refine gd 3 ?_); refine bA 3 #[.int .i64 a1] 3 ?_; intro gb hg w2 hbox hb; have BK := Aside0.mk hbox; have hcz := bc0 hbox; have hfz := blk_frozen hbox 0; have GW := bg hg HB; replace HB := bs HB hb; clear hb hbox hg) | ((with_reducible refine gate_callee (f := 36) rfl ?_); refine gB (some 8) Try.func36 #[.slice A0 c.length c0, .int .i64 a1] ?_; (with_reducible refine (impl_SetHas.calls k _ _ c a1 false _ ?side1 ?side2 A1.out).mono ?_); (case side1 => exact ch HR0 HB); (case side2 => exact HC0.out); rintro e w' ⟨rfl, ⟨nd, rfl⟩⟩; refine ⟨_, rfl, ?_⟩) | ((with_reducible refine gate_callee (f := 38) rfl ?_); refine gB (some 13) Try.func38 #[.slice A0 c.length c0, .func (.func 39) #[] #[.pointer (some ⟨gb, 0, none⟩)]] ?_; (with_reducible refine (impl_SetAdd.find2 A0 c0 c a1 gb _ (m : Int) ?side1 ?side2 HZ.out).mono ?_); (case side1 => exact ch HR0 HB); (case side2 => exact kI BK.out); rintro e w' ⟨rfl, ⟨nf, rfl⟩⟩; refine ⟨_, rfl, ?_⟩) | ((with_reducible refine gate_callee (f := 37) rfl ?_); refine gB (some 19) Try.func37 #[.slice A0 c.length c0] ?_; (with_reducible refine (impl_copyInts.calls _ _ c c _ ?side1 ?side2 A2.out).mono ?_); (case side1 => exact ch HR0 HB); (case side2 => exact HC0.out); rintro e w' ⟨v0, rfl, ho, hb⟩; refine ⟨_, rfl, ?_⟩; have HO := Aside0.mk (Kd.R_lower ho (below_size (bI HB.out))); replace BK := bk BK hb; replace HB := bs HB hb; clear hb ho; clear hcz hfz; have hcz := bc0 BK.out; have hfz := blk_frozen BK.out 0; obtain ⟨Ao, co, eo⟩ := Kd.R_slice HO.out; subst eo) | ((with_reducible refine gd 22 ?_); refine impl_SetAdd.lit 1 #[.int .i64 a1] 3 ?_; intro gl hg w4 hbox hb; have KL := Aside0.mk hbox; have NE : Aside0 (some gl ≠ (Value.slice Ao c.length co).ownBlock) := Aside0.mk (fun e => by have h1 := ((Kd.own_of_R HO.out).lt _ e.symm).2; rw [hg] at h1; exact Nat.lt_irrefl _ h1); replace HO := rb HO hb; replace HB := bs HB hb; clear hb hbox hg) | ((with_reducible refine gate_callee (f := 40) rfl ?_); refine gB (some 23) Try.func40 #[.slice Ao c.length co, .int .i64 (m : Int), .slice (some ⟨gl, 0, none⟩) 1 1] ?_; (with_reducible refine (Ins.ins _ w.heap.size (fun _ => True) _ c m a1 gl ?side1 ?side2 ?side3 ?side4 ?side5 NE.out).mono ?_); (case side1 => exact rI HO.out); (case side2 => exact below_size (bI HB.out)); (case side3 => exact ML.out); (case side4 => have := LN.out; omega); (case side5 => exact kI KL.out); rintro e w' ⟨v1, rfl, ho, hb⟩; refine ⟨_, rfl, ?_⟩; have HO2 := Aside0.mk ho; have HB2 := Aside0.mk ((bI HB.out).trans hb); clear hb ho))
  refine start_ (n := 7) (S := fun w' => w'.cell? ⟨gb, 0, none⟩ = some (.int .i64 a1)) (ds := [5]) #[false, false, false, false, false, false, false] (by kernel_rfl) rfl rfl (bc0 (kI BK.out)) (fun hHeld => ?_)
  refine pure_ (i := 0) (N := some 18) (v := ?_) (a' := ?_) #[true, false, false, false, false, false, false] rfl rfl (by kernel_rfl) (fun _ _ _ h => h) (Or.inl ⟨by rfl, ?_⟩) ?_ ?_
  rotate_left
  ·
   intro w'
   go_simp
   with_reducible rfl
  rotate_left
  ·
   simp only [Act.put, List.setIfInBounds_toArray, List.set_cons_zero, List.set_cons_succ, i64_w, i32_w]
   rfl
  refine pure_ (i := 2) (N := some 20) (v := ?_) (a' := ?_) #[true, false, true, false, false, false, false] rfl rfl (by kernel_rfl) (fun _ _ _ h => h) (Or.inl ⟨by rfl, ?_⟩) ?_ ?_
  rotate_left
  ·
   intro w'
   go_simp
   with_reducible rfl
  rotate_left
  ·
   simp only [Act.put, List.setIfInBounds_toArray, List.set_cons_zero, List.set_cons_succ, i64_w, i32_w]
   rfl
  refine take_ (i := 3) (N := some 21) (v := ?_) (a' := ?_) #[true, false, true, true, false, false, false] rfl rfl (by kernel_rfl) (fun _ _ _ h => h) (Or.inl ⟨by rfl, ?_⟩) hHeld ?_ ?_
  rotate_left
  ·
   intro w' s0
   go_simp
   with_reducible rfl
  rotate_left
  ·
   simp only [Act.put, List.setIfInBounds_toArray, List.set_cons_zero, List.set_cons_succ, i64_w, i32_w]
   rfl
  refine impl_SetAdd.two (i := 1) (j := 4) (Ni := some 19) (Nj := some 22) #[true, true, true, true, false, false, false] #[true, false, true, true, true, false, false] rfl rfl rfl rfl (by kernel_rfl) (by decide) (by decide) (fun K hK => ?_) (fun K hK => ?_)
  ·
   refine gA Try.func37 #[.slice A0 c.length c0] ?_
   with_reducible refine (impl_copyInts.calls _ _ c c _ ?side1 ?side2 A2.out).mono ?_
   (case side1 => exact ch HR0 HB)
   (case side2 => exact HC0.out)
   rintro e w5 ⟨v0, rfl, ho, hb⟩
   refine ⟨_, rfl, ?_⟩
   have HO := Aside0.mk (Kd.R_lower ho (below_size (bI HB.out))); replace BK := bk BK hb; replace HB := bs HB hb; clear hb ho
   refine hK.out _ _ (bc0 BK.out) (fun hHeld => ?_)
   clear hK K; obtain ⟨Ao, co, eo⟩ := Kd.R_slice HO.out; subst eo
   refine nA (some 19) ?_
   refine one_ (i := 4) (N := some 22) #[true, true, true, true, true, false, false] rfl rfl (by kernel_rfl) (by decide) (fun K hK => ?_)
   refine impl_SetAdd.lit_step 1 #[.int .i64 a1] 3 ?_
   intro gl hg w4 hbox hb
   have KL := Aside0.mk hbox
   have NE : Aside0 (some gl ≠ (Value.slice Ao c.length co).ownBlock) := Aside0.mk (fun e => by have h1 := ((Kd.own_of_R HO.out).lt _ e.symm).2; rw [hg] at h1; exact Nat.lt_irrefl _ h1)
   replace HO := rb HO hb; replace BK := bk BK hb; replace HB := bs HB hb; clear hb hbox hg
   refine hK.out _ _ (bc0 BK.out) (fun hHeld => ?_)
   clear hK K
   refine nA (some 22) ?_
   refine last_ (i := 5) (N := some 23) #[true, true, true, true, true, true, false] rfl rfl (by kernel_rfl) (by decide) (fun K hK => ?_)
   refine gA Try.func40 #[.slice Ao c.length co, .int .i64 (m : Int), .slice (some ⟨gl, 0, none⟩) 1 1] ?_
   with_reducible refine (Ins.ins _ w.heap.size (fun _ => True) _ c m a1 gl ?side1 ?side2 ?side3 ?side4 ?side5 NE.out).mono ?_
   (case side1 => exact rI HO.out)
   (case side2 => exact below_size (bI HB.out))
   (case side3 => exact ML.out)
   (case side4 => have := LN.out; omega)
   (case side5 => exact kI KL.out)
   rintro e w6 ⟨v1, rfl, ho, hb⟩
   refine ⟨_, rfl, ?_⟩
   have HO2 := Aside0.mk ho; have HB2 := Aside0.mk ((bI HB.out).trans hb)
   refine hK.out _ _ ?_
   clear hK K hb ho
   refine nA (some 23) ?_
   refine pure_ (i := 6) (N := some 4) (v := ?_) (a' := ?_) #[true, true, true, true, true, true, true] rfl rfl (by kernel_rfl) (fun _ _ _ h => h) (Or.inl ⟨by rfl, ?_⟩) ?_ ?_
   rotate_left
   ·
    intro w'
    go_simp
    with_reducible rfl
   rotate_left
   ·
    simp only [Act.put, List.setIfInBounds_toArray, List.set_cons_zero, List.set_cons_succ, i64_w, i32_w]
    rfl
   refine done_ (by kernel_rfl) ?_
   go_wp2
   go_ret
   exact ⟨_, rfl, HO2.out, HB2.out⟩
  refine impl_SetAdd.lit_step 1 #[.int .i64 a1] 3 ?_
  intro gl hg w4 hbox hb
  have KL := Aside0.mk hbox; replace BK := bk BK hb; replace HB := bs HB hb; clear hb hbox hg
  refine hK.out _ _ (bc0 BK.out) (fun hHeld => ?_)
  clear hK K
  refine nA (some 22) ?_
  refine one_ (i := 1) (N := some 19) #[true, true, true, true, true, false, false] rfl rfl (by kernel_rfl) (by decide) (fun K hK => ?_)
  refine gA Try.func37 #[.slice A0 c.length c0] ?_
  with_reducible refine (impl_copyInts.calls _ _ c c _ ?side1 ?side2 A2.out).mono ?_
  (case side1 => exact ch HR0 HB)
  (case side2 => exact HC0.out)
  rintro e w5 ⟨v0, rfl, ho, hb⟩
  refine ⟨_, rfl, ?_⟩
  have HO := Aside0.mk (Kd.R_lower ho (below_size (bI HB.out))); replace BK := bk BK hb; have KL' := bk KL hb
  have NE : Aside0 (some gl ≠ v0.ownBlock) := Aside0.mk (fun e => by have h1 := ((Kd.own_of_R ho).lt _ e.symm).1; exact (Nat.not_lt.2 h1) (blk_lt (kI KL.out)))
  replace KL := KL'; clear KL'; replace HB := bs HB hb; clear hb ho
  refine hK.out _ _ (bc0 BK.out) (fun hHeld => ?_)
  clear hK K; obtain ⟨Ao, co, eo⟩ := Kd.R_slice HO.out; subst eo
  refine nA (some 19) ?_
  refine last_ (i := 5) (N := some 23) #[true, true, true, true, true, true, false] rfl rfl (by kernel_rfl) (by decide) (fun K hK => ?_)
  refine gA Try.func40 #[.slice Ao c.length co, .int .i64 (m : Int), .slice (some ⟨gl, 0, none⟩) 1 1] ?_
  with_reducible refine (Ins.ins _ w.heap.size (fun _ => True) _ c m a1 gl ?side1 ?side2 ?side3 ?side4 ?side5 NE.out).mono ?_
  (case side1 => exact rI HO.out)
  (case side2 => exact below_size (bI HB.out))
  (case side3 => exact ML.out)
  (case side4 => have := LN.out; omega)
  (case side5 => exact kI KL.out)
  rintro e w6 ⟨v1, rfl, ho, hb⟩
  refine ⟨_, rfl, ?_⟩
  have HO2 := Aside0.mk ho; have HB2 := Aside0.mk ((bI HB.out).trans hb)
  refine hK.out _ _ ?_
  clear hK K hb ho
  refine nA (some 23) ?_
  refine pure_ (i := 6) (N := some 4) (v := ?_) (a' := ?_) #[true, true, true, true, true, true, true] rfl rfl (by kernel_rfl) (fun _ _ _ h => h) (Or.inl ⟨by rfl, ?_⟩) ?_ ?_
  rotate_left
  ·
   intro w'
   go_simp
   with_reducible rfl
  rotate_left
  ·
   simp only [Act.put, List.setIfInBounds_toArray, List.set_cons_zero, List.set_cons_succ, i64_w, i32_w]
   rfl
  refine done_ (by kernel_rfl) ?_
  go_wp2
  go_ret
  exact ⟨_, rfl, HO2.out, HB2.out⟩

/-! ### impl_SetJoin: function 29 -/
mutual
def impl_SetJoin.l0 : Nat → List Int → List Int → List Int → Int → Int → Option (List Int)
 | 0, _, _, _, _, _ => none
 | k + 1, x1, x5, x10, x11, x12 => if x12 < x11 then (if 0 ≤ x12 then (if x12 < (x10.length : Int) then ((impl_SetAdd.f k x5 (rd x10 x12)).bind fun t190 => (impl_SetJoin.l0 k x1 t190 x10 x11 (wrap64 (x12 + 1)))) else (none)) else (none)) else (impl_SetJoin.l1 k x5 x1 (x1.length : Int) 0)
def impl_SetJoin.l1 : Nat → List Int → List Int → Int → Int → Option (List Int)
 | 0, _, _, _, _ => none
 | k + 1, x5, x20, x21, x22 => if x22 < x21 then (if 0 ≤ x22 then (if x22 < (x20.length : Int) then ((impl_SetAdd.f k x5 (rd x20 x22)).bind fun t194 => (impl_SetJoin.l1 k t194 x20 x21 (wrap64 (x22 + 1)))) else (none)) else (none)) else (some x5)
end
def impl_SetJoin.f (k : Nat) (l0 : List Int) (l1 : List Int) : Option (List Int) := impl_SetJoin.l0 k l1 ([] : List Int) l0 (l0.length : Int) 0
theorem impl_SetJoin.mono_l : ∀ k, (∀ y0 y1 y2 y3 y4, LeO (impl_SetJoin.l0 k y0 y1 y2 y3 y4) (impl_SetJoin.l0 (k + 1) y0 y1 y2 y3 y4)) ∧ (∀ y0 y1 y2 y3, LeO (impl_SetJoin.l1 k y0 y1 y2 y3) (impl_SetJoin.l1 (k + 1) y0 y1 y2 y3))
 | 0 => ⟨fun _ _ _ _ _ r h => by simp [impl_SetJoin.l0] at h, fun _ _ _ _ r h => by simp [impl_SetJoin.l1] at h⟩
 | k + 1 => by
  obtain ⟨ih0, ih1⟩ := impl_SetJoin.mono_l k
  refine ⟨?_, ?_⟩
  ·
   intro y0 y1 y2 y3 y4
   unfold impl_SetJoin.l0
   repeat' first | (with_reducible exact ih0 _ _ _ _ _) | (with_reducible exact ih1 _ _ _ _) | (with_reducible exact impl_SetAdd.mono _ _ _) | (with_reducible exact LeO.refl _) | (with_reducible exact LeO.none _) | (with_reducible refine LeO.ite ?_ ?_) | (with_reducible refine LeO.bind ?_ (fun _ => ?_))
  intro y0 y1 y2 y3
  unfold impl_SetJoin.l1
  repeat' first | (with_reducible exact ih0 _ _ _ _ _) | (with_reducible exact ih1 _ _ _ _) | (with_reducible exact impl_SetAdd.mono _ _ _) | (with_reducible exact LeO.refl _) | (with_reducible exact LeO.none _) | (with_reducible refine LeO.ite ?_ ?_) | (with_reducible refine LeO.bind ?_ (fun _ => ?_))
theorem impl_SetJoin.mono : ∀ a0 a1 k, LeO (impl_SetJoin.f k a0 a1) (impl_SetJoin.f (k + 1) a0 a1) := by
 intro a0 a1 k
 obtain ⟨ih0, ih1⟩ := impl_SetJoin.mono_l k
 unfold impl_SetJoin.f
 repeat' first | (with_reducible exact ih0 _ _ _ _ _) | (with_reducible exact ih1 _ _ _ _) | (with_reducible exact impl_SetAdd.mono _ _ _) | (with_reducible exact LeO.refl _) | (with_reducible exact LeO.none _) | (with_reducible refine LeO.ite ?_ ?_) | (with_reducible refine LeO.bind ?_ (fun _ => ?_))
set_option maxHeartbeats 8000000 in
set_option maxRecDepth 100000 in
theorem impl_SetJoin.calls (k : Nat) (A0 : Option Addr) (c0 : Nat) (l0 : List Int) (A1 : Option Addr) (c1 : Nat) (l1 : List Int) (r : List Int) (w : World) (hr0 : Kd.C (Kd.int .i64) w A0 l0.length l0) (hc0 : l0.length ≤ c0) (hr1 : Kd.C (Kd.int .i64) w A1 l1.length l1) (hc1 : l1.length ≤ c1) (h : impl_SetJoin.f k l0 l1 = some r) :
  Calls Try.prog 29 #[.slice A0 l0.length c0, .slice A1 l1.length c1] w fun e w' => ∃ v0_ : Value, e = .returned (v0_) ∧ Kd.R (Kd.int .i64) 3 w' w.heap.size (fun _ => True) v0_ r ∧ Below w.heap.size w w' := by
 have HR0 := Aside0.mk hr0; have HC0 := Aside0.mk hc0; clear hr0 hc0; have HR1 := Aside0.mk hr1; have HC1 := Aside0.mk hc1; clear hr1 hc1; have HB := Aside0.mk (Below.refl w.heap.size w); have H : (impl_SetJoin.l0 k l1 ([] : List Int) l0 (l0.length : Int) 0) = some r := h; clear h; have H' := Aside0.mk H; clear H
 go_enter Try.func29, Try.ntmps29
 go_wp2
 go_loopg [5, 12] k (fun kq v5 v12 w' => ∃ (x5_1 : List Int) (x12_1 : Int), v12 = .int .i64 x12_1 ∧ Aside0 (impl_SetJoin.l0 kq l1 x5_1 l0 (l0.length : Int) x12_1 = some r) ∧ Aside0 (kq ≤ k) ∧ Aside0 (Kd.R (Kd.int .i64) 3 w' w.heap.size (fun _ => True) v5 x5_1) ∧ Aside0 (Below w.heap.size w w'))
 case atStart => exact ⟨(([] : List Int)), (0), y0_8, H', ⟨Nat.le_refl _⟩, ⟨y0_1⟩, ⟨bI HB.out⟩⟩
 case round =>
  clear H'
  try clear c1
  try clear c2
  try clear p2
  obtain ⟨x5_1, x12_1, rfl, HA, HK1, HO_5, HB⟩ := hrel; cases gk with
  | zero => exact absurd HA.out (by simp [impl_SetJoin.l0])
  | succ k1 =>
   have H := HA.out; clear HA
   simp only [impl_SetJoin.l0] at H
   by_cases c3 : x12_1 < (l0.length : Int)
   ·
    rw [if_pos c3] at H
    have c3b0 : decide (x12_1 < (l0.length : Int)) = true := decide_eq_true c3; clear c3
    by_cases c4 : 0 ≤ x12_1
    rotate_left
    ·
     rw [if_neg c4] at H
     exact absurd H (by simp)
    rw [if_pos c4] at H
    have c4b0 : decide (0 ≤ x12_1) = true := decide_eq_true c4; clear c4
    by_cases c5 : x12_1 < (l0.length : Int)
    rotate_left
    ·
     rw [if_neg c5] at H
     exact absurd H (by simp)
    rw [if_pos c5] at H
    have c5b0 : decide (x12_1 < (l0.length : Int)) = true := decide_eq_true c5; clear c5; obtain ⟨t190, A60, H⟩ := Option.bind_eq_some_iff.mp H
    try dsimp only at H
    have A6 := Aside0.mk A60; clear A60; have H' := Aside0.mk H; clear H; have p189 : 0 ≤ (x12_1 : Int) := of_decide_eq_true y0_7; have q189 : x12_1 < (l0.length : Int) := of_decide_eq_true y0_7; obtain ⟨ad189, e189, hx189_0⟩ := Kd.at_int HR0.out x12_1 p189 q189; cases e189; replace hx189_0 := bx HB hx189_0; replace p189 := eq_true p189; replace q189 := eq_true q189; obtain ⟨Ao7, co7, eo7⟩ := Kd.R_slice HO_5.out; subst eo7
    go_wp2_with (first | ((with_reducible refine gate_callee (f := 18) rfl ?_); refine gB (some 18) Try.func18 #[.slice Ao7 x5_1.length co7, .int .i64 (rd l0 x12_1)] ?_; (with_reducible refine (impl_SetAdd.calls k1 _ _ x5_1 (rd l0 x12_1) t190 _ ?side1 ?side2 A6.out).mono ?_); (case side1 => repeat (first | exact (Kd.R_reads' HO_5.out).2.2 | (with_reducible refine Kd.C_alloc ?_ _) | (with_reducible refine Kd.C_drewN ?_ _) | (with_reducible refine Kd.C_drew ?_))); (case side2 => exact (Kd.R_reads' HO_5.out).2.1); rintro e w8 ⟨v191, rfl, ho0, hb⟩; refine ⟨_, rfl, ?_⟩; have HO192 := Aside0.mk (Kd.R_lower (Kd.R_new' ho0 (Kd.R_lt (rI HO_5.out))) (below_size (bI HB.out))); replace HO_5 := Aside0.mk (Kd.R_elder' (rI HO_5.out) (Kd.R_base ho0) hb); replace HB := bs HB hb; (try clear hb); (try clear ho0)))
    go_roundg k1
    case measure => have := HK1.out; omega
    case rel => exact ⟨(t190), (wrap64 (x12_1 + 1)), y0_8, H', ⟨y0_9⟩, ⟨by (with_reducible repeat (first | apply Kd.R_alloc | apply Kd.R_drewN | apply Kd.R_drew)); exact Kd.R_mono HO192.out (fun _ hk => trivial)⟩, ⟨bI HB.out⟩⟩
   rw [if_neg c3] at H
   have c3b0 : decide (x12_1 < (l0.length : Int)) = false := decide_eq_false c3; clear c3; have H' := Aside0.mk H; clear H
   go_wp2
   go_loopg [5, 22] k1 (fun kq v5 v22 w' => ∃ (x5_2 : List Int) (x22_2 : Int), v22 = .int .i64 x22_2 ∧ Aside0 (impl_SetJoin.l1 kq x5_2 l1 (l1.length : Int) x22_2 = some r) ∧ Aside0 (kq ≤ k1) ∧ Aside0 (Kd.R (Kd.int .i64) 3 w' w.heap.size (fun _ => True) v5 x5_2) ∧ Aside0 (Below w.heap.size w w'))
   case atStart => exact ⟨(x5_1), (0), y0_8, H', ⟨Nat.le_refl _⟩, ⟨y0_3⟩, ⟨bI HB.out⟩⟩
   case round =>
    clear H'
    try clear c1
    try clear p1
    try clear q1
    try clear hx1
    try clear c2
    try clear p2
    try clear c3
    try clear c3b0
    try clear c4
    try clear c4b0
    try clear c5
    try clear c5b0
    try clear p6
    try clear hx189_0
    try clear p189
    try clear p2
    try clear q189
    obtain ⟨x5_2, x22_2, rfl, HA, HK2, HO_5, HB⟩ := hrel; cases gk with
    | zero => exact absurd HA.out (by simp [impl_SetJoin.l1])
    | succ k2 =>
     have H := HA.out; clear HA
     simp only [impl_SetJoin.l1] at H
     by_cases c9 : x22_2 < (l1.length : Int)
     ·
      rw [if_pos c9] at H
      have c9b0 : decide (x22_2 < (l1.length : Int)) = true := decide_eq_true c9; clear c9
      by_cases c10 : 0 ≤ x22_2
      rotate_left
      ·
       rw [if_neg c10] at H
       exact absurd H (by simp)
      rw [if_pos c10] at H
      have c10b0 : decide (0 ≤ x22_2) = true := decide_eq_true c10; clear c10
      by_cases c11 : x22_2 < (l1.length : Int)
      rotate_left
      ·
       rw [if_neg c11] at H
       exact absurd H (by simp)
      rw [if_pos c11] at H
      have c11b0 : decide (x22_2 < (l1.length : Int)) = true := decide_eq_true c11; clear c11; obtain ⟨t194, A120, H⟩ := Option.bind_eq_some_iff.mp H
      try dsimp only at H
      have A12 := Aside0.mk A120; clear A120; have H' := Aside0.mk H; clear H; have p193 : 0 ≤ (x22_2 : Int) := of_decide_eq_true y0_7; have q193 : x22_2 < (l1.length : Int) := of_decide_eq_true y0_7; obtain ⟨ad193, e193, hx193_0⟩ := Kd.at_int HR1.out x22_2 p193 q193; cases e193; replace hx193_0 := bx HB hx193_0; replace p193 := eq_true p193; replace q193 := eq_true q193; obtain ⟨Ao13, co13, eo13⟩ := Kd.R_slice HO_5.out; subst eo13
      go_wp2_with (first | ((with_reducible refine gate_callee (f := 18) rfl ?_); refine gB (some 28) Try.func18 #[.slice Ao13 x5_2.length co13, .int .i64 (rd l1 x22_2)] ?_; (with_reducible refine (impl_SetAdd.calls k2 _ _ x5_2 (rd l1 x22_2) t194 _ ?side1 ?side2 A12.out).mono ?_); (case side1 => repeat (first | exact (Kd.R_reads' HO_5.out).2.2 | (with_reducible refine Kd.C_alloc ?_ _) | (with_reducible refine Kd.C_drewN ?_ _) | (with_reducible refine Kd.C_drew ?_))); (case side2 => exact (Kd.R_reads' HO_5.out).2.1); rintro e w14 ⟨v195, rfl, ho0, hb⟩; refine ⟨_, rfl, ?_⟩; have HO196 := Aside0.mk (Kd.R_lower (Kd.R_new' ho0 (Kd.R_lt (rI HO_5.out))) (below_size (bI HB.out))); replace HO_5 := Aside0.mk (Kd.R_elder' (rI HO_5.out) (Kd.R_base ho0) hb); replace HB := bs HB hb; (try clear hb); (try clear ho0)))
      go_roundg k2
      case measure => have := HK1.out; have := HK2.out; omega
      case rel => exact ⟨(t194), (wrap64 (x22_2 + 1)), y0_8, H', ⟨by have := HK1.out; have := HK2.out; omega⟩, ⟨by (with_reducible repeat (first | apply Kd.R_alloc | apply Kd.R_drewN | apply Kd.R_drew)); exact Kd.R_mono HO196.out (fun _ hk => trivial)⟩, ⟨bI HB.out⟩⟩
     rw [if_neg c9] at H
     have c9b0 : decide (x22_2 < (l1.length : Int)) = false := decide_eq_false c9; clear c9; obtain rfl := Option.some.inj H
     go_wp2
     go_ret
     exact ⟨_, y0_5, y0_3, bI HB.out⟩

/-! ### impl_PartJoin: function 9 -/
def impl_PartJoin.f (k : Nat) (a0_0 : Int) (a0_1 : ByteArray) (l0_2 : List Int) (a1_0 : Int) (a1_1 : ByteArray) (l1_2 : List Int) : Option (Int × ByteArray × List Int × Bool) := if a0_0 = a1_0 then (if a0_1.toList = a1_1.toList then ((impl_SetJoin.f k l0_2 l1_2).bind fun t200 => (some (a0_0, a0_1, t200, true))) else (some (0, (⟨#[]⟩ : ByteArray), ([] : List Int), false))) else (some (0, (⟨#[]⟩ : ByteArray), ([] : List Int), false))
theorem impl_PartJoin.mono : ∀ a0 a1 a2 a3 a4 a5 k, LeO (impl_PartJoin.f k a0 a1 a2 a3 a4 a5) (impl_PartJoin.f (k + 1) a0 a1 a2 a3 a4 a5) := by
 intro a0 a1 a2 a3 a4 a5 k
 unfold impl_PartJoin.f
 repeat' first | (with_reducible exact impl_SetJoin.mono _ _ _) | (with_reducible exact LeO.refl _) | (with_reducible exact LeO.none _) | (with_reducible refine LeO.ite ?_ ?_) | (with_reducible refine LeO.bind ?_ (fun _ => ?_))
def impl_PartJoin.T3 : Bool × List (List Nat × List Nat) := (true, [([], []), ([0], [0]), ([], []), ([2], [2]), ([], []), ([4], [4]), ([], []), ([6], [6]), ([5, 7], [5, 7]), ([1, 3, 8], [1, 3, 8]), ([9, 8, 0, 1, 2, 3, 4, 5, 6, 7, 8, 9], [9]), ([10, 0, 1, 2, 3, 4, 5, 6, 7, 8, 9, 10], [])])
def impl_PartJoin.B3 : List Nat := [0, 1, 0, 4, 0, 16, 0, 64, 240, 511, 1023, 2047]
theorem impl_PartJoin.tab3 : rtab .any (opsOf Try.f9 3) = impl_PartJoin.T3 := by kernel_rfl
theorem impl_PartJoin.bits3 : waitsOk impl_PartJoin.T3.2 impl_PartJoin.B3 = true := by kernel_rfl
set_option maxHeartbeats 8000000 in
set_option maxRecDepth 100000 in
theorem impl_PartJoin.calls (k : Nat) (a0_0 : Int) (a0_1 : ByteArray) (A0_2 : Option Addr) (c0_2 : Nat) (l0_2 : List Int) (a1_0 : Int) (a1_1 : ByteArray) (A1_2 : Option Addr) (c1_2 : Nat) (l1_2 : List Int) (r1 : Int) (r2 : ByteArray) (r3 : List Int) (r4 : Bool) (w : World) (hr0_2 : Kd.C (Kd.int .i64) w A0_2 l0_2.length l0_2) (hc0_2 : l0_2.length ≤ c0_2) (hr1_2 : Kd.C (Kd.int .i64) w A1_2 l1_2.length l1_2) (hc1_2 : l1_2.length ≤ c1_2) (h : impl_PartJoin.f k a0_0 a0_1 l0_2 a1_0 a1_1 l1_2 = some (r1, r2, r3, r4)) :
  Calls Try.prog 9 #[.agg #[.int .i64 a0_0, .string a0_1, .slice A0_2 l0_2.length c0_2], .agg #[.int .i64 a1_0, .string a1_1, .slice A1_2 l1_2.length c1_2]] w fun e w' => ∃ v2_ : Value, e = .returned (.tuple #[.agg #[.int .i64 r1, .string r2, v2_], .bool r4]) ∧ Kd.R (Kd.int .i64) 3 w' w.heap.size (fun _ => True) v2_ r3 ∧ Below w.heap.size w w' := by
 have hu26 := Try.underlying26; have HR0_2 := Aside0.mk hr0_2; have HC0_2 := Aside0.mk hc0_2; clear hr0_2 hc0_2; have HR1_2 := Aside0.mk hr1_2; have HC1_2 := Aside0.mk hc1_2; clear hr1_2 hc1_2; have HB := Aside0.mk (Below.refl w.heap.size w)
 have H : (if a0_0 = a1_0 then (if a0_1.toList = a1_1.toList then ((impl_SetJoin.f k l0_2 l1_2).bind fun t200 => (some (a0_0, a0_1, t200, true))) else (some (0, (⟨#[]⟩ : ByteArray), ([] : List Int), false))) else (some (0, (⟨#[]⟩ : ByteArray), ([] : List Int), false))) = some (r1, r2, r3, r4) := h
 clear h
 by_cases c3 : a0_0 = a1_0
 ·
  rw [if_pos c3] at H
  have c3b0 : (a0_0 == a1_0) = true := beq_iff_eq.mpr c3; have c3b1 : (a0_0 != a1_0) = false := bne_eq_false_iff_eq.mpr c3; clear c3
  by_cases c4 : a0_1.toList = a1_1.toList
  ·
   rw [if_pos c4] at H
   have c4b0 : (a0_1.toList == a1_1.toList) = true := beq_iff_eq.mpr c4; have c4b1 : (a0_1.toList != a1_1.toList) = false := bne_eq_false_iff_eq.mpr c4; clear c4; obtain ⟨t200, A50, H⟩ := Option.bind_eq_some_iff.mp H
   try dsimp only at H
   have A5 := Aside0.mk A50; clear A50
   simp only [Option.some.injEq, Prod.mk.injEq] at H
   obtain ⟨rfl, rfl, rfl, rfl⟩ := H
   go_enter Try.func9, Try.ntmps9
   try go_wp2_with (first | ((with_reducible refine gd 2 ?_); refine bA 2 #[.int .i64 a0_0, .string a0_1, .slice A0_2 l0_2.length c0_2] 26 ?_; intro gb197 hg w6 hbox hb; have BK197 := Aside0.mk (hbox); have GW197 := bg hg HB; have GJ197 := gi GW197; have GE197 := GW197; replace HB := bs HB hb; clear hb hbox hg) | ((with_reducible refine gd 3 ?_); refine bA 3 #[.int .i64 a1_0, .string a1_1, .slice A1_2 l1_2.length c1_2] 26 ?_; intro gb198 hg w7 hbox hb; have BK198 := Aside0.mk (hbox); have GW198 := bg hg HB; have GJ198 := gi GW198; have GE198 := GW198; replace HB := bs HB hb; have NB197_198 := b1 BK197 hg; have NI197_198 := ni NB197_198; have NB198_197 := b2 BK197 hg; have NI198_197 := ni NB198_197; replace BK197 := bk BK197 hb; clear hb hbox hg) | ((with_reducible refine gd 4 ?_); refine bA 4 #[.int .i64 0, .string (⟨#[]⟩ : ByteArray), .slice none 0 0] 26 ?_; intro gb199 hg w8 hbox hb; have BK199 := Aside0.mk (hbox); have GW199 := bg hg HB; have GJ199 := gi GW199; have GE199 := GW199; replace HB := bs HB hb; have NB197_199 := b1 BK197 hg; have NI197_199 := ni NB197_199; have NB199_197 := b2 BK197 hg; have NI199_197 := ni NB199_197; replace BK197 := bk BK197 hb; have NB198_199 := b1 BK198 hg; have NI198_199 := ni NB198_199; have NB199_198 := b2 BK198 hg; have NI199_198 := ni NB199_198; replace BK198 := bk BK198 hb; clear hb hbox hg; have hnb9 := NB197_198.out; have hnc9 := NB198_197.out; have hnb10 := NB197_199.out; have hnc10 := NB199_197.out; obtain ⟨hcz11_0, hcz11_1, hcz11_2, hfz11_0, hfz11_1, hfz11_2⟩ := cs3 BK197; have hnb12 := NB198_199.out; have hnc12 := NB199_198.out; obtain ⟨hcz13_0, hcz13_1, hcz13_2, hfz13_0, hfz13_1, hfz13_2⟩ := cs3 BK198))
   replace BK197 := Aside0.mk (blk_drew BK197.out); replace BK198 := Aside0.mk (blk_drew BK198.out); replace BK199 := Aside0.mk (blk_drew BK199.out); replace HB := Aside0.mk (below_drew1 HB.out)
   refine start_ (n := 12) (S := fun w' => w'.cell? ⟨gb197, 0, none⟩ = some (.int .i64 a0_0) ∧ w'.cell? ⟨gb197, 1, none⟩ = some (.string a0_1) ∧ w'.cell? ⟨gb197, 2, none⟩ = some (.slice A0_2 l0_2.length c0_2) ∧ w'.cell? ⟨gb198, 0, none⟩ = some (.int .i64 a1_0) ∧ w'.cell? ⟨gb198, 1, none⟩ = some (.string a1_1) ∧ w'.cell? ⟨gb198, 2, none⟩ = some (.slice A1_2 l1_2.length c1_2)) (ds := []) #[false, false, false, false, false, false, false, false, false, false, false, false] (by kernel_rfl) rfl rfl ⟨bc0 BK197.out, bc1 BK197.out, bc2 BK197.out, bc0 BK198.out, bc1 BK198.out, bc2 BK198.out⟩ (fun hHeld => ?_); refine with_tabW impl_PartJoin.tab3 impl_PartJoin.bits3 (fun HT_ HW_ => ?_)
   generalize w8.drew = w14 at BK197 BK198 BK199 HB hHeld ⊢
   refine pA 0 (some 19) (bz 12 1) HT_ ?_
   refine pA 2 (some 21) (bz 12 5) HT_ ?_
   refine pA 4 (some 23) (bz 12 21) HT_ ?_
   refine pA 6 (some 25) (bz 12 85) HT_ ?_
   refine tA 1 (some 20) (bz 12 87) HT_ HW_ hHeld ?_
   refine tA 3 (some 22) (bz 12 95) HT_ HW_ hHeld ?_
   refine tA 5 (some 24) (bz 12 127) HT_ HW_ hHeld ?_
   refine tA 7 (some 26) (bz 12 255) HT_ HW_ hHeld ?_
   refine oA 8 (some 27) (bz 12 511) HT_ (fun K hK => ?_)
   refine gA Try.func29 #[.slice A0_2 l0_2.length c0_2, .slice A1_2 l1_2.length c1_2] ?_
   with_reducible refine (impl_SetJoin.calls k _ _ l0_2 _ _ l1_2 t200 _ ?side1 ?side2 ?side3 ?side4 A5.out).mono ?_
   (case side1 => exact ch HR0_2 HB)
   (case side2 => exact HC0_2.out)
   (case side3 => exact ch HR1_2 HB)
   (case side4 => exact HC1_2.out)
   rintro e w15 ⟨v201, rfl, ho0, hb⟩
   refine ⟨_, rfl, ?_⟩
   have HO202 := Aside0.mk (Kd.R_lower ho0 (below_size (bI HB.out))); replace BK197 := bk BK197 hb; replace BK198 := bk BK198 hb; replace BK199 := bk BK199 hb; replace HB := bs HB hb
   (try clear hb)
   (try clear hb2)
   (try clear hk)
   (try clear hi)
   (try clear ho0)
   obtain ⟨Ao16, co16, eo16⟩ := Kd.R_slice HO202.out
   (first | subst eo16 | (injection eo16 with f1_ f2_ f3_; have f4_ := f1_.symm; have f5_ := f3_.symm; clear f1_ f2_ f3_; subst f4_; subst f5_))
   refine hK.out _ _ ⟨bc0 BK197.out, bc1 BK197.out, bc2 BK197.out, bc0 BK198.out, bc1 BK198.out, bc2 BK198.out⟩ (fun hHeld => ?_)
   clear hK K
   refine nA (some 27) ?_
   refine pA 9 (some 28) (bz 12 1023) HT_ ?_
   refine oA 10 none (bz 12 2047) HT_ (fun K hK => ?_)
   have hs17 : w15.cell? ⟨gb199, 0, none⟩ = some (.int .i64 0) := bc0 BK199.out; have hfs17 := blk_frozen BK199.out 0; have hns17_0 := NB197_199.out; have hns17_1 := NB198_199.out; have hms17_0 := NB199_197.out; have hms17_1 := NB199_198.out; have hs18 : w15.cell? ⟨gb199, 1, none⟩ = some (.string (⟨#[]⟩ : ByteArray)) := bc1 BK199.out; have hfs18 := blk_frozen BK199.out 1; have hns18_0 := NB197_199.out; have hns18_1 := NB198_199.out; have hms18_0 := NB199_197.out; have hms18_1 := NB199_198.out; have hs19 : w15.cell? ⟨gb199, 2, none⟩ = some (.slice none 0 0) := bc2 BK199.out; have hfs19 := blk_frozen BK199.out 2; have hns19_0 := NB197_199.out; have hns19_1 := NB198_199.out; have hms19_0 := NB199_197.out; have hms19_1 := NB199_198.out
   refine skip_ (w1 := ?_) (by rfl) rfl ?_ ?_
   rotate_left
   ·
    go_simp
    rfl
   refine hK.out _ _ ⟨((cell_far (p := ⟨gb199, _, none⟩) NB197_199.out _).trans (((cell_far (p := ⟨gb199, _, none⟩) NB197_199.out _).trans (((cell_far (p := ⟨gb199, _, none⟩) NB197_199.out _).trans (hHeld.1)))))), ((cell_far (p := ⟨gb199, _, none⟩) NB197_199.out _).trans (((cell_far (p := ⟨gb199, _, none⟩) NB197_199.out _).trans (((cell_far (p := ⟨gb199, _, none⟩) NB197_199.out _).trans (hHeld.2.1)))))), ((cell_far (p := ⟨gb199, _, none⟩) NB197_199.out _).trans (((cell_far (p := ⟨gb199, _, none⟩) NB197_199.out _).trans (((cell_far (p := ⟨gb199, _, none⟩) NB197_199.out _).trans (hHeld.2.2.1)))))), ((cell_far (p := ⟨gb199, _, none⟩) NB198_199.out _).trans (((cell_far (p := ⟨gb199, _, none⟩) NB198_199.out _).trans (((cell_far (p := ⟨gb199, _, none⟩) NB198_199.out _).trans (hHeld.2.2.2.1)))))), ((cell_far (p := ⟨gb199, _, none⟩) NB198_199.out _).trans (((cell_far (p := ⟨gb199, _, none⟩) NB198_199.out _).trans (((cell_far (p := ⟨gb199, _, none⟩) NB198_199.out _).trans (hHeld.2.2.2.2.1)))))), ((cell_far (p := ⟨gb199, _, none⟩) NB198_199.out _).trans (((cell_far (p := ⟨gb199, _, none⟩) NB198_199.out _).trans (((cell_far (p := ⟨gb199, _, none⟩) NB198_199.out _).trans (hHeld.2.2.2.2.2))))))⟩ (fun hHeld => ?_)
   clear hK K
   refine pA 11 (some 5) (bz 12 4095) HT_ ?_
   refine done_ (done_of HT_.out (by kernel_rfl)) ?_
   try go_wp2
   refine bodyPost_ret (results_ct rfl _ _ gb199 26 #[.int .i64 a0_0, .string a0_1, .slice Ao16 t200.length co16] (0, 0) _ rfl (pI BK199) Try.underlying26 rfl (by kernel_rfl)) rfl ?_
   exact ⟨_, y0_5, by (with_reducible repeat (first | apply Kd.R_alloc | apply Kd.R_drewN | apply Kd.R_drew)); exact Kd.R_mono (Kd.R_far (p := ⟨gb199, 2, none⟩) (Kd.R_far (p := ⟨gb199, 1, none⟩) (Kd.R_far (p := ⟨gb199, 0, none⟩) (Kd.R_types HO202.out BK199.out (by decide)) (fun _ hk => hk.2) (.int .i64 a0_0)) (fun _ hk => hk.2) (.string a0_1)) (fun _ hk => hk.2) (.slice Ao16 t200.length co16)) (fun _ hk => trivial), bI HB.out⟩
  rw [if_neg c4] at H
  have c4b0 : (a0_1.toList == a1_1.toList) = false := beq_eq_false_iff_ne.mpr c4; have c4b1 : (a0_1.toList != a1_1.toList) = true := bne_iff_ne.mpr c4
  simp only [Option.some.injEq, Prod.mk.injEq] at H
  obtain ⟨rfl, rfl, rfl, rfl⟩ := H
  go_enter Try.func9, Try.ntmps9
  go_wp2_with (first | ((with_reducible refine gd 2 ?_); refine bA 2 #[.int .i64 a0_0, .string a0_1, .slice A0_2 l0_2.length c0_2] 26 ?_; intro gb197 hg w20 hbox hb; have BK197 := Aside0.mk (hbox); have GW197 := bg hg HB; have GJ197 := gi GW197; have GE197 := GW197; replace HB := bs HB hb; clear hb hbox hg) | ((with_reducible refine gd 3 ?_); refine bA 3 #[.int .i64 a1_0, .string a1_1, .slice A1_2 l1_2.length c1_2] 26 ?_; intro gb198 hg w21 hbox hb; have BK198 := Aside0.mk (hbox); have GW198 := bg hg HB; have GJ198 := gi GW198; have GE198 := GW198; replace HB := bs HB hb; have NB197_198 := b1 BK197 hg; have NI197_198 := ni NB197_198; have NB198_197 := b2 BK197 hg; have NI198_197 := ni NB198_197; replace BK197 := bk BK197 hb; clear hb hbox hg) | ((with_reducible refine gd 4 ?_); refine bA 4 #[.int .i64 0, .string (⟨#[]⟩ : ByteArray), .slice none 0 0] 26 ?_; intro gb199 hg w22 hbox hb; have BK199 := Aside0.mk (hbox); have GW199 := bg hg HB; have GJ199 := gi GW199; have GE199 := GW199; replace HB := bs HB hb; have NB197_199 := b1 BK197 hg; have NI197_199 := ni NB197_199; have NB199_197 := b2 BK197 hg; have NI199_197 := ni NB199_197; replace BK197 := bk BK197 hb; have NB198_199 := b1 BK198 hg; have NI198_199 := ni NB198_199; have NB199_198 := b2 BK198 hg; have NI199_198 := ni NB199_198; replace BK198 := bk BK198 hb; clear hb hbox hg; have hnb23 := NB197_198.out; have hnc23 := NB198_197.out; have hnb24 := NB197_199.out; have hnc24 := NB199_197.out; obtain ⟨hcz25_0, hcz25_1, hcz25_2, hfz25_0, hfz25_1, hfz25_2⟩ := cs3 BK197; have hnb26 := NB198_199.out; have hnc26 := NB199_198.out; obtain ⟨hcz27_0, hcz27_1, hcz27_2, hfz27_0, hfz27_1, hfz27_2⟩ := cs3 BK198; obtain ⟨hcz28_0, hcz28_1, hcz28_2, hfz28_0, hfz28_1, hfz28_2⟩ := cs3 BK199))
  refine bodyPost_ret (results_ct rfl _ _ gb199 26 #[.int .i64 0, .string (⟨#[]⟩ : ByteArray), .slice none 0 0] (0, 0) _ rfl (pI BK199) Try.underlying26 rfl (by kernel_rfl)) rfl ?_
  exact ⟨_, y0_5, y0_1, bI HB.out⟩
 rw [if_neg c3] at H
 have c3b0 : (a0_0 == a1_0) = false := beq_eq_false_iff_ne.mpr c3; have c3b1 : (a0_0 != a1_0) = true := bne_iff_ne.mpr c3
 simp only [Option.some.injEq, Prod.mk.injEq] at H
 obtain ⟨rfl, rfl, rfl, rfl⟩ := H
 go_enter Try.func9, Try.ntmps9
 go_wp2_with (first | ((with_reducible refine gd 2 ?_); refine bA 2 #[.int .i64 a0_0, .string a0_1, .slice A0_2 l0_2.length c0_2] 26 ?_; intro gb197 hg w29 hbox hb; have BK197 := Aside0.mk (hbox); have GW197 := bg hg HB; have GJ197 := gi GW197; have GE197 := GW197; replace HB := bs HB hb; clear hb hbox hg) | ((with_reducible refine gd 3 ?_); refine bA 3 #[.int .i64 a1_0, .string a1_1, .slice A1_2 l1_2.length c1_2] 26 ?_; intro gb198 hg w30 hbox hb; have BK198 := Aside0.mk (hbox); have GW198 := bg hg HB; have GJ198 := gi GW198; have GE198 := GW198; replace HB := bs HB hb; have NB197_198 := b1 BK197 hg; have NI197_198 := ni NB197_198; have NB198_197 := b2 BK197 hg; have NI198_197 := ni NB198_197; replace BK197 := bk BK197 hb; clear hb hbox hg) | ((with_reducible refine gd 4 ?_); refine bA 4 #[.int .i64 0, .string (⟨#[]⟩ : ByteArray), .slice none 0 0] 26 ?_; intro gb199 hg w31 hbox hb; have BK199 := Aside0.mk (hbox); have GW199 := bg hg HB; have GJ199 := gi GW199; have GE199 := GW199; replace HB := bs HB hb; have NB197_199 := b1 BK197 hg; have NI197_199 := ni NB197_199; have NB199_197 := b2 BK197 hg; have NI199_197 := ni NB199_197; replace BK197 := bk BK197 hb; have NB198_199 := b1 BK198 hg; have NI198_199 := ni NB198_199; have NB199_198 := b2 BK198 hg; have NI199_198 := ni NB199_198; replace BK198 := bk BK198 hb; clear hb hbox hg; have hnb32 := NB197_198.out; have hnc32 := NB198_197.out; have hnb33 := NB197_199.out; have hnc33 := NB199_197.out; obtain ⟨hcz34_0, hcz34_1, hcz34_2, hfz34_0, hfz34_1, hfz34_2⟩ := cs3 BK197; have hnb35 := NB198_199.out; have hnc35 := NB199_198.out; obtain ⟨hcz36_0, hcz36_1, hcz36_2, hfz36_0, hfz36_1, hfz36_2⟩ := cs3 BK198; obtain ⟨hcz37_0, hcz37_1, hcz37_2, hfz37_0, hfz37_1, hfz37_2⟩ := cs3 BK199))
 refine bodyPost_ret (results_ct rfl _ _ gb199 26 #[.int .i64 0, .string (⟨#[]⟩ : ByteArray), .slice none 0 0] (0, 0) _ rfl (pI BK199) Try.underlying26 rfl (by kernel_rfl)) rfl ?_
 exact ⟨_, y0_5, y0_1, bI HB.out⟩

end Go.Proofs.Ytemjmefacifdeaa.PFnExactPartJoin
