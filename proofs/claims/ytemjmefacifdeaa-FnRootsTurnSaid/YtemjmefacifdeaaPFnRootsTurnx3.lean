-- By a program of this session, out of the translation (the print of the kit, with turns of its own). Lean checks it.
import Derived.Test.YtemjmefacifdeaaPFnRootsTurnx0
import Derived.Test.YtemjmefacifdeaaPFnRootsTurnx1
import Derived.Test.YtemjmefacifdeaaPFnRootsTurnx2
namespace Go.Proofs.Ytemjmefacifdeaa.PFnRootsTurn
open Go.RowKit Go.Proofs.YtemjmefacifdeaaW.PrintWords Go.Proofs.YtemjmefacifdeaaW.PrintLast Go.Proofs.YtemjmefacifdeaaW.PrintMore
attribute [local go_sem] max2_int min2_int max_two min_two max_three min_three max_four min_four   -- for this text's walks alone
set_option linter.unusedVariables false
set_option linter.unusedSimpArgs false

/-! ### impl_SetAdd: function 18 -/
def impl_SetAdd.at_ (l0 : List Int) (a1 : Int) : Nat := (l0.takeWhile (fun y => decide (y < a1))).length
theorem impl_SetAdd.at_le (l0 : List Int) (a1 : Int) : impl_SetAdd.at_ l0 a1 ≤ l0.length := (List.takeWhile_sublist _).length_le
theorem impl_SetAdd.idx (a1 : Int) : ∀ (l0 : List Int) (n : Nat), Lib.idxByFrom (fun _ y => decide (y ≥ a1)) default l0 n = if impl_SetAdd.at_ l0 a1 = l0.length then -1 else ((n + impl_SetAdd.at_ l0 a1 : Nat) : Int)
 | [], n => rfl
 | y :: r, n => by
  unfold Lib.idxByFrom
  by_cases hy : y ≥ a1
  ·
   rw [if_pos (decide_eq_true hy)]
   have : impl_SetAdd.at_ (y :: r) a1 = 0 := by
    unfold impl_SetAdd.at_
    rw [List.takeWhile_cons_of_neg (by simpa using hy)]; rfl
   rw [this, if_neg (by simp)]; simp
  rw [if_neg (by simpa using hy), impl_SetAdd.idx a1 r (n + 1)]
  have : impl_SetAdd.at_ (y :: r) a1 = impl_SetAdd.at_ r a1 + 1 := by
   unfold impl_SetAdd.at_
   rw [List.takeWhile_cons_of_pos (by simpa using hy)]; rfl
  rw [this, List.length_cons]
  by_cases he : impl_SetAdd.at_ r a1 = r.length
  ·
   rw [if_pos he, if_pos (by omega)]
  rw [if_neg he, if_neg (by omega)]
  congr 1; omega
def impl_SetAdd.f (k : Nat) (l0 : List Int) (a1 : Int) : Option (List Int) := (impl_SetHas.f k l0 a1).bind fun b => (impl_copyInts.f l0).bind fun c => if b = true then some c else some (c.take (impl_SetAdd.at_ l0 a1) ++ a1 :: c.drop (impl_SetAdd.at_ l0 a1))
theorem impl_SetAdd.mono : ∀ a0 a1 k, LeO (impl_SetAdd.f k a0 a1) (impl_SetAdd.f (k + 1) a0 a1) := by
 intro a0 a1 k
 unfold impl_SetAdd.f
 exact LeO.bind (impl_SetHas.mono _ _ _) (fun _ => LeO.refl _)
theorem impl_SetAdd.find (A0 : Option Addr) (c0 : Nat) (l0 : List Int) (a1 : Int) (g : Nat) (w : World) (hr0 : Kd.C (Kd.int .i64) w A0 l0.length l0) (hg : w.heap[g]? = some (.cells #[.int .i64 a1] 3 (0, 0))) :
  Calls Try.prog 38 #[.slice A0 l0.length c0, .func (.func 39) #[] #[.pointer (some ⟨g, 0, none⟩)]] w fun e w' => e = .returned (.int .i64 (if impl_SetAdd.at_ l0 a1 = l0.length then -1 else (impl_SetAdd.at_ l0 a1 : Int))) ∧ ∃ q, w' = w.drewN q := by
 rcases Nat.eq_zero_or_pos l0.length with h0 | h0
 ·
  have hx : l0 = [] := List.length_eq_zero_iff.1 h0; subst hx
  refine (Try.slices_IndexFunc_empty (α := Int) A0 c0 _ w).mono ?_
  rintro e w' ⟨rfl, rfl⟩
  exact ⟨rfl, 0, rfl⟩
 obtain ⟨ad, rfl, hc⟩ := hr0.2.2 h0
 have hc' : ∀ j (hj : j < l0.length), w.cell? ((ad.add j)) = some (.int .i64 l0[j]) := by
  intro j hj
  obtain ⟨c, _, hK, hu⟩ := hc j _ (List.getElem?_eq_getElem hj)
  have hK' : c = [Value.int .i64 l0[j]] := hK; subst hK'; have := hu 0 _ rfl
  have e : j * (Kd.int IntKind.i64).sz + 0 = j := by show j * 1 + 0 = j; omega
  rwa [e] at this
 obtain ⟨b, off, sp⟩ := ad
 have hsp : sp = none := by
  cases sp with
  | none => rfl
  | some s =>
   have h1 := hc' 0 h0
   simp [Addr.add, World.cell?] at h1
   split at h1 <;> simp at h1
 subst hsp
 have hc2 : ∀ j, j < l0.length → w.cell? ⟨b, off + j, none⟩ = some (Value.int .i64 l0[j]!) := by
  intro j hj
  have h1 := hc' j hj
  rw [getElem!_pos l0 j hj]
  by_cases hj0 : j = 0
  ·
   subst hj0
   simpa [Addr.add] using h1
  simpa [Addr.add, hj0] using h1
 refine (Try.slices_IndexFunc (α := Int) (Value.int .i64) (fun x => decide (x ≥ a1)) 39 #[.pointer (some ⟨g, 0, none⟩)] (fun _ _ => rfl) b off l0.length c0 l0 w (Ins.pred w g a1 hg) (Nat.le_refl _) hr0.2.1 hc2).mono ?_
 rintro e w' ⟨rfl, hq⟩
 refine ⟨?_, hq⟩
 have h1 := impl_SetAdd.idx a1 l0 0
 rw [List.take_length]
 unfold Lib.idxBy
 rw [h1, Nat.zero_add]
theorem impl_SetAdd.find2 (A0 : Option Addr) (c0 : Nat) (l0 : List Int) (a1 : Int) (g : Nat) (w : World) (z : Int) (hr0 : Kd.C (Kd.int .i64) w A0 l0.length l0) (hg : w.heap[g]? = some (.cells #[.int .i64 a1] 3 (0, 0))) (hz : (if impl_SetAdd.at_ l0 a1 = l0.length then -1 else (impl_SetAdd.at_ l0 a1 : Int)) = z) :
  Calls Try.prog 38 #[.slice A0 l0.length c0, .func (.func 39) #[] #[.pointer (some ⟨g, 0, none⟩)]] w fun e w' => e = .returned (.int .i64 z) ∧ ∃ q, w' = w.drewN q := by
 subst hz
 exact impl_SetAdd.find A0 c0 l0 a1 g w hr0 hg
section
variable {P : Program} {ops : Array Oper} {rest : List Oper} {o : Oper} {a : Act} {Q : Exit → Act → World → Prop}
/-- A literal row, its block told. -/
theorem impl_SetAdd.lit {W : World} (n : Nat) (cs : Array Value) (t : TypeId)
  (h : ∀ g, g = W.heap.size → ∀ w1, w1.heap[g]? = some (.cells cs t (0, 0)) → Below W.heap.size W w1 → wpList P ops Q rest (a.put o.dst (.slice (some ⟨g, 0, none⟩) n n)) w1)
  (hgd : o.guard = none := by rfl) (hrun : (execOp a.eval o).run P W = .ok (.value (.slice (some ⟨W.heap.size, 0, none⟩) n n)) (W.alloc (.cells cs t (0, 0))) := by first | (go_simp; done) | (go_simp; rfl) | rfl) : wpList P ops Q (o :: rest) a W :=
 Kd.event_run hgd hrun (h _ rfl _ (blk_new W _) (below_alloc (Below.refl _ _) _))
end
section
variable {P : Program} {ops : Array Oper} {o : Oper} {a : Act} {Q : Exit → Act → World → Prop} {Kc : Act → World → Prop}
theorem impl_SetAdd.lit_step {W : World} (n : Nat) (cs : Array Value) (t : TypeId)
  (h : ∀ g, g = W.heap.size → ∀ w1, w1.heap[g]? = some (.cells cs t (0, 0)) → Below W.heap.size W w1 → Kc (a.put o.dst (.slice (some ⟨g, 0, none⟩) n n)) w1)
  (hw : Region.wanted o (yielded ops a.tmps) = true := by rfl) (hrun : (execOp a.eval o).run P W = .ok (.value (.slice (some ⟨W.heap.size, 0, none⟩) n n)) (W.alloc (.cells cs t (0, 0))) := by first | (go_simp; done) | (go_simp; rfl) | rfl) :
  if Region.wanted o (yielded ops a.tmps) = true then Oper.wp P o a W Kc Q else Kc (a.put o.dst undef) W :=
 event_step hw hrun (h _ rfl _ (blk_new W _) (below_alloc (Below.refl _ _) _))
end
section
variable {P : Program} {ops : Array Oper} {Q : Exit → Act → World → Prop} {md : Region.Mode} {S : World → Prop} {ds : List Nat}
theorem impl_SetAdd.two {i j : Nat} {Ni Nj : Option Tmp} {oi oj : Oper} {fuel : Nat} {l : Array Bool} {a : Act} {w : World} (li lj : Array Bool) (hi : ops[i]? = some oi) (hj : ops[j]? = some oj) (hNi : oi.dst = Ni) (hNj : oj.dst = Nj)
  (hc : (Region.ready md ops l == [i, j] && l.setIfInBounds i true == li && l.setIfInBounds j true == lj) = true) (hdi : i ∉ ds) (hdj : j ∉ ds)
  (h1 : ∀ K : Act → World → Prop, Shut (∀ a' w', S w' → (S w' → wpAnyLast P md ops Q S ds fuel li a' w') → K a' w') → if Region.wanted oi (yielded ops a.tmps) = true then Oper.wp P oi a w K Q else K (a.put Ni undef) w)
  (h2 : ∀ K : Act → World → Prop, Shut (∀ a' w', S w' → (S w' → wpAnyLast P md ops Q S ds fuel lj a' w') → K a' w') → if Region.wanted oj (yielded ops a.tmps) = true then Oper.wp P oj a w K Q else K (a.put Nj undef) w) :
  wpAnyLast P md ops Q S ds (fuel + 1) l a w := by
 subst hNi; subst hNj
 simp only [Bool.and_eq_true, beq_iff_eq] at hc
 obtain ⟨⟨h3, h4⟩, h5⟩ := hc; subst h4; subst h5
 exact wpAnyLast_ready h3 (by simp) (AllReadyL.cons hi hdi (fun K hK => h1 K hK) (AllReadyL.cons hj hdj (fun K hK => h2 K hK) AllReadyL.nil))
end
theorem impl_SetAdd.copied {l0 c : List Int} (h : impl_copyInts.f l0 = some c) : c = l0 ∧ l0.length < 17592186044416 := by
 unfold impl_copyInts.f at h
 by_cases hc : ([] : List Int).length + l0.length < 17592186044416
 rotate_left
 ·
  rw [if_neg hc] at h
  exact absurd h (by simp)
 rw [if_pos hc] at h
 exact ⟨by simpa using (Option.some.inj h).symm, by simpa using hc⟩
set_option maxHeartbeats 8000000 in
set_option maxRecDepth 100000 in
theorem impl_SetAdd.calls (k : Nat) (A0 : Option Addr) (c0 : Nat) (l0 : List Int) (a1 : Int) (r : List Int) (w : World) (hr0 : Kd.C (Kd.int .i64) w A0 l0.length l0) (hc0 : l0.length ≤ c0) (h : impl_SetAdd.f k l0 a1 = some r) :
  Calls Try.prog 18 #[.slice A0 l0.length c0, .int .i64 a1] w fun e w' => ∃ v0_ : Value, e = .returned (v0_) ∧ Kd.R (Kd.int .i64) 3 w' w.heap.size (fun _ => True) v0_ r ∧ Below w.heap.size w w' := by
 have HR0 := Aside0.mk hr0; have HC0 := Aside0.mk hc0; clear hr0 hc0; have HB := Aside0.mk (Below.refl w.heap.size w); obtain ⟨b, A1, H⟩ := Option.bind_eq_some_iff.mp h; obtain ⟨c, A2, H⟩ := Option.bind_eq_some_iff.mp H; obtain ⟨hcl, hln⟩ := impl_SetAdd.copied A2; subst hcl; have A1 := Aside0.mk A1; have A2 := Aside0.mk A2; have LN := Aside0.mk hln; clear h hln; cases b with
 | true =>
  rw [if_pos rfl] at H
  obtain rfl := Option.some.inj H
  go_enter Try.func18, Try.ntmps18
  go_wp2_with (first | ((with_reducible refine gd 3 ?_); refine bA 3 #[.int .i64 a1] 3 ?_; intro gb hg w2 hbox hb; have BK := Aside0.mk hbox; have hcz := bc0 hbox; have hfz := blk_frozen hbox 0; have GW := bg hg HB; replace HB := bs HB hb; clear hb hbox hg) | ((with_reducible refine gate_callee (f := 36) rfl ?_); refine gB (some 8) Try.func36 #[.slice A0 c.length c0, .int .i64 a1] ?_; (with_reducible refine (impl_SetHas.calls k _ _ c a1 true _ ?side1 ?side2 A1.out).mono ?_); (case side1 => exact ch HR0 HB); (case side2 => exact HC0.out); rintro e w' ⟨rfl, ⟨nd, rfl⟩⟩; refine ⟨_, rfl, ?_⟩) | ((with_reducible refine gate_callee (f := 37) rfl ?_); refine gB (some 10) Try.func37 #[.slice A0 c.length c0] ?_; (with_reducible refine (impl_copyInts.calls _ _ c c _ ?side1 ?side2 A2.out).mono ?_); (case side1 => exact ch HR0 HB); (case side2 => exact HC0.out); rintro e w' ⟨v0, rfl, ho, hb⟩; refine ⟨_, rfl, ?_⟩; have HO := Aside0.mk (Kd.R_lower ho (below_size (bI HB.out))); replace HB := bs HB hb; clear hb ho))
  go_ret
  exact ⟨_, rfl, rI HO.out, bI HB.out⟩
 | false =>
  rw [if_neg (show ¬ (false = true) by decide)] at H
  obtain ⟨m, hm⟩ : ∃ m, m = impl_SetAdd.at_ c a1 := ⟨_, rfl⟩; have ML := Aside0.mk (impl_SetAdd.at_le c a1)
  rw [← hm] at H ML
  obtain rfl := Option.some.inj H
  by_cases he : m = c.length
  ·
   have HZ : Aside0 ((if impl_SetAdd.at_ c a1 = c.length then -1 else (impl_SetAdd.at_ c a1 : Int)) = -1) := Aside0.mk (if_pos (hm ▸ he)); clear hm; subst he
   go_enter Try.func18, Try.ntmps18
   go_wp2_with (first | ((with_reducible refine gd 3 ?_); refine bA 3 #[.int .i64 a1] 3 ?_; intro gb hg w2 hbox hb; have BK := Aside0.mk hbox; have hcz := bc0 hbox; have hfz := blk_frozen hbox 0; have GW := bg hg HB; replace HB := bs HB hb; clear hb hbox hg) | ((with_reducible refine gate_callee (f := 36) rfl ?_); refine gB (some 8) Try.func36 #[.slice A0 c.length c0, .int .i64 a1] ?_; (with_reducible refine (impl_SetHas.calls k _ _ c a1 false _ ?side1 ?side2 A1.out).mono ?_); (case side1 => exact ch HR0 HB); (case side2 => exact HC0.out); rintro e w' ⟨rfl, ⟨nd, rfl⟩⟩; refine ⟨_, rfl, ?_⟩) | ((with_reducible refine gate_callee (f := 38) rfl ?_); refine gB (some 13) Try.func38 #[.slice A0 c.length c0, .func (.func 39) #[] #[.pointer (some ⟨gb, 0, none⟩)]] ?_; (with_reducible refine (impl_SetAdd.find2 A0 c0 c a1 gb _ (-1) ?side1 ?side2 HZ.out).mono ?_); (case side1 => exact ch HR0 HB); (case side2 => exact kI BK.out); rintro e w' ⟨rfl, ⟨nf, rfl⟩⟩; refine ⟨_, rfl, ?_⟩) | ((with_reducible refine gate_callee (f := 37) rfl ?_); refine gB (some 19) Try.func37 #[.slice A0 c.length c0] ?_; (with_reducible refine (impl_copyInts.calls _ _ c c _ ?side1 ?side2 A2.out).mono ?_); (case side1 => exact ch HR0 HB); (case side2 => exact HC0.out); rintro e w' ⟨v0, rfl, ho, hb⟩; refine ⟨_, rfl, ?_⟩; have HO := Aside0.mk (Kd.R_lower ho (below_size (bI HB.out))); replace BK := bk BK hb; replace HB := bs HB hb; clear hb ho; clear hcz hfz; have hcz := bc0 BK.out; have hfz := blk_frozen BK.out 0; obtain ⟨Ao, co, eo⟩ := Kd.R_slice HO.out; subst eo) | ((with_reducible refine gd 22 ?_); refine impl_SetAdd.lit 1 #[.int .i64 a1] 3 ?_; intro gl hg w4 hbox hb; have KL := Aside0.mk hbox; have NE : Aside0 (some gl ≠ (Value.slice Ao c.length co).ownBlock) := Aside0.mk (fun e => by have h1 := ((Kd.own_of_R (rI HO.out)).lt _ e.symm).2; rw [hg] at h1; exact Nat.lt_irrefl _ h1); replace HO := rb HO hb; replace HB := bs HB hb; clear hb hbox hg) | ((with_reducible refine gate_callee (f := 40) rfl ?_); refine gB (some 23) Try.func40 #[.slice Ao c.length co, .int .i64 (c.length : Int), .slice (some ⟨gl, 0, none⟩) 1 1] ?_; (with_reducible refine (Ins.ins _ w.heap.size (fun _ => True) _ c c.length a1 gl ?side1 ?side2 ?side3 ?side4 ?side5 NE.out).mono ?_); (case side1 => exact rI HO.out); (case side2 => exact below_size (bI HB.out)); (case side3 => exact ML.out); (case side4 => have := LN.out; omega); (case side5 => exact kI KL.out); rintro e w' ⟨v1, rfl, ho, hb⟩; refine ⟨_, rfl, ?_⟩; have HO2 := Aside0.mk ho; have HB2 := Aside0.mk ((bI HB.out).trans hb); clear hb ho))
   refine start_ (n := 7) (S := fun w' => w'.cell? ⟨gb, 0, none⟩ = some (.int .i64 a1)) (ds := [5]) #[false, false, false, false, false, false, false] (by kernel_rfl) rfl rfl (bc0 (kI BK.out)) (fun hHeld => ?_)
   refine pure_ (i := 0) (N := some 18) (v := ?_) (a' := ?_) #[true, false, false, false, false, false, false] rfl rfl (by kernel_rfl) (fun _ _ _ h => h) (Or.inl ⟨by rfl, ?_⟩) ?_ ?_
   rotate_left
   ·
    intro w'
    go_simp
    with_reducible rfl
   rotate_left
   ·
    simp only [Act.put, List.setIfInBounds_toArray, List.set_cons_zero, List.set_cons_succ, i64_w, i32_w]
    rfl
   refine pure_ (i := 2) (N := some 20) (v := ?_) (a' := ?_) #[true, false, true, false, false, false, false] rfl rfl (by kernel_rfl) (fun _ _ _ h => h) (Or.inl ⟨by rfl, ?_⟩) ?_ ?_
   rotate_left
   ·
    intro w'
    go_simp
    with_reducible rfl
   rotate_left
   ·
    simp only [Act.put, List.setIfInBounds_toArray, List.set_cons_zero, List.set_cons_succ, i64_w, i32_w]
    rfl
   refine take_ (i := 3) (N := some 21) (v := ?_) (a' := ?_) #[true, false, true, true, false, false, false] rfl rfl (by kernel_rfl) (fun _ _ _ h => h) (Or.inl ⟨by rfl, ?_⟩) hHeld ?_ ?_
   rotate_left
   ·
    intro w' s0
    go_simp
    with_reducible rfl
   rotate_left
   ·
    simp only [Act.put, List.setIfInBounds_toArray, List.set_cons_zero, List.set_cons_succ, i64_w, i32_w]
    rfl
   refine impl_SetAdd.two (i := 1) (j := 4) (Ni := some 19) (Nj := some 22) #[true, true, true, true, false, false, false] #[true, false, true, true, true, false, false] rfl rfl rfl rfl (by kernel_rfl) (by decide) (by decide) (fun K hK => ?_) (fun K hK => ?_)
   ·
    refine gA Try.func37 #[.slice A0 c.length c0] ?_
    with_reducible refine (impl_copyInts.calls _ _ c c _ ?side1 ?side2 A2.out).mono ?_
    (case side1 => exact ch HR0 HB)
    (case side2 => exact HC0.out)
    rintro e w5 ⟨v0, rfl, ho, hb⟩
    refine ⟨_, rfl, ?_⟩
    have HO := Aside0.mk (Kd.R_lower ho (below_size (bI HB.out))); replace BK := bk BK hb; replace HB := bs HB hb; clear hb ho
    refine hK.out _ _ (bc0 BK.out) (fun hHeld => ?_)
    clear hK K; obtain ⟨Ao, co, eo⟩ := Kd.R_slice HO.out; subst eo
    refine nA (some 19) ?_
    refine one_ (i := 4) (N := some 22) #[true, true, true, true, true, false, false] rfl rfl (by kernel_rfl) (by decide) (fun K hK => ?_)
    refine impl_SetAdd.lit_step 1 #[.int .i64 a1] 3 ?_
    intro gl hg w4 hbox hb
    have KL := Aside0.mk hbox
    have NE : Aside0 (some gl ≠ (Value.slice Ao c.length co).ownBlock) := Aside0.mk (fun e => by have h1 := ((Kd.own_of_R HO.out).lt _ e.symm).2; rw [hg] at h1; exact Nat.lt_irrefl _ h1)
    replace HO := rb HO hb; replace BK := bk BK hb; replace HB := bs HB hb; clear hb hbox hg
    refine hK.out _ _ (bc0 BK.out) (fun hHeld => ?_)
    clear hK K
    refine nA (some 22) ?_
    refine last_ (i := 5) (N := some 23) #[true, true, true, true, true, true, false] rfl rfl (by kernel_rfl) (by decide) (fun K hK => ?_)
    refine gA Try.func40 #[.slice Ao c.length co, .int .i64 (c.length : Int), .slice (some ⟨gl, 0, none⟩) 1 1] ?_
    with_reducible refine (Ins.ins _ w.heap.size (fun _ => True) _ c c.length a1 gl ?side1 ?side2 ?side3 ?side4 ?side5 NE.out).mono ?_
    (case side1 => exact rI HO.out)
    (case side2 => exact below_size (bI HB.out))
    (case side3 => exact ML.out)
    (case side4 => have := LN.out; omega)
    (case side5 => exact kI KL.out)
    rintro e w6 ⟨v1, rfl, ho, hb⟩
    refine ⟨_, rfl, ?_⟩
    have HO2 := Aside0.mk ho; have HB2 := Aside0.mk ((bI HB.out).trans hb)
    refine hK.out _ _ ?_
    clear hK K hb ho
    refine nA (some 23) ?_
    refine pure_ (i := 6) (N := some 4) (v := ?_) (a' := ?_) #[true, true, true, true, true, true, true] rfl rfl (by kernel_rfl) (fun _ _ _ h => h) (Or.inl ⟨by rfl, ?_⟩) ?_ ?_
    rotate_left
    ·
     intro w'
     go_simp
     with_reducible rfl
    rotate_left
    ·
     simp only [Act.put, List.setIfInBounds_toArray, List.set_cons_zero, List.set_cons_succ, i64_w, i32_w]
     rfl
    refine done_ (by kernel_rfl) ?_
    go_wp2
    go_ret
    exact ⟨_, rfl, HO2.out, HB2.out⟩
   refine impl_SetAdd.lit_step 1 #[.int .i64 a1] 3 ?_
   intro gl hg w4 hbox hb
   have KL := Aside0.mk hbox; replace BK := bk BK hb; replace HB := bs HB hb; clear hb hbox hg
   refine hK.out _ _ (bc0 BK.out) (fun hHeld => ?_)
   clear hK K
   refine nA (some 22) ?_
   refine one_ (i := 1) (N := some 19) #[true, true, true, true, true, false, false] rfl rfl (by kernel_rfl) (by decide) (fun K hK => ?_)
   refine gA Try.func37 #[.slice A0 c.length c0] ?_
   with_reducible refine (impl_copyInts.calls _ _ c c _ ?side1 ?side2 A2.out).mono ?_
   (case side1 => exact ch HR0 HB)
   (case side2 => exact HC0.out)
   rintro e w5 ⟨v0, rfl, ho, hb⟩
   refine ⟨_, rfl, ?_⟩
   have HO := Aside0.mk (Kd.R_lower ho (below_size (bI HB.out))); replace BK := bk BK hb; have KL' := bk KL hb
   have NE : Aside0 (some gl ≠ v0.ownBlock) := Aside0.mk (fun e => by have h1 := ((Kd.own_of_R ho).lt _ e.symm).1; exact (Nat.not_lt.2 h1) (blk_lt (kI KL.out)))
   replace KL := KL'; clear KL'; replace HB := bs HB hb; clear hb ho
   refine hK.out _ _ (bc0 BK.out) (fun hHeld => ?_)
   clear hK K; obtain ⟨Ao, co, eo⟩ := Kd.R_slice HO.out; subst eo
   refine nA (some 19) ?_
   refine last_ (i := 5) (N := some 23) #[true, true, true, true, true, true, false] rfl rfl (by kernel_rfl) (by decide) (fun K hK => ?_)
   refine gA Try.func40 #[.slice Ao c.length co, .int .i64 (c.length : Int), .slice (some ⟨gl, 0, none⟩) 1 1] ?_
   with_reducible refine (Ins.ins _ w.heap.size (fun _ => True) _ c c.length a1 gl ?side1 ?side2 ?side3 ?side4 ?side5 NE.out).mono ?_
   (case side1 => exact rI HO.out)
   (case side2 => exact below_size (bI HB.out))
   (case side3 => exact ML.out)
   (case side4 => have := LN.out; omega)
   (case side5 => exact kI KL.out)
   rintro e w6 ⟨v1, rfl, ho, hb⟩
   refine ⟨_, rfl, ?_⟩
   have HO2 := Aside0.mk ho; have HB2 := Aside0.mk ((bI HB.out).trans hb)
   refine hK.out _ _ ?_
   clear hK K hb ho
   refine nA (some 23) ?_
   refine pure_ (i := 6) (N := some 4) (v := ?_) (a' := ?_) #[true, true, true, true, true, true, true] rfl rfl (by kernel_rfl) (fun _ _ _ h => h) (Or.inl ⟨by rfl, ?_⟩) ?_ ?_
   rotate_left
   ·
    intro w'
    go_simp
    with_reducible rfl
   rotate_left
   ·
    simp only [Act.put, List.setIfInBounds_toArray, List.set_cons_zero, List.set_cons_succ, i64_w, i32_w]
    rfl
   refine done_ (by kernel_rfl) ?_
   go_wp2
   go_ret
   exact ⟨_, rfl, HO2.out, HB2.out⟩
  have HZ : Aside0 ((if impl_SetAdd.at_ c a1 = c.length then -1 else (impl_SetAdd.at_ c a1 : Int)) = (m : Int)) := Aside0.mk (by rw [← hm, if_neg he])
  clear hm he
  have hd : decide ((m : Int) < 0) = false := decide_eq_false (by omega)
  go_enter Try.func18, Try.ntmps18
  go_wp2_with (first | ((with_reducible refine gd 3 ?_); refine bA 3 #[.int .i64 a1] 3 ?_; intro gb hg w2 hbox hb; have BK := Aside0.mk hbox; have hcz := bc0 hbox; have hfz := blk_frozen hbox 0; have GW := bg hg HB; replace HB := bs HB hb; clear hb hbox hg) | ((with_reducible refine gate_callee (f := 36) rfl ?_); refine gB (some 8) Try.func36 #[.slice A0 c.length c0, .int .i64 a1] ?_; (with_reducible refine (impl_SetHas.calls k _ _ c a1 false _ ?side1 ?side2 A1.out).mono ?_); (case side1 => exact ch HR0 HB); (case side2 => exact HC0.out); rintro e w' ⟨rfl, ⟨nd, rfl⟩⟩; refine ⟨_, rfl, ?_⟩) | ((with_reducible refine gate_callee (f := 38) rfl ?_); refine gB (some 13) Try.func38 #[.slice A0 c.length c0, .func (.func 39) #[] #[.pointer (some ⟨gb, 0, none⟩)]] ?_; (with_reducible refine (impl_SetAdd.find2 A0 c0 c a1 gb _ (m : Int) ?side1 ?side2 HZ.out).mono ?_); (case side1 => exact ch HR0 HB); (case side2 => exact kI BK.out); rintro e w' ⟨rfl, ⟨nf, rfl⟩⟩; refine ⟨_, rfl, ?_⟩) | ((with_reducible refine gate_callee (f := 37) rfl ?_); refine gB (some 19) Try.func37 #[.slice A0 c.length c0] ?_; (with_reducible refine (impl_copyInts.calls _ _ c c _ ?side1 ?side2 A2.out).mono ?_); (case side1 => exact ch HR0 HB); (case side2 => exact HC0.out); rintro e w' ⟨v0, rfl, ho, hb⟩; refine ⟨_, rfl, ?_⟩; have HO := Aside0.mk (Kd.R_lower ho (below_size (bI HB.out))); replace BK := bk BK hb; replace HB := bs HB hb; clear hb ho; clear hcz hfz; have hcz := bc0 BK.out; have hfz := blk_frozen BK.out 0; obtain ⟨Ao, co, eo⟩ := Kd.R_slice HO.out; subst eo) | ((with_reducible refine gd 22 ?_); refine impl_SetAdd.lit 1 #[.int .i64 a1] 3 ?_; intro gl hg w4 hbox hb; have KL := Aside0.mk hbox; have NE : Aside0 (some gl ≠ (Value.slice Ao c.length co).ownBlock) := Aside0.mk (fun e => by have h1 := ((Kd.own_of_R HO.out).lt _ e.symm).2; rw [hg] at h1; exact Nat.lt_irrefl _ h1); replace HO := rb HO hb; replace HB := bs HB hb; clear hb hbox hg) | ((with_reducible refine gate_callee (f := 40) rfl ?_); refine gB (some 23) Try.func40 #[.slice Ao c.length co, .int .i64 (m : Int), .slice (some ⟨gl, 0, none⟩) 1 1] ?_; (with_reducible refine (Ins.ins _ w.heap.size (fun _ => True) _ c m a1 gl ?side1 ?side2 ?side3 ?side4 ?side5 NE.out).mono ?_); (case side1 => exact rI HO.out); (case side2 => exact below_size (bI HB.out)); (case side3 => exact ML.out); (case side4 => have := LN.out; omega); (case side5 => exact kI KL.out); rintro e w' ⟨v1, rfl, ho, hb⟩; refine ⟨_, rfl, ?_⟩; have HO2 := Aside0.mk ho; have HB2 := Aside0.mk ((bI HB.out).trans hb); clear hb ho))
  refine start_ (n := 7) (S := fun w' => w'.cell? ⟨gb, 0, none⟩ = some (.int .i64 a1)) (ds := [5]) #[false, false, false, false, false, false, false] (by kernel_rfl) rfl rfl (bc0 (kI BK.out)) (fun hHeld => ?_)
  refine pure_ (i := 0) (N := some 18) (v := ?_) (a' := ?_) #[true, false, false, false, false, false, false] rfl rfl (by kernel_rfl) (fun _ _ _ h => h) (Or.inl ⟨by rfl, ?_⟩) ?_ ?_
  rotate_left
  ·
   intro w'
   go_simp
   with_reducible rfl
  rotate_left
  ·
   simp only [Act.put, List.setIfInBounds_toArray, List.set_cons_zero, List.set_cons_succ, i64_w, i32_w]
   rfl
  refine pure_ (i := 2) (N := some 20) (v := ?_) (a' := ?_) #[true, false, true, false, false, false, false] rfl rfl (by kernel_rfl) (fun _ _ _ h => h) (Or.inl ⟨by rfl, ?_⟩) ?_ ?_
  rotate_left
  ·
   intro w'
   go_simp
   with_reducible rfl
  rotate_left
  ·
   simp only [Act.put, List.setIfInBounds_toArray, List.set_cons_zero, List.set_cons_succ, i64_w, i32_w]
   rfl
  refine take_ (i := 3) (N := some 21) (v := ?_) (a' := ?_) #[true, false, true, true, false, false, false] rfl rfl (by kernel_rfl) (fun _ _ _ h => h) (Or.inl ⟨by rfl, ?_⟩) hHeld ?_ ?_
  rotate_left
  ·
   intro w' s0
   go_simp
   with_reducible rfl
  rotate_left
  ·
   simp only [Act.put, List.setIfInBounds_toArray, List.set_cons_zero, List.set_cons_succ, i64_w, i32_w]
   rfl
  refine impl_SetAdd.two (i := 1) (j := 4) (Ni := some 19) (Nj := some 22) #[true, true, true, true, false, false, false] #[true, false, true, true, true, false, false] rfl rfl rfl rfl (by kernel_rfl) (by decide) (by decide) (fun K hK => ?_) (fun K hK => ?_)
  ·
   refine gA Try.func37 #[.slice A0 c.length c0] ?_
   with_reducible refine (impl_copyInts.calls _ _ c c _ ?side1 ?side2 A2.out).mono ?_
   (case side1 => exact ch HR0 HB)
   (case side2 => exact HC0.out)
   rintro e w5 ⟨v0, rfl, ho, hb⟩
   refine ⟨_, rfl, ?_⟩
   have HO := Aside0.mk (Kd.R_lower ho (below_size (bI HB.out))); replace BK := bk BK hb; replace HB := bs HB hb; clear hb ho
   refine hK.out _ _ (bc0 BK.out) (fun hHeld => ?_)
   clear hK K; obtain ⟨Ao, co, eo⟩ := Kd.R_slice HO.out; subst eo
   refine nA (some 19) ?_
   refine one_ (i := 4) (N := some 22) #[true, true, true, true, true, false, false] rfl rfl (by kernel_rfl) (by decide) (fun K hK => ?_)
   refine impl_SetAdd.lit_step 1 #[.int .i64 a1] 3 ?_
   intro gl hg w4 hbox hb
   have KL := Aside0.mk hbox
   have NE : Aside0 (some gl ≠ (Value.slice Ao c.length co).ownBlock) := Aside0.mk (fun e => by have h1 := ((Kd.own_of_R HO.out).lt _ e.symm).2; rw [hg] at h1; exact Nat.lt_irrefl _ h1)
   replace HO := rb HO hb; replace BK := bk BK hb; replace HB := bs HB hb; clear hb hbox hg
   refine hK.out _ _ (bc0 BK.out) (fun hHeld => ?_)
   clear hK K
   refine nA (some 22) ?_
   refine last_ (i := 5) (N := some 23) #[true, true, true, true, true, true, false] rfl rfl (by kernel_rfl) (by decide) (fun K hK => ?_)
   refine gA Try.func40 #[.slice Ao c.length co, .int .i64 (m : Int), .slice (some ⟨gl, 0, none⟩) 1 1] ?_
   with_reducible refine (Ins.ins _ w.heap.size (fun _ => True) _ c m a1 gl ?side1 ?side2 ?side3 ?side4 ?side5 NE.out).mono ?_
   (case side1 => exact rI HO.out)
   (case side2 => exact below_size (bI HB.out))
   (case side3 => exact ML.out)
   (case side4 => have := LN.out; omega)
   (case side5 => exact kI KL.out)
   rintro e w6 ⟨v1, rfl, ho, hb⟩
   refine ⟨_, rfl, ?_⟩
   have HO2 := Aside0.mk ho; have HB2 := Aside0.mk ((bI HB.out).trans hb)
   refine hK.out _ _ ?_
   clear hK K hb ho
   refine nA (some 23) ?_
   refine pure_ (i := 6) (N := some 4) (v := ?_) (a' := ?_) #[true, true, true, true, true, true, true] rfl rfl (by kernel_rfl) (fun _ _ _ h => h) (Or.inl ⟨by rfl, ?_⟩) ?_ ?_
   rotate_left
   ·
    intro w'
    go_simp
    with_reducible rfl
   rotate_left
   ·
    simp only [Act.put, List.setIfInBounds_toArray, List.set_cons_zero, List.set_cons_succ, i64_w, i32_w]
    rfl
   refine done_ (by kernel_rfl) ?_
   go_wp2
   go_ret
   exact ⟨_, rfl, HO2.out, HB2.out⟩
  refine impl_SetAdd.lit_step 1 #[.int .i64 a1] 3 ?_
  intro gl hg w4 hbox hb
  have KL := Aside0.mk hbox; replace BK := bk BK hb; replace HB := bs HB hb; clear hb hbox hg
  refine hK.out _ _ (bc0 BK.out) (fun hHeld => ?_)
  clear hK K
  refine nA (some 22) ?_
  refine one_ (i := 1) (N := some 19) #[true, true, true, true, true, false, false] rfl rfl (by kernel_rfl) (by decide) (fun K hK => ?_)
  refine gA Try.func37 #[.slice A0 c.length c0] ?_
  with_reducible refine (impl_copyInts.calls _ _ c c _ ?side1 ?side2 A2.out).mono ?_
  (case side1 => exact ch HR0 HB)
  (case side2 => exact HC0.out)
  rintro e w5 ⟨v0, rfl, ho, hb⟩
  refine ⟨_, rfl, ?_⟩
  have HO := Aside0.mk (Kd.R_lower ho (below_size (bI HB.out))); replace BK := bk BK hb; have KL' := bk KL hb
  have NE : Aside0 (some gl ≠ v0.ownBlock) := Aside0.mk (fun e => by have h1 := ((Kd.own_of_R ho).lt _ e.symm).1; exact (Nat.not_lt.2 h1) (blk_lt (kI KL.out)))
  replace KL := KL'; clear KL'; replace HB := bs HB hb; clear hb ho
  refine hK.out _ _ (bc0 BK.out) (fun hHeld => ?_)
  clear hK K; obtain ⟨Ao, co, eo⟩ := Kd.R_slice HO.out; subst eo
  refine nA (some 19) ?_
  refine last_ (i := 5) (N := some 23) #[true, true, true, true, true, true, false] rfl rfl (by kernel_rfl) (by decide) (fun K hK => ?_)
  refine gA Try.func40 #[.slice Ao c.length co, .int .i64 (m : Int), .slice (some ⟨gl, 0, none⟩) 1 1] ?_
  with_reducible refine (Ins.ins _ w.heap.size (fun _ => True) _ c m a1 gl ?side1 ?side2 ?side3 ?side4 ?side5 NE.out).mono ?_
  (case side1 => exact rI HO.out)
  (case side2 => exact below_size (bI HB.out))
  (case side3 => exact ML.out)
  (case side4 => have := LN.out; omega)
  (case side5 => exact kI KL.out)
  rintro e w6 ⟨v1, rfl, ho, hb⟩
  refine ⟨_, rfl, ?_⟩
  have HO2 := Aside0.mk ho; have HB2 := Aside0.mk ((bI HB.out).trans hb)
  refine hK.out _ _ ?_
  clear hK K hb ho
  refine nA (some 23) ?_
  refine pure_ (i := 6) (N := some 4) (v := ?_) (a' := ?_) #[true, true, true, true, true, true, true] rfl rfl (by kernel_rfl) (fun _ _ _ h => h) (Or.inl ⟨by rfl, ?_⟩) ?_ ?_
  rotate_left
  ·
   intro w'
   go_simp
   with_reducible rfl
  rotate_left
  ·
   simp only [Act.put, List.setIfInBounds_toArray, List.set_cons_zero, List.set_cons_succ, i64_w, i32_w]
   rfl
  refine done_ (by kernel_rfl) ?_
  go_wp2
  go_ret
  exact ⟨_, rfl, HO2.out, HB2.out⟩

/-! ### impl_Sits: function 19 -/
def impl_Sits.f (a0_0 : Int) (a0_1 : Int) (a1 : Int) (a2 : Int) : Option (Int) := (impl_ConfOk.f a0_0 a0_1).bind fun t209 => (if t209 = true then (if a1 < 0 then (some (-1)) else ((impl_within.f a2 0 (wrap64 (a0_0 - 1))).bind fun t210 => (if t210 = true then (if a0_0 = 0 then (none) else (some (Int.tmod (wrap64 ((Int.tmod a1 a0_0) + a2)) a0_0))) else (some (-1))))) else (some (-1)))
set_option maxHeartbeats 8000000 in
set_option maxRecDepth 100000 in
theorem impl_Sits.calls (a0_0 : Int) (a0_1 : Int) (a1 : Int) (a2 : Int) (r : Int) (w : World) (h : impl_Sits.f a0_0 a0_1 a1 a2 = some r) :
  Calls Try.prog 19 #[.agg #[.int .i64 a0_0, .int .i64 a0_1], .int .i64 a1, .int .i64 a2] w fun e w' => e = .returned (.int .i64 r) ∧ Below w.heap.size w w' := by
 have hu36 := Try.underlying36; have HB := Aside0.mk (Below.refl w.heap.size w)
 have H : ((impl_ConfOk.f a0_0 a0_1).bind fun t209 => (if t209 = true then (if a1 < 0 then (some (-1)) else ((impl_within.f a2 0 (wrap64 (a0_0 - 1))).bind fun t210 => (if t210 = true then (if a0_0 = 0 then (none) else (some (Int.tmod (wrap64 ((Int.tmod a1 a0_0) + a2)) a0_0))) else (some (-1))))) else (some (-1)))) = some r := h
 clear h; obtain ⟨t209, A40, H⟩ := Option.bind_eq_some_iff.mp H
 try dsimp only at H
 have A4 := Aside0.mk A40; clear A40
 by_cases c5 : t209 = true
 ·
  subst c5
  rw [if_pos rfl] at H
  by_cases c6 : a1 < 0
  ·
   rw [if_pos c6] at H
   have c6b0 : decide (a1 < 0) = true := decide_eq_true c6; clear c6; obtain rfl := Option.some.inj H
   go_enter Try.func19, Try.ntmps19
   go_wp2_with (first | ((with_reducible refine gd 3 ?_); refine bA 3 #[.int .i64 a0_0, .int .i64 a0_1] 36 ?_; intro gb208 hg w7 hbox hb; have BK208 := Aside0.mk (hbox); have GW208 := bg hg HB; have GJ208 := gi GW208; have GE208 := GW208; replace HB := bs HB hb; clear hb hbox hg; obtain ⟨hcz8_0, hcz8_1, hfz8_0, hfz8_1⟩ := cs2 BK208) | (go_at_call 17; (with_reducible refine (impl_ConfOk.calls a0_0 a0_1 true _ A4.out).mono ?_); rintro e w9 ⟨rfl, hb⟩; replace BK208 := bk BK208 hb; replace HB := bs HB hb; (try clear hb); (try clear hb2); (try clear hk); (try clear hi)))
   repeat (go_quiet (first | ((with_reducible refine gd 3 ?_); refine bA 3 #[.int .i64 a0_0, .int .i64 a0_1] 36 ?_; intro gb208 hg w7 hbox hb; have BK208 := Aside0.mk (hbox); have GW208 := bg hg HB; have GJ208 := gi GW208; have GE208 := GW208; replace HB := bs HB hb; clear hb hbox hg; obtain ⟨hcz8_0, hcz8_1, hfz8_0, hfz8_1⟩ := cs2 BK208) | (go_at_call 17; (with_reducible refine (impl_ConfOk.calls a0_0 a0_1 true _ A4.out).mono ?_); rintro e w9 ⟨rfl, hb⟩; replace BK208 := bk BK208 hb; replace HB := bs HB hb; (try clear hb); (try clear hb2); (try clear hk); (try clear hi))); try go_wp2_with (first | ((with_reducible refine gd 3 ?_); refine bA 3 #[.int .i64 a0_0, .int .i64 a0_1] 36 ?_; intro gb208 hg w7 hbox hb; have BK208 := Aside0.mk (hbox); have GW208 := bg hg HB; have GJ208 := gi GW208; have GE208 := GW208; replace HB := bs HB hb; clear hb hbox hg; obtain ⟨hcz8_0, hcz8_1, hfz8_0, hfz8_1⟩ := cs2 BK208) | (go_at_call 17; (with_reducible refine (impl_ConfOk.calls a0_0 a0_1 true _ A4.out).mono ?_); rintro e w9 ⟨rfl, hb⟩; replace BK208 := bk BK208 hb; replace HB := bs HB hb; (try clear hb); (try clear hb2); (try clear hk); (try clear hi))))
   go_ret
   exact ⟨y0_10, bI HB.out⟩
  rw [if_neg c6] at H
  have c6b0 : decide (a1 < 0) = false := decide_eq_false c6; clear c6; obtain ⟨t210, A100, H⟩ := Option.bind_eq_some_iff.mp H
  try dsimp only at H
  have A10 := Aside0.mk A100; clear A100
  by_cases c11 : t210 = true
  ·
   subst c11
   rw [if_pos rfl] at H
   by_cases c12 : a0_0 = 0
   ·
    rw [if_pos c12] at H
    exact absurd H (by simp)
   rw [if_neg c12] at H
   have c12b0 : (a0_0 == 0) = false := beq_eq_false_iff_ne.mpr c12; have c12b1 : (a0_0 != 0) = true := bne_iff_ne.mpr c12; obtain rfl := Option.some.inj H
   go_enter Try.func19, Try.ntmps19
   go_wp2_with (first | ((with_reducible refine gd 3 ?_); refine bA 3 #[.int .i64 a0_0, .int .i64 a0_1] 36 ?_; intro gb208 hg w13 hbox hb; have BK208 := Aside0.mk (hbox); have GW208 := bg hg HB; have GJ208 := gi GW208; have GE208 := GW208; replace HB := bs HB hb; clear hb hbox hg; obtain ⟨hcz14_0, hcz14_1, hfz14_0, hfz14_1⟩ := cs2 BK208) | (go_at_call 17; (with_reducible refine (impl_ConfOk.calls a0_0 a0_1 true _ A4.out).mono ?_); rintro e w15 ⟨rfl, hb⟩; replace BK208 := bk BK208 hb; replace HB := bs HB hb; (try clear hb); (try clear hb2); (try clear hk); (try clear hi); obtain ⟨hcz16_0, hcz16_1, hfz16_0, hfz16_1⟩ := cs2 BK208) | (go_at_call 35; (with_reducible refine (impl_within.calls a2 0 (wrap64 (a0_0 - 1)) true _ A10.out).mono ?_); rintro e w' ⟨rfl, ⟨nd, rfl⟩⟩; (try first | exact ⟨rfl, _, World.drewN_drewN _ _ _⟩ | exact ⟨rfl, _, Eq.trans (World.drewN_drewN _ _ _) (congrArg (World.drewN _) (Nat.add_assoc _ _ _))⟩)))
   repeat (go_quiet (first | ((with_reducible refine gd 3 ?_); refine bA 3 #[.int .i64 a0_0, .int .i64 a0_1] 36 ?_; intro gb208 hg w13 hbox hb; have BK208 := Aside0.mk (hbox); have GW208 := bg hg HB; have GJ208 := gi GW208; have GE208 := GW208; replace HB := bs HB hb; clear hb hbox hg; obtain ⟨hcz14_0, hcz14_1, hfz14_0, hfz14_1⟩ := cs2 BK208) | (go_at_call 17; (with_reducible refine (impl_ConfOk.calls a0_0 a0_1 true _ A4.out).mono ?_); rintro e w15 ⟨rfl, hb⟩; replace BK208 := bk BK208 hb; replace HB := bs HB hb; (try clear hb); (try clear hb2); (try clear hk); (try clear hi); obtain ⟨hcz16_0, hcz16_1, hfz16_0, hfz16_1⟩ := cs2 BK208) | (go_at_call 35; (with_reducible refine (impl_within.calls a2 0 (wrap64 (a0_0 - 1)) true _ A10.out).mono ?_); rintro e w' ⟨rfl, ⟨nd, rfl⟩⟩; (try first | exact ⟨rfl, _, World.drewN_drewN _ _ _⟩ | exact ⟨rfl, _, Eq.trans (World.drewN_drewN _ _ _) (congrArg (World.drewN _) (Nat.add_assoc _ _ _))⟩))); try go_wp2_with (first | ((with_reducible refine gd 3 ?_); refine bA 3 #[.int .i64 a0_0, .int .i64 a0_1] 36 ?_; intro gb208 hg w13 hbox hb; have BK208 := Aside0.mk (hbox); have GW208 := bg hg HB; have GJ208 := gi GW208; have GE208 := GW208; replace HB := bs HB hb; clear hb hbox hg; obtain ⟨hcz14_0, hcz14_1, hfz14_0, hfz14_1⟩ := cs2 BK208) | (go_at_call 17; (with_reducible refine (impl_ConfOk.calls a0_0 a0_1 true _ A4.out).mono ?_); rintro e w15 ⟨rfl, hb⟩; replace BK208 := bk BK208 hb; replace HB := bs HB hb; (try clear hb); (try clear hb2); (try clear hk); (try clear hi); obtain ⟨hcz16_0, hcz16_1, hfz16_0, hfz16_1⟩ := cs2 BK208) | (go_at_call 35; (with_reducible refine (impl_within.calls a2 0 (wrap64 (a0_0 - 1)) true _ A10.out).mono ?_); rintro e w' ⟨rfl, ⟨nd, rfl⟩⟩; (try first | exact ⟨rfl, _, World.drewN_drewN _ _ _⟩ | exact ⟨rfl, _, Eq.trans (World.drewN_drewN _ _ _) (congrArg (World.drewN _) (Nat.add_assoc _ _ _))⟩))))
   go_ret
   exact ⟨y0_10, bI HB.out⟩
  replace c11 := Bool.eq_false_iff.mpr c11; subst c11
  rw [if_neg (show ¬ (false = true) by decide)] at H
  obtain rfl := Option.some.inj H
  go_enter Try.func19, Try.ntmps19
  go_wp2_with (first | ((with_reducible refine gd 3 ?_); refine bA 3 #[.int .i64 a0_0, .int .i64 a0_1] 36 ?_; intro gb208 hg w17 hbox hb; have BK208 := Aside0.mk (hbox); have GW208 := bg hg HB; have GJ208 := gi GW208; have GE208 := GW208; replace HB := bs HB hb; clear hb hbox hg; obtain ⟨hcz18_0, hcz18_1, hfz18_0, hfz18_1⟩ := cs2 BK208) | (go_at_call 17; (with_reducible refine (impl_ConfOk.calls a0_0 a0_1 true _ A4.out).mono ?_); rintro e w19 ⟨rfl, hb⟩; replace BK208 := bk BK208 hb; replace HB := bs HB hb; (try clear hb); (try clear hb2); (try clear hk); (try clear hi); obtain ⟨hcz20_0, hcz20_1, hfz20_0, hfz20_1⟩ := cs2 BK208) | (go_at_call 35; (with_reducible refine (impl_within.calls a2 0 (wrap64 (a0_0 - 1)) false _ A10.out).mono ?_); rintro e w' ⟨rfl, ⟨nd, rfl⟩⟩; (try first | exact ⟨rfl, _, World.drewN_drewN _ _ _⟩ | exact ⟨rfl, _, Eq.trans (World.drewN_drewN _ _ _) (congrArg (World.drewN _) (Nat.add_assoc _ _ _))⟩)))
  repeat (go_quiet (first | ((with_reducible refine gd 3 ?_); refine bA 3 #[.int .i64 a0_0, .int .i64 a0_1] 36 ?_; intro gb208 hg w17 hbox hb; have BK208 := Aside0.mk (hbox); have GW208 := bg hg HB; have GJ208 := gi GW208; have GE208 := GW208; replace HB := bs HB hb; clear hb hbox hg; obtain ⟨hcz18_0, hcz18_1, hfz18_0, hfz18_1⟩ := cs2 BK208) | (go_at_call 17; (with_reducible refine (impl_ConfOk.calls a0_0 a0_1 true _ A4.out).mono ?_); rintro e w19 ⟨rfl, hb⟩; replace BK208 := bk BK208 hb; replace HB := bs HB hb; (try clear hb); (try clear hb2); (try clear hk); (try clear hi); obtain ⟨hcz20_0, hcz20_1, hfz20_0, hfz20_1⟩ := cs2 BK208) | (go_at_call 35; (with_reducible refine (impl_within.calls a2 0 (wrap64 (a0_0 - 1)) false _ A10.out).mono ?_); rintro e w' ⟨rfl, ⟨nd, rfl⟩⟩; (try first | exact ⟨rfl, _, World.drewN_drewN _ _ _⟩ | exact ⟨rfl, _, Eq.trans (World.drewN_drewN _ _ _) (congrArg (World.drewN _) (Nat.add_assoc _ _ _))⟩))); try go_wp2_with (first | ((with_reducible refine gd 3 ?_); refine bA 3 #[.int .i64 a0_0, .int .i64 a0_1] 36 ?_; intro gb208 hg w17 hbox hb; have BK208 := Aside0.mk (hbox); have GW208 := bg hg HB; have GJ208 := gi GW208; have GE208 := GW208; replace HB := bs HB hb; clear hb hbox hg; obtain ⟨hcz18_0, hcz18_1, hfz18_0, hfz18_1⟩ := cs2 BK208) | (go_at_call 17; (with_reducible refine (impl_ConfOk.calls a0_0 a0_1 true _ A4.out).mono ?_); rintro e w19 ⟨rfl, hb⟩; replace BK208 := bk BK208 hb; replace HB := bs HB hb; (try clear hb); (try clear hb2); (try clear hk); (try clear hi); obtain ⟨hcz20_0, hcz20_1, hfz20_0, hfz20_1⟩ := cs2 BK208) | (go_at_call 35; (with_reducible refine (impl_within.calls a2 0 (wrap64 (a0_0 - 1)) false _ A10.out).mono ?_); rintro e w' ⟨rfl, ⟨nd, rfl⟩⟩; (try first | exact ⟨rfl, _, World.drewN_drewN _ _ _⟩ | exact ⟨rfl, _, Eq.trans (World.drewN_drewN _ _ _) (congrArg (World.drewN _) (Nat.add_assoc _ _ _))⟩))))
  go_ret
  exact ⟨y0_10, bI HB.out⟩
 replace c5 := Bool.eq_false_iff.mpr c5; subst c5
 rw [if_neg (show ¬ (false = true) by decide)] at H
 obtain rfl := Option.some.inj H
 go_enter Try.func19, Try.ntmps19
 go_wp2_with (first | ((with_reducible refine gd 3 ?_); refine bA 3 #[.int .i64 a0_0, .int .i64 a0_1] 36 ?_; intro gb208 hg w21 hbox hb; have BK208 := Aside0.mk (hbox); have GW208 := bg hg HB; have GJ208 := gi GW208; have GE208 := GW208; replace HB := bs HB hb; clear hb hbox hg; obtain ⟨hcz22_0, hcz22_1, hfz22_0, hfz22_1⟩ := cs2 BK208) | (go_at_call 17; (with_reducible refine (impl_ConfOk.calls a0_0 a0_1 false _ A4.out).mono ?_); rintro e w23 ⟨rfl, hb⟩; replace BK208 := bk BK208 hb; replace HB := bs HB hb; (try clear hb); (try clear hb2); (try clear hk); (try clear hi)))
 repeat (go_quiet (first | ((with_reducible refine gd 3 ?_); refine bA 3 #[.int .i64 a0_0, .int .i64 a0_1] 36 ?_; intro gb208 hg w21 hbox hb; have BK208 := Aside0.mk (hbox); have GW208 := bg hg HB; have GJ208 := gi GW208; have GE208 := GW208; replace HB := bs HB hb; clear hb hbox hg; obtain ⟨hcz22_0, hcz22_1, hfz22_0, hfz22_1⟩ := cs2 BK208) | (go_at_call 17; (with_reducible refine (impl_ConfOk.calls a0_0 a0_1 false _ A4.out).mono ?_); rintro e w23 ⟨rfl, hb⟩; replace BK208 := bk BK208 hb; replace HB := bs HB hb; (try clear hb); (try clear hb2); (try clear hk); (try clear hi))); try go_wp2_with (first | ((with_reducible refine gd 3 ?_); refine bA 3 #[.int .i64 a0_0, .int .i64 a0_1] 36 ?_; intro gb208 hg w21 hbox hb; have BK208 := Aside0.mk (hbox); have GW208 := bg hg HB; have GJ208 := gi GW208; have GE208 := GW208; replace HB := bs HB hb; clear hb hbox hg; obtain ⟨hcz22_0, hcz22_1, hfz22_0, hfz22_1⟩ := cs2 BK208) | (go_at_call 17; (with_reducible refine (impl_ConfOk.calls a0_0 a0_1 false _ A4.out).mono ?_); rintro e w23 ⟨rfl, hb⟩; replace BK208 := bk BK208 hb; replace HB := bs HB hb; (try clear hb); (try clear hb2); (try clear hk); (try clear hi))))
 go_ret
 exact ⟨y0_10, bI HB.out⟩

/-! ### impl_Seat: function 20 -/
def impl_Seat.f (a0_0 : Int) (a0_1 : Int) (a1 : Int) (a2 : Int) : Option (Int) := (impl_ConfOk.f a0_0 a0_1).bind fun t212 => (if t212 = true then (if a1 < 0 then (some (-1)) else ((impl_within.f a2 0 (wrap64 (a0_0 - 1))).bind fun t213 => (if t213 = true then (if a0_0 = 0 then (none) else (some (Int.tmod (wrap64 ((wrap64 (a2 - (Int.tmod a1 a0_0))) + a0_0)) a0_0))) else (some (-1))))) else (some (-1)))
set_option maxHeartbeats 8000000 in
set_option maxRecDepth 100000 in
theorem impl_Seat.calls (a0_0 : Int) (a0_1 : Int) (a1 : Int) (a2 : Int) (r : Int) (w : World) (h : impl_Seat.f a0_0 a0_1 a1 a2 = some r) :
  Calls Try.prog 20 #[.agg #[.int .i64 a0_0, .int .i64 a0_1], .int .i64 a1, .int .i64 a2] w fun e w' => e = .returned (.int .i64 r) ∧ Below w.heap.size w w' := by
 have hu36 := Try.underlying36; have HB := Aside0.mk (Below.refl w.heap.size w)
 have H : ((impl_ConfOk.f a0_0 a0_1).bind fun t212 => (if t212 = true then (if a1 < 0 then (some (-1)) else ((impl_within.f a2 0 (wrap64 (a0_0 - 1))).bind fun t213 => (if t213 = true then (if a0_0 = 0 then (none) else (some (Int.tmod (wrap64 ((wrap64 (a2 - (Int.tmod a1 a0_0))) + a0_0)) a0_0))) else (some (-1))))) else (some (-1)))) = some r := h
 clear h; obtain ⟨t212, A40, H⟩ := Option.bind_eq_some_iff.mp H
 try dsimp only at H
 have A4 := Aside0.mk A40; clear A40
 by_cases c5 : t212 = true
 ·
  subst c5
  rw [if_pos rfl] at H
  by_cases c6 : a1 < 0
  ·
   rw [if_pos c6] at H
   have c6b0 : decide (a1 < 0) = true := decide_eq_true c6; clear c6; obtain rfl := Option.some.inj H
   go_enter Try.func20, Try.ntmps20
   go_wp2_with (first | ((with_reducible refine gd 3 ?_); refine bA 3 #[.int .i64 a0_0, .int .i64 a0_1] 36 ?_; intro gb211 hg w7 hbox hb; have BK211 := Aside0.mk (hbox); have GW211 := bg hg HB; have GJ211 := gi GW211; have GE211 := GW211; replace HB := bs HB hb; clear hb hbox hg; obtain ⟨hcz8_0, hcz8_1, hfz8_0, hfz8_1⟩ := cs2 BK211) | (go_at_call 17; (with_reducible refine (impl_ConfOk.calls a0_0 a0_1 true _ A4.out).mono ?_); rintro e w9 ⟨rfl, hb⟩; replace BK211 := bk BK211 hb; replace HB := bs HB hb; (try clear hb); (try clear hb2); (try clear hk); (try clear hi)))
   repeat (go_quiet (first | ((with_reducible refine gd 3 ?_); refine bA 3 #[.int .i64 a0_0, .int .i64 a0_1] 36 ?_; intro gb211 hg w7 hbox hb; have BK211 := Aside0.mk (hbox); have GW211 := bg hg HB; have GJ211 := gi GW211; have GE211 := GW211; replace HB := bs HB hb; clear hb hbox hg; obtain ⟨hcz8_0, hcz8_1, hfz8_0, hfz8_1⟩ := cs2 BK211) | (go_at_call 17; (with_reducible refine (impl_ConfOk.calls a0_0 a0_1 true _ A4.out).mono ?_); rintro e w9 ⟨rfl, hb⟩; replace BK211 := bk BK211 hb; replace HB := bs HB hb; (try clear hb); (try clear hb2); (try clear hk); (try clear hi))); try go_wp2_with (first | ((with_reducible refine gd 3 ?_); refine bA 3 #[.int .i64 a0_0, .int .i64 a0_1] 36 ?_; intro gb211 hg w7 hbox hb; have BK211 := Aside0.mk (hbox); have GW211 := bg hg HB; have GJ211 := gi GW211; have GE211 := GW211; replace HB := bs HB hb; clear hb hbox hg; obtain ⟨hcz8_0, hcz8_1, hfz8_0, hfz8_1⟩ := cs2 BK211) | (go_at_call 17; (with_reducible refine (impl_ConfOk.calls a0_0 a0_1 true _ A4.out).mono ?_); rintro e w9 ⟨rfl, hb⟩; replace BK211 := bk BK211 hb; replace HB := bs HB hb; (try clear hb); (try clear hb2); (try clear hk); (try clear hi))))
   go_ret
   exact ⟨y0_10, bI HB.out⟩
  rw [if_neg c6] at H
  have c6b0 : decide (a1 < 0) = false := decide_eq_false c6; clear c6; obtain ⟨t213, A100, H⟩ := Option.bind_eq_some_iff.mp H
  try dsimp only at H
  have A10 := Aside0.mk A100; clear A100
  by_cases c11 : t213 = true
  ·
   subst c11
   rw [if_pos rfl] at H
   by_cases c12 : a0_0 = 0
   ·
    rw [if_pos c12] at H
    exact absurd H (by simp)
   rw [if_neg c12] at H
   have c12b0 : (a0_0 == 0) = false := beq_eq_false_iff_ne.mpr c12; have c12b1 : (a0_0 != 0) = true := bne_iff_ne.mpr c12; obtain rfl := Option.some.inj H
   go_enter Try.func20, Try.ntmps20
   go_wp2_with (first | ((with_reducible refine gd 3 ?_); refine bA 3 #[.int .i64 a0_0, .int .i64 a0_1] 36 ?_; intro gb211 hg w13 hbox hb; have BK211 := Aside0.mk (hbox); have GW211 := bg hg HB; have GJ211 := gi GW211; have GE211 := GW211; replace HB := bs HB hb; clear hb hbox hg; obtain ⟨hcz14_0, hcz14_1, hfz14_0, hfz14_1⟩ := cs2 BK211) | (go_at_call 17; (with_reducible refine (impl_ConfOk.calls a0_0 a0_1 true _ A4.out).mono ?_); rintro e w15 ⟨rfl, hb⟩; replace BK211 := bk BK211 hb; replace HB := bs HB hb; (try clear hb); (try clear hb2); (try clear hk); (try clear hi); obtain ⟨hcz16_0, hcz16_1, hfz16_0, hfz16_1⟩ := cs2 BK211) | (go_at_call 35; (with_reducible refine (impl_within.calls a2 0 (wrap64 (a0_0 - 1)) true _ A10.out).mono ?_); rintro e w' ⟨rfl, ⟨nd, rfl⟩⟩; (try first | exact ⟨rfl, _, World.drewN_drewN _ _ _⟩ | exact ⟨rfl, _, Eq.trans (World.drewN_drewN _ _ _) (congrArg (World.drewN _) (Nat.add_assoc _ _ _))⟩)))
   repeat (go_quiet (first | ((with_reducible refine gd 3 ?_); refine bA 3 #[.int .i64 a0_0, .int .i64 a0_1] 36 ?_; intro gb211 hg w13 hbox hb; have BK211 := Aside0.mk (hbox); have GW211 := bg hg HB; have GJ211 := gi GW211; have GE211 := GW211; replace HB := bs HB hb; clear hb hbox hg; obtain ⟨hcz14_0, hcz14_1, hfz14_0, hfz14_1⟩ := cs2 BK211) | (go_at_call 17; (with_reducible refine (impl_ConfOk.calls a0_0 a0_1 true _ A4.out).mono ?_); rintro e w15 ⟨rfl, hb⟩; replace BK211 := bk BK211 hb; replace HB := bs HB hb; (try clear hb); (try clear hb2); (try clear hk); (try clear hi); obtain ⟨hcz16_0, hcz16_1, hfz16_0, hfz16_1⟩ := cs2 BK211) | (go_at_call 35; (with_reducible refine (impl_within.calls a2 0 (wrap64 (a0_0 - 1)) true _ A10.out).mono ?_); rintro e w' ⟨rfl, ⟨nd, rfl⟩⟩; (try first | exact ⟨rfl, _, World.drewN_drewN _ _ _⟩ | exact ⟨rfl, _, Eq.trans (World.drewN_drewN _ _ _) (congrArg (World.drewN _) (Nat.add_assoc _ _ _))⟩))); try go_wp2_with (first | ((with_reducible refine gd 3 ?_); refine bA 3 #[.int .i64 a0_0, .int .i64 a0_1] 36 ?_; intro gb211 hg w13 hbox hb; have BK211 := Aside0.mk (hbox); have GW211 := bg hg HB; have GJ211 := gi GW211; have GE211 := GW211; replace HB := bs HB hb; clear hb hbox hg; obtain ⟨hcz14_0, hcz14_1, hfz14_0, hfz14_1⟩ := cs2 BK211) | (go_at_call 17; (with_reducible refine (impl_ConfOk.calls a0_0 a0_1 true _ A4.out).mono ?_); rintro e w15 ⟨rfl, hb⟩; replace BK211 := bk BK211 hb; replace HB := bs HB hb; (try clear hb); (try clear hb2); (try clear hk); (try clear hi); obtain ⟨hcz16_0, hcz16_1, hfz16_0, hfz16_1⟩ := cs2 BK211) | (go_at_call 35; (with_reducible refine (impl_within.calls a2 0 (wrap64 (a0_0 - 1)) true _ A10.out).mono ?_); rintro e w' ⟨rfl, ⟨nd, rfl⟩⟩; (try first | exact ⟨rfl, _, World.drewN_drewN _ _ _⟩ | exact ⟨rfl, _, Eq.trans (World.drewN_drewN _ _ _) (congrArg (World.drewN _) (Nat.add_assoc _ _ _))⟩))))
   go_ret
   exact ⟨y0_10, bI HB.out⟩
  replace c11 := Bool.eq_false_iff.mpr c11; subst c11
  rw [if_neg (show ¬ (false = true) by decide)] at H
  obtain rfl := Option.some.inj H
  go_enter Try.func20, Try.ntmps20
  go_wp2_with (first | ((with_reducible refine gd 3 ?_); refine bA 3 #[.int .i64 a0_0, .int .i64 a0_1] 36 ?_; intro gb211 hg w17 hbox hb; have BK211 := Aside0.mk (hbox); have GW211 := bg hg HB; have GJ211 := gi GW211; have GE211 := GW211; replace HB := bs HB hb; clear hb hbox hg; obtain ⟨hcz18_0, hcz18_1, hfz18_0, hfz18_1⟩ := cs2 BK211) | (go_at_call 17; (with_reducible refine (impl_ConfOk.calls a0_0 a0_1 true _ A4.out).mono ?_); rintro e w19 ⟨rfl, hb⟩; replace BK211 := bk BK211 hb; replace HB := bs HB hb; (try clear hb); (try clear hb2); (try clear hk); (try clear hi); obtain ⟨hcz20_0, hcz20_1, hfz20_0, hfz20_1⟩ := cs2 BK211) | (go_at_call 35; (with_reducible refine (impl_within.calls a2 0 (wrap64 (a0_0 - 1)) false _ A10.out).mono ?_); rintro e w' ⟨rfl, ⟨nd, rfl⟩⟩; (try first | exact ⟨rfl, _, World.drewN_drewN _ _ _⟩ | exact ⟨rfl, _, Eq.trans (World.drewN_drewN _ _ _) (congrArg (World.drewN _) (Nat.add_assoc _ _ _))⟩)))
  repeat (go_quiet (first | ((with_reducible refine gd 3 ?_); refine bA 3 #[.int .i64 a0_0, .int .i64 a0_1] 36 ?_; intro gb211 hg w17 hbox hb; have BK211 := Aside0.mk (hbox); have GW211 := bg hg HB; have GJ211 := gi GW211; have GE211 := GW211; replace HB := bs HB hb; clear hb hbox hg; obtain ⟨hcz18_0, hcz18_1, hfz18_0, hfz18_1⟩ := cs2 BK211) | (go_at_call 17; (with_reducible refine (impl_ConfOk.calls a0_0 a0_1 true _ A4.out).mono ?_); rintro e w19 ⟨rfl, hb⟩; replace BK211 := bk BK211 hb; replace HB := bs HB hb; (try clear hb); (try clear hb2); (try clear hk); (try clear hi); obtain ⟨hcz20_0, hcz20_1, hfz20_0, hfz20_1⟩ := cs2 BK211) | (go_at_call 35; (with_reducible refine (impl_within.calls a2 0 (wrap64 (a0_0 - 1)) false _ A10.out).mono ?_); rintro e w' ⟨rfl, ⟨nd, rfl⟩⟩; (try first | exact ⟨rfl, _, World.drewN_drewN _ _ _⟩ | exact ⟨rfl, _, Eq.trans (World.drewN_drewN _ _ _) (congrArg (World.drewN _) (Nat.add_assoc _ _ _))⟩))); try go_wp2_with (first | ((with_reducible refine gd 3 ?_); refine bA 3 #[.int .i64 a0_0, .int .i64 a0_1] 36 ?_; intro gb211 hg w17 hbox hb; have BK211 := Aside0.mk (hbox); have GW211 := bg hg HB; have GJ211 := gi GW211; have GE211 := GW211; replace HB := bs HB hb; clear hb hbox hg; obtain ⟨hcz18_0, hcz18_1, hfz18_0, hfz18_1⟩ := cs2 BK211) | (go_at_call 17; (with_reducible refine (impl_ConfOk.calls a0_0 a0_1 true _ A4.out).mono ?_); rintro e w19 ⟨rfl, hb⟩; replace BK211 := bk BK211 hb; replace HB := bs HB hb; (try clear hb); (try clear hb2); (try clear hk); (try clear hi); obtain ⟨hcz20_0, hcz20_1, hfz20_0, hfz20_1⟩ := cs2 BK211) | (go_at_call 35; (with_reducible refine (impl_within.calls a2 0 (wrap64 (a0_0 - 1)) false _ A10.out).mono ?_); rintro e w' ⟨rfl, ⟨nd, rfl⟩⟩; (try first | exact ⟨rfl, _, World.drewN_drewN _ _ _⟩ | exact ⟨rfl, _, Eq.trans (World.drewN_drewN _ _ _) (congrArg (World.drewN _) (Nat.add_assoc _ _ _))⟩))))
  go_ret
  exact ⟨y0_10, bI HB.out⟩
 replace c5 := Bool.eq_false_iff.mpr c5; subst c5
 rw [if_neg (show ¬ (false = true) by decide)] at H
 obtain rfl := Option.some.inj H
 go_enter Try.func20, Try.ntmps20
 go_wp2_with (first | ((with_reducible refine gd 3 ?_); refine bA 3 #[.int .i64 a0_0, .int .i64 a0_1] 36 ?_; intro gb211 hg w21 hbox hb; have BK211 := Aside0.mk (hbox); have GW211 := bg hg HB; have GJ211 := gi GW211; have GE211 := GW211; replace HB := bs HB hb; clear hb hbox hg; obtain ⟨hcz22_0, hcz22_1, hfz22_0, hfz22_1⟩ := cs2 BK211) | (go_at_call 17; (with_reducible refine (impl_ConfOk.calls a0_0 a0_1 false _ A4.out).mono ?_); rintro e w23 ⟨rfl, hb⟩; replace BK211 := bk BK211 hb; replace HB := bs HB hb; (try clear hb); (try clear hb2); (try clear hk); (try clear hi)))
 repeat (go_quiet (first | ((with_reducible refine gd 3 ?_); refine bA 3 #[.int .i64 a0_0, .int .i64 a0_1] 36 ?_; intro gb211 hg w21 hbox hb; have BK211 := Aside0.mk (hbox); have GW211 := bg hg HB; have GJ211 := gi GW211; have GE211 := GW211; replace HB := bs HB hb; clear hb hbox hg; obtain ⟨hcz22_0, hcz22_1, hfz22_0, hfz22_1⟩ := cs2 BK211) | (go_at_call 17; (with_reducible refine (impl_ConfOk.calls a0_0 a0_1 false _ A4.out).mono ?_); rintro e w23 ⟨rfl, hb⟩; replace BK211 := bk BK211 hb; replace HB := bs HB hb; (try clear hb); (try clear hb2); (try clear hk); (try clear hi))); try go_wp2_with (first | ((with_reducible refine gd 3 ?_); refine bA 3 #[.int .i64 a0_0, .int .i64 a0_1] 36 ?_; intro gb211 hg w21 hbox hb; have BK211 := Aside0.mk (hbox); have GW211 := bg hg HB; have GJ211 := gi GW211; have GE211 := GW211; replace HB := bs HB hb; clear hb hbox hg; obtain ⟨hcz22_0, hcz22_1, hfz22_0, hfz22_1⟩ := cs2 BK211) | (go_at_call 17; (with_reducible refine (impl_ConfOk.calls a0_0 a0_1 false _ A4.out).mono ?_); rintro e w23 ⟨rfl, hb⟩; replace BK211 := bk BK211 hb; replace HB := bs HB hb; (try clear hb); (try clear hb2); (try clear hk); (try clear hi))))
 go_ret
 exact ⟨y0_10, bI HB.out⟩

end Go.Proofs.Ytemjmefacifdeaa.PFnRootsTurn
