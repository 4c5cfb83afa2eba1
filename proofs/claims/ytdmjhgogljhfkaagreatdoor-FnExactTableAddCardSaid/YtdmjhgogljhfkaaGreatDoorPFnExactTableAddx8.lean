-- By a program of this session, out of the translation (the print of the kit, with turns of its own). Lean checks it.
import Derived.Test.YtdmjhgogljhfkaaGreatDoorPFnExactTableAddx0
import Derived.Test.YtdmjhgogljhfkaaGreatDoorPFnExactTableAddx7
namespace Go.Proofs.YtdmjhgogljhfkaaGreatDoor.PFnExactTableAdd
open Go.RowKit Go.Proofs.YtdmjhgogljhfkaaGreatDoorW.PrintWords Go.Proofs.YtdmjhgogljhfkaaGreatDoorW.PrintLast Go.Proofs.YtdmjhgogljhfkaaGreatDoorW.PrintMore
attribute [local go_sem] max2_int min2_int max_two min_two max_three min_three max_four min_four   -- for this text's walks alone
attribute [local go_sem] cell_in frozen_in cell_g cell_p
set_option synthInstance.maxSize 1000000
set_option synthInstance.maxHeartbeats 2000000
set_option linter.unusedVariables false
set_option linter.unusedSimpArgs false

/-! ### impl_SetAdd: function 144 -/
def impl_SetAdd.at_ (l0 : List Int) (a1 : Int) : Nat := (l0.takeWhile (fun y => decide (y < a1))).length
theorem impl_SetAdd.at_le (l0 : List Int) (a1 : Int) : impl_SetAdd.at_ l0 a1 ≤ l0.length := (List.takeWhile_sublist _).length_le
theorem impl_SetAdd.idx (a1 : Int) : ∀ (l0 : List Int) (n : Nat), Lib.idxByFrom (fun _ y => decide (y ≥ a1)) default l0 n = if impl_SetAdd.at_ l0 a1 = l0.length then -1 else ((n + impl_SetAdd.at_ l0 a1 : Nat) : Int)
 | [], n => rfl
 | y :: r, n => by
  unfold Lib.idxByFrom
  by_cases hy : y ≥ a1
  ·
   rw [if_pos (decide_eq_true hy)]
   have : impl_SetAdd.at_ (y :: r) a1 = 0 := by
    unfold impl_SetAdd.at_
    rw [List.takeWhile_cons_of_neg (by simpa using hy)]; rfl
   rw [this, if_neg (by simp)]; simp
  rw [if_neg (by simpa using hy), impl_SetAdd.idx a1 r (n + 1)]
  have : impl_SetAdd.at_ (y :: r) a1 = impl_SetAdd.at_ r a1 + 1 := by
   unfold impl_SetAdd.at_
   rw [List.takeWhile_cons_of_pos (by simpa using hy)]; rfl
  rw [this, List.length_cons]
  by_cases he : impl_SetAdd.at_ r a1 = r.length
  ·
   rw [if_pos he, if_pos (by omega)]
  rw [if_neg he, if_neg (by omega)]
  congr 1; omega
def impl_SetAdd.f (k : Nat) (l0 : List Int) (a1 : Int) : Option (List Int) := (impl_SetHas.f k l0 a1).bind fun b => (impl_copyInts.f l0).bind fun c => if b = true then some c else some (c.take (impl_SetAdd.at_ l0 a1) ++ a1 :: c.drop (impl_SetAdd.at_ l0 a1))
theorem impl_SetAdd.mono : ∀ a0 a1 k, LeO (impl_SetAdd.f k a0 a1) (impl_SetAdd.f (k + 1) a0 a1) := by
 intro a0 a1 k
 unfold impl_SetAdd.f
 exact LeO.bind (impl_SetHas.mono _ _ _) (fun _ => LeO.refl _)
set_option maxRecDepth 100000 in
theorem impl_SetAdd.find (A0 : Option Addr) (c0 : Nat) (l0 : List Int) (a1 : Int) (g : Nat) (w : World) (hr0 : Kd.C (Kd.int .i64) w A0 l0.length l0) (hg : w.heap[g]? = some (.cells #[.int .i64 a1] 3 (0, 0))) :
  Calls Tryz.prog 168 #[.slice A0 l0.length c0, .func (.func 169) #[] #[.pointer (some ⟨g, 0, none⟩)]] w fun e w' => e = .returned (.int .i64 (if impl_SetAdd.at_ l0 a1 = l0.length then -1 else (impl_SetAdd.at_ l0 a1 : Int))) ∧ ∃ q, w' = w.drewN q := by
 rcases Nat.eq_zero_or_pos l0.length with h0 | h0
 ·
  have hx : l0 = [] := List.length_eq_zero_iff.1 h0; subst hx
  refine (Tryz.slices_IndexFunc_empty (α := Int) A0 c0 _ w).mono ?_
  rintro e w' ⟨rfl, rfl⟩
  exact ⟨rfl, 0, rfl⟩
 obtain ⟨ad, rfl, hc⟩ := hr0.2.2 h0
 have hc' : ∀ j (hj : j < l0.length), w.cell? ((ad.add j)) = some (.int .i64 l0[j]) := by
  intro j hj
  obtain ⟨c, _, hK, hu⟩ := hc j _ (List.getElem?_eq_getElem hj)
  have hK' : c = [Value.int .i64 l0[j]] := hK; subst hK'; have := hu 0 _ rfl
  have e : j * (Kd.int IntKind.i64).sz + 0 = j := by show j * 1 + 0 = j; omega
  rwa [e] at this
 obtain ⟨b, off, sp⟩ := ad
 have hsp : sp = none := by
  cases sp with
  | none => rfl
  | some s =>
   have h1 := hc' 0 h0
   simp [Addr.add, World.cell?] at h1
   split at h1 <;> simp at h1
 subst hsp
 have hc2 : ∀ j, j < l0.length → w.cell? ⟨b, off + j, none⟩ = some (Value.int .i64 l0[j]!) := by
  intro j hj
  have h1 := hc' j hj
  rw [getElem!_pos l0 j hj]
  by_cases hj0 : j = 0
  ·
   subst hj0
   simpa [Addr.add] using h1
  simpa [Addr.add, hj0] using h1
 refine (Tryz.slices_IndexFunc (α := Int) (Value.int .i64) (fun x => decide (x ≥ a1)) 169 #[.pointer (some ⟨g, 0, none⟩)] (fun _ _ => rfl) b off l0.length c0 l0 w (Ins.pred w g a1 hg) (Nat.le_refl _) hr0.2.1 hc2).mono ?_
 rintro e w' ⟨rfl, hq⟩
 refine ⟨?_, hq⟩
 have h1 := impl_SetAdd.idx a1 l0 0
 rw [List.take_length]
 unfold Lib.idxBy
 rw [h1, Nat.zero_add]
theorem impl_SetAdd.find2 (A0 : Option Addr) (c0 : Nat) (l0 : List Int) (a1 : Int) (g : Nat) (w : World) (z : Int) (hr0 : Kd.C (Kd.int .i64) w A0 l0.length l0) (hg : w.heap[g]? = some (.cells #[.int .i64 a1] 3 (0, 0))) (hz : (if impl_SetAdd.at_ l0 a1 = l0.length then -1 else (impl_SetAdd.at_ l0 a1 : Int)) = z) :
  Calls Tryz.prog 168 #[.slice A0 l0.length c0, .func (.func 169) #[] #[.pointer (some ⟨g, 0, none⟩)]] w fun e w' => e = .returned (.int .i64 z) ∧ ∃ q, w' = w.drewN q := by
 subst hz
 exact impl_SetAdd.find A0 c0 l0 a1 g w hr0 hg
section
variable {P : Program} {ops : Array Oper} {rest : List Oper} {o : Oper} {a : Act} {Q : Exit → Act → World → Prop}
/-- A literal row, its block told. -/
theorem impl_SetAdd.lit {W : World} (n : Nat) (cs : Array Value) (t : TypeId)
  (h : ∀ g, g = W.heap.size → ∀ w1, w1.heap[g]? = some (.cells cs t (0, 0)) → Below W.heap.size W w1 → wpList P ops Q rest (a.put o.dst (.slice (some ⟨g, 0, none⟩) n n)) w1)
  (hgd : o.guard = none := by rfl) (hrun : (execOp a.eval o).run P W = .ok (.value (.slice (some ⟨W.heap.size, 0, none⟩) n n)) (W.alloc (.cells cs t (0, 0))) := by first | (go_simp; done) | (go_simp; rfl) | rfl) : wpList P ops Q (o :: rest) a W :=
 Kd.event_run hgd hrun (h _ rfl _ (blk_new W _) (below_alloc (Below.refl _ _) _))
end
section
variable {P : Program} {ops : Array Oper} {o : Oper} {a : Act} {Q : Exit → Act → World → Prop} {Kc : Act → World → Prop}
theorem impl_SetAdd.lit_step {W : World} (n : Nat) (cs : Array Value) (t : TypeId)
  (h : ∀ g, g = W.heap.size → ∀ w1, w1.heap[g]? = some (.cells cs t (0, 0)) → Below W.heap.size W w1 → Kc (a.put o.dst (.slice (some ⟨g, 0, none⟩) n n)) w1)
  (hw : Region.wanted o (yielded ops a.tmps) = true := by rfl) (hrun : (execOp a.eval o).run P W = .ok (.value (.slice (some ⟨W.heap.size, 0, none⟩) n n)) (W.alloc (.cells cs t (0, 0))) := by first | (go_simp; done) | (go_simp; rfl) | rfl) :
  if Region.wanted o (yielded ops a.tmps) = true then Oper.wp P o a W Kc Q else Kc (a.put o.dst undef) W :=
 event_step hw hrun (h _ rfl _ (blk_new W _) (below_alloc (Below.refl _ _) _))
end
section
variable {P : Program} {ops : Array Oper} {Q : Exit → Act → World → Prop} {md : Region.Mode} {S : World → Prop} {ds : List Nat}
theorem impl_SetAdd.two {i j : Nat} {Ni Nj : Option Tmp} {oi oj : Oper} {fuel : Nat} {l : Array Bool} {a : Act} {w : World} (li lj : Array Bool) (hi : ops[i]? = some oi) (hj : ops[j]? = some oj) (hNi : oi.dst = Ni) (hNj : oj.dst = Nj)
  (hc : (Region.ready md ops l == [i, j] && l.setIfInBounds i true == li && l.setIfInBounds j true == lj) = true) (hdi : i ∉ ds) (hdj : j ∉ ds)
  (h1 : ∀ K : Act → World → Prop, Shut (∀ a' w', S w' → (S w' → wpAnyLast P md ops Q S ds fuel li a' w') → K a' w') → if Region.wanted oi (yielded ops a.tmps) = true then Oper.wp P oi a w K Q else K (a.put Ni undef) w)
  (h2 : ∀ K : Act → World → Prop, Shut (∀ a' w', S w' → (S w' → wpAnyLast P md ops Q S ds fuel lj a' w') → K a' w') → if Region.wanted oj (yielded ops a.tmps) = true then Oper.wp P oj a w K Q else K (a.put Nj undef) w) :
  wpAnyLast P md ops Q S ds (fuel + 1) l a w := by
 subst hNi; subst hNj
 simp only [Bool.and_eq_true, beq_iff_eq] at hc
 obtain ⟨⟨h3, h4⟩, h5⟩ := hc; subst h4; subst h5
 exact wpAnyLast_ready h3 (by simp) (AllReadyL.cons hi hdi (fun K hK => h1 K hK) (AllReadyL.cons hj hdj (fun K hK => h2 K hK) AllReadyL.nil))
end
theorem impl_SetAdd.copied {l0 c : List Int} (h : impl_copyInts.f l0 = some c) : c = l0 ∧ l0.length < 17592186044416 := by
 unfold impl_copyInts.f at h
 by_cases hc : ([] : List Int).length + l0.length < 17592186044416
 rotate_left
 ·
  rw [if_neg hc] at h
  exact absurd h (by simp)
 rw [if_pos hc] at h
 exact ⟨by simpa using (Option.some.inj h).symm, by simpa using hc⟩
set_option maxHeartbeats 8000000 in
set_option maxRecDepth 100000 in
theorem impl_SetAdd.calls (k : Nat) (A0 : Option Addr) (c0 : Nat) (l0 : List Int) (a1 : Int) (r : List Int) (w : World) (hr0 : Kd.C (Kd.int .i64) w A0 l0.length l0) (hc0 : l0.length ≤ c0) (h : impl_SetAdd.f k l0 a1 = some r) :
  Calls Tryz.prog 144 #[.slice A0 l0.length c0, .int .i64 a1] w fun e w' => ∃ v0_ : Value, e = .returned (v0_) ∧ Kd.R (Kd.int .i64) 3 w' w.heap.size (fun _ => True) v0_ r ∧ Below w.heap.size w w' := by
 have HR0 := Aside0.mk hr0; have HC0 := Aside0.mk hc0; clear hr0 hc0; have HB := Aside0.mk (Below.refl w.heap.size w); obtain ⟨b, A1, H⟩ := Option.bind_eq_some_iff.mp h; obtain ⟨c, A2, H⟩ := Option.bind_eq_some_iff.mp H; obtain ⟨hcl, hln⟩ := impl_SetAdd.copied A2; subst hcl; have A1 := Aside0.mk A1; have A2 := Aside0.mk A2; have LN := Aside0.mk hln; clear h hln; cases b with
 | true =>
  rw [if_pos rfl] at H
  obtain rfl := Option.some.inj H
  go_enter Tryz.func144, Tryz.ntmps144
  go_wp2_with (first | ((with_reducible refine gd 3 ?_); refine bA 3 #[.int .i64 a1] 3 ?_; intro gb hg w2 hbox hb; have BK := Aside0.mk hbox; have hcz := bc0 hbox; have hfz := blk_frozen hbox 0; have GW := bg hg HB; replace HB := bs HB hb; clear hb hbox hg) | ((with_reducible refine gate_callee (f := 116) rfl ?_); refine gB (some 8) Tryz.func116 #[.slice A0 c.length c0, .int .i64 a1] ?_; (with_reducible refine (impl_SetHas.calls k _ _ c a1 true _ ?side1 ?side2 A1.out).mono ?_); (case side1 => exact ch HR0 HB); (case side2 => exact HC0.out); rintro e w' ⟨rfl, ⟨nd, rfl⟩⟩; refine ⟨_, rfl, ?_⟩) | ((with_reducible refine gate_callee (f := 140) rfl ?_); refine gB (some 10) Tryz.func140 #[.slice A0 c.length c0] ?_; (with_reducible refine (impl_copyInts.calls _ _ c c _ ?side1 ?side2 A2.out).mono ?_); (case side1 => exact ch HR0 HB); (case side2 => exact HC0.out); rintro e w' ⟨v0, rfl, ho, hb⟩; refine ⟨_, rfl, ?_⟩; have HO := Aside0.mk (Kd.R_lower ho (below_size (bI HB.out))); replace HB := bs HB hb; clear hb ho))
  go_ret
  exact ⟨_, rfl, rI HO.out, bI HB.out⟩
 | false =>
  rw [if_neg (show ¬ (false = true) by decide)] at H
  obtain ⟨m, hm⟩ : ∃ m, m = impl_SetAdd.at_ c a1 := ⟨_, rfl⟩; have ML := Aside0.mk (impl_SetAdd.at_le c a1)
  rw [← hm] at H ML
  obtain rfl := Option.some.inj H
  by_cases he : m = c.length
  ·
   have HZ : Aside0 ((if impl_SetAdd.at_ c a1 = c.length then -1 else (impl_SetAdd.at_ c a1 : Int)) = -1) := Aside0.mk (if_pos (hm ▸ he)); clear hm; subst he
   go_enter Tryz.func144, Tryz.ntmps144
   go_wp2_with (first | ((with_reducible refine gd 3 ?_); refine bA 3 #[.int .i64 a1] 3 ?_; intro gb hg w2 hbox hb; have BK := Aside0.mk hbox; have hcz := bc0 hbox; have hfz := blk_frozen hbox 0; have GW := bg hg HB; replace HB := bs HB hb; clear hb hbox hg) | ((with_reducible refine gate_callee (f := 116) rfl ?_); refine gB (some 8) Tryz.func116 #[.slice A0 c.length c0, .int .i64 a1] ?_; (with_reducible refine (impl_SetHas.calls k _ _ c a1 false _ ?side1 ?side2 A1.out).mono ?_); (case side1 => exact ch HR0 HB); (case side2 => exact HC0.out); rintro e w' ⟨rfl, ⟨nd, rfl⟩⟩; refine ⟨_, rfl, ?_⟩) | ((with_reducible refine gate_callee (f := 168) rfl ?_); refine gB (some 13) Tryz.func168 #[.slice A0 c.length c0, .func (.func 169) #[] #[.pointer (some ⟨gb, 0, none⟩)]] ?_; (with_reducible refine (impl_SetAdd.find2 A0 c0 c a1 gb _ (-1) ?side1 ?side2 HZ.out).mono ?_); (case side1 => exact ch HR0 HB); (case side2 => exact kI BK.out); rintro e w' ⟨rfl, ⟨nf, rfl⟩⟩; refine ⟨_, rfl, ?_⟩) | ((with_reducible refine gate_callee (f := 140) rfl ?_); refine gB (some 19) Tryz.func140 #[.slice A0 c.length c0] ?_; (with_reducible refine (impl_copyInts.calls _ _ c c _ ?side1 ?side2 A2.out).mono ?_); (case side1 => exact ch HR0 HB); (case side2 => exact HC0.out); rintro e w' ⟨v0, rfl, ho, hb⟩; refine ⟨_, rfl, ?_⟩; have HO := Aside0.mk (Kd.R_lower ho (below_size (bI HB.out))); replace BK := bk BK hb; replace HB := bs HB hb; clear hb ho; clear hcz hfz; have hcz := bc0 BK.out; have hfz := blk_frozen BK.out 0; obtain ⟨Ao, co, eo⟩ := Kd.R_slice HO.out; subst eo) | ((with_reducible refine gd 22 ?_); refine impl_SetAdd.lit 1 #[.int .i64 a1] 3 ?_; intro gl hg w4 hbox hb; have KL := Aside0.mk hbox; have NE : Aside0 (some gl ≠ (Value.slice Ao c.length co).ownBlock) := Aside0.mk (fun e => by have h1 := ((Kd.own_of_R (rI HO.out)).lt _ e.symm).2; rw [hg] at h1; exact Nat.lt_irrefl _ h1); replace HO := rb HO hb; replace HB := bs HB hb; clear hb hbox hg) | ((with_reducible refine gate_callee (f := 170) rfl ?_); refine gB (some 23) Tryz.func170 #[.slice Ao c.length co, .int .i64 (c.length : Int), .slice (some ⟨gl, 0, none⟩) 1 1] ?_; (with_reducible refine (Ins.ins _ w.heap.size (fun _ => True) _ c c.length a1 gl ?side1 ?side2 ?side3 ?side4 ?side5 NE.out).mono ?_); (case side1 => exact rI HO.out); (case side2 => exact below_size (bI HB.out)); (case side3 => exact ML.out); (case side4 => have := LN.out; omega); (case side5 => exact kI KL.out); rintro e w' ⟨v1, rfl, ho, hb⟩; refine ⟨_, rfl, ?_⟩; have HO2 := Aside0.mk ho; have HB2 := Aside0.mk ((bI HB.out).trans hb); clear hb ho))
   refine start_ (n := 7) (S := fun w' => w'.cell? ⟨gb, 0, none⟩ = some (.int .i64 a1)) (ds := [5]) #[false, false, false, false, false, false, false] (by kernel_rfl) rfl rfl (bc0 (kI BK.out)) (fun hHeld => ?_)
   refine pure_ (i := 0) (N := some 18) (v := ?_) (a' := ?_) #[true, false, false, false, false, false, false] rfl rfl (by kernel_rfl) (fun _ _ _ h => h) (Or.inl ⟨by rfl, ?_⟩) ?_ ?_
   rotate_left
   ·
    intro w'
    go_simp
    with_reducible rfl
   rotate_left
   ·
    simp only [Act.put, List.setIfInBounds_toArray, List.set_cons_zero, List.set_cons_succ, i64_w, i32_w]
    rfl
   refine pure_ (i := 2) (N := some 20) (v := ?_) (a' := ?_) #[true, false, true, false, false, false, false] rfl rfl (by kernel_rfl) (fun _ _ _ h => h) (Or.inl ⟨by rfl, ?_⟩) ?_ ?_
   rotate_left
   ·
    intro w'
    go_simp
    with_reducible rfl
   rotate_left
   ·
    simp only [Act.put, List.setIfInBounds_toArray, List.set_cons_zero, List.set_cons_succ, i64_w, i32_w]
    rfl
   refine take_ (i := 3) (N := some 21) (v := ?_) (a' := ?_) #[true, false, true, true, false, false, false] rfl rfl (by kernel_rfl) (fun _ _ _ h => h) (Or.inl ⟨by rfl, ?_⟩) hHeld ?_ ?_
   rotate_left
   ·
    intro w' s0
    go_simp
    with_reducible rfl
   rotate_left
   ·
    simp only [Act.put, List.setIfInBounds_toArray, List.set_cons_zero, List.set_cons_succ, i64_w, i32_w]
    rfl
   refine impl_SetAdd.two (i := 1) (j := 4) (Ni := some 19) (Nj := some 22) #[true, true, true, true, false, false, false] #[true, false, true, true, true, false, false] rfl rfl rfl rfl (by kernel_rfl) (by decide) (by decide) (fun K hK => ?_) (fun K hK => ?_)
   ·
    refine gA Tryz.func140 #[.slice A0 c.length c0] ?_
    with_reducible refine (impl_copyInts.calls _ _ c c _ ?side1 ?side2 A2.out).mono ?_
    (case side1 => exact ch HR0 HB)
    (case side2 => exact HC0.out)
    rintro e w5 ⟨v0, rfl, ho, hb⟩
    refine ⟨_, rfl, ?_⟩
    have HO := Aside0.mk (Kd.R_lower ho (below_size (bI HB.out))); replace BK := bk BK hb; replace HB := bs HB hb; clear hb ho
    refine hK.out _ _ (bc0 BK.out) (fun hHeld => ?_)
    clear hK K; obtain ⟨Ao, co, eo⟩ := Kd.R_slice HO.out; subst eo
    refine nA (some 19) ?_
    refine one_ (i := 4) (N := some 22) #[true, true, true, true, true, false, false] rfl rfl (by kernel_rfl) (by decide) (fun K hK => ?_)
    refine impl_SetAdd.lit_step 1 #[.int .i64 a1] 3 ?_
    intro gl hg w4 hbox hb
    have KL := Aside0.mk hbox
    have NE : Aside0 (some gl ≠ (Value.slice Ao c.length co).ownBlock) := Aside0.mk (fun e => by have h1 := ((Kd.own_of_R HO.out).lt _ e.symm).2; rw [hg] at h1; exact Nat.lt_irrefl _ h1)
    replace HO := rb HO hb; replace BK := bk BK hb; replace HB := bs HB hb; clear hb hbox hg
    refine hK.out _ _ (bc0 BK.out) (fun hHeld => ?_)
    clear hK K
    refine nA (some 22) ?_
    refine last_ (i := 5) (N := some 23) #[true, true, true, true, true, true, false] rfl rfl (by kernel_rfl) (by decide) (fun K hK => ?_)
    refine gA Tryz.func170 #[.slice Ao c.length co, .int .i64 (c.length : Int), .slice (some ⟨gl, 0, none⟩) 1 1] ?_
    with_reducible refine (Ins.ins _ w.heap.size (fun _ => True) _ c c.length a1 gl ?side1 ?side2 ?side3 ?side4 ?side5 NE.out).mono ?_
    (case side1 => exact rI HO.out)
    (case side2 => exact below_size (bI HB.out))
    (case side3 => exact ML.out)
    (case side4 => have := LN.out; omega)
    (case side5 => exact kI KL.out)
    rintro e w6 ⟨v1, rfl, ho, hb⟩
    refine ⟨_, rfl, ?_⟩
    have HO2 := Aside0.mk ho; have HB2 := Aside0.mk ((bI HB.out).trans hb)
    refine hK.out _ _ ?_
    clear hK K hb ho
    refine nA (some 23) ?_
    refine pure_ (i := 6) (N := some 4) (v := ?_) (a' := ?_) #[true, true, true, true, true, true, true] rfl rfl (by kernel_rfl) (fun _ _ _ h => h) (Or.inl ⟨by rfl, ?_⟩) ?_ ?_
    rotate_left
    ·
     intro w'
     go_simp
     with_reducible rfl
    rotate_left
    ·
     simp only [Act.put, List.setIfInBounds_toArray, List.set_cons_zero, List.set_cons_succ, i64_w, i32_w]
     rfl
    refine done_ (by kernel_rfl) ?_
    go_wp2
    go_ret
    exact ⟨_, rfl, HO2.out, HB2.out⟩
   refine impl_SetAdd.lit_step 1 #[.int .i64 a1] 3 ?_
   intro gl hg w4 hbox hb
   have KL := Aside0.mk hbox; replace BK := bk BK hb; replace HB := bs HB hb; clear hb hbox hg
   refine hK.out _ _ (bc0 BK.out) (fun hHeld => ?_)
   clear hK K
   refine nA (some 22) ?_
   refine one_ (i := 1) (N := some 19) #[true, true, true, true, true, false, false] rfl rfl (by kernel_rfl) (by decide) (fun K hK => ?_)
   refine gA Tryz.func140 #[.slice A0 c.length c0] ?_
   with_reducible refine (impl_copyInts.calls _ _ c c _ ?side1 ?side2 A2.out).mono ?_
   (case side1 => exact ch HR0 HB)
   (case side2 => exact HC0.out)
   rintro e w5 ⟨v0, rfl, ho, hb⟩
   refine ⟨_, rfl, ?_⟩
   have HO := Aside0.mk (Kd.R_lower ho (below_size (bI HB.out))); replace BK := bk BK hb; have KL' := bk KL hb
   have NE : Aside0 (some gl ≠ v0.ownBlock) := Aside0.mk (fun e => by have h1 := ((Kd.own_of_R ho).lt _ e.symm).1; exact (Nat.not_lt.2 h1) (blk_lt (kI KL.out)))
   replace KL := KL'; clear KL'; replace HB := bs HB hb; clear hb ho
   refine hK.out _ _ (bc0 BK.out) (fun hHeld => ?_)
   clear hK K; obtain ⟨Ao, co, eo⟩ := Kd.R_slice HO.out; subst eo
   refine nA (some 19) ?_
   refine last_ (i := 5) (N := some 23) #[true, true, true, true, true, true, false] rfl rfl (by kernel_rfl) (by decide) (fun K hK => ?_)
   refine gA Tryz.func170 #[.slice Ao c.length co, .int .i64 (c.length : Int), .slice (some ⟨gl, 0, none⟩) 1 1] ?_
   with_reducible refine (Ins.ins _ w.heap.size (fun _ => True) _ c c.length a1 gl ?side1 ?side2 ?side3 ?side4 ?side5 NE.out).mono ?_
   (case side1 => exact rI HO.out)
   (case side2 => exact below_size (bI HB.out))
   (case side3 => exact ML.out)
   (case side4 => have := LN.out; omega)
   (case side5 => exact kI KL.out)
   rintro e w6 ⟨v1, rfl, ho, hb⟩
   refine ⟨_, rfl, ?_⟩
   have HO2 := Aside0.mk ho; have HB2 := Aside0.mk ((bI HB.out).trans hb)
   refine hK.out _ _ ?_
   clear hK K hb ho
   refine nA (some 23) ?_
   refine pure_ (i := 6) (N := some 4) (v := ?_) (a' := ?_) #[true, true, true, true, true, true, true] rfl rfl (by kernel_rfl) (fun _ _ _ h => h) (Or.inl ⟨by rfl, ?_⟩) ?_ ?_
   rotate_left
   ·
    intro w'
    go_simp
    with_reducible rfl
   rotate_left
   ·
    simp only [Act.put, List.setIfInBounds_toArray, List.set_cons_zero, List.set_cons_succ, i64_w, i32_w]
    rfl
   refine done_ (by kernel_rfl) ?_
   go_wp2
   go_ret
   exact ⟨_, rfl, HO2.out, HB2.out⟩
  have HZ : Aside0 ((if impl_SetAdd.at_ c a1 = c.length then -1 else (impl_SetAdd.at_ c a1 : Int)) = (m : Int)) := Aside0.mk (by rw [← hm, if_neg he])
  clear hm he
  have hd : decide ((m : Int) < 0) = false := decide_eq_false (by omega)
  go_enter Tryz.func144, Tryz.ntmps144
  go_wp2_with (first | ((with_reducible refine gd 3 ?_); refine bA 3 #[.int .i64 a1] 3 ?_; intro gb hg w2 hbox hb; have BK := Aside0.mk hbox; have hcz := bc0 hbox; have hfz := blk_frozen hbox 0; have GW := bg hg HB; replace HB := bs HB hb; clear hb hbox hg) | ((with_reducible refine gate_callee (f := 116) rfl ?_); refine gB (some 8) Tryz.func116 #[.slice A0 c.length c0, .int .i64 a1] ?_; (with_reducible refine (impl_SetHas.calls k _ _ c a1 false _ ?side1 ?side2 A1.out).mono ?_); (case side1 => exact ch HR0 HB); (case side2 => exact HC0.out); rintro e w' ⟨rfl, ⟨nd, rfl⟩⟩; refine ⟨_, rfl, ?_⟩) | ((with_reducible refine gate_callee (f := 168) rfl ?_); refine gB (some 13) Tryz.func168 #[.slice A0 c.length c0, .func (.func 169) #[] #[.pointer (some ⟨gb, 0, none⟩)]] ?_; (with_reducible refine (impl_SetAdd.find2 A0 c0 c a1 gb _ (m : Int) ?side1 ?side2 HZ.out).mono ?_); (case side1 => exact ch HR0 HB); (case side2 => exact kI BK.out); rintro e w' ⟨rfl, ⟨nf, rfl⟩⟩; refine ⟨_, rfl, ?_⟩) | ((with_reducible refine gate_callee (f := 140) rfl ?_); refine gB (some 19) Tryz.func140 #[.slice A0 c.length c0] ?_; (with_reducible refine (impl_copyInts.calls _ _ c c _ ?side1 ?side2 A2.out).mono ?_); (case side1 => exact ch HR0 HB); (case side2 => exact HC0.out); rintro e w' ⟨v0, rfl, ho, hb⟩; refine ⟨_, rfl, ?_⟩; have HO := Aside0.mk (Kd.R_lower ho (below_size (bI HB.out))); replace BK := bk BK hb; replace HB := bs HB hb; clear hb ho; clear hcz hfz; have hcz := bc0 BK.out; have hfz := blk_frozen BK.out 0; obtain ⟨Ao, co, eo⟩ := Kd.R_slice HO.out; subst eo) | ((with_reducible refine gd 22 ?_); refine impl_SetAdd.lit 1 #[.int .i64 a1] 3 ?_; intro gl hg w4 hbox hb; have KL := Aside0.mk hbox; have NE : Aside0 (some gl ≠ (Value.slice Ao c.length co).ownBlock) := Aside0.mk (fun e => by have h1 := ((Kd.own_of_R HO.out).lt _ e.symm).2; rw [hg] at h1; exact Nat.lt_irrefl _ h1); replace HO := rb HO hb; replace HB := bs HB hb; clear hb hbox hg) | ((with_reducible refine gate_callee (f := 170) rfl ?_); refine gB (some 23) Tryz.func170 #[.slice Ao c.length co, .int .i64 (m : Int), .slice (some ⟨gl, 0, none⟩) 1 1] ?_; (with_reducible refine (Ins.ins _ w.heap.size (fun _ => True) _ c m a1 gl ?side1 ?side2 ?side3 ?side4 ?side5 NE.out).mono ?_); (case side1 => exact rI HO.out); (case side2 => exact below_size (bI HB.out)); (case side3 => exact ML.out); (case side4 => have := LN.out; omega); (case side5 => exact kI KL.out); rintro e w' ⟨v1, rfl, ho, hb⟩; refine ⟨_, rfl, ?_⟩; have HO2 := Aside0.mk ho; have HB2 := Aside0.mk ((bI HB.out).trans hb); clear hb ho))
  refine start_ (n := 7) (S := fun w' => w'.cell? ⟨gb, 0, none⟩ = some (.int .i64 a1)) (ds := [5]) #[false, false, false, false, false, false, false] (by kernel_rfl) rfl rfl (bc0 (kI BK.out)) (fun hHeld => ?_)
  refine pure_ (i := 0) (N := some 18) (v := ?_) (a' := ?_) #[true, false, false, false, false, false, false] rfl rfl (by kernel_rfl) (fun _ _ _ h => h) (Or.inl ⟨by rfl, ?_⟩) ?_ ?_
  rotate_left
  ·
   intro w'
   go_simp
   with_reducible rfl
  rotate_left
  ·
   simp only [Act.put, List.setIfInBounds_toArray, List.set_cons_zero, List.set_cons_succ, i64_w, i32_w]
   rfl
  refine pure_ (i := 2) (N := some 20) (v := ?_) (a' := ?_) #[true, false, true, false, false, false, false] rfl rfl (by kernel_rfl) (fun _ _ _ h => h) (Or.inl ⟨by rfl, ?_⟩) ?_ ?_
  rotate_left
  ·
   intro w'
   go_simp
   with_reducible rfl
  rotate_left
  ·
   simp only [Act.put, List.setIfInBounds_toArray, List.set_cons_zero, List.set_cons_succ, i64_w, i32_w]
   rfl
  refine take_ (i := 3) (N := some 21) (v := ?_) (a' := ?_) #[true, false, true, true, false, false, false] rfl rfl (by kernel_rfl) (fun _ _ _ h => h) (Or.inl ⟨by rfl, ?_⟩) hHeld ?_ ?_
  rotate_left
  ·
   intro w' s0
   go_simp
   with_reducible rfl
  rotate_left
  ·
   simp only [Act.put, List.setIfInBounds_toArray, List.set_cons_zero, List.set_cons_succ, i64_w, i32_w]
   rfl
  refine impl_SetAdd.two (i := 1) (j := 4) (Ni := some 19) (Nj := some 22) #[true, true, true, true, false, false, false] #[true, false, true, true, true, false, false] rfl rfl rfl rfl (by kernel_rfl) (by decide) (by decide) (fun K hK => ?_) (fun K hK => ?_)
  ·
   refine gA Tryz.func140 #[.slice A0 c.length c0] ?_
   with_reducible refine (impl_copyInts.calls _ _ c c _ ?side1 ?side2 A2.out).mono ?_
   (case side1 => exact ch HR0 HB)
   (case side2 => exact HC0.out)
   rintro e w5 ⟨v0, rfl, ho, hb⟩
   refine ⟨_, rfl, ?_⟩
   have HO := Aside0.mk (Kd.R_lower ho (below_size (bI HB.out))); replace BK := bk BK hb; replace HB := bs HB hb; clear hb ho
   refine hK.out _ _ (bc0 BK.out) (fun hHeld => ?_)
   clear hK K; obtain ⟨Ao, co, eo⟩ := Kd.R_slice HO.out; subst eo
   refine nA (some 19) ?_
   refine one_ (i := 4) (N := some 22) #[true, true, true, true, true, false, false] rfl rfl (by kernel_rfl) (by decide) (fun K hK => ?_)
   refine impl_SetAdd.lit_step 1 #[.int .i64 a1] 3 ?_
   intro gl hg w4 hbox hb
   have KL := Aside0.mk hbox
   have NE : Aside0 (some gl ≠ (Value.slice Ao c.length co).ownBlock) := Aside0.mk (fun e => by have h1 := ((Kd.own_of_R HO.out).lt _ e.symm).2; rw [hg] at h1; exact Nat.lt_irrefl _ h1)
   replace HO := rb HO hb; replace BK := bk BK hb; replace HB := bs HB hb; clear hb hbox hg
   refine hK.out _ _ (bc0 BK.out) (fun hHeld => ?_)
   clear hK K
   refine nA (some 22) ?_
   refine last_ (i := 5) (N := some 23) #[true, true, true, true, true, true, false] rfl rfl (by kernel_rfl) (by decide) (fun K hK => ?_)
   refine gA Tryz.func170 #[.slice Ao c.length co, .int .i64 (m : Int), .slice (some ⟨gl, 0, none⟩) 1 1] ?_
   with_reducible refine (Ins.ins _ w.heap.size (fun _ => True) _ c m a1 gl ?side1 ?side2 ?side3 ?side4 ?side5 NE.out).mono ?_
   (case side1 => exact rI HO.out)
   (case side2 => exact below_size (bI HB.out))
   (case side3 => exact ML.out)
   (case side4 => have := LN.out; omega)
   (case side5 => exact kI KL.out)
   rintro e w6 ⟨v1, rfl, ho, hb⟩
   refine ⟨_, rfl, ?_⟩
   have HO2 := Aside0.mk ho; have HB2 := Aside0.mk ((bI HB.out).trans hb)
   refine hK.out _ _ ?_
   clear hK K hb ho
   refine nA (some 23) ?_
   refine pure_ (i := 6) (N := some 4) (v := ?_) (a' := ?_) #[true, true, true, true, true, true, true] rfl rfl (by kernel_rfl) (fun _ _ _ h => h) (Or.inl ⟨by rfl, ?_⟩) ?_ ?_
   rotate_left
   ·
    intro w'
    go_simp
    with_reducible rfl
   rotate_left
   ·
    simp only [Act.put, List.setIfInBounds_toArray, List.set_cons_zero, List.set_cons_succ, i64_w, i32_w]
    rfl
   refine done_ (by kernel_rfl) ?_
   go_wp2
   go_ret
   exact ⟨_, rfl, HO2.out, HB2.out⟩
  refine impl_SetAdd.lit_step 1 #[.int .i64 a1] 3 ?_
  intro gl hg w4 hbox hb
  have KL := Aside0.mk hbox; replace BK := bk BK hb; replace HB := bs HB hb; clear hb hbox hg
  refine hK.out _ _ (bc0 BK.out) (fun hHeld => ?_)
  clear hK K
  refine nA (some 22) ?_
  refine one_ (i := 1) (N := some 19) #[true, true, true, true, true, false, false] rfl rfl (by kernel_rfl) (by decide) (fun K hK => ?_)
  refine gA Tryz.func140 #[.slice A0 c.length c0] ?_
  with_reducible refine (impl_copyInts.calls _ _ c c _ ?side1 ?side2 A2.out).mono ?_
  (case side1 => exact ch HR0 HB)
  (case side2 => exact HC0.out)
  rintro e w5 ⟨v0, rfl, ho, hb⟩
  refine ⟨_, rfl, ?_⟩
  have HO := Aside0.mk (Kd.R_lower ho (below_size (bI HB.out))); replace BK := bk BK hb; have KL' := bk KL hb
  have NE : Aside0 (some gl ≠ v0.ownBlock) := Aside0.mk (fun e => by have h1 := ((Kd.own_of_R ho).lt _ e.symm).1; exact (Nat.not_lt.2 h1) (blk_lt (kI KL.out)))
  replace KL := KL'; clear KL'; replace HB := bs HB hb; clear hb ho
  refine hK.out _ _ (bc0 BK.out) (fun hHeld => ?_)
  clear hK K; obtain ⟨Ao, co, eo⟩ := Kd.R_slice HO.out; subst eo
  refine nA (some 19) ?_
  refine last_ (i := 5) (N := some 23) #[true, true, true, true, true, true, false] rfl rfl (by kernel_rfl) (by decide) (fun K hK => ?_)
  refine gA Tryz.func170 #[.slice Ao c.length co, .int .i64 (m : Int), .slice (some ⟨gl, 0, none⟩) 1 1] ?_
  with_reducible refine (Ins.ins _ w.heap.size (fun _ => True) _ c m a1 gl ?side1 ?side2 ?side3 ?side4 ?side5 NE.out).mono ?_
  (case side1 => exact rI HO.out)
  (case side2 => exact below_size (bI HB.out))
  (case side3 => exact ML.out)
  (case side4 => have := LN.out; omega)
  (case side5 => exact kI KL.out)
  rintro e w6 ⟨v1, rfl, ho, hb⟩
  refine ⟨_, rfl, ?_⟩
  have HO2 := Aside0.mk ho; have HB2 := Aside0.mk ((bI HB.out).trans hb)
  refine hK.out _ _ ?_
  clear hK K hb ho
  refine nA (some 23) ?_
  refine pure_ (i := 6) (N := some 4) (v := ?_) (a' := ?_) #[true, true, true, true, true, true, true] rfl rfl (by kernel_rfl) (fun _ _ _ h => h) (Or.inl ⟨by rfl, ?_⟩) ?_ ?_
  rotate_left
  ·
   intro w'
   go_simp
   with_reducible rfl
  rotate_left
  ·
   simp only [Act.put, List.setIfInBounds_toArray, List.set_cons_zero, List.set_cons_succ, i64_w, i32_w]
   rfl
  refine done_ (by kernel_rfl) ?_
  go_wp2
  go_ret
  exact ⟨_, rfl, HO2.out, HB2.out⟩

/-! ### impl_SetJoin: function 94 -/
mutual
def impl_SetJoin.l0 : Nat → List Int → List Int → List Int → Int → Int → Option (List Int)
 | 0, _, _, _, _, _ => none
 | k + 1, x1, x5, x10, x11, x12 => if x12 < x11 then (if 0 ≤ x12 then (if x12 < (x10.length : Int) then ((impl_SetAdd.f k x5 (rd x10 x12)).bind fun t398 => (impl_SetJoin.l0 k x1 t398 x10 x11 (wrap64 (x12 + 1)))) else (none)) else (none)) else (impl_SetJoin.l1 k x5 x1 (x1.length : Int) 0)
def impl_SetJoin.l1 : Nat → List Int → List Int → Int → Int → Option (List Int)
 | 0, _, _, _, _ => none
 | k + 1, x5, x20, x21, x22 => if x22 < x21 then (if 0 ≤ x22 then (if x22 < (x20.length : Int) then ((impl_SetAdd.f k x5 (rd x20 x22)).bind fun t402 => (impl_SetJoin.l1 k t402 x20 x21 (wrap64 (x22 + 1)))) else (none)) else (none)) else (some x5)
end
def impl_SetJoin.f (k : Nat) (l0 : List Int) (l1 : List Int) : Option (List Int) := impl_SetJoin.l0 k l1 ([] : List Int) l0 (l0.length : Int) 0
theorem impl_SetJoin.mono_l : ∀ k, (∀ y0 y1 y2 y3 y4, LeO (impl_SetJoin.l0 k y0 y1 y2 y3 y4) (impl_SetJoin.l0 (k + 1) y0 y1 y2 y3 y4)) ∧ (∀ y0 y1 y2 y3, LeO (impl_SetJoin.l1 k y0 y1 y2 y3) (impl_SetJoin.l1 (k + 1) y0 y1 y2 y3))
 | 0 => ⟨fun _ _ _ _ _ r h => by simp [impl_SetJoin.l0] at h, fun _ _ _ _ r h => by simp [impl_SetJoin.l1] at h⟩
 | k + 1 => by
  obtain ⟨ih0, ih1⟩ := impl_SetJoin.mono_l k
  refine ⟨?_, ?_⟩
  ·
   intro y0 y1 y2 y3 y4
   unfold impl_SetJoin.l0
   repeat' first | (with_reducible exact ih0 _ _ _ _ _) | (with_reducible exact ih1 _ _ _ _) | (with_reducible exact impl_SetAdd.mono _ _ _) | (with_reducible exact LeO.refl _) | (with_reducible exact LeO.none _) | (with_reducible refine LeO.ite ?_ ?_) | (with_reducible refine LeO.bind ?_ (fun _ => ?_))
  intro y0 y1 y2 y3
  unfold impl_SetJoin.l1
  repeat' first | (with_reducible exact ih0 _ _ _ _ _) | (with_reducible exact ih1 _ _ _ _) | (with_reducible exact impl_SetAdd.mono _ _ _) | (with_reducible exact LeO.refl _) | (with_reducible exact LeO.none _) | (with_reducible refine LeO.ite ?_ ?_) | (with_reducible refine LeO.bind ?_ (fun _ => ?_))
theorem impl_SetJoin.mono : ∀ a0 a1 k, LeO (impl_SetJoin.f k a0 a1) (impl_SetJoin.f (k + 1) a0 a1) := by
 intro a0 a1 k
 obtain ⟨ih0, ih1⟩ := impl_SetJoin.mono_l k
 unfold impl_SetJoin.f
 repeat' first | (with_reducible exact ih0 _ _ _ _ _) | (with_reducible exact ih1 _ _ _ _) | (with_reducible exact impl_SetAdd.mono _ _ _) | (with_reducible exact LeO.refl _) | (with_reducible exact LeO.none _) | (with_reducible refine LeO.ite ?_ ?_) | (with_reducible refine LeO.bind ?_ (fun _ => ?_))
set_option maxHeartbeats 8000000 in
set_option maxRecDepth 100000 in
theorem impl_SetJoin.calls (k : Nat) (A0 : Option Addr) (c0 : Nat) (l0 : List Int) (A1 : Option Addr) (c1 : Nat) (l1 : List Int) (r : List Int) (w : World) (hr0 : Kd.C (Kd.int .i64) w A0 l0.length l0) (hc0 : l0.length ≤ c0) (hr1 : Kd.C (Kd.int .i64) w A1 l1.length l1) (hc1 : l1.length ≤ c1) (h : impl_SetJoin.f k l0 l1 = some r) :
  Calls Tryz.prog 94 #[.slice A0 l0.length c0, .slice A1 l1.length c1] w fun e w' => ∃ v0_ : Value, e = .returned (v0_) ∧ Kd.R (Kd.int .i64) 3 w' w.heap.size (fun _ => True) v0_ r ∧ Below w.heap.size w w' := by
 have HR0 := Aside0.mk hr0; have HC0 := Aside0.mk hc0; clear hr0 hc0; have HR1 := Aside0.mk hr1; have HC1 := Aside0.mk hc1; clear hr1 hc1; have HB := Aside0.mk (Below.refl w.heap.size w); have H := h; unfold impl_SetJoin.f at H; clear h; have H' := Aside0.mk H; clear H
 go_enter Tryz.func94, Tryz.ntmps94
 go_wp2
 go_loopg [5, 12] k (fun kq v5 v12 w' => ∃ (x5_1 : List Int) (x12_1 : Int), v12 = .int .i64 x12_1 ∧ Aside0 (impl_SetJoin.l0 kq l1 x5_1 l0 (l0.length : Int) x12_1 = some r) ∧ Aside0 (kq ≤ k) ∧ Aside0 (Kd.R (Kd.int .i64) 3 w' w.heap.size (fun _ => True) v5 x5_1) ∧ Aside0 (Below w.heap.size w w'))
 case atStart => exact ⟨(([] : List Int)), (0), y0_13, H', ⟨Nat.le_refl _⟩, ⟨y0_1⟩, ⟨bI HB.out⟩⟩
 case round =>
  clear H'
  try clear c1
  try clear p2
  obtain ⟨x5_1, x12_1, rfl, HA, HK1, HO_5, HB⟩ := hrel; cases gk with
  | zero => exact absurd HA.out (by simp [impl_SetJoin.l0])
  | succ k1 =>
   have H := HA.out; clear HA
   simp only [impl_SetJoin.l0] at H
   by_cases c3 : x12_1 < (l0.length : Int)
   ·
    rw [if_pos c3] at H
    have c3b0 : decide (x12_1 < (l0.length : Int)) = true := decide_eq_true c3; clear c3
    by_cases c4 : 0 ≤ x12_1
    rotate_left
    ·
     rw [if_neg c4] at H
     exact absurd H (by simp)
    rw [if_pos c4] at H
    have c4b0 : decide (0 ≤ x12_1) = true := decide_eq_true c4; clear c4
    by_cases c5 : x12_1 < (l0.length : Int)
    rotate_left
    ·
     rw [if_neg c5] at H
     exact absurd H (by simp)
    rw [if_pos c5] at H
    have c5b0 : decide (x12_1 < (l0.length : Int)) = true := decide_eq_true c5; clear c5; obtain ⟨t398, A6, H⟩ := oB H; (try dsimp only at H); have H' := Aside0.mk H; clear H; have p397 : 0 ≤ (x12_1 : Int) := of_decide_eq_true y0_12; have q397 : x12_1 < (l0.length : Int) := of_decide_eq_true y0_12; obtain ⟨ad397, e397, hx397_0⟩ := Kd.at_int HR0.out x12_1 p397 q397; cases e397; replace hx397_0 := bx HB hx397_0; replace p397 := eq_true p397; replace q397 := eq_true q397; obtain ⟨Ao7, co7, eo7⟩ := Kd.R_slice HO_5.out; subst eo7
    go_wp2_with (first | ((with_reducible refine gate_callee (f := 144) rfl ?_); refine gB (some 18) Tryz.func144 #[.slice Ao7 x5_1.length co7, .int .i64 (rd l0 x12_1)] ?_; (with_reducible refine (impl_SetAdd.calls k1 _ _ x5_1 (rd l0 x12_1) t398 _ ?side1 ?side2 A6.out).mono ?_); (case side1 => repeat (first | exact (Kd.R_reads' HO_5.out).2.2 | (with_reducible refine Kd.C_alloc ?_ _) | (with_reducible refine Kd.C_drewN ?_ _) | (with_reducible refine Kd.C_drew ?_))); (case side2 => exact (Kd.R_reads' HO_5.out).2.1); rintro e w8 ⟨v399, rfl, ho0, hb⟩; refine ⟨_, rfl, ?_⟩; have HO400 := Aside0.mk (Kd.R_lower (Kd.R_new' ho0 (Kd.R_lt (rI HO_5.out))) (below_size (bI HB.out))); replace HO_5 := Aside0.mk (Kd.R_elder' (rI HO_5.out) (Kd.R_base ho0) hb); replace HB := bs HB hb; (try clear hb); (try clear ho0)))
    go_roundg k1
    case measure => have := HK1.out; omega
    case rel => exact ⟨(t398), (wrap64 (x12_1 + 1)), y0_13, H', ⟨y0_16⟩, ⟨by (with_reducible repeat (first | apply Kd.R_alloc | apply Kd.R_drewN | apply Kd.R_drew)); exact Kd.R_mono HO400.out (fun _ hk => trivial)⟩, ⟨bI HB.out⟩⟩
   rw [if_neg c3] at H
   have c3b0 : decide (x12_1 < (l0.length : Int)) = false := decide_eq_false c3; clear c3; have H' := Aside0.mk H; clear H
   go_wp2
   go_loopg [5, 22] k1 (fun kq v5 v22 w' => ∃ (x5_2 : List Int) (x22_2 : Int), v22 = .int .i64 x22_2 ∧ Aside0 (impl_SetJoin.l1 kq x5_2 l1 (l1.length : Int) x22_2 = some r) ∧ Aside0 (kq ≤ k1) ∧ Aside0 (Kd.R (Kd.int .i64) 3 w' w.heap.size (fun _ => True) v5 x5_2) ∧ Aside0 (Below w.heap.size w w'))
   case atStart => exact ⟨(x5_1), (0), y0_13, H', ⟨Nat.le_refl _⟩, ⟨y0_5⟩, ⟨bI HB.out⟩⟩
   case round =>
    clear H'
    try clear c1
    try clear p2
    try clear c3
    try clear c3b0
    try clear p3
    try clear q3
    try clear hx3
    try clear c4
    try clear c4b0
    try clear c5
    try clear c5b0
    try clear p6
    try clear hx397_0
    try clear p2
    try clear p397
    try clear q397
    obtain ⟨x5_2, x22_2, rfl, HA, HK2, HO_5, HB⟩ := hrel; cases gk with
    | zero => exact absurd HA.out (by simp [impl_SetJoin.l1])
    | succ k2 =>
     have H := HA.out; clear HA
     simp only [impl_SetJoin.l1] at H
     by_cases c9 : x22_2 < (l1.length : Int)
     ·
      rw [if_pos c9] at H
      have c9b0 : decide (x22_2 < (l1.length : Int)) = true := decide_eq_true c9; clear c9
      by_cases c10 : 0 ≤ x22_2
      rotate_left
      ·
       rw [if_neg c10] at H
       exact absurd H (by simp)
      rw [if_pos c10] at H
      have c10b0 : decide (0 ≤ x22_2) = true := decide_eq_true c10; clear c10
      by_cases c11 : x22_2 < (l1.length : Int)
      rotate_left
      ·
       rw [if_neg c11] at H
       exact absurd H (by simp)
      rw [if_pos c11] at H
      have c11b0 : decide (x22_2 < (l1.length : Int)) = true := decide_eq_true c11; clear c11; obtain ⟨t402, A12, H⟩ := oB H; (try dsimp only at H); have H' := Aside0.mk H; clear H; have p401 : 0 ≤ (x22_2 : Int) := of_decide_eq_true y0_12; have q401 : x22_2 < (l1.length : Int) := of_decide_eq_true y0_12; obtain ⟨ad401, e401, hx401_0⟩ := Kd.at_int HR1.out x22_2 p401 q401; cases e401; replace hx401_0 := bx HB hx401_0; replace p401 := eq_true p401; replace q401 := eq_true q401; obtain ⟨Ao13, co13, eo13⟩ := Kd.R_slice HO_5.out; subst eo13
      go_wp2_with (first | ((with_reducible refine gate_callee (f := 144) rfl ?_); refine gB (some 28) Tryz.func144 #[.slice Ao13 x5_2.length co13, .int .i64 (rd l1 x22_2)] ?_; (with_reducible refine (impl_SetAdd.calls k2 _ _ x5_2 (rd l1 x22_2) t402 _ ?side1 ?side2 A12.out).mono ?_); (case side1 => repeat (first | exact (Kd.R_reads' HO_5.out).2.2 | (with_reducible refine Kd.C_alloc ?_ _) | (with_reducible refine Kd.C_drewN ?_ _) | (with_reducible refine Kd.C_drew ?_))); (case side2 => exact (Kd.R_reads' HO_5.out).2.1); rintro e w14 ⟨v403, rfl, ho0, hb⟩; refine ⟨_, rfl, ?_⟩; have HO404 := Aside0.mk (Kd.R_lower (Kd.R_new' ho0 (Kd.R_lt (rI HO_5.out))) (below_size (bI HB.out))); replace HO_5 := Aside0.mk (Kd.R_elder' (rI HO_5.out) (Kd.R_base ho0) hb); replace HB := bs HB hb; (try clear hb); (try clear ho0)))
      go_roundg k2
      case measure => have := HK1.out; have := HK2.out; omega
      case rel => exact ⟨(t402), (wrap64 (x22_2 + 1)), y0_13, H', ⟨by have := HK1.out; have := HK2.out; omega⟩, ⟨by (with_reducible repeat (first | apply Kd.R_alloc | apply Kd.R_drewN | apply Kd.R_drew)); exact Kd.R_mono HO404.out (fun _ hk => trivial)⟩, ⟨bI HB.out⟩⟩
     rw [if_neg c9] at H
     have c9b0 : decide (x22_2 < (l1.length : Int)) = false := decide_eq_false c9; clear c9; obtain rfl := Option.some.inj H
     go_wp2
     go_ret
     exact ⟨_, y0_7, y0_5, bI HB.out⟩

/-! ### impl_PartJoin: function 29 -/
def impl_PartJoin.f (k : Nat) (a0_0 : Int) (a0_1 : ByteArray) (l0_2 : List Int) (a1_0 : Int) (a1_1 : ByteArray) (l1_2 : List Int) : Option (Int × ByteArray × List Int × Bool) := if a0_0 = a1_0 then (if a0_1.toList = a1_1.toList then ((impl_SetJoin.f k l0_2 l1_2).bind fun t408 => (some (a0_0, a0_1, t408, true))) else (some (0, (⟨#[]⟩ : ByteArray), ([] : List Int), false))) else (some (0, (⟨#[]⟩ : ByteArray), ([] : List Int), false))
theorem impl_PartJoin.mono : ∀ a0 a1 a2 a3 a4 a5 k, LeO (impl_PartJoin.f k a0 a1 a2 a3 a4 a5) (impl_PartJoin.f (k + 1) a0 a1 a2 a3 a4 a5) := by
 intro a0 a1 a2 a3 a4 a5 k
 unfold impl_PartJoin.f
 repeat' first | (with_reducible exact impl_SetJoin.mono _ _ _) | (with_reducible exact LeO.refl _) | (with_reducible exact LeO.none _) | (with_reducible refine LeO.ite ?_ ?_) | (with_reducible refine LeO.bind ?_ (fun _ => ?_))
def impl_PartJoin.T3 : Bool × List (List Nat × List Nat) := (true, [([], []), ([0], [0]), ([], []), ([2], [2]), ([], []), ([4], [4]), ([], []), ([6], [6]), ([5, 7], [5, 7]), ([1, 3, 8], [1, 3, 8]), ([9, 8, 0, 1, 2, 3, 4, 5, 6, 7, 8, 9], [9]), ([10, 0, 1, 2, 3, 4, 5, 6, 7, 8, 9, 10], [])])
def impl_PartJoin.B3 : List Nat := [0, 1, 0, 4, 0, 16, 0, 64, 240, 511, 1023, 2047]
theorem impl_PartJoin.tab3 : rtab .any (opsOf Tryz.f29 3) = impl_PartJoin.T3 := by kernel_rfl
theorem impl_PartJoin.bits3 : waitsOk impl_PartJoin.T3.2 impl_PartJoin.B3 = true := by kernel_rfl
set_option maxHeartbeats 8000000 in
set_option maxRecDepth 100000 in
theorem impl_PartJoin.calls (k : Nat) (a0_0 : Int) (a0_1 : ByteArray) (A0_2 : Option Addr) (c0_2 : Nat) (l0_2 : List Int) (a1_0 : Int) (a1_1 : ByteArray) (A1_2 : Option Addr) (c1_2 : Nat) (l1_2 : List Int) (r1 : Int) (r2 : ByteArray) (r3 : List Int) (r4 : Bool) (w : World) (hr0_2 : Kd.C (Kd.int .i64) w A0_2 l0_2.length l0_2) (hc0_2 : l0_2.length ≤ c0_2) (hr1_2 : Kd.C (Kd.int .i64) w A1_2 l1_2.length l1_2) (hc1_2 : l1_2.length ≤ c1_2) (h : impl_PartJoin.f k a0_0 a0_1 l0_2 a1_0 a1_1 l1_2 = some (r1, r2, r3, r4)) :
  Calls Tryz.prog 29 #[.agg #[.int .i64 a0_0, .string a0_1, .slice A0_2 l0_2.length c0_2], .agg #[.int .i64 a1_0, .string a1_1, .slice A1_2 l1_2.length c1_2]] w fun e w' => ∃ v2_ : Value, e = .returned (.tuple #[.agg #[.int .i64 r1, .string r2, v2_], .bool r4]) ∧ Kd.R (Kd.int .i64) 3 w' w.heap.size (fun _ => True) v2_ r3 ∧ Below w.heap.size w w' := by
 have hu48 := Tryz.underlying48; have HR0_2 := Aside0.mk hr0_2; have HC0_2 := Aside0.mk hc0_2; clear hr0_2 hc0_2; have HR1_2 := Aside0.mk hr1_2; have HC1_2 := Aside0.mk hc1_2; clear hr1_2 hc1_2; have HB := Aside0.mk (Below.refl w.heap.size w)
 have H := h; unfold impl_PartJoin.f at H
 clear h
 go_enter Tryz.func29, Tryz.ntmps29
 have H' := Aside0.mk H; clear H
 go_upto_region 1 with (first | ((with_reducible refine gd 2 ?_); refine bL 2 #[.int .i64 a0_0, .string a0_1, .slice A0_2 l0_2.length c0_2] 48 ?_; intro gb405 w3 _ _ _) | ((with_reducible refine gd 3 ?_); refine bL 3 #[.int .i64 a1_0, .string a1_1, .slice A1_2 l1_2.length c1_2] 48 ?_; intro gb406 w4 _ _ _) | ((with_reducible refine gd 4 ?_); refine bL 4 #[.int .i64 0, .string (⟨#[]⟩ : ByteArray), .slice none 0 0] 48 ?_; intro gb407 w5 _ _ _))
 have H := H'.out; clear H'
 by_cases c6 : a0_0 = a1_0
 ·
  rw [if_pos c6] at H
  have c6b0 : (a0_0 == a1_0) = true := beq_iff_eq.mpr c6; have c6b1 : (a0_0 != a1_0) = false := bne_eq_false_iff_eq.mpr c6; clear c6
  (first | rw [c6b0] | (simp only [i64_w, i32_w]; rw [c6b0]) | skip)
  have H' := Aside0.mk H; clear H
  go_upto_if 17 with fail
  have H := H'.out; clear H'
  by_cases c7 : a0_1.toList = a1_1.toList
  ·
   rw [if_pos c7] at H
   have c7b0 : (a0_1.toList == a1_1.toList) = true := beq_iff_eq.mpr c7; have c7b1 : (a0_1.toList != a1_1.toList) = false := bne_eq_false_iff_eq.mpr c7; clear c7
   (first | rw [c7b0] | (simp only [i64_w, i32_w]; rw [c7b0]) | skip)
   obtain ⟨t408, A8, H⟩ := oB H; (try dsimp only at H)
   simp only [Option.some.injEq, Prod.mk.injEq] at H
   obtain ⟨rfl, rfl, rfl, rfl⟩ := H
   try go_wp2
   refine sB [gb407] impl_PartJoin.tab3 impl_PartJoin.bits3 ?_; intro w9 _ HT_ HW_
   refine pA 0 (some 19) (bz 12 1) HT_ ?_
   refine tB 1 (some 20) (bz 12 3) HT_ HW_ ?_
   refine pA 2 (some 21) (bz 12 7) HT_ ?_
   refine tB 3 (some 22) (bz 12 15) HT_ HW_ ?_
   refine pA 4 (some 23) (bz 12 31) HT_ ?_
   refine tB 5 (some 24) (bz 12 63) HT_ HW_ ?_
   refine pA 6 (some 25) (bz 12 127) HT_ ?_
   refine tB 7 (some 26) (bz 12 255) HT_ HW_ ?_
   refine o1 8 (some 27) (bz 12 511) HT_ rfl (kC1 Tryz.func94 (impl_SetJoin.calls (hr0 := pC HR0_2) (hc0 := HC0_2.out) (hr1 := pC HR1_2) (hc1 := HC1_2.out) (w := _) (h := A8.out)) ?_); intro Ao409 co409 w10 _ HO410
   refine nA (some 27) ?_
   refine pA 9 (some 28) (bz 12 1023) HT_ ?_
   refine o1 10 none (bz 12 2047) HT_ rfl (kS ?_)
   refine pA 11 (some 5) (bz 12 4095) HT_ ?_
   refine done_ (done_of HT_.out (by kernel_rfl)) ?_
   try go_wp2
   refine bodyPost_ret (results_ct rfl _ _ gb407 48 #[.int .i64 a0_0, .string a0_1, .slice Ao409 t408.length co409] (0, 0) _ rfl xB Tryz.underlying48 rfl (by kernel_rfl)) rfl ?_
   exact ⟨_, y0_13, rR HO410, UpW.out⟩
  rw [if_neg c7] at H
  have c7b0 : (a0_1.toList == a1_1.toList) = false := beq_eq_false_iff_ne.mpr c7; have c7b1 : (a0_1.toList != a1_1.toList) = true := bne_iff_ne.mpr c7
  (first | rw [c7b0] | (simp only [i64_w, i32_w]; rw [c7b0]) | skip)
  simp only [Option.some.injEq, Prod.mk.injEq] at H
  obtain ⟨rfl, rfl, rfl, rfl⟩ := H
  go_wp2
  refine bodyPost_ret (results_ct rfl _ _ gb407 48 #[.int .i64 0, .string (⟨#[]⟩ : ByteArray), .slice none 0 0] (0, 0) _ rfl xB Tryz.underlying48 rfl (by kernel_rfl)) rfl ?_
  exact ⟨_, y0_13, Kd.R_nil _ _ _ _ _, UpW.out⟩
 rw [if_neg c6] at H
 have c6b0 : (a0_0 == a1_0) = false := beq_eq_false_iff_ne.mpr c6; have c6b1 : (a0_0 != a1_0) = true := bne_iff_ne.mpr c6
 (first | rw [c6b0] | (simp only [i64_w, i32_w]; rw [c6b0]) | skip)
 have H' := Aside0.mk H; clear H
 go_upto_if 17 with fail
 have H := H'.out; clear H'
 simp only [Option.some.injEq, Prod.mk.injEq] at H
 obtain ⟨rfl, rfl, rfl, rfl⟩ := H
 go_wp2
 refine bodyPost_ret (results_ct rfl _ _ gb407 48 #[.int .i64 0, .string (⟨#[]⟩ : ByteArray), .slice none 0 0] (0, 0) _ rfl xB Tryz.underlying48 rfl (by kernel_rfl)) rfl ?_
 exact ⟨_, y0_13, Kd.R_nil _ _ _ _ _, UpW.out⟩

end Go.Proofs.YtdmjhgogljhfkaaGreatDoor.PFnExactTableAdd
