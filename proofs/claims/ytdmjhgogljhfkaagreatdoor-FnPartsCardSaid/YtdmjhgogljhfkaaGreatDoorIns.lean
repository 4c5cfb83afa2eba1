-- slices.Insert at one number and impl.SetAdd's closure: contracts by hand.
import Derived.Shelf.Spec.SlicesInsertGrow
import Derived.Test.YtdmjhgogljhfkaaGreatDoorShelf
import Derived.Test.YtdmjhgogljhfkaaGreatDoorWWords
import Derived.Test.YtdmjhgogljhfkaaGreatDoorWLast
import Derived.Test.YtdmjhgogljhfkaaGreatDoorWMore
import Derived.Test.YtdmjhgogljhfkaaGreatDoorWTiny
import Derived.Test.YtdmjhgogljhfkaaGreatDoorWUp
namespace Go.Proofs
open Go.Shelf
def Tryz.lays2_21_ren : Go.Shelf.Ren := ⟨fun | 21 => 170 | 27 => 192 | 28 => 193 | 35 => 202 | 39 => 208 | n => n, fun | 22 => 25 | 3 => 3 | 4 => 4 | 0 => 0 | n => n, fun | n => n⟩
theorem Tryz.lays2_21 : Go.Proofs.Lays2.n21 Tryz.prog Tryz.lays2_21_ren := {
  mixed := by kernel_rfl
  f21 := Tryz.func170.trans (congrArg some (by kernel_rfl))
  f27 := Tryz.func192.trans (congrArg some (by kernel_rfl))
  f28 := Tryz.func193.trans (congrArg some (by kernel_rfl))
  f35 := Tryz.func202.trans (congrArg some (by kernel_rfl))
  f39 := Tryz.func208.trans (congrArg some (by kernel_rfl))
  t0 := Tryz.underlying0
  a0 := Tryz.isAgg0
  z0 := Tryz.sizeOf0
  v0 := Tryz.zeroValue0
  t3 := Tryz.underlying3
  a3 := Tryz.isAgg3
  z3 := Tryz.sizeOf3
  v3 := Tryz.zeroValue3
  t4 := Tryz.underlying4
  a4 := Tryz.isAgg4
  z4 := Tryz.sizeOf4
  v4 := Tryz.zeroValue4
  t22 := Tryz.underlying25
  a22 := Tryz.isAgg25
  z22 := Tryz.sizeOf25
  v22 := Tryz.zeroValue25
  i3 := by kernel_rfl }
end Go.Proofs
namespace Go.Proofs.YtdmjhgogljhfkaaGreatDoor.Ins
open Go.RowKit Go.Proofs.YtdmjhgogljhfkaaGreatDoorW.PrintWords Go.Proofs.YtdmjhgogljhfkaaGreatDoorW.PrintLast Go.Proofs.YtdmjhgogljhfkaaGreatDoorW.PrintMore
set_option linter.unusedVariables false
theorem setRow {g : Nat} {e : TypeId} : ∀ (vs : List Value) (o : Nat) (w : World) (cur : Array Value), w.heap[g]? = some (.cells cur e (0, 0)) → o + vs.length ≤ cur.size →
    ∃ cur', (w.setCells g o vs).heap[g]? = some (.cells cur' e (0, 0)) ∧ cur'.size = cur.size ∧ cur'.toList = cur.toList.take o ++ vs ++ cur.toList.drop (o + vs.length)
  | [], o, w, cur, h, _ => ⟨cur, h, rfl, by simp⟩
  | v :: r, o, w, cur, h, hl => by
    have h2 := blk_set h o v
    simp only [List.length_cons] at hl
    obtain ⟨cur', h3, h4, h5⟩ := setRow r (o + 1) (w.setCell ⟨g, o, none⟩ v) _ h2 (by simp; omega)
    refine ⟨cur', h3, by rw [h4]; simp, ?_⟩
    rw [h5, Array.toList_setIfInBounds]
    have ho : o < cur.toList.length := by rw [Array.length_toList]; omega
    rw [List.take_set, List.drop_set_of_lt (by omega)]
    rw [List.take_succ_eq_append_getElem ho, List.set_append, if_neg (by rw [List.length_take]; omega)]
    have : (o - (List.take o cur.toList).length) = 0 := by rw [List.length_take]; omega
    rw [this]
    simp [Nat.add_assoc, Nat.add_comm 1]
theorem belowSet {B g : Nat} (hg : B ≤ g) : ∀ (vs : List Value) (o : Nat) {a w : World}, Below B a w → Below B a (w.setCells g o vs)
  | [], _, _, _, h => h
  | v :: r, o, a, w, h => belowSet hg r (o + 1) (h.setCell hg v)
/-- A row of whole numbers, told by its block. -/
theorem row_of {W : World} {g cap base : Nat} {cur : Array Value} {ys : List Int} (h : W.heap[g]? = some (.cells cur 3 (0, 0))) (hb : base ≤ g) (hn : ys.length ≤ cap) (hc : cap ≤ maxLen) (hs : cur.size = cap) (ht : cur.toList.take ys.length = ys.map (Value.int .i64)) :
    Kd.R (Kd.int .i64) 3 W base (fun _ => True) (.slice (some ⟨g, 0, none⟩) ys.length cap) ys := by
  refine ⟨fun _ _ => trivial, ys.map (Value.int .i64), ⟨by show (ys.map (Value.int .i64)).length = ys.length * 1; simp, .inr ⟨g, cap, cur, rfl, hb, h, hn, hc, ?_, ?_⟩⟩, ?_, ?_⟩
  · show cur.size = cap * 1
    omega
  · show cur.toList.take (ys.length * 1) = _
    rw [Nat.mul_one, ht]
  · show (ys.map (Value.int .i64)).length = ys.length * 1
    simp
  · intro j p hj
    show ((ys.map (Value.int .i64)).drop (j * 1)).take 1 = [Value.int .i64 p]
    obtain ⟨hl, hp⟩ := List.getElem?_eq_some_iff.1 hj
    rw [Nat.mul_one, List.drop_eq_getElem_cons (by simpa using hl), List.take_succ_cons, List.take_zero, List.getElem_map, hp]
theorem lst1 (L M R : List Value) (n i : Nat) (a : Value) (hM : L.take n = M) (hl : M.length = n) (hn : n < L.length) (hi : i < n) :
    ((L.take (i + 1) ++ M.drop i ++ R).take i ++ [a] ++ (L.take (i + 1) ++ M.drop i ++ R).drop (i + [a].length)).take (n + 1) = M.take i ++ [a] ++ M.drop i := by
  have h1 : (L.take (i + 1)).length = i + 1 := by rw [List.length_take]; omega
  have h2 : M.take i = L.take i := by rw [← hM, List.take_take]; congr 1; omega
  have e1 : (L.take (i + 1) ++ M.drop i ++ R).take i = M.take i := by
    rw [List.append_assoc, List.take_append_of_le_length (by rw [h1]; omega), List.take_take, Nat.min_eq_left (by omega), h2]
  have e2 : (L.take (i + 1) ++ M.drop i ++ R).drop (i + [a].length) = M.drop i ++ R := by
    show (L.take (i + 1) ++ M.drop i ++ R).drop (i + 1) = _
    rw [List.append_assoc, List.drop_append_of_le_length (by rw [h1]; exact Nat.le_refl _), List.drop_of_length_le (by rw [h1]; exact Nat.le_refl _), List.nil_append]
  have h3 : (M.take i ++ [a] ++ M.drop i).length = n + 1 := by
    rw [List.length_append, List.length_append, List.length_take, List.length_drop, List.length_singleton]; omega
  rw [e1, e2, ← List.append_assoc, List.take_append_of_le_length (by rw [h3]; exact Nat.le_refl _), List.take_of_length_le (by rw [h3]; exact Nat.le_refl _)]
theorem lst2 (L M S : List Value) (n i : Nat) (a : Value) (hM : L.take i = M.take i) (hl : M.length = n) (hi : i < n) :
    ((L.take i ++ [a] ++ L.drop (i + [a].length)).take (i + 1) ++ M.drop i ++ S).take (n + 1) = M.take i ++ [a] ++ M.drop i := by
  have h1 : (M.take i ++ [a]).length = i + 1 := by
    rw [List.length_append, List.length_take, List.length_singleton]; omega
  have e1 : (L.take i ++ [a] ++ L.drop (i + [a].length)).take (i + 1) = M.take i ++ [a] := by
    rw [hM, List.take_append_of_le_length (by rw [h1]; exact Nat.le_refl _), List.take_of_length_le (by rw [h1]; exact Nat.le_refl _)]
  have h3 : (M.take i ++ [a] ++ M.drop i).length = n + 1 := by
    rw [List.length_append, h1, List.length_drop]; omega
  rw [e1, List.take_append_of_le_length (by rw [h3]; exact Nat.le_refl _), List.take_of_length_le (by rw [h3]; exact Nat.le_refl _)]
theorem zc (n : Nat) : (Builtin.zeroCells (Value.int .i64 0).cells n).size = n := by
  have h1 : (Value.int .i64 0).cells.size = 1 := rfl
  simp [Builtin.zeroCells, h1]
theorem r3 : Tryz.lays2_21_ren.t 3 = 3 := rfl
/-- slices.Insert of one number into a row of the call's own. -/
theorem ins (w : World) (base : Nat) (ok : Nat → Prop) (v : Value) (xs : List Int) (i : Nat) (x : Int) (vb : Nat) (hR : Kd.R (Kd.int .i64) 3 w base ok v xs) (hbase : base ≤ w.heap.size) (hi : i ≤ xs.length) (hlen : xs.length + 1 ≤ 17592186044416)
    (hv : w.heap[vb]? = some (.cells #[.int .i64 x] 3 (0, 0))) (hne : some vb ≠ v.ownBlock) :
    Calls Tryz.prog 170 #[v, .int .i64 (i : Int), .slice (some ⟨vb, 0, none⟩) 1 1] w fun e w' => ∃ v', e = .returned v' ∧ Kd.R (Kd.int .i64) 3 w' base (fun _ => True) v' (xs.take i ++ x :: xs.drop i) ∧ Below base w w' := by
  have ho := Kd.own_of_R hR
  obtain ⟨hl1, ho⟩ := ho
  have hvs : ∀ j u, [Value.int .i64 x][j]? = some u → w.cell? ⟨vb, 0 + j, none⟩ = some u := by
    intro j u hj
    rw [Nat.zero_add, blk_cell hv]
    simpa using hj
  have h1v : ∀ u ∈ [Value.int .i64 x], u.oneCell' = true := by
    intro u hu
    rw [List.mem_singleton.1 hu]; rfl
  have hysl : (xs.take i ++ x :: xs.drop i).length = xs.length + 1 := by
    rw [List.length_append, List.length_cons, List.length_take, List.length_drop]; omega
  have hml : xs.length + 1 ≤ maxLen := by
    have : (17592186044416 : Nat) ≤ maxLen := by decide
    omega
  rcases ho with ⟨rfl, h0⟩ | ⟨g, cap, cur, rfl, hg, hh, hnc, hcm, hsz, htk⟩
  · have hx : xs = [] := List.length_eq_zero_iff.1 h0
    subst hx
    obtain rfl : i = 0 := by simpa using hi
    refine (Any2.slices_Insert_int_end_grow Tryz.lays2_21 none 0 0 vb 0 1 1 [] [.int .i64 x] w (by decide) (by decide) (by decide) (by decide) rfl rfl (fun _ => rfl) (fun a h => by simp at h) hvs h1v).mono ?_
    rintro e w' ⟨rfl, rfl⟩
    refine ⟨_, rfl, ?_, ?_⟩
    · have hge := grownCap_ge w (0 + 1) 0 3
      refine row_of (ys := [x]) (blk_new _ _) hbase hge (grownCap_le_maxLen _ _ _ _ (by decide)) ?_ ?_
      · rw [Array.size_append, zc, r3]
        show 1 + _ = _
        omega
      · simp
    · exact Below.alloc (below_drew (Below.refl _ _)) hbase _
  · rw [Nat.mul_one] at htk hsz
    have htk' : cur.toList.take xs.length = xs.map (Value.int .i64) := htk
    have hcml : cap ≤ 9223372036854775807 := hcm
    have hcl : cur.toList.length = cap := by rw [Array.length_toList]; exact hsz
    have hcs : ∀ j u, (xs.map (Value.int .i64))[j]? = some u → w.cell? ⟨g, 0 + j, none⟩ = some u := by
      intro j u hj
      rw [← htk', List.getElem?_take] at hj
      rw [Nat.zero_add, blk_cell hh]
      split at hj
      · simpa using hj
      · simp at hj
    have h1c : ∀ u ∈ xs.map (Value.int .i64), u.oneCell' = true := by
      intro u hu
      obtain ⟨y, _, rfl⟩ := List.mem_map.1 hu
      rfl
    have hsp : ∀ j, j < cap → (w.cell? ⟨g, 0 + j, none⟩).isSome = true := by
      intro j hj
      rw [Nat.zero_add, blk_cell hh, Array.getElem?_eq_getElem (by omega)]; rfl
    have hfz : ∀ j, w.frozen? ⟨g, 0 + j, none⟩ = false := fun j => blk_frozen hh _
    have hvg : vb ≠ g := by
      rintro rfl
      exact hne rfl
    have hgw : g < w.heap.size := blk_lt hh
    have hmi : ∀ a b : List Int, (a ++ x :: b).map (Value.int .i64) = a.map (Value.int .i64) ++ [Value.int .i64 x] ++ b.map (Value.int .i64) := by
      intro a b; simp
    rcases Nat.lt_or_ge xs.length cap with hroom | hroom
    · rcases Nat.lt_or_ge i xs.length with hin | hin
      · refine (Any2.slices_Insert_int_shift Tryz.lays2_21 g 0 xs.length cap i vb 0 1 1 (xs.map (Value.int .i64)) [.int .i64 x] w hin (by decide) (by omega) hcml hvg (by simp) rfl hcs (fun j hj => hsp j (by omega)) (fun j _ => hfz j) hvs h1c h1v 3 3 1 cap ?_ ?_ (by omega) ?_ ?_).mono ?_
        · simp [World.shape?, hv]
        · simp [World.shape?, hh, hsz]
        · exact blk_frozen hv _
        · exact blk_frozen hv _
        · rintro e w' ⟨rfl, rfl⟩
          have hdl : ((xs.map (Value.int .i64)).drop i).length = xs.length - i := by simp
          obtain ⟨c1, k1, k2, k3⟩ := setRow ((xs.map (Value.int .i64)).drop i) (0 + (i + 1)) w.drew cur hh (by rw [hdl]; omega)
          obtain ⟨c2, m1, m2, m3⟩ := setRow [Value.int .i64 x] (0 + i) _ c1 k1 (by simp; omega)
          refine ⟨_, rfl, ?_, belowSet hg _ _ (belowSet hg _ _ (below_drew (Below.refl _ _)))⟩
          rw [← hysl]
          refine row_of m1 hg (by omega) hcm (by omega) ?_
          rw [hysl, m3, k3, hmi, Nat.zero_add, Nat.zero_add, hdl, List.map_take, List.map_drop]
          exact lst1 _ _ _ _ _ _ htk' (by simp) (by omega) hin
      · obtain rfl : i = xs.length := by omega
        refine (Any2.slices_Insert_int_end_room Tryz.lays2_21 g 0 xs.length cap vb 0 1 1 [.int .i64 x] w (by decide) (by omega) hcml rfl ?_ ?_ hvs h1v).mono ?_
        · intro j hj
          have := hsp (xs.length + j) (by omega)
          rwa [← Nat.add_assoc] at this
        · intro j hj
          have := hfz (xs.length + j)
          rwa [← Nat.add_assoc] at this
        · rintro e w' ⟨rfl, rfl⟩
          obtain ⟨cur', k1, k2, k3⟩ := setRow [Value.int .i64 x] (0 + xs.length) w cur hh (by simp; omega)
          refine ⟨_, rfl, ?_, belowSet hg _ _ (Below.refl _ _)⟩
          rw [← hysl]
          refine row_of k1 hg (by omega) hcm (by omega) ?_
          rw [k3, hysl, hmi, Nat.zero_add, htk', List.take_length, List.drop_length]
          rw [List.take_append_of_le_length (by simp), List.take_of_length_le (by simp)]
          simp
    · rcases Nat.lt_or_ge i xs.length with hin | hin
      · refine (Any2.slices_Insert_int_grow Tryz.lays2_21 g 0 xs.length cap i vb 0 1 1 (xs.map (Value.int .i64)) [.int .i64 x] w hin (by decide) hnc (by omega) (by omega) (by simp) rfl hcs hvs h1c h1v).mono ?_
        rintro e w' ⟨rfl, rfl⟩
        have hge := grownCap_ge w (xs.length + 1) cap 3
        have hdl : ((xs.map (Value.int .i64)).drop i).length = xs.length - i := by simp
        have htl : ((xs.map (Value.int .i64)).take i).length = i := by simp; omega
        rw [r3]
        have hA := blk_new w (.cells (((xs.map (Value.int .i64)).take i).toArray ++ Builtin.zeroCells (Value.int .i64 0).cells (xs.length + 1 - i) ++ Builtin.zeroCells (Value.int .i64 0).cells (grownCap w (xs.length + 1) cap 3 - (xs.length + 1))) 3)
        have hAs : (((xs.map (Value.int .i64)).take i).toArray ++ Builtin.zeroCells (Value.int .i64 0).cells (xs.length + 1 - i) ++ Builtin.zeroCells (Value.int .i64 0).cells (grownCap w (xs.length + 1) cap 3 - (xs.length + 1))).size = grownCap w (xs.length + 1) cap 3 := by
          rw [Array.size_append, Array.size_append, zc, zc, List.size_toArray, htl]
          omega
        have hAt : (((xs.map (Value.int .i64)).take i).toArray ++ Builtin.zeroCells (Value.int .i64 0).cells (xs.length + 1 - i) ++ Builtin.zeroCells (Value.int .i64 0).cells (grownCap w (xs.length + 1) cap 3 - (xs.length + 1))).toList.take i = (xs.map (Value.int .i64)).take i := by
          simp only [Array.toList_append]
          rw [List.append_assoc, List.take_append_of_le_length (by rw [htl]; exact Nat.le_refl _), List.take_of_length_le (by rw [htl]; exact Nat.le_refl _)]
        generalize (((xs.map (Value.int .i64)).take i).toArray ++ Builtin.zeroCells (Value.int .i64 0).cells (xs.length + 1 - i) ++ Builtin.zeroCells (Value.int .i64 0).cells (grownCap w (xs.length + 1) cap 3 - (xs.length + 1))) = A0 at hA hAs hAt ⊢
        obtain ⟨c1, k1, k2, k3⟩ := setRow [Value.int .i64 x] i (w.alloc (.cells A0 3)).drew A0 hA (by simp; omega)
        obtain ⟨c2, m1, m2, m3⟩ := setRow ((xs.map (Value.int .i64)).drop i) (i + 1) ((w.alloc (.cells A0 3)).drew.setCells w.heap.size i [Value.int .i64 x]).drew c1 k1 (by rw [hdl]; omega)
        refine ⟨_, rfl, ?_, belowSet hbase _ _ (below_drew (belowSet hbase _ _ (below_drew (Below.alloc (Below.refl _ _) hbase _))))⟩
        rw [← hysl] at hge ⊢
        refine row_of m1 hbase hge (grownCap_le_maxLen _ _ _ _ (by rw [hysl]; exact hml)) (by rw [hysl]; omega) ?_
        rw [hysl, m3, k3, hmi, hdl, List.map_take, List.map_drop]
        exact lst2 _ _ _ _ _ _ hAt (by simp) hin
      · obtain rfl : i = xs.length := by omega
        refine (Any2.slices_Insert_int_end_grow Tryz.lays2_21 (some ⟨g, 0, none⟩) xs.length cap vb 0 1 1 (xs.map (Value.int .i64)) [.int .i64 x] w (by decide) hnc (by omega) (by omega) (by simp) rfl (fun h => by simp at h) ?_ hvs h1v).mono ?_
        · rintro a ha j u hj
          obtain rfl := Option.some.inj ha
          have := hcs j u hj
          rw [Nat.zero_add] at this
          by_cases hj0 : j = 0
          · subst hj0
            simpa [Addr.add] using this
          · simpa [Addr.add, hj0] using this
        · rintro e w' ⟨rfl, rfl⟩
          refine ⟨_, rfl, ?_, Below.alloc (below_drew (Below.refl _ _)) hbase _⟩
          have hge := grownCap_ge w (xs.length + 1) cap 3
          rw [r3]
          rw [← hysl] at hge ⊢
          refine row_of (blk_new _ _) hbase hge (grownCap_le_maxLen _ _ _ _ (by rw [hysl]; exact hml)) ?_ ?_
          · rw [hysl] at hge
            rw [Array.size_append, zc, hysl]
            simp only [List.size_toArray, List.length_append, List.length_map, List.length_cons, List.length_nil]
            omega
          · rw [hmi, List.take_length, List.drop_length]
            simp only [Array.toList_append]
            rw [List.take_append_of_le_length (by simp), List.take_of_length_le (by simp)]
            simp
theorem pred (w : World) (g : Nat) (i : Int) (h : w.heap[g]? = some (.cells #[.int .i64 i] 3 (0, 0))) : PredAt Tryz.prog 169 #[.pointer (some ⟨g, 0, none⟩)] (Value.int .i64) (fun x : Int => decide (x ≥ i)) w := by
  intro W x hb
  have hW : W.heap[g]? = some (.cells #[.int .i64 i] 3 (0, 0)) := blk_below h hb
  have hc := bc0 hW
  have hf := blk_frozen hW 0
  show Calls Tryz.prog 169 #[.int .i64 x, .pointer (some ⟨g, 0, none⟩)] W _
  go_enter Tryz.func169, Tryz.ntmps169
  go_wp2
  go_ret
  exact ⟨rfl, 0, rfl⟩
end Go.Proofs.YtdmjhgogljhfkaaGreatDoor.Ins
