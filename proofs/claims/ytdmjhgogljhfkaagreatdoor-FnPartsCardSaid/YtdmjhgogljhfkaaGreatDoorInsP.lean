/- slices.Insert at one part (three cells an element): what it leaves in memory, by its four ways. Conditions: the row lies at its block's head, the new part lies in a block of its own, and the row is no longer than memory bears. -/
import Derived.Shelf.Spec.SlicesInsertGrow
import Derived.Test.YtdmjhgogljhfkaaGreatDoorShelf
import Derived.Test.YtdmjhgogljhfkaaGreatDoorWWords
import Derived.Test.YtdmjhgogljhfkaaGreatDoorWLast
import Derived.Test.YtdmjhgogljhfkaaGreatDoorWMore
import Derived.Test.YtdmjhgogljhfkaaGreatDoorWTiny
import Derived.Test.YtdmjhgogljhfkaaGreatDoorWUp
namespace Go.Proofs.YtdmjhgogljhfkaaGreatDoor.InsP
open Go.RowKit Go.Lib Go.Proofs.YtdmjhgogljhfkaaGreatDoorW.PrintWords Go.Proofs.YtdmjhgogljhfkaaGreatDoorW.PrintLast Go.Proofs.YtdmjhgogljhfkaaGreatDoorW.PrintMore
set_option linter.unusedVariables false
set_option linter.unusedSimpArgs false
/-- A part's zero cells. -/
def zp : Value := .agg #[.int .i64 0, .string ⟨#[]⟩, .slice none 0 0]
theorem infoP : (Tryz.prog.info? 48).map (fun i => (i.zero, i.size, i.bytes)) = some (some zp, 3, 48) := by kernel_rfl
theorem run_copy_sz {P : Program} (sz : Nat) (w : World) (dT sT ty elem : TypeId) (b o dLen dCap : Nat) (a : Addr) (sLen sCap : Nat) (cs : List Value)
    (hu : P.underlying dT = some (.slice elem)) (hs : (P.info? elem).map (·.size) = some sz) (hn : cs.length = Nat.min sLen dLen * sz)
    (hsrc : ∀ j v, cs[j]? = some v → w.cell? (a.add j) = some v) (hc : ∀ j, j < cs.length → (w.cell? ⟨b, o + j, none⟩).isSome = true) (hf : ∀ j, j < cs.length → w.frozen? ⟨b, o + j, none⟩ = false) (h1 : ∀ v ∈ cs, v.oneCell' = true) :
    (Builtin.copy_ #[dT, sT] ty #[.slice (some ⟨b, o, none⟩) dLen dCap, .slice (some a) sLen sCap]).run P w = .ok (goInt (Nat.min sLen dLen)) (w.setCells b o cs) := by
  have hl := run_loadCells_list (P := P) w a cs hsrc
  have hst := run_storeCells_cells (P := P) b o cs 0 w (by simpa using hc) (by simpa using hf) h1
  cases hq : P.info? elem with
  | none => simp [hq] at hs
  | some i =>
    have hi : i.size = sz := by simpa [hq] using hs
    simp [Builtin.copy_, run_underlying hu, Builtin.lenOf, Builtin.firstCells, sizeOf, typeInfo, hq, hi, ← hn, hl, hst]
set_option maxHeartbeats 4000000 in
set_option maxRecDepth 100000 in
theorem end_room (b n c vb : Nat) (vs : List Value) (w : World) (hroom : n + 1 ≤ c) (hc63 : c ≤ 9223372036854775807) (hvl : vs.length = 3)
    (hsp : ∀ j, j < 3 → (w.cell? ⟨b, 0 + n * 3 + j, none⟩).isSome = true) (hfz : ∀ j, j < 3 → w.frozen? ⟨b, 0 + n * 3 + j, none⟩ = false)
    (hvs : ∀ j v, vs[j]? = some v → w.cell? ⟨vb, 0 + j, none⟩ = some v) (h1v : ∀ v ∈ vs, v.oneCell' = true) :
    Calls Tryz.prog 84 #[.slice (some ⟨b, 0, none⟩) n c, .int .i64 n, .slice (some ⟨vb, 0, none⟩) 1 1] w fun e w' => e = .returned (.slice (some ⟨b, 0, none⟩) (n + 1) c) ∧ w' = w.setCells b (n * 3) vs := by
  have t44 := Tryz.underlying44
  obtain ⟨i0, hi0, hz0, hzs, hzb⟩ := info_parts infoP
  have hz1 : ¬ (((1 : Nat) : Int) = 0) := by omega
  have hsrc : Src Tryz.prog i0.size 44 (.slice (some ⟨vb, 0, none⟩) 1 1) 1 vs w := by
    rw [hzs]
    exact Src.ofSlice w t44 ⟨vb, 0, none⟩ 1 1 vs (by omega) (fun j u hj => by rw [Addr.add_lit]; exact hvs j u hj) h1v
  have hrun : ∀ ty, (Builtin.append_ #[44, 44] ty #[.slice (some ⟨b, 0, none⟩) n c, .slice (some ⟨vb, 0, none⟩) 1 1]).run Tryz.prog w = .ok (.slice (some ⟨b, 0, none⟩) (n + 1) c) (w.setCells b (n * 3) vs) := fun ty => by
    have h := run_append_room_src w 44 44 ty 48 i0 t44 hi0 b 0 n c _ 1 vs hsrc hroom (by rw [hzs, hvl]; exact hsp) (by rw [hzs, hvl]; exact hfz)
    rw [hzs, Nat.zero_add] at h
    exact h
  go_enter Tryz.func84, Tryz.ntmps84
  go_wp2_with (at_builtin; refine Lib.wpList_append_run _ rfl _ _ _ _ rfl _ _ rfl rfl _ _ (hrun _) ?_)
  go_ret
  exact ⟨rfl, rfl⟩
set_option maxHeartbeats 4000000 in
set_option maxRecDepth 100000 in
theorem end_grow (base : Option Addr) (n c vb : Nat) (cs vs : List Value) (w : World) (hnc : n ≤ c) (hroom : c < n + 1) (hbig : (n + 1) * 48 ≤ 140737488355328)
    (hcl : cs.length = n * 3) (hvl : vs.length = 3) (hnil : base = none → n = 0) (hcs : ∀ a, base = some a → ∀ j v, cs[j]? = some v → w.cell? (a.add j) = some v)
    (hvs : ∀ j v, vs[j]? = some v → w.cell? ⟨vb, 0 + j, none⟩ = some v) (h1v : ∀ v ∈ vs, v.oneCell' = true) :
    Calls Tryz.prog 84 #[.slice base n c, .int .i64 n, .slice (some ⟨vb, 0, none⟩) 1 1] w fun e w' => e = .returned (.slice (some ⟨w.heap.size, 0, none⟩) (n + 1) (grownCap w (n + 1) c 48)) ∧
      w' = w.drew.alloc (.cells ((cs ++ vs).toArray ++ Builtin.zeroCells zp.cells (grownCap w (n + 1) c 48 - (n + 1))) 48) := by
  have t44 := Tryz.underlying44
  obtain ⟨i0, hi0, hz0, hzs, hzb⟩ := info_parts infoP
  have hz1 : ¬ (((1 : Nat) : Int) = 0) := by omega
  have hsrc : Src Tryz.prog i0.size 44 (.slice (some ⟨vb, 0, none⟩) 1 1) 1 vs w := by
    rw [hzs]
    exact Src.ofSlice w t44 ⟨vb, 0, none⟩ 1 1 vs (by omega) (fun j u hj => by rw [Addr.add_lit]; exact hvs j u hj) h1v
  have hold : (Builtin.firstCells i0.size n (.slice base n c)).run Tryz.prog w.drew = .ok cs.toArray w.drew := by
    rw [hzs]
    cases base with
    | none =>
      have h0 := hnil rfl
      subst h0
      rw [List.length_eq_zero_iff.1 (show cs.length = 0 by omega)]
      exact run_firstCells_none w.drew 3 0 0 c
    | some a => exact run_firstCells_some w.drew 3 n a n c cs (by omega) (fun j v hj => hcs a rfl j v hj)
  have hrun : ∀ ty, (Builtin.append_ #[44, 44] ty #[.slice base n c, .slice (some ⟨vb, 0, none⟩) 1 1]).run Tryz.prog w = .ok (.slice (some ⟨w.heap.size, 0, none⟩) (n + 1) (grownCap w (n + 1) c 48)) (w.drew.alloc (.cells ((cs ++ vs).toArray ++ Builtin.zeroCells zp.cells (grownCap w (n + 1) c 48 - (n + 1))) 48)) := fun ty =>
    run_append_grow_src w 44 44 ty 48 i0 _ t44 hi0 hz0 base n c cs hold _ 1 vs hsrc hroom (by omega) (by rw [hzb]; exact growslice_fits hroom hbig)
  generalize ((cs ++ vs).toArray ++ Builtin.zeroCells zp.cells (grownCap w (n + 1) c 48 - (n + 1))) = ROW at hrun ⊢
  go_enter Tryz.func84, Tryz.ntmps84
  cases base with
  | none =>
    have h0 := hnil rfl
    subst h0
    go_wp2_with (at_builtin; refine Lib.wpList_append_run _ rfl _ _ _ _ rfl _ _ rfl rfl _ _ (hrun _) ?_)
    go_ret
    exact ⟨rfl, rfl⟩
  | some a =>
    obtain ⟨ab, ao, asp⟩ := a
    go_wp2_with (at_builtin; refine Lib.wpList_append_run _ rfl _ _ _ _ rfl _ _ rfl rfl _ _ (hrun _) ?_)
    all_goals (go_ret; exact ⟨rfl, rfl⟩)
set_option maxHeartbeats 4000000 in
set_option maxRecDepth 100000 in
theorem shift (b n c i vb : Nat) (cs vs : List Value) (w : World) (hi : i < n) (hroom : n + 1 ≤ c) (hc63 : c ≤ 9223372036854775807) (hvb : vb ≠ b)
    (hcl : cs.length = n * 3) (hvl : vs.length = 3)
    (hcs : ∀ j v, cs[j]? = some v → w.cell? ⟨b, 0 + j, none⟩ = some v) (hsp : ∀ j, j < (n + 1) * 3 → (w.cell? ⟨b, 0 + j, none⟩).isSome = true) (hfz : ∀ j, j < (n + 1) * 3 → w.frozen? ⟨b, 0 + j, none⟩ = false)
    (hvs : ∀ j v, vs[j]? = some v → w.cell? ⟨vb, 0 + j, none⟩ = some v) (h1c : ∀ v ∈ cs, v.oneCell' = true) (h1v : ∀ v ∈ vs, v.oneCell' = true)
    (tA tB : TypeId) (kA kB : Nat) (hsa : w.shape? vb = some (tA, kA)) (hsb : w.shape? b = some (tB, kB)) (hkB : kB ≠ 0) (hfa : w.frozen? ⟨vb, 0, none⟩ = false) (hfe : w.frozen? ⟨vb, kA, none⟩ = false) :
    Calls Tryz.prog 84 #[.slice (some ⟨b, 0, none⟩) n c, .int .i64 i, .slice (some ⟨vb, 0, none⟩) 1 1] w fun e w' =>
      e = .returned (.slice (some ⟨b, 0, none⟩) (n + 1) c) ∧ w' = (w.drew.setCells b ((i + 1) * 3) (cs.drop (i * 3))).setCells b (i * 3) vs := by
  have t44 := Tryz.underlying44
  obtain ⟨i0, hi0, hz0, hzs, hzb⟩ := info_parts infoP
  have hz1 : ¬ ((1 : Int) = 0) := by omega
  have hz2 : ¬ ((i : Int) = (n : Int)) := by omega
  have hsz : (Tryz.prog.info? 48).map (·.size) = some 3 := by rw [hi0]; simp [hzs]
  have hov : ∀ lb cb, (callFunc 138 #[.slice (some ⟨vb, 0, none⟩) 1 1, .slice (some ⟨b, (i + 1) * 3, none⟩) lb cb]).run Tryz.prog w = .ok (.value (.bool false)) w := fun lb cb => by
    rw [run_callFunc_extern Tryz.func138 (by kernel_rfl) (by kernel_rfl) (by kernel_rfl) (e := Extern.SlicesOverlaps.overlaps #[44, 44] #[4]) (by kernel_rfl),
      Lib.run_overlaps_apart w 44 4 48 t44 3 Tryz.sizeOf48 ⟨vb, 0, none⟩ ⟨b, (i + 1) * 3, none⟩ 1 1 lb cb hvb tA tB kA kB hsa hsb hkB hfa hfe]
    rfl
  have hdl : (cs.drop (i * 3)).length = (n - i) * 3 := by rw [List.length_drop, hcl]; omega
  have hcp1 : ∀ ty dc sc, (Builtin.copy_ #[44, 44] ty #[.slice (some ⟨b, (i + 1) * 3, none⟩) (n - i) dc, .slice (some ⟨b, i * 3, none⟩) (n + 1 - i) sc]).run Tryz.prog w.drew = .ok (goInt ((n - i : Nat) : Int)) (w.drew.setCells b ((i + 1) * 3) (cs.drop (i * 3))) := fun ty dc sc => by
    have h := run_copy_sz (P := Tryz.prog) 3 w.drew 44 44 ty 48 b ((i + 1) * 3) (n - i) dc ⟨b, i * 3, none⟩ (n + 1 - i) sc (cs.drop (i * 3)) t44 hsz (by rw [hdl]; simp only [Nat.min_def]; split <;> omega)
      (fun j v hj => by rw [Addr.add_lit]; have := hcs (i * 3 + j) v (by rwa [List.getElem?_drop] at hj); rwa [Nat.zero_add] at this)
      (fun j hj => by have := hsp ((i + 1) * 3 + j) (by omega); rwa [Nat.zero_add] at this) (fun j hj => by have := hfz ((i + 1) * 3 + j) (by omega); rwa [Nat.zero_add] at this) (fun v hv => h1c v (List.mem_of_mem_drop hv))
    rw [show Nat.min (n + 1 - i) (n - i) = n - i by simp only [Nat.min_def]; split <;> omega] at h
    exact h
  obtain ⟨W1, hW1⟩ : ∃ W1, W1 = w.drew.setCells b ((i + 1) * 3) (cs.drop (i * 3)) := ⟨_, rfl⟩
  have hsp1 : ∀ k, k < (n + 1) * 3 → (W1.cell? ⟨b, k, none⟩).isSome = true := fun k hk => by
    rw [hW1]
    exact isSome_setCells b _ _ _ (fun j hj => by have := hsp ((i + 1) * 3 + j) (by omega); rwa [Nat.zero_add] at this) _ (by have := hsp k hk; rwa [Nat.zero_add] at this)
  have hcp2 : ∀ (W : World), (∀ x, W.cell? x = W1.cell? x) → (∀ x, W.frozen? x = W1.frozen? x) → ∀ ty dc, (Builtin.copy_ #[44, 44] ty #[.slice (some ⟨b, i * 3, none⟩) (n + 1 - i) dc, .slice (some ⟨vb, 0, none⟩) 1 1]).run Tryz.prog W = .ok (goInt 1) (W.setCells b (i * 3) vs) := fun W hWc hWf ty dc => by
    have h := run_copy_sz (P := Tryz.prog) 3 W 44 44 ty 48 b (i * 3) (n + 1 - i) dc ⟨vb, 0, none⟩ 1 1 vs t44 hsz (by rw [hvl]; simp only [Nat.min_def]; split <;> omega)
      (fun j v hj => by
        rw [Addr.add_lit, hWc, hW1, World.cell?_setCells_out b _ _ _ _ (fun h _ => absurd h hvb)]
        exact hvs j v hj)
      (fun j hj => by rw [hWc]; exact hsp1 _ (by omega)) (fun j hj => by rw [hWf, hW1, World.frozen?_setCells]; have := hfz (i * 3 + j) (by omega); rwa [Nat.zero_add] at this) h1v
    rw [show Nat.min 1 (n + 1 - i) = 1 by simp only [Nat.min_def]; split <;> omega] at h
    exact h
  have hw1 : IntKind.i64.wrap ((i : Int) + 1) = (i : Int) + 1 := by rw [IntKind.wrap_i64]; omega
  have hb1 : (0 : Int) ≤ (i : Int) + 1 := by omega
  have hin : i ≤ n := by omega
  have htn : ((i : Int) + 1).toNat = i + 1 := by omega
  have hb2 : ¬ (c = i + 1) := by omega
  have hb3 : (i : Int) ≤ (n : Int) + 1 := by omega
  have hb4 : ¬ (c = i) := by omega
  have hb5 : (i : Int) ≤ (n : Int) := by omega
  have hb6 : (i : Int) + 1 ≤ (n : Int) + 1 := by omega
  have mixed : Tryz.prog.follows .mixedOrders = true := by kernel_rfl
  rw [← hW1] at hcp1 ⊢
  go_enter Tryz.func84, Tryz.ntmps84
  go_wp2_with (simp only [hov])
  go_region_law_o (refine step_copy_runI rfl _ _ 44 44 rfl _ _ (by simp [Act.eval, Act.put]) (by simp [Act.eval, Act.put]) (hcp1 _ _ _) ?_)
  go_wp2_with (at_builtin; refine wpList_copy_runI _ rfl _ _ 44 44 rfl _ _ rfl rfl (hcp2 _ (fun _ => rfl) (fun _ => rfl) _ _) ?_)
  go_ret
  first | exact ⟨rfl, rfl⟩ | exact ⟨rfl, by rw [hW1]⟩
set_option maxHeartbeats 4000000 in
set_option maxRecDepth 100000 in
theorem mid_grow (b n c i vb : Nat) (cs vs : List Value) (w : World) (hi : i < n) (hnc : n ≤ c) (hroom : c < n + 1) (hbig : (n + 1) * 48 ≤ 140737488355328)
    (hcl : cs.length = n * 3) (hvl : vs.length = 3)
    (hcs : ∀ j v, cs[j]? = some v → w.cell? ⟨b, 0 + j, none⟩ = some v)
    (hvs : ∀ j v, vs[j]? = some v → w.cell? ⟨vb, 0 + j, none⟩ = some v) (h1c : ∀ v ∈ cs, v.oneCell' = true) (h1v : ∀ v ∈ vs, v.oneCell' = true) :
    Calls Tryz.prog 84 #[.slice (some ⟨b, 0, none⟩) n c, .int .i64 i, .slice (some ⟨vb, 0, none⟩) 1 1] w fun e w' =>
      e = .returned (.slice (some ⟨w.heap.size, 0, none⟩) (n + 1) (grownCap w (n + 1) c 48)) ∧
      w' = (((w.alloc (.cells ((cs.take (i * 3)).toArray ++ Builtin.zeroCells zp.cells (n + 1 - i) ++ Builtin.zeroCells zp.cells (grownCap w (n + 1) c 48 - (n + 1))) 48)).drew.setCells w.heap.size (i * 3) vs).drew).setCells w.heap.size ((i + 1) * 3) (cs.drop (i * 3)) := by
  have t44 := Tryz.underlying44
  have mixed : Tryz.prog.follows .mixedOrders = true := by kernel_rfl
  obtain ⟨i0, hi0, hz0, hzs, hzb⟩ := info_parts infoP
  have hz1 : ¬ ((1 : Int) = 0) := by omega
  have hz2 : ¬ ((i : Int) = (n : Int)) := by omega
  have hz3 : (c : Int) < (n : Int) + 1 := by omega
  have hsz : (Tryz.prog.info? 48).map (·.size) = some 3 := by rw [hi0]; simp [hzs]
  have hbw : b < w.heap.size := block_lt_of_cell (hcs 0 _ (List.getElem?_eq_getElem (by omega)))
  have hvw : vb < w.heap.size := block_lt_of_cell (hvs 0 _ (List.getElem?_eq_getElem (by omega)))
  have hkk : (n : Int) + 1 - (i : Int) = ((n + 1 - i : Nat) : Int) := by omega
  have hik : i + (n + 1 - i) = n + 1 := by omega
  have hold : (Builtin.firstCells i0.size i (.slice (some ⟨b, 0, none⟩) i c)).run Tryz.prog w.drew = .ok (cs.take (i * 3)).toArray w.drew := by
    rw [hzs]
    exact run_firstCells_some w.drew 3 i ⟨b, 0, none⟩ i c (cs.take (i * 3)) (by rw [List.length_take]; omega) (fun j v hj => by
      rw [Addr.add_lit]
      rw [List.getElem?_take] at hj
      split at hj
      · exact hcs j v hj
      · cases hj)
  have hrz : ∀ ty, (Builtin.append_ #[44, 3] ty #[.slice (some ⟨b, 0, none⟩) i c, .int .i64 ((n : Int) + 1 - (i : Int))]).run Tryz.prog w =
      .ok (.slice (some ⟨w.heap.size, 0, none⟩) (n + 1) (grownCap w (n + 1) c 48)) (w.drew.alloc (.cells ((cs.take (i * 3)).toArray ++ Builtin.zeroCells zp.cells (n + 1 - i) ++ Builtin.zeroCells zp.cells (grownCap w (n + 1) c 48 - (n + 1))) 48)) := fun ty => by
    have h := Lib.run_append_grow_zeros w 44 3 ty 48 i0 _ .i64 .i64 t44 Tryz.underlying3 hi0 hz0 (some ⟨b, 0, none⟩) i c (cs.take (i * 3)) hold (n + 1 - i) (by omega) (by omega) (by omega) (by omega) (by rw [hzb]; omega) (by rw [hzb, hik]; exact growslice_fits hroom hbig)
    rw [hik] at h
    rw [hkk]
    exact h
  obtain ⟨G, hG⟩ : ∃ G, G = grownCap w (n + 1) c 48 := ⟨_, rfl⟩
  obtain ⟨ROW, hROW⟩ : ∃ ROW : Array Value, ROW = (cs.take (i * 3)).toArray ++ Builtin.zeroCells zp.cells (n + 1 - i) ++ Builtin.zeroCells zp.cells (G - (n + 1)) := ⟨_, rfl⟩
  rw [← hG] at hrz ⊢
  rw [← hROW] at hrz ⊢
  have hRl : (n + 1) * 3 ≤ ROW.size := by
    rw [hROW]
    have e : zp.cells.size = 3 := rfl
    simp only [Builtin.zeroCells, Array.size_append, List.size_toArray, List.length_take, Array.size_map, Array.size_range, e]
    omega
  obtain ⟨W1, hW1⟩ : ∃ W1, W1 = w.drew.alloc (.cells ROW 48) := ⟨_, rfl⟩
  rw [← hW1] at hrz
  have hN : ∀ j, j < (n + 1) * 3 → (W1.cell? ⟨w.heap.size, j, none⟩).isSome = true := fun j hj => by
    rw [hW1, World.cell?_alloc_at (w := w.drew) ROW _ w.heap.size j rfl, Array.getElem?_eq_getElem (by omega)]; rfl
  have hNf : ∀ j, W1.frozen? ⟨w.heap.size, j, none⟩ = false := fun j => by rw [hW1]; exact World.frozen?_alloc_at (w := w.drew) ROW _ w.heap.size j rfl
  have hOb : ∀ j v, w.cell? ⟨b, j, none⟩ = some v → W1.cell? ⟨b, j, none⟩ = some v := fun j v h => by rw [hW1, World.cell?_alloc_past (w := w.drew) _ b j hbw]; exact h
  have hOv : ∀ j v, w.cell? ⟨vb, j, none⟩ = some v → W1.cell? ⟨vb, j, none⟩ = some v := fun j v h => by rw [hW1, World.cell?_alloc_past (w := w.drew) _ vb j hvw]; exact h
  have hcpA : ∀ (W : World), (∀ x, W.cell? x = W1.cell? x) → (∀ x, W.frozen? x = W1.frozen? x) → ∀ ty dc, (Builtin.copy_ #[44, 44] ty #[.slice (some ⟨w.heap.size, i * 3, none⟩) (n + 1 - i) dc, .slice (some ⟨vb, 0, none⟩) 1 1]).run Tryz.prog W = .ok (goInt 1) (W.setCells w.heap.size (i * 3) vs) := fun W hWc hWf ty dc => by
    have h := run_copy_sz (P := Tryz.prog) 3 W 44 44 ty 48 w.heap.size (i * 3) (n + 1 - i) dc ⟨vb, 0, none⟩ 1 1 vs t44 hsz (by rw [hvl]; simp only [Nat.min_def]; split <;> omega)
      (fun j v hj => by rw [Addr.add_lit, hWc]; exact hOv _ v (hvs j v hj))
      (fun j hj => by rw [hWc]; exact hN _ (by omega)) (fun j hj => by rw [hWf]; exact hNf _) h1v
    rw [show Nat.min 1 (n + 1 - i) = 1 by simp only [Nat.min_def]; split <;> omega] at h
    exact h
  have hGn : n + 1 ≤ G := by rw [hG]; exact grownCap_ge w _ _ _
  have hG63 : G ≤ 9223372036854775807 := by
    have := grownCap_le_maxLen w (n + 1) c 48 (by unfold maxLen; omega)
    rw [← hG] at this
    unfold maxLen at this
    omega
  have hGi : ¬ (G = i) := by omega
  have hGim : ¬ (G = i + 1) := by omega
  have hci : ¬ (c = i) := by omega
  have hbN : b ≠ w.heap.size := by omega
  have hdl : (cs.drop (i * 3)).length = (n - i) * 3 := by rw [List.length_drop, hcl]; omega
  have hcpB : ∀ (W : World), (∀ x, W.cell? x = (W1.setCells w.heap.size (i * 3) vs).cell? x) → (∀ x, W.frozen? x = (W1.setCells w.heap.size (i * 3) vs).frozen? x) → ∀ ty dc sc, (Builtin.copy_ #[44, 44] ty #[.slice (some ⟨w.heap.size, (i + 1) * 3, none⟩) (n - i) dc, .slice (some ⟨b, i * 3, none⟩) (n - i) sc]).run Tryz.prog W = .ok (goInt ((n - i : Nat) : Int)) (W.setCells w.heap.size ((i + 1) * 3) (cs.drop (i * 3))) := fun W hWc hWf ty dc sc => by
    have h := run_copy_sz (P := Tryz.prog) 3 W 44 44 ty 48 w.heap.size ((i + 1) * 3) (n - i) dc ⟨b, i * 3, none⟩ (n - i) sc (cs.drop (i * 3)) t44 hsz (by rw [hdl]; simp only [Nat.min_def]; split <;> omega)
      (fun j v hj => by
        rw [Addr.add_lit, hWc, World.cell?_setCells_out _ _ _ _ _ (fun h _ => absurd h hbN)]
        refine hOb _ v ?_
        have := hcs (i * 3 + j) v (by rwa [List.getElem?_drop] at hj)
        rwa [Nat.zero_add] at this)
      (fun j hj => by rw [hWc]; exact isSome_setCells _ _ _ _ (fun t ht => hN _ (by omega)) _ (hN _ (by omega)))
      (fun j hj => by rw [hWf, World.frozen?_setCells]; exact hNf _) (fun v hv => h1c v (List.mem_of_mem_drop hv))
    rw [show Nat.min (n - i) (n - i) = n - i by simp only [Nat.min_def]; split <;> omega] at h
    exact h
  subst hW1
  have hE1 : ∀ x, ((w.alloc (.cells ROW 48)).drew).cell? x = (w.drew.alloc (.cells ROW 48)).cell? x := fun x => rfl
  have hE2 : ∀ x, ((w.alloc (.cells ROW 48)).drew).frozen? x = (w.drew.alloc (.cells ROW 48)).frozen? x := fun x => rfl
  have hF1 : ∀ x, (((w.alloc (.cells ROW 48)).drew.setCells w.heap.size (i * 3) vs).drew).cell? x = ((w.drew.alloc (.cells ROW 48)).setCells w.heap.size (i * 3) vs).cell? x := fun x => rfl
  have hF2 : ∀ x, (((w.alloc (.cells ROW 48)).drew.setCells w.heap.size (i * 3) vs).drew).frozen? x = ((w.drew.alloc (.cells ROW 48)).setCells w.heap.size (i * 3) vs).frozen? x := fun x => rfl
  have hw1 : IntKind.i64.wrap ((i : Int) + 1) = (i : Int) + 1 := by rw [IntKind.wrap_i64]; omega
  have hb1 : (0 : Int) ≤ (i : Int) + 1 := by omega
  have hin : i ≤ n := by omega
  have htn : ((i : Int) + 1).toNat = i + 1 := by omega
  have hb3 : (i : Int) ≤ (n : Int) := by omega
  have hb6 : (i : Int) + 1 ≤ (n : Int) + 1 := by omega
  clear hkk hik hold hROW hG hRl
  go_enter Tryz.func84, Tryz.ntmps84
  go_wp2_with (first
    | (at_builtin; refine Lib.wpList_append_run _ rfl _ _ _ _ rfl _ _ rfl rfl _ _ (hrz _) ?_)
    | (at_builtin; refine wpList_copy_runI _ rfl _ _ 44 44 rfl _ _ rfl rfl (hcpA _ hE1 hE2 _ _) ?_)
    | (at_builtin; refine wpList_copy_runI _ rfl _ _ 44 44 rfl _ _ rfl rfl (hcpB _ (fun _ => rfl) (fun _ => rfl) _ _ _) ?_))
  go_region_law_o (refine step_copy_runI rfl _ _ 44 44 rfl (.slice (some ⟨w.heap.size, (i + 1) * 3, none⟩) (n - i) (G - (i + 1))) (.slice (some ⟨b, i * 3, none⟩) (n - i) (c - i)) (by simp [Act.eval, Act.put]) (by simp [Act.eval, Act.put]) (hcpB _ hF1 hF2 3 (G - (i + 1)) (c - i)) ?_)
  go_wp2
  go_ret
  exact ⟨rfl, rfl⟩
theorem cells_lo (inner c : List Value) (sz i j : Nat) (hj : j < i) (hi : i * sz ≤ inner.length) : ((inner.take (i * sz) ++ c ++ inner.drop (i * sz)).drop (j * sz)).take sz = (inner.drop (j * sz)).take sz := by
  have h1 : j * sz + sz ≤ i * sz := by rw [← Nat.succ_mul]; exact Nat.mul_le_mul_right _ hj
  rw [List.append_assoc, List.drop_append_of_le_length (by rw [List.length_take]; omega), List.take_append_of_le_length (by rw [List.length_drop, List.length_take]; omega), List.drop_take, List.take_take, Nat.min_eq_left (by omega)]
theorem cells_at (inner c : List Value) (sz i : Nat) (hc : c.length = sz) (hi : i * sz ≤ inner.length) : ((inner.take (i * sz) ++ c ++ inner.drop (i * sz)).drop (i * sz)).take sz = c := by
  rw [List.append_assoc, List.drop_left' (by rw [List.length_take]; omega), List.take_left' hc]
theorem cells_hi (inner c : List Value) (sz i j : Nat) (hc : c.length = sz) (hj : i ≤ j) (hi : i * sz ≤ inner.length) : ((inner.take (i * sz) ++ c ++ inner.drop (i * sz)).drop ((j + 1) * sz)).take sz = (inner.drop (j * sz)).take sz := by
  have h1 : i * sz ≤ j * sz := Nat.mul_le_mul_right _ hj
  have h2 : (j + 1) * sz = (inner.take (i * sz) ++ c).length + (j * sz - i * sz) := by
    rw [List.length_append, List.length_take, hc, Nat.succ_mul]; omega
  rw [h2, List.drop_length_add_append, List.drop_drop, show i * sz + (j * sz - i * sz) = j * sz by omega]
/-- A row into which an element has been put at place i. -/
theorem S_close {α : Type} {d : Kd α} {e : Nat} {w w1 : World} {base : Nat} {ok okp : Nat → Prop} {v v1 : Value} {xs : List α} {y : α} {c inner : List Value} {f : Nat → Nat} (i : Nat) (hi : i ≤ xs.length)
    (h0 : ∀ k, v.ownBlock = some k → ok k) (hr : Reps ((Kd.tag f d).M w base (fun k => ok k ∧ some k ≠ v.ownBlock)) d.sz xs.zipIdx inner) (hy : d.M w base okp y c) (hc : c.length = d.sz) (hd : ∀ k, okp k → ok k → False)
    (hm : ∀ k, k < w.heap.size → some k ≠ v.ownBlock → w1.heap[k]? = w.heap[k]?) (hv : v1.ownBlock = v.ownBlock ∨ ∃ b, v1.ownBlock = some b ∧ w.heap.size ≤ b)
    (ho : w1.ownsRow base e d.sz v1 (xs.length + 1) (inner.take (i * d.sz) ++ c ++ inner.drop (i * d.sz))) : Kd.S d e w1 base (fun _ => True) v1 (xs.take i ++ y :: xs.drop i) := by
  classical
  have hyl : (xs.take i ++ y :: xs.drop i).length = xs.length + 1 := by
    rw [List.length_append, List.length_cons, List.length_take, List.length_drop]; omega
  have hil : inner.length = xs.length * d.sz := by have := hr.1; rwa [List.length_zipIdx] at this
  have his : i * d.sz ≤ inner.length := by rw [hil]; exact Nat.mul_le_mul_right _ hi
  have hne : ∀ k, k < w.heap.size → some k ≠ v.ownBlock → some k ≠ v1.ownBlock := by
    intro k hk hn
    rcases hv with h | ⟨b, h, hb⟩
    · rw [h]; exact hn
    · rw [h]; intro he; have := Option.some.inj he; omega
  refine ⟨fun k => if okp k then i else if f k < i then f k else f k + 1, fun _ _ => trivial, _, by rw [List.length_zipIdx, hyl]; exact ho, ?_, ?_⟩
  · rw [List.length_zipIdx, hyl, List.length_append, List.length_append, List.length_take, List.length_drop, hil, hc, Nat.succ_mul]
    rw [hil] at his
    show min (i * d.sz) (xs.length * d.sz) + d.sz + (xs.length * d.sz - i * d.sz) = xs.length * d.sz + d.sz
    omega
  · intro j p hj
    obtain ⟨z, q⟩ := p
    rw [List.getElem?_zipIdx, Nat.zero_add] at hj
    obtain ⟨z', hz, he⟩ := Option.map_eq_some_iff.1 hj
    obtain ⟨rfl, rfl⟩ := Prod.mk.inj he
    rcases Nat.lt_trichotomy j i with hji | rfl | hji
    · rw [List.getElem?_append_left (by rw [List.length_take]; omega), List.getElem?_take, if_pos hji] at hz
      have hM := hr.2 j (z', j) (Kd.zip_at hz)
      show d.M w1 base _ z' (List.take d.sz (List.drop (j * d.sz) _))
      rw [cells_lo inner c d.sz i j hji his]
      refine d.M_mono (fun k hk => ?_) (Kd.M_step (d.M_bound hM) (fun k hk hlt => hm k hlt hk.1.1.2))
      obtain ⟨⟨⟨a1, a2⟩, a3⟩, _, a4, _⟩ := hk
      refine ⟨⟨trivial, hne k a4 a2⟩, ?_⟩
      show (if okp k then i else if f k < i then f k else f k + 1) = j
      rw [if_neg (fun h => hd k h a1), if_pos (by have : f k = j := a3; omega)]
      exact a3
    · rw [List.getElem?_append_right (by rw [List.length_take]; omega), List.length_take, Nat.min_eq_left hi, Nat.sub_self] at hz
      obtain rfl : y = z' := by simpa using hz
      show d.M w1 base _ y (List.take d.sz (List.drop (j * d.sz) _))
      rw [cells_at inner c d.sz j hc his]
      refine d.M_mono (fun k hk => ?_) (Kd.M_step (d.M_bound hy) (fun k hk hlt => hm k hlt (fun he => hd k hk.1 (h0 k he.symm))))
      obtain ⟨a1, _, a4, _⟩ := hk
      refine ⟨⟨trivial, hne k a4 (fun he => hd k a1 (h0 k he.symm))⟩, ?_⟩
      show (if okp k then j else if f k < j then f k else f k + 1) = j
      rw [if_pos a1]
    · obtain ⟨j, rfl⟩ : ∃ q, j = q + 1 := ⟨j - 1, by omega⟩
      rw [List.getElem?_append_right (by rw [List.length_take]; omega), List.length_take, Nat.min_eq_left hi, show j + 1 - i = (j - i) + 1 by omega, List.getElem?_cons_succ, List.getElem?_drop, show i + (j - i) = j by omega] at hz
      have hM := hr.2 j (z', j) (Kd.zip_at hz)
      show d.M w1 base _ z' (List.take d.sz (List.drop ((j + 1) * d.sz) _))
      rw [cells_hi inner c d.sz i j hc (by omega) his]
      refine d.M_mono (fun k hk => ?_) (Kd.M_step (d.M_bound hM) (fun k hk hlt => hm k hlt hk.1.1.2))
      obtain ⟨⟨⟨a1, a2⟩, a3⟩, _, a4, _⟩ := hk
      refine ⟨⟨trivial, hne k a4 a2⟩, ?_⟩
      show (if okp k then i else if f k < i then f k else f k + 1) = j + 1
      have a3' : f k = j := a3
      rw [if_neg (fun h => hd k h a1), if_neg (by omega), a3']
theorem setRow {g : Nat} {e : TypeId} : ∀ (vs : List Value) (o : Nat) (w : World) (cur : Array Value), w.heap[g]? = some (.cells cur e (0, 0)) → o + vs.length ≤ cur.size →
    ∃ cur', (w.setCells g o vs).heap[g]? = some (.cells cur' e (0, 0)) ∧ cur'.size = cur.size ∧ cur'.toList = cur.toList.take o ++ vs ++ cur.toList.drop (o + vs.length)
  | [], o, w, cur, h, _ => ⟨cur, h, rfl, by simp⟩
  | v :: r, o, w, cur, h, hl => by
    have h2 := blk_set h o v
    simp only [List.length_cons] at hl
    obtain ⟨cur', h3, h4, h5⟩ := setRow r (o + 1) (w.setCell ⟨g, o, none⟩ v) _ h2 (by simp; omega)
    refine ⟨cur', h3, by rw [h4]; simp, ?_⟩
    rw [h5, Array.toList_setIfInBounds]
    have ho : o < cur.toList.length := by rw [Array.length_toList]; omega
    rw [List.take_set, List.drop_set_of_lt (by omega)]
    rw [List.take_succ_eq_append_getElem ho, List.set_append, if_neg (by rw [List.length_take]; omega)]
    have : (o - (List.take o cur.toList).length) = 0 := by rw [List.length_take]; omega
    rw [this]
    simp [Nat.add_assoc, Nat.add_comm 1]
theorem setFar {g k : Nat} (hk : k ≠ g) : ∀ (vs : List Value) (o : Nat) (w : World), (w.setCells g o vs).heap[k]? = w.heap[k]?
  | [], _, _ => rfl
  | v :: r, o, w => (setFar hk r (o + 1) _).trans (Below.heap_setCell w ⟨g, o, none⟩ v k hk)
theorem belowSet {B g : Nat} (hg : B ≤ g) : ∀ (vs : List Value) (o : Nat) {a w : World}, Below B a w → Below B a (w.setCells g o vs)
  | [], _, _, _, h => h
  | v :: r, o, a, w, h => belowSet hg r (o + 1) (h.setCell hg v)
theorem reps_one {α : Type} {R : α → List Value → Prop} {sz : Nat} {ps : List α} {cs : List Value} (h : Reps R sz ps cs) (h1 : ∀ p c, R p c → ∀ u ∈ c, u.oneCell' = true) : ∀ u ∈ cs, u.oneCell' = true := by
  intro u hu
  obtain ⟨q, hq, rfl⟩ := List.getElem_of_mem hu
  have hl := h.1
  have hs : 0 < sz := by
    rcases Nat.eq_zero_or_pos sz with h0 | h0
    · rw [h0, Nat.mul_zero] at hl; omega
    · exact h0
  have hj : q / sz < ps.length := by rw [Nat.div_lt_iff_lt_mul hs, ← hl]; exact hq
  refine h1 _ _ (h.2 (q / sz) _ (List.getElem?_eq_getElem hj)) _ ?_
  have e : q = q / sz * sz + q % sz := by rw [Nat.mul_comm]; exact (Nat.div_add_mod q sz).symm
  have hm := Nat.mod_lt q hs
  have : ((cs.drop (q / sz * sz)).take sz)[q % sz]? = some cs[q] := by
    rw [List.getElem?_take, if_pos hm, List.getElem?_drop, ← e, List.getElem?_eq_getElem hq]
  exact List.mem_of_getElem? this
theorem zc (n : Nat) : (Builtin.zeroCells zp.cells n).size = n * 3 := by
  have h1 : zp.cells.size = 3 := rfl
  simp [Builtin.zeroCells, h1]
theorem lst1 (L M R : List Value) (n i : Nat) (a : List Value) (ha : a.length = 3) (hM : L.take (n * 3) = M) (hl : M.length = n * 3) (hn : (n + 1) * 3 ≤ L.length) (hi : i < n) :
    ((L.take ((i + 1) * 3) ++ M.drop (i * 3) ++ R).take (i * 3) ++ a ++ (L.take ((i + 1) * 3) ++ M.drop (i * 3) ++ R).drop (i * 3 + a.length)).take ((n + 1) * 3) = M.take (i * 3) ++ a ++ M.drop (i * 3) := by
  have h1 : (L.take ((i + 1) * 3)).length = (i + 1) * 3 := by rw [List.length_take]; omega
  have h2 : M.take (i * 3) = L.take (i * 3) := by rw [← hM, List.take_take]; congr 1; omega
  have e1 : (L.take ((i + 1) * 3) ++ M.drop (i * 3) ++ R).take (i * 3) = M.take (i * 3) := by
    rw [List.append_assoc, List.take_append_of_le_length (by rw [h1]; omega), List.take_take, Nat.min_eq_left (by omega), h2]
  have e2 : (L.take ((i + 1) * 3) ++ M.drop (i * 3) ++ R).drop (i * 3 + a.length) = M.drop (i * 3) ++ R := by
    rw [ha, show i * 3 + 3 = (i + 1) * 3 by omega, List.append_assoc, List.drop_append_of_le_length (by rw [h1]; exact Nat.le_refl _), List.drop_of_length_le (by rw [h1]; exact Nat.le_refl _), List.nil_append]
  have h3 : (M.take (i * 3) ++ a ++ M.drop (i * 3)).length = (n + 1) * 3 := by
    rw [List.length_append, List.length_append, List.length_take, List.length_drop, ha]; omega
  rw [e1, e2, ← List.append_assoc, List.take_append_of_le_length (by rw [h3]; exact Nat.le_refl _), List.take_of_length_le (by rw [h3]; exact Nat.le_refl _)]
theorem lst2 (L M S : List Value) (n i : Nat) (a : List Value) (ha : a.length = 3) (hM : L.take (i * 3) = M.take (i * 3)) (hl : M.length = n * 3) (hi : i < n) :
    ((L.take (i * 3) ++ a ++ L.drop (i * 3 + a.length)).take ((i + 1) * 3) ++ M.drop (i * 3) ++ S).take ((n + 1) * 3) = M.take (i * 3) ++ a ++ M.drop (i * 3) := by
  have h1 : (M.take (i * 3) ++ a).length = (i + 1) * 3 := by
    rw [List.length_append, List.length_take, ha]; omega
  have e1 : (L.take (i * 3) ++ a ++ L.drop (i * 3 + a.length)).take ((i + 1) * 3) = M.take (i * 3) ++ a := by
    rw [hM, List.take_append_of_le_length (by rw [h1]; exact Nat.le_refl _), List.take_of_length_le (by rw [h1]; exact Nat.le_refl _)]
  have h3 : (M.take (i * 3) ++ a ++ M.drop (i * 3)).length = (n + 1) * 3 := by
    rw [List.length_append, h1, List.length_drop]; omega
  rw [e1, List.take_append_of_le_length (by rw [h3]; exact Nat.le_refl _), List.take_of_length_le (by rw [h3]; exact Nat.le_refl _)]
/-- slices.Insert of one part into a row of the call's own. -/
theorem ins {α : Type} (d : Kd α) (hd3 : d.sz = 3) (w : World) (base : Nat) (ok okp : Nat → Prop) (v : Value) (xs : List α) (i : Nat) (y : α) (vb : Nat) (c : List Value) (hS : Kd.S d 48 w base ok v xs) (hbase : base ≤ w.heap.size) (hi : i ≤ xs.length) (hlen : xs.length < 2932031007402)
    (hv : w.heap[vb]? = some (.cells c.toArray 48 (0, 0))) (hM : d.M w base okp y c) (hd : ∀ k, okp k → ok k → False) (hne : some vb ≠ v.ownBlock) :
    Calls Tryz.prog 84 #[v, .int .i64 (i : Int), .slice (some ⟨vb, 0, none⟩) 1 1] w fun e w' => ∃ v', e = .returned v' ∧ Kd.S d 48 w' base (fun _ => True) v' (xs.take i ++ y :: xs.drop i) ∧ Below base w w' := by
  obtain ⟨f, h0, inner, ho, hr⟩ := hS
  rw [List.length_zipIdx] at ho
  obtain ⟨hl1, ho⟩ := ho
  have hc3 : c.length = 3 := (d.K_len (d.K_of_M hM)).trans hd3
  have h1v : ∀ u ∈ c, u.oneCell' = true := d.K_one (d.K_of_M hM)
  have h1c : ∀ u ∈ inner, u.oneCell' = true := reps_one hr (fun p cs h => d.K_one (d.K_of_M h))
  have hl3 : inner.length = xs.length * 3 := by rw [hl1]; show xs.length * d.sz = _; rw [hd3]
  have hvs : ∀ j u, c[j]? = some u → w.cell? ⟨vb, 0 + j, none⟩ = some u := by
    intro j u hj
    rw [Nat.zero_add, blk_cell hv]
    simpa using hj
  have hml : xs.length + 1 ≤ maxLen := by
    have : (2932031007403 : Nat) ≤ maxLen := by decide
    omega
  -- what closes every way
  have fin : ∀ (w1 : World) (g cap : Nat) (cur : Array Value), (∀ k, k < w.heap.size → some k ≠ v.ownBlock → w1.heap[k]? = w.heap[k]?) → (some g = v.ownBlock ∨ w.heap.size ≤ g) → base ≤ g → w1.heap[g]? = some (.cells cur 48 (0, 0)) → xs.length + 1 ≤ cap → cap ≤ maxLen → cur.size = cap * 3 → cur.toList.take ((xs.length + 1) * 3) = inner.take (i * 3) ++ c ++ inner.drop (i * 3) →
      Kd.S d 48 w1 base (fun _ => True) (.slice (some ⟨g, 0, none⟩) (xs.length + 1) cap) (xs.take i ++ y :: xs.drop i) := by
    intro w1 g cap cur hm hg hb hh hnc hcm hsz htk
    refine S_close (inner := inner) (c := c) (ok := ok) (okp := okp) (v := v) (f := f) i hi h0 hr hM (d.K_len (d.K_of_M hM)) hd hm ?_ ?_
    · rcases hg with h | h
      · exact .inl (by rw [← h]; rfl)
      · exact .inr ⟨g, rfl, h⟩
    · rw [hd3]
      refine ⟨?_, .inr ⟨g, cap, cur, rfl, hb, hh, hnc, hcm, hsz, htk⟩⟩
      rw [List.length_append, List.length_append, List.length_take, List.length_drop, hl3, hc3]
      have : i * 3 ≤ xs.length * 3 := Nat.mul_le_mul_right _ hi
      omega
  rcases ho with ⟨rfl, hx0⟩ | ⟨g, cap, cur, rfl, hg, hh, hnc, hcm, hsz, htk⟩
  · have hx : xs = [] := List.length_eq_zero_iff.1 hx0
    subst hx
    obtain rfl : i = 0 := by simpa using hi
    have hin : inner = [] := List.length_eq_zero_iff.1 (by simpa using hl3)
    subst hin
    refine (end_grow none 0 0 vb [] c w (by decide) (by decide) (by decide) rfl hc3 (fun _ => rfl) (fun a h => by simp at h) hvs h1v).mono ?_
    rintro e w' ⟨rfl, rfl⟩
    have hge := grownCap_ge w (0 + 1) 0 48
    refine ⟨_, rfl, fin _ _ _ _ (fun k hk _ => ?_) (.inr (Nat.le_refl _)) hbase (blk_new w.drew _) hge (grownCap_le_maxLen _ _ _ _ (by decide)) ?_ ?_, Below.alloc (below_drew (Below.refl _ _)) hbase _⟩
    · exact (below_alloc (below_drew1 (Below.refl _ _)) _).block k hk
    · rw [Array.size_append, zc, List.size_toArray, List.nil_append, hc3]
      omega
    · simp only [List.nil_append, Array.toList_append, List.take_zero, List.drop_zero, List.append_nil]
      rw [List.take_append_of_le_length (by simp; omega), List.take_of_length_le (by simp; omega)]
      simp
  · rw [show (Kd.tag f d).sz = d.sz from rfl, hd3] at htk hsz
    have hcml : cap ≤ 9223372036854775807 := hcm
    have hcl : cur.toList.length = cap * 3 := by rw [Array.length_toList]; exact hsz
    have hcs : ∀ j u, inner[j]? = some u → w.cell? ⟨g, 0 + j, none⟩ = some u := by
      intro j u hj
      rw [← htk, List.getElem?_take] at hj
      rw [Nat.zero_add, blk_cell hh]
      split at hj
      · simpa using hj
      · simp at hj
    have hsp : ∀ j, j < cap * 3 → (w.cell? ⟨g, 0 + j, none⟩).isSome = true := by
      intro j hj
      rw [Nat.zero_add, blk_cell hh, Array.getElem?_eq_getElem (by omega)]; rfl
    have hfz : ∀ j, w.frozen? ⟨g, 0 + j, none⟩ = false := fun j => blk_frozen hh _
    have hvg : vb ≠ g := by
      rintro rfl
      exact hne rfl
    have hgw : g < w.heap.size := blk_lt hh
    have hgo : ∀ k, some k ≠ (Value.slice (some ⟨g, 0, none⟩) xs.length cap).ownBlock → k ≠ g := fun k hk he => hk (by rw [he]; rfl)
    rcases Nat.lt_or_ge xs.length cap with hroom | hroom
    · rcases Nat.lt_or_ge i xs.length with hin | hin
      · refine (shift g xs.length cap i vb inner c w hin (by omega) hcml hvg hl3 hc3 hcs (fun j hj => hsp j (by omega)) (fun j _ => hfz j) hvs h1c h1v 48 48 3 (cap * 3) ?_ ?_ (by omega) ?_ ?_).mono ?_
        · simp [World.shape?, hv, hc3]
        · simp [World.shape?, hh, hsz]
        · exact blk_frozen hv _
        · exact blk_frozen hv _
        · rintro e w' ⟨rfl, rfl⟩
          have hdl : (inner.drop (i * 3)).length = (xs.length - i) * 3 := by rw [List.length_drop, hl3]; omega
          obtain ⟨c1, k1, k2, k3⟩ := setRow (inner.drop (i * 3)) ((i + 1) * 3) w.drew cur hh (by rw [hdl]; omega)
          obtain ⟨c2, m1, m2, m3⟩ := setRow c (i * 3) _ c1 k1 (by rw [hc3]; omega)
          refine ⟨_, rfl, fin _ g cap c2 (fun k hk hn => ?_) (.inl rfl) hg m1 (by omega) hcm (by omega) ?_, belowSet hg _ _ (belowSet hg _ _ (below_drew (Below.refl _ _)))⟩
          · rw [setFar (hgo k hn), setFar (hgo k hn)]; rfl
          · rw [m3, k3]
            exact lst1 _ _ _ _ _ _ hc3 htk hl3 (by omega) hin
      · obtain rfl : i = xs.length := by omega
        refine (end_room g xs.length cap vb c w (by omega) hcml hc3 ?_ ?_ hvs h1v).mono ?_
        · intro j hj
          have := hsp (xs.length * 3 + j) (by omega)
          rwa [← Nat.add_assoc] at this
        · intro j hj
          have := hfz (xs.length * 3 + j)
          rwa [← Nat.add_assoc] at this
        · rintro e w' ⟨rfl, rfl⟩
          obtain ⟨cur', k1, k2, k3⟩ := setRow c (xs.length * 3) w cur hh (by rw [hc3]; omega)
          refine ⟨_, rfl, fin _ g cap cur' (fun k hk hn => setFar (hgo k hn) _ _ _) (.inl rfl) hg k1 (by omega) hcm (by omega) ?_, belowSet hg _ _ (Below.refl _ _)⟩
          rw [k3, htk, List.take_of_length_le (show inner.length ≤ xs.length * 3 by omega), List.drop_of_length_le (show inner.length ≤ xs.length * 3 by omega), List.append_nil]
          rw [List.take_append_of_le_length (by rw [List.length_append, hl3, hc3]; omega), List.take_of_length_le (by rw [List.length_append, hl3, hc3]; omega)]
    · rcases Nat.lt_or_ge i xs.length with hin | hin
      · refine (mid_grow g xs.length cap i vb inner c w hin hnc (by omega) (by omega) hl3 hc3 hcs hvs h1c h1v).mono ?_
        rintro e w' ⟨rfl, rfl⟩
        have hge := grownCap_ge w (xs.length + 1) cap 48
        have hdl : (inner.drop (i * 3)).length = (xs.length - i) * 3 := by rw [List.length_drop, hl3]; omega
        have htl : (inner.take (i * 3)).length = i * 3 := by rw [List.length_take]; omega
        have hA := blk_new w (.cells ((inner.take (i * 3)).toArray ++ Builtin.zeroCells zp.cells (xs.length + 1 - i) ++ Builtin.zeroCells zp.cells (grownCap w (xs.length + 1) cap 48 - (xs.length + 1))) 48)
        have hAs : ((inner.take (i * 3)).toArray ++ Builtin.zeroCells zp.cells (xs.length + 1 - i) ++ Builtin.zeroCells zp.cells (grownCap w (xs.length + 1) cap 48 - (xs.length + 1))).size = grownCap w (xs.length + 1) cap 48 * 3 := by
          rw [Array.size_append, Array.size_append, zc, zc, List.size_toArray, htl]
          omega
        have hAt : ((inner.take (i * 3)).toArray ++ Builtin.zeroCells zp.cells (xs.length + 1 - i) ++ Builtin.zeroCells zp.cells (grownCap w (xs.length + 1) cap 48 - (xs.length + 1))).toList.take (i * 3) = inner.take (i * 3) := by
          simp only [Array.toList_append]
          rw [List.append_assoc, List.take_append_of_le_length (by rw [htl]; exact Nat.le_refl _), List.take_of_length_le (by rw [htl]; exact Nat.le_refl _)]
        generalize ((inner.take (i * 3)).toArray ++ Builtin.zeroCells zp.cells (xs.length + 1 - i) ++ Builtin.zeroCells zp.cells (grownCap w (xs.length + 1) cap 48 - (xs.length + 1))) = A0 at hA hAs hAt ⊢
        obtain ⟨c1, k1, k2, k3⟩ := setRow c (i * 3) (w.alloc (.cells A0 48)).drew A0 hA (by rw [hc3]; omega)
        obtain ⟨c2, m1, m2, m3⟩ := setRow (inner.drop (i * 3)) ((i + 1) * 3) ((w.alloc (.cells A0 48)).drew.setCells w.heap.size (i * 3) c).drew c1 k1 (by rw [hdl]; omega)
        refine ⟨_, rfl, fin _ w.heap.size _ c2 (fun k hk _ => ?_) (.inr (Nat.le_refl _)) hbase m1 hge (grownCap_le_maxLen _ _ _ _ hml) (by omega) ?_, belowSet hbase _ _ (below_drew (belowSet hbase _ _ (below_drew (Below.alloc (Below.refl _ _) hbase _))))⟩
        · rw [setFar (by omega)]
          show ((w.alloc (.cells A0 48)).drew.setCells w.heap.size (i * 3) c).heap[k]? = _
          rw [setFar (by omega)]
          exact (below_alloc (Below.refl _ _) _).block k hk
        · rw [m3, k3]
          exact lst2 _ _ _ _ _ _ hc3 hAt hl3 hin
      · obtain rfl : i = xs.length := by omega
        refine (end_grow (some ⟨g, 0, none⟩) xs.length cap vb inner c w hnc (by omega) (by omega) hl3 hc3 (fun h => by simp at h) ?_ hvs h1v).mono ?_
        · rintro a ha j u hj
          obtain rfl := Option.some.inj ha
          have := hcs j u hj
          rw [Nat.zero_add] at this
          by_cases hj0 : j = 0
          · subst hj0
            simpa [Addr.add] using this
          · simpa [Addr.add, hj0] using this
        · rintro e w' ⟨rfl, rfl⟩
          have hge := grownCap_ge w (xs.length + 1) cap 48
          refine ⟨_, rfl, fin _ _ _ _ (fun k hk _ => ?_) (.inr (Nat.le_refl _)) hbase (blk_new w.drew _) hge (grownCap_le_maxLen _ _ _ _ hml) ?_ ?_, Below.alloc (below_drew (Below.refl _ _)) hbase _⟩
          · exact (below_alloc (below_drew1 (Below.refl _ _)) _).block k hk
          · rw [Array.size_append, zc, List.size_toArray, List.length_append, hl3, hc3]
            omega
          · simp only [Array.toList_append]
            rw [List.take_append_of_le_length (by rw [List.length_append, hl3, hc3]; omega), List.take_of_length_le (by rw [List.length_append, hl3, hc3]; omega), List.take_of_length_le (show inner.length ≤ xs.length * 3 by omega), List.drop_of_length_le (show inner.length ≤ xs.length * 3 by omega), List.append_nil]
end Go.Proofs.YtdmjhgogljhfkaaGreatDoor.InsP
