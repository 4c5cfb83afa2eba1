/- How a law's arguments (numbers, strings, slices, structs, slices of structs) are read out of the row's own reading, kind by kind. No condition of its own. -/
import Derived.Test.YtdmjhgogljhfkaaGreatDoorWWords
import Derived.ProofKit
import Derived.OpenShut
import Derived.Deep.Slices
import Derived.Lib.SmallJoins
namespace Go.Proofs.YtdmjhgogljhfkaaGreatDoor.Reads
open Go.ChangeShapes Go.WideShapes Go.RowKit Go.Proofs.YtdmjhgogljhfkaaGreatDoorW.PrintWords

/-- The cells of type t, read in whatever world, are a value of the kind d of which p holds. -/
def Rd {α : Type} (P : Program) (t : TypeId) (d : Kd α) (p : α → Prop) : Prop :=
  P.cellsOf t = d.sz ∧ ∀ (H : Type) (enc : TypeId × Value → H) (w : World) (fuel : Nat) (cs : List Value) (x : DataW H × List MemPlace),
    DataW.trod enc P w 0 (fun _ => true) true fuel t cs = some x → ∃ a, d.K w a cs ∧ p a

theorem Rd.int {P : Program} {t : TypeId} {k : IntKind} (ht : P.underlying t = some (.int k)) (hc : P.cellsOf t = 1) : Rd P t (Kd.int k) (fun n => (Lit.int k n).wf = true) :=
  ⟨hc, fun H enc w fuel cs x h => by
    obtain ⟨n, rfl, _, hw⟩ := DataW.trod_int ht h
    exact ⟨n, rfl, hw⟩⟩

theorem Rd.bool {P : Program} {t : TypeId} (ht : P.underlying t = some .bool) (hc : P.cellsOf t = 1) : Rd P t Kd.bool (fun _ => True) :=
  ⟨hc, fun H enc w fuel cs x h => by
    obtain ⟨n, rfl, _⟩ := DataW.trod_bool ht h
    exact ⟨n, rfl, trivial⟩⟩

theorem Rd.string {P : Program} {t : TypeId} (ht : P.underlying t = some .string) (hc : P.cellsOf t = 1) : Rd P t Kd.string (fun s => s.size ≤ maxLen) :=
  ⟨hc, fun H enc w fuel cs x h => by
    obtain ⟨s, rfl, _, hs⟩ := DataW.trod_string ht h
    exact ⟨s, rfl, hs⟩⟩

theorem list_of {α : Type} (q : Nat → α → Prop) : ∀ n : Nat, (∀ i, i < n → ∃ a, q i a) → ∃ l : List α, l.length = n ∧ ∀ i a, l[i]? = some a → q i a := by
  intro n
  induction n with
  | zero => exact fun _ => ⟨[], rfl, fun i a h => by simp at h⟩
  | succ n ih =>
    intro h
    obtain ⟨l, hl, hq⟩ := ih (fun i hi => h i (by omega))
    obtain ⟨b, hb⟩ := h n (by omega)
    refine ⟨l ++ [b], by simp [hl], fun i a ha => ?_⟩
    by_cases hi : i < l.length
    · rw [List.getElem?_append_left hi] at ha
      exact hq i a ha
    · rw [List.getElem?_append_right (by omega)] at ha
      have hlt := (List.getElem?_eq_some_iff.1 ha).1
      have hi2 : i = n := by simp at hlt; omega
      subst hi2
      rw [hl, Nat.sub_self] at ha
      simp at ha
      subst ha
      exact hb

theorem Rd.slice {α : Type} {P : Program} {t e : TypeId} {d : Kd α} {p : α → Prop} (ht : P.underlying t = some (.slice e)) (hc : P.cellsOf t = 1) (h : Rd P e d p) :
    Rd P t (Kd.slice e d) (fun l => l.length ≤ maxLen ∧ ∀ a ∈ l, p a) :=
  ⟨hc, fun H enc w fuel cs x hx => by
    rcases Deep.open_slice ht hx with ⟨rfl, _⟩ | ⟨a, len, cap, m, n, D, Pl, rfl, hb, hl, hm, hmm, rfl, hy⟩
    · exact ⟨[], ⟨none, 0, rfl, Nat.le_refl _, Kd.C_nil d w⟩, by simp, by simp⟩
    · have hmc : m = cap := by rw [hmm]; simp
      obtain ⟨l, hll, hq⟩ := list_of (fun i b => (∃ cs', w.cells? 0 (a.add (i * P.cellsOf e)) (P.cellsOf e) = some cs' ∧ d.K w b cs') ∧ p b) len (fun i hi => by
        obtain ⟨cs', h1, h2⟩ := hy i (by omega)
        obtain ⟨b, hb1, hb2⟩ := h.2 H enc w n cs' _ h2
        exact ⟨b, ⟨cs', h1, hb1⟩, hb2⟩)
      subst hll
      refine ⟨l, ⟨some a, cap, rfl, hl, rfl, by simp only [maxLen] at hm; omega, fun _ => ⟨a, rfl, fun j b hj => ?_⟩⟩, by omega, fun b hb => ?_⟩
      · obtain ⟨⟨cs', h1, h2⟩, _⟩ := hq j b hj
        obtain ⟨_, h3, h4⟩ := World.cells?_some h1
        rw [h.1] at h1 h3 h4
        refine ⟨cs', h3, h2, fun i u hu => ?_⟩
        have hi := (List.getElem?_eq_some_iff.1 hu).1
        rw [← Deep.add_add, h4 i (by omega)]
        exact hu
      · obtain ⟨i, hi⟩ := List.mem_iff_getElem?.1 hb
        exact (hq i b hi).2⟩

/-- Fields in line, from cell 'off' on. -/
def RdF {α : Type} (P : Program) (fs : List Field) (off : Nat) (d : Kd α) (p : α → Prop) : Prop :=
  ∀ (H : Type) (enc : TypeId × Value → H) (w : World) (n : Nat) (cs : List Value), cs.length = off + d.sz →
    (∀ f ∈ fs, ∃ y, DataW.trod enc P w 0 (fun _ => true) true n f.type ((cs.drop f.offset).take (P.cellsOf f.type)) = some y) → ∃ a, d.K w a (cs.drop off) ∧ p a

theorem RdF.one {α : Type} {P : Program} {f : Field} {off : Nat} {d : Kd α} {p : α → Prop} (h : Rd P f.type d p) (ho : f.offset = off) : RdF P [f] off d p := by
  intro H enc w n cs hl hy
  obtain ⟨y, hy⟩ := hy f (List.mem_singleton.2 rfl)
  rw [ho, h.1, List.take_of_length_le (by rw [List.length_drop]; omega)] at hy
  exact h.2 H enc w n _ _ hy

theorem RdF.cons {α β : Type} {P : Program} {f : Field} {fs : List Field} {off o2 : Nat} {d : Kd α} {d' : Kd β} {p : α → Prop} {p' : β → Prop} (h : Rd P f.type d p) (ho : f.offset = off) (ho2 : o2 = off + d.sz)
    (hr : RdF P fs o2 d' p') : RdF P (f :: fs) off (Kd.pair d d') (fun x => p x.1 ∧ p' x.2) := by
  subst ho2
  intro H enc w n cs hl hy
  have hl2 : cs.length = off + (d.sz + d'.sz) := hl
  obtain ⟨y, hy0⟩ := hy f List.mem_cons_self
  rw [ho, h.1] at hy0
  obtain ⟨a, ha, hpa⟩ := h.2 H enc w n _ _ hy0
  obtain ⟨b, hb, hpb⟩ := hr H enc w n cs (by omega) (fun g hg => hy g (List.mem_cons_of_mem _ hg))
  refine ⟨(a, b), ⟨_, _, ?_, ha, hb⟩, hpa, hpb⟩
  rw [← List.drop_drop, List.take_append_drop]

theorem Rd.struct {α : Type} {P : Program} {t : TypeId} {fs : Array Field} {d : Kd α} {p : α → Prop} (ht : P.underlying t = some (.struct fs)) (hr : RdF P fs.toList 0 d p) (hc : P.cellsOf t = d.sz) : Rd P t d p :=
  ⟨hc, fun H enc w fuel cs x h => by
    obtain ⟨xs, n, _, _, hl, hlen, hf⟩ := DataW.trod_struct ht h
    have hz := hr H enc w n cs (by omega) (fun f hfm => by
      obtain ⟨i, hi, he⟩ := List.mem_iff_getElem.1 hfm
      have hi2 : i < fs.size := by simpa using hi
      have h1 := hf i f (by rw [← he]; simp [hi2])
      rw [h1]
      exact ⟨_, List.getElem?_eq_getElem (by omega)⟩)
    simpa using hz⟩

theorem Rd.iso {α β : Type} {P : Program} {t : TypeId} {d : Kd α} {p : α → Prop} (h : Rd P t d p) (f : β → α) (g : α → β) (hfg : ∀ a, f (g a) = a) : Rd P t (Kd.iso d f) (fun b => p (f b)) :=
  ⟨h.1, fun H enc w fuel cs x hx => by
    obtain ⟨a, ha, hpa⟩ := h.2 H enc w fuel cs x hx
    exact ⟨g a, by show d.K w (f (g a)) cs; rw [hfg]; exact ha, by show p (f (g a)); rw [hfg]; exact hpa⟩⟩

theorem array_of {α : Type} {cs : Array α} {l : List α} (h : cs.toList = l) : cs = l.toArray := by rw [← h]

end Go.Proofs.YtdmjhgogljhfkaaGreatDoor.Reads
