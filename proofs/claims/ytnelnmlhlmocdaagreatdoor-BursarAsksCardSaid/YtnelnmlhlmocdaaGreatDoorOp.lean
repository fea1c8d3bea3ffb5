/- Opening a law's argument that is a struct of numbers, texts and truths, however nested: its cells, one by one, out of the reading. -/
import Derived.Test.YtnelnmlhlmocdaaGreatDoorWWords
import Derived.ProofKit
import Derived.ChangeArms
import Derived.WideShapes
namespace Go.Proofs.YtnelnmlhlmocdaaGreatDoor.Op
open Go.WideShapes Go.RowKit

/-- What a cell of such a struct may be. -/
inductive Leaf | int (k : IntKind) | bool | str
def Leaf.ok : Leaf → Value → Prop
  | .int k, v => ∃ n, v = .int k n ∧ (Lit.int k n).wf = true
  | .bool, v => ∃ b, v = .bool b
  | .str, v => ∃ s, v = .string s ∧ s.size ≤ maxLen
def leafAt (P : Program) : Nat → TypeId → Nat → Option Leaf
  | 0, _, _ => none
  | n + 1, t, i =>
    match P.underlying t with
    | some (.int k) => if i = 0 then some (.int k) else none
    | some .bool => if i = 0 then some .bool else none
    | some .string => if i = 0 then some .str else none
    | some (.struct fs) => (fs.toList.find? fun f => decide (f.offset ≤ i) && decide (i < f.offset + P.cellsOf f.type)).bind fun f => leafAt P n f.type (i - f.offset)
    | _ => none

theorem leaf_of_trod {H : Type} {enc : TypeId × Value → H} {P : Program} {w : World} {base : Nat} {spare : Nat → Bool} {held : Bool} :
    ∀ (n : Nat) (t : TypeId) (i : Nat) (L : Leaf) (fuel : Nat) (cs : List Value) (x : DataW H × List MemPlace),
      leafAt P n t i = some L → DataW.trod enc P w base spare held fuel t cs = some x → ∃ v, cs[i]? = some v ∧ L.ok v
  | 0, t, i, L, fuel, cs, x => fun h _ => by simp [leafAt] at h
  | n + 1, t, i, L, fuel, cs, x => fun h hx => by
    unfold leafAt at h
    split at h
    · next k hu =>
      split at h
      · next h0 =>
        subst h0
        obtain rfl := Option.some.inj h
        obtain ⟨m, rfl, _, hw⟩ := DataW.trod_int hu hx
        exact ⟨_, rfl, m, rfl, hw⟩
      · cases h
    · next hu =>
      split at h
      · next h0 =>
        subst h0
        obtain rfl := Option.some.inj h
        obtain ⟨b, rfl, _⟩ := DataW.trod_bool hu hx
        exact ⟨_, rfl, b, rfl⟩
      · cases h
    · next hu =>
      split at h
      · next h0 =>
        subst h0
        obtain rfl := Option.some.inj h
        obtain ⟨s, rfl, _, hs⟩ := DataW.trod_string hu hx
        exact ⟨_, rfl, s, rfl, hs⟩
      · cases h
    · next fs hu =>
      obtain ⟨f, hf, hl⟩ := Option.bind_eq_some_iff.mp h
      have hp := List.find?_some hf
      have hm := List.mem_of_find?_eq_some hf
      rw [Bool.and_eq_true, decide_eq_true_iff, decide_eq_true_iff] at hp
      obtain ⟨j, hj, hje⟩ := List.getElem_of_mem hm
      obtain ⟨xs, m, _, _, _, hlen, hall⟩ := DataW.trod_struct hu hx
      have hj' : j < fs.size := by simpa using hj
      have hfj : fs[j]? = some f := by
        rw [Array.getElem?_eq_getElem hj']
        rw [← hje]; simp
      have hxj := hall j f hfj
      rw [List.getElem?_eq_getElem (by omega)] at hxj
      obtain ⟨v, hv, hok⟩ := leaf_of_trod n f.type (i - f.offset) L m _ _ hl hxj
      refine ⟨v, ?_, hok⟩
      rw [List.getElem?_take] at hv
      split at hv
      · rw [List.getElem?_drop] at hv
        rw [show f.offset + (i - f.offset) = i by omega] at hv
        exact hv
      · cases hv
    · cases h
theorem drop_get {l : List Value} {i : Nat} {v : Value} (h : l[i]? = some v) : l.drop i = v :: l.drop (i + 1) := by
  obtain ⟨hi, rfl⟩ := List.getElem?_eq_some_iff.mp h
  exact List.drop_eq_getElem_cons hi
theorem int_at {k : IntKind} {l : List Value} {i : Nat} (h : ∃ v, l[i]? = some v ∧ (Leaf.int k).ok v) : ∃ n, l[i]? = some (.int k n) ∧ (Lit.int k n).wf = true := by
  obtain ⟨v, hv, n, rfl, hw⟩ := h
  exact ⟨n, hv, hw⟩
theorem bool_at {l : List Value} {i : Nat} (h : ∃ v, l[i]? = some v ∧ Leaf.bool.ok v) : ∃ b, l[i]? = some (.bool b) := by
  obtain ⟨v, hv, b, rfl⟩ := h
  exact ⟨b, hv⟩
theorem str_at {l : List Value} {i : Nat} (h : ∃ v, l[i]? = some v ∧ Leaf.str.ok v) : ∃ s, l[i]? = some (.string s) ∧ s.size ≤ maxLen := by
  obtain ⟨v, hv, s, rfl, hs⟩ := h
  exact ⟨s, hv, hs⟩
end Go.Proofs.YtnelnmlhlmocdaaGreatDoor.Op
