/- Opening a law's argument that is a slice of such structs: its elements, one by one, out of the reading. -/
import Derived.Test.YtaifcadnnmicnaaOp
import Derived.Deep.Slices
namespace Go.Proofs.Ytaifcadnnmicnaa.Op
open Go.WideShapes Go.RowKit Go.Deep Go.Proofs.YtaifcadnnmicnaaW.PrintWords

theorem row_of_trod {H α : Type} [Inhabited α] {enc : TypeId × Value → H} {P : Program} {w : World} {base : Nat} {spare : Nat → Bool} {held : Bool} {R : α → List Value → Prop} {t e : TypeId} {sz : Nat}
    (ht : P.underlying t = some (.slice e)) (hc : P.cellsOf e = sz)
    (hel : ∀ (fuel : Nat) (cs : List Value) (x : DataW H × List MemPlace), cs.length = sz → DataW.trod enc P w base spare held fuel e cs = some x → ∃ p, R p cs)
    {A : Option Addr} {len cap fuel : Nat} {x : DataW H × List MemPlace} (h : DataW.trod enc P w base spare held fuel t [.slice A len cap] = some x) :
    ∃ ps : List α, ps.length = len ∧ len ≤ cap ∧ len ≤ maxLen ∧ ReadsRow R sz w A len ps := by
  rcases open_slice ht h with ⟨hcs, _⟩ | ⟨a, len', cap', m, n, D, Pl, hcs, hb, hl, hm, hmm, _, hx⟩
  · simp only [List.cons.injEq, Value.slice.injEq, and_true] at hcs
    obtain ⟨rfl, rfl, rfl⟩ := hcs
    exact ⟨[], rfl, Nat.le_refl _, Nat.zero_le _, rfl, Nat.zero_le _, fun h0 => absurd h0 (Nat.lt_irrefl 0)⟩
  · simp only [List.cons.injEq, Value.slice.injEq, and_true] at hcs
    obtain ⟨rfl, rfl, rfl⟩ := hcs
    have hle : len ≤ m := by rw [hmm]; split <;> omega
    obtain ⟨f, hf⟩ := choose_lt (α := α) (p := fun i p => ∃ cs', w.cells? base (a.add (i * P.cellsOf e)) (P.cellsOf e) = some cs' ∧ R p cs') (n := len) (fun i hi => by
      obtain ⟨cs', h1, h2⟩ := hx i (by omega)
      obtain ⟨_, hlen, _⟩ := World.cells?_some h1
      obtain ⟨p, hp⟩ := hel n cs' _ (by rw [hlen, hc]) h2
      exact ⟨p, cs', h1, hp⟩)
    refine ⟨(List.range len).map f, by simp, hl, Nat.le_trans hl hm, by simp, ?_, fun _ => ⟨a, rfl, fun j p hj => ?_⟩⟩
    · have := Nat.le_trans hl hm; unfold maxLen at this; omega
    · have hjl : j < len := by
        rcases Nat.lt_or_ge j len with h | h
        · exact h
        · rw [List.getElem?_eq_none (by simpa using h)] at hj; cases hj
      simp only [List.getElem?_map, List.getElem?_range hjl, Option.map_some, Option.some.injEq] at hj
      subst hj
      obtain ⟨cs', h1, hR⟩ := hf j hjl
      obtain ⟨_, hlen, hcell⟩ := World.cells?_some h1
      refine ⟨cs', by rw [hlen, hc], hR, fun i u hu => ?_⟩
      have hi : i < P.cellsOf e := by
        rcases Nat.lt_or_ge i cs'.length with h | h
        · omega
        · rw [List.getElem?_eq_none h] at hu; cases hu
      rw [← Go.Deep.add_add, ← hc, hcell i hi, hu]
theorem ints_of_trod {H : Type} {enc : TypeId × Value → H} {P : Program} {w : World} {base : Nat} {spare : Nat → Bool} {held : Bool} {t e : TypeId} {k : IntKind}
    (ht : P.underlying t = some (.slice e)) (he : P.underlying e = some (.int k)) (hc : P.cellsOf e = 1)
    {A : Option Addr} {len cap fuel : Nat} {x : DataW H × List MemPlace} (h : DataW.trod enc P w base spare held fuel t [.slice A len cap] = some x) :
    ∃ ps : List Int, ps.length = len ∧ len ≤ cap ∧ len ≤ maxLen ∧ (∀ x ∈ ps, (Lit.int k x).wf = true) ∧ (Kd.int k).C w A len ps := by
  obtain ⟨ps, h1, h2, h3, h4⟩ := row_of_trod (α := Int) (R := fun p cs => cs = [.int k p] ∧ (Lit.int k p).wf = true) ht hc (fun f cs x hl hx => by
    obtain ⟨n, hn, _, hw⟩ := DataW.trod_int he hx
    exact ⟨n, hn, hw⟩) h
  refine ⟨ps, h1, h2, h3, fun x hx => ?_, h4.1, h4.2.1, fun hn => ?_⟩
  · obtain ⟨j, hj⟩ := List.mem_iff_getElem?.mp hx
    have hlt : j < ps.length := (List.getElem?_eq_some_iff.mp hj).1
    obtain ⟨ad, _, hc⟩ := h4.2.2 (by omega)
    obtain ⟨_, _, hR, _⟩ := hc j x hj
    exact hR.2
  · obtain ⟨ad, ha, hc⟩ := h4.2.2 hn
    refine ⟨ad, ha, fun j p hj => ?_⟩
    obtain ⟨c, c1, c2, c3⟩ := hc j p hj
    exact ⟨c, c1, c2.1, c3⟩
end Go.Proofs.Ytaifcadnnmicnaa.Op
