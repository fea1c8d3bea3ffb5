import Derived.Test.YteghpaomggajdaaDoorPuG
import Derived.Test.YteghpaomggajdaaDoorDf
import Derived.Outline
namespace Go.Proofs.YteghpaomggajdaaDoor.XG
open Go.RowKit Go.Proofs.YteghpaomggajdaaDoorW.PrintWords Go.Proofs.YteghpaomggajdaaDoorW.PrintLast Go.Proofs.YteghpaomggajdaaDoorW.PrintMore
theorem copy_row (W : World) (B n c : Nat) (xs : List Int) (hlen : xs.length = n) (hpos : 0 < n) (hn : n ≤ 1000)
    (hc : ∀ (j : Nat) x, xs[j]? = some x → W.cell? ⟨B, j, none⟩ = some (.int .u8 x)) (hB : B < W.heap.size) :
    ∃ g cap w1, (Builtin.append_ #[38, 38] 38 #[.slice (some ⟨W.heap.size, 0, none⟩) 0 0, .slice (some ⟨B, 0, none⟩) n c]).run Tryd.prog (W.alloc (.cells #[] 5)) = .ok (.slice (some ⟨g, 0, none⟩) n cap) w1
      ∧ w1.ownsRow W.heap.size 5 1 (.slice (some ⟨g, 0, none⟩) n cap) n (nums .u8 xs) ∧ Below W.heap.size W w1 ∧ W.heap.size ≤ g := by
  obtain ⟨i0, hi, hzz⟩ := Option.map_eq_some_iff.1 info5
  simp only [Prod.mk.injEq] at hzz
  obtain ⟨hz0, hz1, hz2⟩ := hzz
  have hsz : (W.alloc (.cells #[] 5)).heap.size = W.heap.size + 1 := by simp [World.alloc, -World.alloc_eq]
  have hown := own_lit W W.heap.size 5 .u8 [] (Nat.le_refl _) (by simp)
  obtain ⟨v1, w1, hrun, ho, hg, hnil, hat⟩ := run_append_own_at (P := Tryd.prog) (w := W.alloc (.cells #[] 5)) W.heap.size 38 38 5 i0 (.int .u8 0) 1 1 Tryd.underlying38 hi hz0 hz1 hz2 rfl (by omega)
    (.slice (some ⟨W.heap.size, 0, none⟩) 0 0) 0 [] hown ⟨B, 0, none⟩ n c (nums .u8 xs) (by rw [nums_length, hlen, Nat.mul_one])
    (fun j u hu => by
      have hj : j < xs.length := by
        have := (List.getElem?_eq_some_iff.1 hu).1
        rwa [nums_length] at this
      have : u = .int .u8 xs[j] := by
        rw [nums, List.getElem?_map, List.getElem?_eq_getElem hj] at hu
        exact (Option.some.inj hu).symm
      subst this
      rw [add_plain, (World.cell?_of_block (w := W) (Below.heap_alloc W _ B hB))]
      exact hc j _ (List.getElem?_eq_getElem hj))
    (fun u hu => by
      obtain ⟨x, _, rfl⟩ := List.mem_map.1 hu
      rfl) (by simp only [maxLen]; omega) (by omega) (by omega)
  rw [Nat.zero_add, List.nil_append] at ho
  rcases ho.2 with ⟨rfl, hn0⟩ | ⟨g, cap, cur, rfl, hb, _⟩
  · omega
  · refine ⟨g, cap, w1, hrun, ho, ?_, hb⟩
    refine Below.grown ((Below.refl _ W).alloc (Nat.le_refl _) _) hg (by omega) (fun k hk => ?_)
    cases hk
    exact Nat.le_refl _
end Go.Proofs.YteghpaomggajdaaDoor.XG
