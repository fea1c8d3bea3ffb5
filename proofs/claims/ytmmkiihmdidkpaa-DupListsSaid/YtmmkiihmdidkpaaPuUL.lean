/- Plain Lean: the printed DupLists answers true at every input. -/
import Derived.Test.YtmmkiihmdidkpaaPuU
import Derived.Test.YtmmkiihmdidkpaaXU21
namespace Go.Proofs.Ytmmkiihmdidkpaa.XU
open Go.RowKit Go.Proofs.YtmmkiihmdidkpaaW.PrintWords
set_option linter.unusedVariables false
theorem found_any (key : ByteArray) : ∀ l : List S24, (dup_findS l key).2.2.2.2.2 = l.any fun y => y.f1.toList == key.toList
  | [] => rfl
  | x :: r => by
    unfold dup_findS
    rw [List.any_cons]
    by_cases e : x.f1.toList = key.toList
    · rw [if_pos e, beq_iff_eq.mpr e]; rfl
    · rw [if_neg e, beq_eq_false_iff_ne.mpr e, Bool.false_or]; exact found_any key r
theorem refBad_snoc (l : List S24) (x : S24) (i : Nat) (hi : i < l.length) : refBad (l ++ [x]) i = refBad l i := by
  have e : ∀ j, j < l.length → rd_T24 (l ++ [x]) (j : Int) = rd_T24 l (j : Int) := fun j hj => by
    rw [rd_get _ j (by simp; omega), rd_get l j hj, List.getElem_append_left hj]
  unfold refBad
  rw [e i hi, e (i - 1) (by omega), List.take_append_of_le_length (by omega)]
theorem mayL_snoc (l : List S24) (x : S24) (hm : dup_mayL l = true) (ho : oneX x = true) (hla : lateL l x.f0 = false) (hf : (dup_findS l x.f1).2.2.2.2.2 = false) (hn : ¬ l.length = 100) : dup_mayL (l ++ [x]) = true := by
  have h100 := mayL_len hm
  unfold dup_mayL at hm ⊢
  simp only [Bool.and_eq_true] at hm ⊢
  refine ⟨by simp; omega, (walk_bad _).mp fun i hi => ?_⟩
  have hw := (walk_bad l).mpr hm.2
  rcases Nat.lt_or_ge i l.length with h | h
  · rw [refBad_snoc l x i h]; exact hw i h
  · obtain rfl : i = l.length := by simp at hi; omega
    have ex : rd_T24 (l ++ [x]) (l.length : Int) = x := by rw [rd_get _ _ (by simp), List.getElem_append_right (Nat.le_refl _)]; simp
    unfold refBad
    rw [ex, ho, List.take_append_of_le_length (Nat.le_refl _), List.take_length, ← found_any, hf]
    unfold lateL at hla
    by_cases h0 : 0 < l.length
    · have e2 : rd_T24 (l ++ [x]) ((l.length - 1 : Nat) : Int) = rd_T24 l ((l.length - 1 : Nat) : Int) := by
        rw [rd_get _ _ (by simp; omega), rd_get _ _ (by omega), List.getElem_append_left (by omega)]
      rw [e2, hla]; rfl
    · rw [decide_eq_false h0]; rfl
theorem keepS_cases (l : List S24) (x : S24) : (∃ n, n ≠ 0 ∧ keepS l x = ([], n)) ∨ (keepS l x = (l ++ [x], 0) ∧ dup_mayL l = true ∧ oneX x = true ∧ lateL l x.f0 = false ∧ (dup_findS l x.f1).2.2.2.2.2 = false ∧ ¬ l.length = 100) := by
  unfold keepS
  split
  · rename_i h
    split
    · exact .inl ⟨8, by omega, rfl⟩
    · rename_i h2
      split
      · exact .inl ⟨9, by omega, rfl⟩
      · rename_i h3
        exact .inr ⟨rfl, h.1, h.2.1, h.2.2, Bool.eq_false_iff.mpr h2, h3⟩
  · exact .inl ⟨1, by omega, rfl⟩
theorem lists_end (out : List S24) (hm : dup_mayL out = true) : ∀ (d j k : Nat), out.length ≤ j + d → 1 ≤ j → d + 2 ≤ k → bursarlaw21_DupLists.l1 k out (j : Int) = some true
  | 0, j, k, h, hj, hk => by
    obtain ⟨k, rfl⟩ : ∃ m, k = m + 1 := ⟨k - 1, by omega⟩
    simp only [bursarlaw21_DupLists.l1]
    rw [if_neg (by omega), awake_eq k (by omega)]; rfl
  | d + 1, j, k, h, hj, hk => by
    obtain ⟨k, rfl⟩ : ∃ m, k = m + 1 := ⟨k - 1, by omega⟩
    have h100 := mayL_len hm
    simp only [bursarlaw21_DupLists.l1]
    by_cases hlt : j < out.length
    · have hb : refBad out j = false := by
        unfold dup_mayL at hm
        simp only [Bool.and_eq_true] at hm
        exact (walk_bad out).mpr hm.2 j hlt
      unfold refBad at hb
      simp only [Bool.or_eq_false_iff, Bool.and_eq_false_iff, decide_eq_false_iff_not] at hb
      have hlt2 : ¬ (rd_T24 out (j : Int)).f0 ≤ (rd_T24 out ((j - 1 : Nat) : Int)).f0 := by
        rcases hb.2.1 with h1 | h1
        · omega
        · exact h1
      rw [if_pos (by omega), wrap_ok (x := (j : Int) - 1) (by omega) (by omega), wrap_ok (x := (j : Int) + 1) (by omega) (by omega), if_pos (by omega), if_pos (by omega), if_pos (by omega), show (j : Int) - 1 = ((j - 1 : Nat) : Int) by omega, show (j : Int) + 1 = ((j + 1 : Nat) : Int) by omega]
      rw [if_neg hlt2]
      exact lists_end out hm d (j + 1) k (by omega) (by omega) (by omega)
    · rw [if_neg (by omega), awake_eq k (by omega)]; rfl
theorem lists_from (l0 : List S24) : ∀ (d i k : Nat) (out : List S24), i + d = 30 → 2 * d + 1200 ≤ k → out.length ≤ i → dup_mayL out = true → (∀ x ∈ out, x.f1.size ≤ 60) → bursarlaw21_DupLists.l0 k l0 out (i : Int) = some true
  | d, i, k, out, h, hk, hlen, hm, hz => by
    have hend : ∀ k, 200 ≤ k → bursarlaw21_DupLists.j1 k l0 out (i : Int) false = some true := fun k hk => by
      obtain ⟨k, rfl⟩ : ∃ m, k = m + 1 := ⟨k - 1, by omega⟩
      simp only [bursarlaw21_DupLists.j1]
      rw [if_neg (by simp)]
      exact lists_end out hm out.length 1 k (by omega) (Nat.le_refl _) (by omega)
    obtain ⟨k, rfl⟩ : ∃ m, k = m + 1 := ⟨k - 1, by omega⟩
    simp only [bursarlaw21_DupLists.l0]
    by_cases hi : i < l0.length
    · rw [if_pos (by omega)]
      match d, h, hk with
      | 0, h, hk =>
        rw [decide_eq_false (by omega)]
        exact hend k (by omega)
      | d + 1, h, hk =>
        rw [decide_eq_true (by omega)]
        obtain ⟨k, rfl⟩ : ∃ m, k = m + 1 := ⟨k - 1, by omega⟩
        simp only [bursarlaw21_DupLists.j1]
        rw [if_pos trivial, if_pos (by omega), if_pos (by omega), one_eq, Option.bind_some]
        generalize hX : (⟨(rd_T24 l0 (i : Int)).f0, cut (rd_T24 l0 (i : Int)).f1, cut (rd_T24 l0 (i : Int)).f2, cut (rd_T24 l0 (i : Int)).f3, (rd_T24 l0 (i : Int)).f4⟩ : S24) = X
        have hXs : X.f1.size ≤ 60 := by rw [← hX]; exact cut_size _
        have hkeep := dup_keep_eq out X (by omega) hz k (by omega)
        have e0 : (rd_T24 l0 (i : Int)).f0 = X.f0 := by rw [← hX]
        have e1 : cut (rd_T24 l0 (i : Int)).f1 = X.f1 := by rw [← hX]
        have e2 : cut (rd_T24 l0 (i : Int)).f2 = X.f2 := by rw [← hX]
        have e3 : cut (rd_T24 l0 (i : Int)).f3 = X.f3 := by rw [← hX]
        have e4 : (rd_T24 l0 (i : Int)).f4 = X.f4 := by rw [← hX]
        simp only [e0, e1, e2, e3, e4]
        rw [hkeep, Option.bind_some, wrap_ok (x := (i : Int) + 1) (by omega) (by omega), show (i : Int) + 1 = ((i + 1 : Nat) : Int) by omega]
        rcases keepS_cases out X with ⟨n, hn, hks⟩ | ⟨hks, hm', ho, hla, hf, hn⟩
        · rw [hks]
          show (if n = 0 then _ else _) = _
          rw [if_neg hn, if_pos (by simp)]
          exact lists_from l0 d (i + 1) k out (by omega) (by omega) (by omega) hm hz
        · rw [hks]
          have hmay := mayL_snoc out X hm' ho hla hf hn
          have hz' : ∀ x ∈ out ++ [X], x.f1.size ≤ 60 := fun x hx => by
            rcases List.mem_append.mp hx with h | h
            · exact hz x h
            · rw [List.mem_singleton.mp h]; exact hXs
          have hrd : rd_T24 (out ++ [X]) (out.length : Int) = X := by rw [rd_get _ _ (by simp), List.getElem_append_right (Nat.le_refl _)]; simp
          have hsame := same_eq out (by omega) k (by omega)
          simp only [hrd, dup_may_eq _ hz', hmay, Option.bind_some, if_true]
          rw [if_pos (by rw [wrap_ok (by omega) (by omega)]; simp), if_pos (by omega), if_pos (by simp; try omega), if_neg (by simp), if_pos (by simp; try omega)]
          rw [Int.toNat_natCast, List.take_append_of_le_length (Nat.le_refl _), List.take_length, hsame, Option.bind_some, if_pos rfl]
          exact lists_from l0 d (i + 1) k _ (by omega) (by omega) (by simp; omega) hmay hz'
    · rw [if_neg (by omega)]
      exact hend k (by omega)
theorem lists_pure (l0 : List S24) : bursarlaw21_DupLists.f 20000 l0 = some true := by
  unfold bursarlaw21_DupLists.f
  exact lists_from l0 30 0 20000 [] (by omega) (by omega) (Nat.le_refl _) rfl (fun x hx => by cases hx)
end Go.Proofs.Ytmmkiihmdidkpaa.XU
