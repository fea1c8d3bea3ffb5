/- Plain Lean: the printed DupSweeps answers true at every input. -/
import Derived.Test.YtmmkiihmdidkpaaPuU
import Derived.Test.YtmmkiihmdidkpaaXU19
namespace Go.Proofs.Ytmmkiihmdidkpaa.XU
open Go.RowKit Go.Proofs.YtmmkiihmdidkpaaW.PrintWords
set_option linter.unusedVariables false
theorem mayL_at {l : List S24} (h : dup_mayL l = true) (x : S24) (hx : x ∈ l) : 0 ≤ x.f4 ∧ x.f4 ≤ 2147483647 := by
  unfold dup_mayL at h
  simp only [Bool.and_eq_true] at h
  have hw := (walk_bad l).mpr h.2
  obtain ⟨i, hi, rfl⟩ := List.mem_iff_getElem.mp hx
  have hb := hw i hi
  unfold refBad at hb
  simp only [Bool.or_eq_false_iff] at hb
  have ho : oneX (rd_T24 l (i : Int)) = true := by simpa using hb.1
  rw [rd_get l i hi] at ho
  unfold oneX Dp.oneB at ho
  simp only [Bool.and_eq_true, decide_eq_true_iff] at ho
  exact ⟨ho.1.1.1.1.1.1.1.2, ho.1.1.1.1.1.1.2⟩
theorem ref_sweep_from (l : List S24) (t : Int) (ht0 : -9223372036854775808 ≤ t) (ht : t ≤ 9223372036854775807) (hl : l.length ≤ 1000) (hz : ∀ x ∈ l, 0 ≤ x.f4) : ∀ (d i k : Nat) (acc : List S24), i + d = l.length → d < k → acc.length ≤ i → bursarref21_Sweep.l0 k l t acc (i : Int) = some (acc ++ (l.drop i).filter fun x => !dup_old t x)
  | 0, i, k, acc, h, hk, ha => by
    obtain ⟨k, rfl⟩ : ∃ m, k = m + 1 := ⟨k - 1, by omega⟩
    simp only [bursarref21_Sweep.l0]
    rw [if_neg (by omega), List.drop_eq_nil_of_le (by omega)]; simp
  | d + 1, i, k, acc, h, hk, ha => by
    obtain ⟨k, rfl⟩ : ∃ m, k = m + 1 := ⟨k - 1, by omega⟩
    have hi : i < l.length := by omega
    have h4 := hz l[i] (List.getElem_mem hi)
    simp only [bursarref21_Sweep.l0]
    rw [if_pos (by omega), List.drop_eq_getElem_cons hi, List.filter_cons, rd_get l i hi]
    have step := fun (acc' : List S24) (ha' : acc'.length ≤ i + 1) => ref_sweep_from l t ht0 ht hl hz d (i + 1) k acc' (by omega) (by omega) ha'
    rw [wrap_ok (x := (i : Int) + 1) (by omega) (by omega), show (i : Int) + 1 = ((i + 1 : Nat) : Int) by omega]
    by_cases h50 : t ≤ 50
    · have hold : dup_old t l[i] = false := by
        unfold dup_old
        by_cases h0 : 0 < t
        · rw [decide_eq_false (show ¬ l[i].f4 < t - 50 by omega), Bool.and_false]
        · rw [decide_eq_false h0, Bool.false_and]
      rw [if_pos h50, if_pos (by omega), if_pos (by omega), step _ (by simp; omega), hold]
      simp
    · rw [if_neg h50, if_pos (by omega), wrap_ok (x := t - 50) (by omega) (by omega)]
      by_cases hge : l[i].f4 ≥ t - 50
      · have hold : dup_old t l[i] = false := by
          unfold dup_old
          rw [decide_eq_false (show ¬ l[i].f4 < t - 50 by omega), Bool.and_false]
        rw [if_pos hge, if_pos (by omega), step _ (by simp; omega), hold]
        simp
      · have hold : dup_old t l[i] = true := by
          unfold dup_old
          rw [decide_eq_true (show l[i].f4 < t - 50 by omega), decide_eq_true (show 0 < t by omega)]; rfl
        rw [if_neg hge, step _ (by omega), hold]
        simp
theorem ref_sweep_eq (l : List S24) (t : Int) (ht0 : -9223372036854775808 ≤ t) (ht : t ≤ 9223372036854775807) (hl : l.length ≤ 1000) (hz : ∀ x ∈ l, 0 ≤ x.f4) (k : Nat) (hk : 1001 ≤ k) : bursarref21_Sweep.f k l t = some (l.filter fun x => !dup_old t x) := by
  unfold bursarref21_Sweep.f
  have := ref_sweep_from l t ht0 ht hl hz l.length 0 k [] (by omega) (by omega) (Nat.zero_le _)
  rw [Int.natCast_zero] at this
  rw [this]; simp
theorem filter_len (l : List S24) (t : Int) : (l.filter fun x => !dup_old t x).length ≤ l.length := List.length_filter_le _ _
theorem filter_later (l : List S24) (t u : Int) (h : t ≤ u) : ((l.filter fun x => !dup_old t x).filter fun x => !dup_old u x) = l.filter fun x => !dup_old u x := by
  rw [List.filter_filter]
  refine List.filter_congr fun x _ => ?_
  unfold dup_old
  by_cases h1 : 0 < t
  · by_cases h2 : x.f4 < t - 50
    · rw [decide_eq_true h1, decide_eq_true h2, decide_eq_true (show 0 < u by omega), decide_eq_true (show x.f4 < u - 50 by omega)]; rfl
    · rw [decide_eq_false h2, Bool.and_false, Bool.not_false, Bool.and_true]
  · rw [decide_eq_false h1, Bool.false_and, Bool.not_false, Bool.and_true]
theorem sweeps_pure (l0 : List S24) (a1 : Int) (a2 : Int) (w1 : (Lit.int .i64 a1).wf = true) (w2 : (Lit.int .u16 a2).wf = true) : bursarlaw21_DupSweeps.f 20000 l0 a1 a2 = some true := by
  have hk : 17442 ≤ 20000 := by omega
  have ha1 : -9223372036854775808 ≤ a1 ∧ a1 ≤ 9223372036854775807 := by
    simp [Lit.wf, IntKind.min, IntKind.max, IntKind.signed, IntKind.bits] at w1; omega
  have ha2 : 0 ≤ a2 ∧ a2 ≤ 65535 := by
    simp [Lit.wf, IntKind.min, IntKind.max, IntKind.signed, IntKind.bits] at w2; omega
  clear w1 w2
  have hl := fewL_len l0
  have hz : ∀ x ∈ fewL l0, x.f1.size ≤ 60 := fun x hx => fewL_key hx
  have h4 := ref_may_eq (fewL l0) hl hz 20000 hk
  have h8 := awake_eq 20000 (by omega)
  have h9 := few_eq l0 20000 (by omega)
  have h10 := few_eq (fewL l0) 20000 (by omega)
  rw [fewL_id] at h10
  unfold bursarlaw21_DupSweeps.f
  rw [h9]
  simp only [Option.bind_some, h4]
  cases hm : dup_mayL (fewL l0) with
  | false => simp only [Bool.false_eq_true, if_false, h8, Option.bind_some]
  | true =>
    have hz4 : ∀ x ∈ fewL l0, 0 ≤ x.f4 := fun x hx => (mayL_at hm x hx).1
    generalize hL : fewL l0 = L at *
    have hf := filter_len L a1
    have hs := ref_sweep_eq L a1 ha1.1 ha1.2 (by omega) hz4 20000 (by omega)
    have hd : dup_Sweep.f L a1 = some (L.filter fun x => !dup_old a1 x) := if_pos ⟨by omega, ha1.2⟩
    have hd2 : dup_Sweep.f (L.filter fun x => !dup_old a1 x) a1 = some (L.filter fun x => !dup_old a1 x) := by
      unfold dup_Sweep.f; rw [if_pos ⟨by omega, ha1.2⟩, filter_later L a1 a1 (Int.le_refl _)]
    have hsame := same_eq (L.filter fun x => !dup_old a1 x) (by omega) 20000 (by omega)
    have hsame2 := same_eq L (by omega) 20000 (by omega)
    simp only [if_true, h10, Option.bind_some, hd, hs, hsame, hsame2, hd2, Bool.not_true]
    have haw : ∀ k, 1 ≤ k → bursarlaw21_awake.f k = some true := awake_eq
    show bursarlaw21_DupSweeps.j0 (19998 + 2) L a1 a2 (L.filter fun x => !dup_old a1 x) false = some true
    have hj1 : bursarlaw21_DupSweeps.j1 (19998 + 1) L a1 a2 (L.filter fun x => !dup_old a1 x) true = some true := by
      simp only [bursarlaw21_DupSweeps.j1, if_true, haw 19998 (by omega), Option.bind_some]
    simp only [bursarlaw21_DupSweeps.j0]
    rw [if_neg (by simp)]
    by_cases hb1 : a1 > 1099511627776
    · rw [if_pos hb1, hj1]
    · rw [if_neg hb1]
      by_cases hb2 : a1 < -1099511627776
      · rw [decide_eq_true hb2, hj1]
      · rw [decide_eq_false hb2]
        have hu : wrap64 (a1 + wrap64 a2) = a1 + a2 := by rw [wrap_ok (x := a2) (by omega) (by omega), wrap_ok (by omega) (by omega)]
        have e1 : dup_Sweep.f (L.filter fun x => !dup_old a1 x) (a1 + a2) = some (L.filter fun x => !dup_old (a1 + a2) x) := by
          unfold dup_Sweep.f; rw [if_pos ⟨by omega, by omega⟩, filter_later L a1 (a1 + a2) (by omega)]
        have e2 : dup_Sweep.f L (a1 + a2) = some (L.filter fun x => !dup_old (a1 + a2) x) := if_pos ⟨by omega, by omega⟩
        have hf2 := filter_len L (a1 + a2)
        have e3 := same_eq (L.filter fun x => !dup_old (a1 + a2) x) (by omega) 19998 (by omega)
        simp only [bursarlaw21_DupSweeps.j1, hu, e1, e2, e3, Option.bind_some, if_true, haw 19998 (by omega)]
        rw [if_neg (by simp)]
end Go.Proofs.Ytmmkiihmdidkpaa.XU
