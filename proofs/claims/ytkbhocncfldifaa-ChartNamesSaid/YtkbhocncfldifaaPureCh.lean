/- Plain Lean: the printed functions of the three laws on accounts answer true at whatever account and text. -/
import Derived.Test.YtkbhocncfldifaaXCh4
import Derived.Test.YtkbhocncfldifaaXCh5
import Derived.Test.YtkbhocncfldifaaXCh7
namespace Go.Proofs.Ytkbhocncfldifaa.XCh
open Go.RowKit Go.Proofs.YtkbhocncfldifaaW.PrintWords
set_option linter.unusedVariables false

theorem few_some (s : ByteArray) : ∃ t, bursarlaw11_few.f s = some t := by
  unfold bursarlaw11_few.f
  by_cases h : (s.size : Int) > 40
  · rw [if_pos h, if_pos (by decide), if_pos (by omega)]; exact ⟨_, rfl⟩
  · rw [if_neg h]; exact ⟨_, rfl⟩

theorem ChartNames_true (k : Int) (s : ByteArray) : bursarlaw11_ChartNames.f 1 k s = some true := by
  obtain ⟨t, ht⟩ := few_some s
  unfold bursarlaw11_ChartNames.f
  rw [ht]
  simp only [Option.bind_some, chart_Name.f, bursarref11_Name.f, chart_May.f, chart_Parse.f, bursarlaw11_awake.f, bursarlaw11_ChartNames.j0]
  by_cases hm : Pu.mayB k t = true
  · have hn : Pu.nameB k t = Pu.letter k ++ t := by unfold Pu.nameB; rw [if_pos hm]
    simp only [hn, hm, Pu.parse_name hm]
    simp
  · have hm' : Pu.mayB k t = false := by simpa using hm
    simp only [hm']
    simp

theorem ChartParses_true (s : ByteArray) : bursarlaw11_ChartParses.f 2 s = some true := by
  obtain ⟨t, ht⟩ := few_some s
  unfold bursarlaw11_ChartParses.f
  rw [ht, Option.bind_some]
  simp only [bursarref11_Name.f, chart_May.f, chart_Parse.f, bursarref11_Parse.f, chart_Card.f, chart_Acquirer.f, chart_own.f, bursarlaw11_awake.f, bursarlaw11_ChartParses.j0, bursarlaw11_ChartParses.j1, Option.bind_some]
  cases (Pu.parseB t).2.2 <;> cases h1 : Pu.mayB 1 t <;> cases h2 : Pu.mayB 2 t <;> simp [ByteArray.toList_eq]

theorem name_inj {k1 k2 : Int} {s1 s2 : ByteArray} (h1 : Pu.mayB k1 s1 = true) (h2 : Pu.mayB k2 s2 = true) : Pu.letter k1 ++ s1 = Pu.letter k2 ++ s2 ↔ k1 = k2 ∧ s1 = s2 := by
  constructor
  · intro h
    have a := Pu.first_of_app (Pu.letter k1) s1 (Pu.letter_size (Pu.kind_of_may h1))
    have b := Pu.first_of_app (Pu.letter k2) s2 (Pu.letter_size (Pu.kind_of_may h2))
    have c := Pu.rest_of_app (Pu.letter k1) s1 (Pu.letter_size (Pu.kind_of_may h1))
    have d := Pu.rest_of_app (Pu.letter k2) s2 (Pu.letter_size (Pu.kind_of_may h2))
    rw [h] at a c
    exact ⟨Pu.letter_inj (Pu.kind_of_may h1) (Pu.kind_of_may h2) (a.symm.trans b), c.symm.trans d⟩
  · rintro ⟨rfl, rfl⟩; rfl
theorem acq_card (s1 s2 : ByteArray) : Op.bytesLess (Pu.letter 2 ++ s1).toList (Pu.letter 1 ++ s2).toList = true := by
  rw [ByteArray.toList_eq, ByteArray.toList_eq, Pu.data_append, Pu.data_append]; rfl
theorem cmpS_neg (a b : ByteArray) : Pu.cmpS a b < 0 ↔ Op.bytesLess a.toList b.toList = true := by
  unfold Pu.cmpS
  by_cases h : Op.bytesLess a.toList b.toList = true
  · rw [if_pos h]; simp [h]
  · rw [if_neg h]
    split
    · simp [h]
    · simp [h]

theorem ChartApart_true (k1 : Int) (s1 : ByteArray) (k2 : Int) (s2 : ByteArray) : bursarlaw11_ChartApart.f 1 k1 s1 k2 s2 = some true := by
  obtain ⟨t1, ht1⟩ := few_some s1
  obtain ⟨t2, ht2⟩ := few_some s2
  unfold bursarlaw11_ChartApart.f
  rw [ht1, ht2, Option.bind_some, Option.bind_some]
  simp only [chart_Name.f, chart_May.f, chart_Order.f, bursarlaw11_awake.f, bursarlaw11_ChartApart.j0, Option.bind_some]
  cases h1 : Pu.mayB k1 t1 <;> cases h2 : Pu.mayB k2 t2
  · simp
  · simp
  · simp
  · have n1 : Pu.nameB k1 t1 = Pu.letter k1 ++ t1 := by unfold Pu.nameB; rw [if_pos h1]
    have n2 : Pu.nameB k2 t2 = Pu.letter k2 ++ t2 := by unfold Pu.nameB; rw [if_pos h2]
    have ho : Pu.orderS k1 t1 k2 t2 = Pu.cmpS (Pu.letter k1 ++ t1) (Pu.letter k2 ++ t2) := by unfold Pu.orderS; rw [if_pos ⟨h1, h2⟩, n1, n2]
    have hs : (((Pu.letter k1 ++ t1).toList == (Pu.letter k2 ++ t2).toList) == (k1 == k2 && (t1.toList == t2.toList))) = true := by
      rw [beq_iff_eq, Bool.eq_iff_iff, beq_iff_eq, Pu.toList_inj, Bool.and_eq_true, beq_iff_eq, beq_iff_eq, Pu.toList_inj]
      exact name_inj h1 h2
    rw [n1, n2, ho, if_pos rfl, if_pos rfl, if_neg (by decide), if_pos hs]
    by_cases hl : Op.bytesLess (Pu.letter k1 ++ t1).toList (Pu.letter k2 ++ t2).toList = true
    · rw [if_pos ((cmpS_neg _ _).mpr hl), if_pos hl]
      simp
    · rw [if_neg (fun g => hl ((cmpS_neg _ _).mp g)), if_neg hl]
      by_cases e1 : k1 = 2
      · by_cases e2 : k2 = 1
        · subst e1 e2; exact absurd (acq_card t1 t2) hl
        · rw [if_pos e1, if_neg e2]
      · rw [if_neg e1]
end Go.Proofs.Ytkbhocncfldifaa.XCh
