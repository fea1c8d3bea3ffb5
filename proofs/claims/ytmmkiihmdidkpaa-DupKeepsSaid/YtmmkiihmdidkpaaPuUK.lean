/- Plain Lean: the printed DupKeeps answers true at every input. -/
import Derived.Test.YtmmkiihmdidkpaaPuU
import Derived.Test.YtmmkiihmdidkpaaXU17
namespace Go.Proofs.Ytmmkiihmdidkpaa.XU
open Go.RowKit Go.Proofs.YtmmkiihmdidkpaaW.PrintWords
set_option linter.unusedVariables false
theorem keeps_pure (l0 : List S24) (a1_0 : Int) (a1_1 : ByteArray) (a1_2 : ByteArray) (a1_3 : ByteArray) (a1_4 : Int) (a2 : ByteArray) : bursarlaw21_DupKeeps.f 20000 l0 a1_0 a1_1 a1_2 a1_3 a1_4 a2 = some true := by
  have hk : 17442 ≤ 20000 := by omega
  have hl := fewL_len l0
  have hz : ∀ x ∈ fewL l0, x.f1.size ≤ 60 := fun x hx => fewL_key hx
  obtain ⟨x, hx⟩ : ∃ x : S24, x = ⟨a1_0, cut a1_1, cut a1_2, cut a1_3, a1_4⟩ := ⟨_, rfl⟩
  have h1 := dup_keep_eq (fewL l0) x (by omega) hz 20000 (by omega)
  have h2 := ref_keep_eq (fewL l0) x hl hz (by rw [hx]; exact cut_size _) 20000 hk
  have h3 := ref_find_eq (fewL l0) (cut a2) (by omega) 20000 (by omega)
  have h4 := ref_may_eq (fewL l0) hl hz 20000 hk
  have h5 := dup_may_eq (fewL l0) hz
  have h6 := same_eq (keepS (fewL l0) x).1 (keepS_len _ _) 20000 (by omega)
  have h7 := same_eq (fewL l0) (by omega) 20000 (by omega)
  have h8 := awake_eq 20000 (by omega)
  have h9 := few_eq l0 20000 (by omega)
  have h10 := few_eq (fewL l0) 20000 (by omega)
  rw [fewL_id] at h10
  subst hx
  unfold bursarlaw21_DupKeeps.f
  rw [h9, one_eq, text_eq]
  simp only [Option.bind_some, h10, h1, h2, h3, h4, h5, h6, h7, h8, dup_Find.f]
  simp
end Go.Proofs.Ytmmkiihmdidkpaa.XU
