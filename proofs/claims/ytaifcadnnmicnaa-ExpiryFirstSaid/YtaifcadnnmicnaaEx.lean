/- The order in which holds lapse: by tick, then by key, then by place. Plain; no program in sight. -/
import Derived.Test.YtaifcadnnmicnaaHp
namespace Go.Proofs.Ytaifcadnnmicnaa.Ex
set_option linter.unusedVariables false
set_option linter.unusedSimpArgs false
theorem less_trans : ∀ a b c : List UInt8, Op.bytesLess a b = true → Op.bytesLess b c = true → Op.bytesLess a c = true
  | [], [], _ => fun h _ => by simp [Op.bytesLess] at h
  | _, [], [] => fun _ h => by simp [Op.bytesLess] at h
  | _, _ :: _, [] => fun _ h => by simp [Op.bytesLess] at h
  | [], _ :: _, _ :: _ => fun _ _ => rfl
  | _ :: _, [], _ :: _ => fun h _ => by simp [Op.bytesLess] at h
  | x :: a, y :: b, z :: c => by
    have ih := less_trans a b c
    simp only [Op.bytesLess]
    intro h1 h2
    by_cases e1 : x < y
    · by_cases e2 : y < z
      · have : x < z := UInt8.lt_trans e1 e2
        simp [this]
      · simp [e2] at h2
        by_cases e3 : y = z
        · subst e3; simp [e1]
        · simp_all
    · by_cases e3 : x = y
      · subst e3
        by_cases e2 : x < z
        · simp [e2]
        · simp_all
      · simp_all
abbrev I3 := Int × ByteArray × Int
def or3 (a b c : Int) : Int := if a ≠ 0 then a else if b ≠ 0 then b else c
def ltI (x y : I3) : Bool := decide (or3 (Pu.cmpI x.1 y.1) (Pu.cmpS x.2.1 y.2.1) (Pu.cmpI x.2.2 y.2.2) < 0)
theorem ltI_iff (x y : I3) : ltI x y = true ↔ x.1 < y.1 ∨ (x.1 = y.1 ∧ (Op.bytesLess x.2.1.toList y.2.1.toList = true ∨ (x.2.1.toList = y.2.1.toList ∧ x.2.2 < y.2.2))) := by
  unfold ltI or3 Pu.cmpI Pu.cmpS
  rw [decide_eq_true_iff]
  rcases Pu.less_tri x.2.1.toList y.2.1.toList with h | h | h
  · have h' := Pu.less_asym _ _ h
    have hne : x.2.1.toList ≠ y.2.1.toList := fun e => by rw [e, Pu.less_irr] at h; cases h
    simp only [h, h', hne]
    simp
    split <;> split <;> omega
  · rw [h]
    simp only [Pu.less_irr]
    simp
    split <;> split <;> (try split) <;> (try split) <;> omega
  · have h' := Pu.less_asym _ _ h
    have hne : x.2.1.toList ≠ y.2.1.toList := fun e => by rw [e, Pu.less_irr] at h; cases h
    simp only [h, h', hne]
    simp
    split <;> split <;> omega
theorem ord : Hp.Ord ltI := by
  refine ⟨fun a b h => ?_, fun a b c h1 h2 => ?_⟩
  · refine Bool.eq_false_iff.mpr fun h2 => ?_
    rw [ltI_iff] at h h2
    rcases h with h | ⟨e, h⟩
    · rcases h2 with h2 | ⟨e2, _⟩ <;> omega
    · rcases h2 with h2 | ⟨e2, h2⟩
      · omega
      · rcases h with h | ⟨e3, h⟩
        · rcases h2 with h2 | ⟨e4, _⟩
          · rw [Pu.less_asym _ _ h] at h2; cases h2
          · rw [e4, Pu.less_irr] at h; cases h
        · rcases h2 with h2 | ⟨e4, h2⟩
          · rw [e3, Pu.less_irr] at h2; cases h2
          · omega
  · refine Bool.eq_false_iff.mpr fun h3 => ?_
    have n1 : ¬ ltI b a = true := by rw [h1]; exact Bool.false_ne_true
    have n2 : ¬ ltI c b = true := by rw [h2]; exact Bool.false_ne_true
    rw [ltI_iff] at h3 n1 n2
    have q1 : ¬ b.1 < a.1 := fun h => n1 (.inl h)
    have q2 : ¬ c.1 < b.1 := fun h => n2 (.inl h)
    rcases h3 with h | ⟨e, h⟩
    · omega
    · have ea : b.1 = a.1 := by omega
      have ec : c.1 = b.1 := by omega
      have r1 : ¬ Op.bytesLess b.2.1.toList a.2.1.toList = true := fun h => n1 (.inr ⟨ea, .inl h⟩)
      have r2 : ¬ Op.bytesLess c.2.1.toList b.2.1.toList = true := fun h => n2 (.inr ⟨ec, .inl h⟩)
      have t1 : b.2.1.toList = a.2.1.toList → ¬ b.2.2 < a.2.2 := fun e h => n1 (.inr ⟨ea, .inr ⟨e, h⟩⟩)
      have t2 : c.2.1.toList = b.2.1.toList → ¬ c.2.2 < b.2.2 := fun e h => n2 (.inr ⟨ec, .inr ⟨e, h⟩⟩)
      rcases Pu.less_tri a.2.1.toList b.2.1.toList with u | u | u
      · rcases Pu.less_tri b.2.1.toList c.2.1.toList with v | v | v
        · have := less_trans _ _ _ u v
          rcases h with h | ⟨h, _⟩
          · rw [Pu.less_asym _ _ this] at h; cases h
          · rw [h, Pu.less_irr] at this; cases this
        · rw [v] at u
          rcases h with h | ⟨h, _⟩
          · rw [Pu.less_asym _ _ u] at h; cases h
          · rw [h, Pu.less_irr] at u; cases u
        · exact r2 v
      · rcases Pu.less_tri b.2.1.toList c.2.1.toList with v | v | v
        · rw [← u] at v
          rcases h with h | ⟨h, _⟩
          · rw [Pu.less_asym _ _ v] at h; cases h
          · rw [h, Pu.less_irr] at v; cases v
        · rcases h with h | ⟨_, h⟩
          · rw [← v, ← u, Pu.less_irr] at h; cases h
          · have := t1 u.symm; have := t2 v.symm; omega
        · exact r2 v
      · exact r1 u
theorem anti (a b : I3) (h1 : ltI a b = false) (h2 : ltI b a = false) : a = b := by
  have n1 : ¬ ltI a b = true := by rw [h1]; exact Bool.false_ne_true
  have n2 : ¬ ltI b a = true := by rw [h2]; exact Bool.false_ne_true
  rw [ltI_iff] at n1 n2
  have q1 : a.1 = b.1 := by
    have p1 : ¬ a.1 < b.1 := fun h => n1 (.inl h)
    have p2 : ¬ b.1 < a.1 := fun h => n2 (.inl h)
    omega
  rcases Pu.less_tri a.2.1.toList b.2.1.toList with u | u | u
  · exact absurd (.inr ⟨q1, .inl u⟩) n1
  · have p1 : ¬ a.2.2 < b.2.2 := fun h => n1 (.inr ⟨q1, .inr ⟨u, h⟩⟩)
    have p2 : ¬ b.2.2 < a.2.2 := fun h => n2 (.inr ⟨q1.symm, .inr ⟨u.symm, h⟩⟩)
    obtain ⟨a1, a2, a3⟩ := a
    obtain ⟨b1, b2, b3⟩ := b
    have h2 : a2 = b2 := Pu.toList_inj.mp u
    simp only at q1 p1 p2
    rw [q1, h2, show a3 = b3 by omega]
  · exact absurd (.inr ⟨q1.symm, .inl u⟩) n2
end Go.Proofs.Ytaifcadnnmicnaa.Ex
