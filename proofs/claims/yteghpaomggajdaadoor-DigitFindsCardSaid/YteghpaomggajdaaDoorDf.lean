/- Plain Lean: sound digits of which one is another one, or of which two neighbours are changed. -/
import Derived.Test.YteghpaomggajdaaDoorDg
namespace Go.Proofs.YteghpaomggajdaaDoor.Dg
open Go.RowKit Go.Proofs.YteghpaomggajdaaDoorW.PrintWords
def wt (k : Nat) (c : Int) : Int := if k % 2 = 1 then Pu.dbl (c - 48) else c - 48
theorem luhn_at (A B : List Int) (c : Int) : Pu.luhn (A ++ c :: B) = luK (B.length + 1) A + (Pu.luhn B + wt B.length c) := by
  rw [luhn_app]; rfl
theorem luK_same : ∀ (A : List Int) (k : Nat), luK k A = luK k A := fun _ _ => rfl
theorem wt_inj (k : Nat) (c x : Int) (hc : 48 ≤ c ∧ c ≤ 57) (hx : 48 ≤ x ∧ x ≤ 57) (hne : c ≠ x) : (wt k x - wt k c) % 10 ≠ 0 := by
  unfold wt Pu.dbl
  split
  · split <;> split <;> omega
  · omega
theorem wt_swap (k : Nat) (a b : Int) (ha : 48 ≤ a ∧ a ≤ 57) (hb : 48 ≤ b ∧ b ≤ 57) (hne : a ≠ b) :
    ((wt (k + 1) b + wt k a) - (wt (k + 1) a + wt k b)) % 10 = 0 ↔ (a = 48 ∧ b = 57) ∨ (a = 57 ∧ b = 48) := by
  unfold wt Pu.dbl
  by_cases h : k % 2 = 1
  · rw [if_neg (show ¬ (k + 1) % 2 = 1 by omega), if_neg (show ¬ (k + 1) % 2 = 1 by omega), if_pos h, if_pos h]
    split <;> split <;> omega
  · rw [if_pos (show (k + 1) % 2 = 1 by omega), if_pos (show (k + 1) % 2 = 1 by omega), if_neg h, if_neg h]
    split <;> split <;> omega
theorem one_changed (A B : List Int) (c x : Int) (hc : 48 ≤ c ∧ c ≤ 57) (hx : 48 ≤ x ∧ x ≤ 57) (hne : c ≠ x) (h0 : Pu.luhn (A ++ c :: B) % 10 = 0) : Pu.luhn (A ++ x :: B) % 10 ≠ 0 := by
  rw [luhn_at] at h0 ⊢
  have := wt_inj B.length c x hc hx hne
  omega
theorem two_changed (A B : List Int) (a b : Int) (ha : 48 ≤ a ∧ a ≤ 57) (hb : 48 ≤ b ∧ b ≤ 57) (hne : a ≠ b) (h0 : Pu.luhn (A ++ a :: b :: B) % 10 = 0) :
    (Pu.luhn (A ++ b :: a :: B) % 10 = 0 ↔ (a = 48 ∧ b = 57) ∨ (a = 57 ∧ b = 48)) := by
  rw [luhn_at] at h0 ⊢
  have e1 : ∀ c : Int, Pu.luhn (c :: B) = Pu.luhn B + wt B.length c := fun c => rfl
  have e2 : ∀ c : Int, (c :: B).length = B.length + 1 := fun c => rfl
  rw [e1, e2] at h0 ⊢
  rw [← wt_swap B.length a b ha hb hne]
  omega
theorem bs_strs (zs : List Int) (h : zs.all Pu.dig = true) : Pu.bs (strOfNums zs) = zs := by
  unfold Pu.bs
  rw [strOfNums_data, List.map_map]
  conv => rhs; rw [← List.map_id zs]
  refine List.map_congr_left fun y hy => ?_
  have := (Pu.dig_iff y).1 (List.all_eq_true.1 h y hy)
  show (((UInt8.ofNat y.toNat).toNat : Nat) : Int) = y
  rw [UInt8.toNat_ofNat']
  omega
theorem sound_strs (zs : List Int) (h : zs.all Pu.dig = true) (h2 : 2 ≤ zs.length) : Pu.soundB (strOfNums zs) = decide (Pu.luhn zs % 10 = 0) := by
  unfold Pu.soundB Pu.allD
  rw [bs_strs zs h, h, strOfNums_size, decide_eq_true h2]
  rfl
theorem sound_parts {T : ByteArray} (h : Pu.soundB T = true) : (Pu.bs T).all Pu.dig = true ∧ Pu.luhn (Pu.bs T) % 10 = 0 := by
  unfold Pu.soundB at h
  simp only [Bool.and_eq_true, decide_eq_true_eq] at h
  exact ⟨h.1.2, h.2⟩
theorem cut_at {l : List Int} {i : Nat} {b : Int} (h : l[i]? = some b) : l = l.take i ++ b :: l.drop (i + 1) := by
  have hi : i < l.length := (List.getElem?_eq_some_iff.1 h).1
  have hb : l[i] = b := (List.getElem?_eq_some_iff.1 h).2
  rw [← hb, ← List.drop_eq_getElem_cons hi, List.take_append_drop]
theorem all_dig {l : List Int} (h : l.all Pu.dig = true) {i : Nat} {b : Int} (hb : l[i]? = some b) : 48 ≤ b ∧ b ≤ 57 :=
  (Pu.dig_iff b).1 (List.all_eq_true.1 h b (List.mem_of_getElem? hb))
theorem set_split (A B : List Int) (b x : Int) (i : Nat) (hi : A.length = i) : (A ++ b :: B).set i x = A ++ x :: B := by
  subst hi
  rw [List.set_append_right _ _ (Nat.le_refl _), Nat.sub_self]
  rfl
theorem one_law (T : ByteArray) (h : Pu.soundB T = true) (i : Nat) (b d : Int) (hb : (Pu.bs T)[i]? = some b) (hd : 48 ≤ d ∧ d ≤ 57) (hne : ¬ d = b) (h2 : 2 ≤ T.size) :
    Pu.soundB (strOfNums ((Pu.bs T).set i d)) = false := by
  obtain ⟨hall, hl⟩ := sound_parts h
  have hi : i < (Pu.bs T).length := (List.getElem?_eq_some_iff.1 hb).1
  have hbr := all_dig hall hb
  have hlen : 2 ≤ (Pu.bs T).length := by rw [Pu.bs_length]; exact h2
  generalize Pu.bs T = l at *
  have e := cut_at hb
  have ht : (l.take i).length = i := by rw [List.length_take]; omega
  have hset : l.set i d = l.take i ++ d :: l.drop (i + 1) := by
    conv => lhs; rw [e]
    exact set_split _ _ _ _ _ ht
  rw [sound_strs _ (by
    rw [List.all_eq_true]
    intro y hy
    rcases List.mem_or_eq_of_mem_set hy with hy | rfl
    · exact List.all_eq_true.1 hall y hy
    · exact (Pu.dig_iff _).2 hd) (by rw [List.length_set]; exact hlen), hset]
  refine decide_eq_false ?_
  rw [e] at hl
  exact one_changed _ _ b d hbr hd (fun h => hne h.symm) hl
theorem two_law (T : ByteArray) (h : Pu.soundB T = true) (i : Nat) (a b : Int) (ha : (Pu.bs T)[i]? = some a) (hb : (Pu.bs T)[i + 1]? = some b) (hne : ¬ a = b) (h2 : 2 ≤ T.size) :
    Pu.soundB (strOfNums (((Pu.bs T).set i b).set (i + 1) a)) = decide ((a = 48 ∧ b = 57) ∨ (a = 57 ∧ b = 48)) := by
  obtain ⟨hall, hl⟩ := sound_parts h
  have hi : i + 1 < (Pu.bs T).length := (List.getElem?_eq_some_iff.1 hb).1
  have har := all_dig hall ha
  have hbr := all_dig hall hb
  have hlen : 2 ≤ (Pu.bs T).length := by rw [Pu.bs_length]; exact h2
  generalize Pu.bs T = l at *
  have e : l = l.take i ++ a :: b :: l.drop (i + 1 + 1) := by
    have e1 := cut_at ha
    have hb' : l[i + 1] = b := (List.getElem?_eq_some_iff.1 hb).2
    rw [List.drop_eq_getElem_cons hi, hb'] at e1
    exact e1
  have ht : (l.take i).length = i := by rw [List.length_take]; omega
  have hset : (l.set i b).set (i + 1) a = l.take i ++ b :: a :: l.drop (i + 1 + 1) := by
    conv => lhs; rw [e]
    rw [set_split _ _ _ _ _ ht, show l.take i ++ b :: b :: l.drop (i + 1 + 1) = (l.take i ++ [b]) ++ b :: l.drop (i + 1 + 1) by simp, set_split _ _ _ _ _ (by simp [ht])]
    simp
  rw [sound_strs _ (by
    rw [List.all_eq_true]
    intro y hy
    rcases List.mem_or_eq_of_mem_set hy with hy | rfl
    · rcases List.mem_or_eq_of_mem_set hy with hy | rfl
      · exact List.all_eq_true.1 hall y hy
      · exact (Pu.dig_iff _).2 hbr
    · exact (Pu.dig_iff _).2 har) (by rw [List.length_set, List.length_set]; exact hlen), hset]
  rw [e] at hl
  exact decide_eq_decide.2 (two_changed _ _ a b har hbr hne hl)
end Go.Proofs.YteghpaomggajdaaDoor.Dg
