/- Plain Lean: the printed functions of DigitGets and DigitSounds answer true at whatever text. -/
import Derived.Test.YteghpaomggajdaaDoorXG4
import Derived.Test.YteghpaomggajdaaDoorXG5
namespace Go.Proofs.YteghpaomggajdaaDoor.XG
open Go.RowKit Go.Proofs.YteghpaomggajdaaDoorW.PrintWords
set_option linter.unusedVariables false

theorem few_some (s : ByteArray) : ∃ t, bursarlaw02_few.f s = some t ∧ t.size ≤ 200 := by
  unfold bursarlaw02_few.f
  by_cases h : (s.size : Int) > 200
  · rw [if_pos h, if_pos (by omega)]; exact ⟨_, rfl, by rw [ByteArray.size_extract]; omega⟩
  · rw [if_neg h]; exact ⟨_, rfl, by omega⟩
theorem awake_e : bursarlaw02_awake.f = some true := by decide +kernel

theorem bt_vals (s : ByteArray) (i : Nat) (hi : i < s.size) : ∃ c : UInt8, s.data.toList.drop i = c :: s.data.toList.drop (i + 1) ∧ bt s i = c.toNat := by
  have hl : i < s.data.toList.length := by rw [Pu.data_len]; exact hi
  refine ⟨s.data.toList[i], List.drop_eq_getElem_cons hl, ?_⟩
  have h := Pu.bs_get s i hi
  unfold Pu.bs at h
  rw [List.getElem?_map, List.getElem?_eq_getElem hl] at h
  simpa using h.symm

theorem get_l (s : ByteArray) (hs : s.size ≤ 19) (hd : Pu.allD s = true) : ∀ (d i k acc : Nat), i + d = s.size → d < k → acc < 10 ^ i →
    bursarref02_Get.l0 k s acc i = some (((Dg.vals acc (s.data.toList.drop i) : Nat) : Int), 0) := by
  intro d
  induction d with
  | zero =>
    intro i k acc hi hk ha
    obtain ⟨k, rfl⟩ : ∃ m, k = m + 1 := ⟨k - 1, by omega⟩
    simp only [bursarref02_Get.l0]
    rw [if_neg (by omega), show i = s.size by omega, ← Pu.data_len, List.drop_length, Dg.vals_nil]
  | succ d ih =>
    intro i k acc hi hk ha
    obtain ⟨k, rfl⟩ : ∃ m, k = m + 1 := ⟨k - 1, by omega⟩
    obtain ⟨c, hc, hb⟩ := bt_vals s i (by omega)
    have hdig := Pu.bt_dig s hd i (by omega)
    have h19 : 10 ^ i ≤ 10 ^ 18 := Nat.pow_le_pow_right (by omega) (by omega)
    simp only [bursarref02_Get.l0]
    rw [if_pos (by omega), if_pos (by omega), hc, Dg.vals_cons]
    have e1 : IntKind.u64.wrap ((IntKind.u64.wrap ((IntKind.u64.wrap (10 * (acc : Int))) + (IntKind.u64.wrap (bt s i)))) - 48) = ((acc * 10 + (c.toNat - 48) : Nat) : Int) := by
      rw [hb] at hdig ⊢
      simp only [IntKind.wrap_u64]
      omega
    have e2 : wrap64 ((i : Int) + 1) = ((i + 1 : Nat) : Int) := by unfold wrap64; omega
    rw [e1, e2]
    exact ih (i + 1) k _ (by omega) (by omega) (by rw [Nat.pow_succ]; rw [hb] at hdig; omega)

theorem get_e (s : ByteArray) (hs : s.size ≤ 200) : bursarref02_Get.f 22 s = some (Dg.getS s) := by
  unfold bursarref02_Get.f Dg.getS
  by_cases h1 : s.size < 1
  · rw [if_pos (by omega), if_pos (Or.inl h1)]
    simp only [bursarref02_Get.j0, if_true]
  · rw [if_neg (by omega)]
    by_cases h19 : 19 < s.size
    · rw [if_pos (Or.inr h19), decide_eq_true (by omega)]
      simp only [bursarref02_Get.j0, if_true]
    · rw [if_neg (show ¬ (s.size < 1 ∨ 19 < s.size) by omega), decide_eq_false (by omega)]
      simp only [bursarref02_Get.j0, bursarref02_All.f]
      rw [if_neg (by decide), if_pos (by omega), Option.bind_some]
      cases ha : Pu.allD s
      · rfl
      · rw [if_pos rfl, if_pos rfl]
        exact get_l s (by omega) ha s.size 0 21 0 (by omega) (by omega) (by decide)

theorem gets_pure : bursarlaw02_DigitGets.Pure := by
  intro a _
  refine ⟨22, ?_⟩
  obtain ⟨t, ht, h2⟩ := few_some a
  unfold bursarlaw02_DigitGets.f
  rw [ht, Option.bind_some]
  unfold digit_Get.f digit_All.f bursarref02_All.f
  rw [if_pos (by omega), Option.bind_some, get_e t h2, Option.bind_some, if_pos rfl, if_pos rfl, if_pos (by omega), Option.bind_some, Option.bind_some, if_pos (by simp), awake_e]
  rfl

/-! ### DigitSounds -/
theorem one_nums (i : Nat) (hi : i ≤ 9) : strOfNums [(48 : Int) + i] = Dg.ba [UInt8.ofNat (48 + i)] := by
  unfold strOfNums Dg.ba
  simp only [List.map_cons, List.map_nil]
  rw [show ((48 : Int) + i).toNat = 48 + i by omega]
theorem tail_size (s : ByteArray) (i : Nat) : (s ++ Dg.ba [UInt8.ofNat (48 + i)]).size = s.size + 1 := by rw [ByteArray.size_append, Dg.ba_size]; rfl
theorem tail_inj (s : ByteArray) (i j : Nat) (hi : i ≤ 9) (hj : j ≤ 9) : (s ++ Dg.ba [UInt8.ofNat (48 + i)] = s ++ Dg.ba [UInt8.ofNat (48 + j)]) ↔ i = j := by
  constructor
  · intro h
    have h1 := congrArg (fun x => x.data.toList) h
    simp only [Pu.data_append, Dg.ba_data, List.append_cancel_left_eq, List.cons.injEq, and_true] at h1
    have h2 := congrArg UInt8.toNat h1
    rw [Dg.ofNat_toNat (by omega), Dg.ofNat_toNat (by omega)] at h2
    omega
  · rintro rfl; rfl
theorem sign_l (s : ByteArray) (hs : s.size ≤ 200) (h1 : 1 ≤ s.size) (ha : Pu.allD s = true) (D : Nat) (hD : (D : Int) = Dg.signD s) : ∀ (d i k : Nat), i + d = D → d < k →
    bursarref02_Sign.l0 k s ((48 : Int) + i) = some (s ++ Dg.ba [UInt8.ofNat (48 + D)], true) := by
  have h9 := Dg.signD_range s
  intro d
  induction d with
  | zero =>
    intro i k hi hk
    obtain ⟨k, rfl⟩ : ∃ m, k = m + 1 := ⟨k - 1, by omega⟩
    obtain rfl : i = D := by omega
    simp only [bursarref02_Sign.l0, Option.bind_some, bursarref02_Sound.f]
    rw [if_pos (by omega), one_nums i (by omega), if_pos (by rw [Dg.ba_size]; show _ + 1 ≤ _; omega), if_pos (by rw [tail_size]; omega), Option.bind_some, Dg.sound_tail s h1 ha i (by omega), if_pos (by simpa using hD)]
  | succ d ih =>
    intro i k hi hk
    obtain ⟨k, rfl⟩ : ∃ m, k = m + 1 := ⟨k - 1, by omega⟩
    simp only [bursarref02_Sign.l0, Option.bind_some, bursarref02_Sound.f]
    rw [if_pos (by omega), one_nums i (by omega), if_pos (by rw [Dg.ba_size]; show _ + 1 ≤ _; omega), if_pos (by rw [tail_size]; omega), Option.bind_some, Dg.sound_tail s h1 ha i (by omega), if_neg (by simp; omega),
      show ((48 : Int) + i + 1) % 256 = 48 + ((i + 1 : Nat) : Int) by omega]
    exact ih (i + 1) k (by omega) (by omega)
theorem sign_e (s : ByteArray) (hs : s.size ≤ 200) : bursarref02_Sign.f 12 s = some ((Dg.signS s).1, (Dg.signS s).2 == 0) := by
  unfold bursarref02_Sign.f Dg.signS
  by_cases h0 : s.size = 0
  · rw [if_pos (Pu.toList_nil.mpr h0), if_pos (Or.inl h0)]
    simp only [bursarref02_Sign.j0, if_true]; rfl
  · rw [if_neg (fun h => h0 (Pu.toList_nil.mp h))]
    simp only [bursarref02_All.f]
    rw [if_pos (by omega), Option.bind_some]
    cases ha : Pu.allD s
    · simp only [bursarref02_Sign.j0, Bool.not_false, if_true]
      rw [if_pos (Or.inr trivial)]; rfl
    · simp only [bursarref02_Sign.j0, Bool.not_true]
      rw [if_neg (by decide), if_neg (by simp [h0])]
      have h9 := Dg.signD_range s
      have hl := sign_l s hs (by omega) ha (Dg.signD s).toNat (by omega) (Dg.signD s).toNat 0 11 (by omega) (by omega)
      rw [show (48 : Int) + ((0 : Nat) : Int) = 48 by rfl] at hl
      rw [hl, Dg.sign_tail]; rfl
theorem sounds_l (s : ByteArray) (hs : s.size ≤ 200) (h1 : 1 ≤ s.size) (ha : Pu.allD s = true) (D : Nat) (hD : (D : Int) = Dg.signD s) : ∀ (d i k : Nat), i + d = 10 → d < k →
    bursarlaw02_DigitSounds.l0 k s (s ++ Dg.ba [UInt8.ofNat (48 + D)]) ((48 : Int) + i) = some true := by
  have h9 := Dg.signD_range s
  intro d
  induction d with
  | zero =>
    intro i k hi hk
    obtain ⟨k, rfl⟩ : ∃ m, k = m + 1 := ⟨k - 1, by omega⟩
    simp only [bursarlaw02_DigitSounds.l0]
    rw [if_neg (by omega), awake_e]; rfl
  | succ d ih =>
    intro i k hi hk
    obtain ⟨k, rfl⟩ : ∃ m, k = m + 1 := ⟨k - 1, by omega⟩
    simp only [bursarlaw02_DigitSounds.l0, Option.bind_some, digit_Sound.f]
    rw [if_pos (by omega), one_nums i (by omega), if_pos (by rw [Dg.ba_size]; show _ + 1 ≤ _; omega), if_pos (by rw [tail_size]; omega), Option.bind_some, Dg.sound_tail s h1 ha i (by omega), Pu.toList_beq,
      if_neg (by
        rw [bne_iff_ne, ne_eq, Decidable.not_not, Bool.eq_iff_iff, decide_eq_true_iff, decide_eq_true_iff, tail_inj s i D (by omega) (by omega)]
        omega),
      show ((48 : Int) + i + 1) % 256 = 48 + ((i + 1 : Nat) : Int) by omega]
    exact ih (i + 1) k (by omega) (by omega)

theorem sounds_pure : bursarlaw02_DigitSounds.Pure := by
  intro a _
  refine ⟨12, ?_⟩
  obtain ⟨s, hs, h2⟩ := few_some a
  unfold bursarlaw02_DigitSounds.f
  rw [hs, Option.bind_some]
  simp only [digit_Sign.f, digit_Sound.f, bursarref02_Sound.f]
  rw [if_pos (by omega), Option.bind_some, sign_e s h2, Option.bind_some, if_pos rfl, if_neg (by simp)]
  have h4 : s.size ≤ 4096 := by omega
  simp only [if_pos h4, Option.bind_some]
  by_cases h0 : s.size = 0 ∨ Pu.allD s = false
  · have hS : Dg.signS s = (⟨#[]⟩, 4) := by unfold Dg.signS; rw [if_pos h0]
    rw [hS]
    rw [if_neg (by decide), if_pos rfl]
    simp only [bursarlaw02_DigitSounds.j0]
    rw [if_neg (by simp), if_neg (by decide), awake_e]; rfl
  · have hS : Dg.signS s = (s ++ Dg.ba [UInt8.ofNat (48 + (Dg.signD s).toNat)], 0) := by unfold Dg.signS; rw [if_neg h0, Dg.sign_tail]
    rw [hS]
    dsimp only
    rw [if_pos (by decide)]
    simp only [bursarlaw02_DigitSounds.j0]
    rw [if_neg (by simp), if_pos (by decide)]
    have h9 := Dg.signD_range s
    exact sounds_l s h2 (by omega) (by cases h : Pu.allD s; exact absurd (Or.inr h) h0; rfl) (Dg.signD s).toNat (by omega) 10 0 11 (by omega) (by omega)
end Go.Proofs.YteghpaomggajdaaDoor.XG
