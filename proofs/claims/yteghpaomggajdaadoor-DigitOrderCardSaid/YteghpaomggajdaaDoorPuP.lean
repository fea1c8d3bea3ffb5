/- Plain Lean: the printed functions of DigitPuts and DigitOrder answer true at whatever numbers. -/
import Derived.Test.YteghpaomggajdaaDoorXP2
import Derived.Test.YteghpaomggajdaaDoorXP3
namespace Go.Proofs.YteghpaomggajdaaDoor.XP
open Go.RowKit Go.Proofs.YteghpaomggajdaaDoorW.PrintWords
set_option linter.unusedVariables false

theorem awake_e : bursarlaw02_awake.f = some true := by decide +kernel
theorem u64_of {n : Int} (h : (Lit.int .u64 n).wf = true) : 0 ≤ n ∧ n < 18446744073709551616 := by
  simp [Lit.wf, IntKind.min, IntKind.max, IntKind.signed, IntKind.bits] at h; omega
theorem u8_of {n : Int} (h : (Lit.int .u8 n).wf = true) : 0 ≤ n ∧ n < 256 := by
  simp [Lit.wf, IntKind.min, IntKind.max, IntKind.signed, IntKind.bits] at h; omega
theorem nil_ba : (⟨#[]⟩ : ByteArray) = Dg.ba [] := rfl
theorem less_dgs : ∀ (w n m : Nat), Op.bytesLess (Dg.dgs w n) (Dg.dgs w m) = decide (n % 10 ^ w < m % 10 ^ w)
  | 0, n, m => by simp [Dg.dgs, Op.bytesLess, Nat.mod_one]
  | w + 1, n, m => by
    rw [Dg.dgs_front, Dg.dgs_front, Op.bytesLess, less_dgs w n m, Nat.pow_succ, Nat.mod_mul, Nat.mod_mul]
    have hp : 0 < 10 ^ w := Nat.pow_pos (by omega)
    have hr := Nat.mod_lt n hp
    have hs := Nat.mod_lt m hp
    generalize hP : n / 10 ^ w % 10 = p
    generalize hQ : m / 10 ^ w % 10 = q
    have hp9 : p < 10 := by omega
    have hq9 : q < 10 := by omega
    generalize n % 10 ^ w = r at hr ⊢
    generalize m % 10 ^ w = s at hs ⊢
    generalize 10 ^ w = P at hp hr hs ⊢
    have e1 : (UInt8.ofNat (48 + p) < UInt8.ofNat (48 + q)) ↔ p < q := by rw [UInt8.lt_iff_toNat_lt, Dg.ofNat_toNat (by omega), Dg.ofNat_toNat (by omega)]; omega
    have e2 : (UInt8.ofNat (48 + p) = UInt8.ofNat (48 + q)) ↔ p = q := by rw [← UInt8.toNat_inj, Dg.ofNat_toNat (by omega), Dg.ofNat_toNat (by omega)]; omega
    rw [Bool.eq_iff_iff, Bool.or_eq_true, Bool.and_eq_true, beq_iff_eq, e2, decide_eq_true_iff, decide_eq_true_iff, decide_eq_true_iff, e1]
    rcases Nat.lt_trichotomy p q with h | h | h
    · have := Nat.mul_le_mul_left P (show p + 1 ≤ q by omega)
      rw [Nat.mul_add, Nat.mul_one] at this
      constructor
      · intro _; omega
      · intro _; exact Or.inl h
    · subst h; constructor
      · rintro (h | h); omega; omega
      · intro h; exact Or.inr ⟨rfl, by omega⟩
    · have := Nat.mul_le_mul_left P (show q + 1 ≤ p by omega)
      rw [Nat.mul_add, Nat.mul_one] at this
      constructor
      · rintro (h | h); omega; omega
      · intro h; omega

theorem put_l (W : Nat) (hW : W ≤ 19) : ∀ (d i k n : Nat) (acc : List UInt8), i + d = W → d < k → n < 18446744073709551616 → acc.length ≤ i →
    bursarref02_Put.l0 k n W (Dg.ba acc) i = some (Dg.ba (Dg.dgs d n ++ acc), ((n / 10 ^ d : Nat) : Int) == 0) := by
  intro d
  induction d with
  | zero =>
    intro i k n acc hi hk hn ha
    obtain ⟨k, rfl⟩ : ∃ m, k = m + 1 := ⟨k - 1, by omega⟩
    simp only [bursarref02_Put.l0]
    rw [if_neg (by omega), Nat.pow_zero, Nat.div_one]; rfl
  | succ d ih =>
    intro i k n acc hi hk hn ha
    obtain ⟨k, rfl⟩ : ∃ m, k = m + 1 := ⟨k - 1, by omega⟩
    have h20 : acc.length ≤ 19 := by omega
    have e0 : Int.tmod (n : Int) 10 = ((n % 10 : Nat) : Int) := by rw [Int.tmod_eq_emod_of_nonneg (by omega)]; omega
    have e1 : (IntKind.u64.wrap (48 + (Int.tmod (n : Int) 10))) % 256 = ((48 + n % 10 : Nat) : Int) := by rw [e0, IntKind.wrap_u64]; omega
    have e2 : IntKind.u64.wrap (Int.tdiv (n : Int) 10) = ((n / 10 : Nat) : Int) := by rw [Int.tdiv_eq_ediv_of_nonneg (by omega), IntKind.wrap_u64]; omega
    have e3 : wrap64 ((i : Int) + 1) = ((i + 1 : Nat) : Int) := by unfold wrap64; omega
    have e4 : strOfNums [((48 + n % 10 : Nat) : Int)] ++ Dg.ba acc = Dg.ba (UInt8.ofNat (48 + n % 10) :: acc) := by
      apply Pu.ba_ext; rw [Pu.data_append, strOfNums_data]; rfl
    have hlim : (strOfNums [((48 + n % 10 : Nat) : Int)]).size + (Dg.ba acc).size ≤ 9223372036854775807 := by
      rw [strOfNums_size, Dg.ba_size, List.length_singleton]; exact Nat.le_trans (Nat.add_le_add_left h20 1) (by decide)
    simp only [bursarref02_Put.l0, Option.bind_some]
    rw [if_pos (by omega), e1, e2, e3, e4, if_pos hlim, ih (i + 1) k (n / 10) _ (by omega) (by omega) (by omega) (by simp; omega), Dg.dgs, List.append_assoc, Nat.div_div_eq_div_mul, Nat.pow_succ, Nat.mul_comm 10]
    rfl
theorem refput_e (n W : Nat) (hn : n < 18446744073709551616) (hW : W ≤ 19) (k : Nat) (hk : 19 < k) : bursarref02_Put.f k n W = some (Dg.ba (Dg.dgs W n), ((n / 10 ^ W : Nat) : Int) == 0) := by
  unfold bursarref02_Put.f
  have h := put_l W hW W 0 k n [] (by omega) (by omega) hn (by simp)
  rw [List.append_nil] at h
  exact h
theorem put_e (n : Nat) (hn : n < 18446744073709551616) (w : Int) : digit_Put.f n w = some (Dg.putS n w) := by
  unfold digit_Put.f; rw [if_pos (by omega), Int.toNat_natCast]
theorem get_put (n W : Nat) (h1 : 1 ≤ W) (h19 : W ≤ 19) (hn : n < 10 ^ W) : Dg.getS (Dg.ba (Dg.dgs W n)) = ((n : Int), 0) := by
  unfold Dg.getS
  rw [Dg.ba_size, Dg.dgs_len, if_neg (by omega), Dg.all_bs, Dg.ba_data, if_pos (Dg.dgs_dig W n), Dg.val_dgs, Nat.mod_eq_of_lt hn]
theorem toList_ba (l : List UInt8) : (Dg.ba l).toList = l := by rw [ByteArray.toList_eq]; rfl

theorem puts_pure : bursarlaw02_DigitPuts.Pure := by
  intro a0 w h0 h1
  have hu := u64_of h0
  obtain ⟨n, rfl⟩ : ∃ n : Nat, a0 = n := ⟨a0.toNat, by omega⟩
  have hn : n < 18446744073709551616 := by omega
  refine ⟨22, ?_⟩
  unfold bursarlaw02_DigitPuts.f
  rw [put_e n hn, Option.bind_some]
  by_cases c1 : w < 1
  · have hP : Dg.putS n w = (⟨#[]⟩, 1) := by unfold Dg.putS; rw [if_pos (Or.inl c1)]
    rw [if_pos c1, hP]
    simp only [bursarlaw02_DigitPuts.j0, if_true]
    rw [if_pos (by rw [nil_ba, toList_ba]), awake_e]; rfl
  · rw [if_neg c1]
    by_cases c2 : w > 19
    · have hP : Dg.putS n w = (⟨#[]⟩, 1) := by unfold Dg.putS; rw [if_pos (Or.inr c2)]
      rw [decide_eq_true c2, hP]
      simp only [bursarlaw02_DigitPuts.j0, if_true]
      rw [if_pos (by rw [nil_ba, toList_ba]), awake_e]; rfl
    · obtain ⟨W, rfl⟩ : ∃ W : Nat, w = W := ⟨w.toNat, by omega⟩
      rw [decide_eq_false c2]
      simp only [bursarlaw02_DigitPuts.j0]
      rw [if_neg (by decide), refput_e n W hn (by omega) 21 (by omega), Option.bind_some]
      have hw := Dg.nDigits_le n W (by omega)
      by_cases c3 : Lib.nDigits n ≤ W
      · have hlt := hw.mp c3
        have hP : Dg.putS n W = (Dg.ba (Dg.dgs W n), 0) := by unfold Dg.putS; rw [if_neg (by omega), Int.toNat_natCast, if_pos c3]
        rw [hP, Nat.div_eq_of_lt hlt]
        simp only [digit_Get.f]
        rw [if_pos (by decide), if_pos (by rw [Dg.ba_size, Dg.dgs_len]; omega), get_put n W (by omega) (by omega) hlt, Option.bind_some, if_pos rfl]
        simp only [if_true]
        rw [awake_e]; rfl
      · have hge : ¬ n < 10 ^ W := fun h => c3 (hw.mpr h)
        have hP : Dg.putS n W = (⟨#[]⟩, 2) := by unfold Dg.putS; rw [if_neg (by omega), Int.toNat_natCast, if_neg c3]
        have hd : 0 < n / 10 ^ W := Nat.div_pos (by omega) (Nat.pow_pos (by omega))
        have hf : (((n / 10 ^ W : Nat) : Int) == 0) = false := by rw [beq_eq_false_iff_ne]; omega
        rw [hP, hf]
        dsimp only
        rw [if_neg (by decide), if_pos (by rw [nil_ba, toList_ba]), if_pos rfl, awake_e]; rfl

theorem order_pure : bursarlaw02_DigitOrder.Pure := by
  intro a0 a1 a2 h0 h1 h2
  have hu0 := u64_of h0
  have hu1 := u64_of h1
  have hu2 := u8_of h2
  obtain ⟨n, rfl⟩ : ∃ n : Nat, a0 = n := ⟨a0.toNat, by omega⟩
  obtain ⟨m, rfl⟩ : ∃ n : Nat, a1 = n := ⟨a1.toNat, by omega⟩
  have hn : n < 18446744073709551616 := by omega
  have hm : m < 18446744073709551616 := by omega
  obtain ⟨W, hW, hW1, hW19⟩ : ∃ W : Nat, wrap64 (1 + (wrap64 (Int.tmod a2 19))) = W ∧ 1 ≤ W ∧ W ≤ 19 := by
    have e : Int.tmod a2 19 = a2 % 19 := Int.tmod_eq_emod_of_nonneg (by omega)
    refine ⟨(1 + a2 % 19).toNat, ?_, by omega, by omega⟩
    rw [e]; unfold wrap64; omega
  refine ⟨22, ?_⟩
  unfold bursarlaw02_DigitOrder.f
  rw [hW, put_e n hn, Option.bind_some, put_e m hm, Option.bind_some]
  have hwn := Dg.nDigits_le n W hW1
  have hwm := Dg.nDigits_le m W hW1
  have hj1 : ∀ b : Bool, (b = true ∨ (n < 10 ^ W ∧ (W : Int) ≠ 19)) → bursarlaw02_DigitOrder.j1 21 n W (Dg.ba (Dg.dgs W n)) b = some true := by
    intro b hb
    simp only [bursarlaw02_DigitOrder.j1]
    cases b with
    | true => rw [if_pos rfl, awake_e]; rfl
    | false =>
      obtain ⟨hlt, h19⟩ : n < 10 ^ W ∧ (W : Int) ≠ 19 := by rcases hb with h | h; cases h; exact h
      have e : wrap64 ((W : Int) + 1) = ((W + 1 : Nat) : Int) := by unfold wrap64; omega
      have hlt2 : n < 10 ^ (W + 1) := by rw [Nat.pow_succ]; omega
      have hP : Dg.putS n ((W + 1 : Nat) : Int) = (Dg.ba (48 :: Dg.dgs W n), 0) := by
        unfold Dg.putS
        rw [if_neg (by omega), Int.toNat_natCast, if_pos ((Dg.nDigits_le n (W + 1) (by omega)).mpr hlt2), Dg.dgs_front, Nat.div_eq_of_lt hlt]; rfl
      rw [if_neg (by decide), e, put_e n hn, Option.bind_some, hP]
      rw [if_pos (by rw [Dg.ba_size, Dg.dgs_len]; omega), if_pos (by rw [toList_ba, ByteArray.toList_eq, Pu.data_append, Dg.ba_data]; rfl), if_pos rfl, awake_e]; rfl
  have hj0 : n < 10 ^ W → bursarlaw02_DigitOrder.j0 22 n W (Dg.ba (Dg.dgs W n)) 0 false = some true := by
    intro hlt
    simp only [bursarlaw02_DigitOrder.j0]
    rw [if_neg (by decide), if_pos (by decide)]
    apply hj1
    by_cases h : (W : Int) = 19
    · left; rw [h]; rfl
    · right; exact ⟨hlt, h⟩
  have hjn : ∀ s e, e ≠ 0 → bursarlaw02_DigitOrder.j0 22 n W s e false = some true := by
    intro s e he
    simp only [bursarlaw02_DigitOrder.j0, bursarlaw02_DigitOrder.j1]
    rw [if_neg (by decide), if_neg he, if_pos trivial, awake_e]; rfl
  have hput : ∀ u, (u < 10 ^ W ∧ Dg.putS u W = (Dg.ba (Dg.dgs W u), 0)) ∨ (¬ u < 10 ^ W ∧ Dg.putS u W = (⟨#[]⟩, 2)) := by
    intro u
    have hwu := Dg.nDigits_le u W hW1
    by_cases h : u < 10 ^ W
    · left; refine ⟨h, ?_⟩; unfold Dg.putS; rw [if_neg (by omega), Int.toNat_natCast, if_pos (hwu.mpr h)]
    · right; refine ⟨h, ?_⟩; unfold Dg.putS; rw [if_neg (by omega), Int.toNat_natCast, if_neg (fun h_ => h (hwu.mp h_))]
  rcases hput n with ⟨hn1, hn2⟩ | ⟨hn1, hn2⟩
  · rw [hn2, if_pos rfl]
    rcases hput m with ⟨hm1, hm2⟩ | ⟨hm1, hm2⟩
    · rw [hm2, if_pos rfl]
      dsimp only
      rw [toList_ba, toList_ba, less_dgs, Nat.mod_eq_of_lt hn1, Nat.mod_eq_of_lt hm1, Dg.ba_size, Dg.ba_size, Dg.dgs_len, Dg.dgs_len]
      have hb : ((W : Int) != (W : Int)) = false := by simp
      rw [hb]
      by_cases h : n < m
      · rw [if_pos (decide_eq_true h), if_pos (by omega), if_pos rfl]; exact hj0 hn1
      · rw [if_neg (by simpa using h), if_neg (by omega), if_pos rfl]; exact hj0 hn1
    · rw [hm2, if_neg (by decide)]; exact hj0 hn1
  · rw [hn2, if_neg (by decide)]; exact hjn _ _ (by decide)
end Go.Proofs.YteghpaomggajdaaDoor.XP
