-- Written by wip/xprint.py, a session's program: printed out of the translation, with hand-written functions. Lean checks it.
import Derived.Test.YteghpaomggajdaaDoorXG0
namespace Go.Proofs.YteghpaomggajdaaDoor.XG
open Go.RowKit Go.Proofs.YteghpaomggajdaaDoorW.PrintWords Go.Proofs.YteghpaomggajdaaDoorW.PrintLast Go.Proofs.YteghpaomggajdaaDoorW.PrintMore
attribute [local go_sem] max2_int min2_int max_two min_two max_three min_three max_four min_four   -- for this text's walks alone
set_option linter.unusedVariables false
set_option linter.unusedSimpArgs false

-- NOT PRINTED: function 36 (strconv_small)

-- NOT PRINTED: function 52 (strconv_log10Pow2)

-- NOT PRINTED: function 53 (bits_Len64)

-- NOT PRINTED: function 54 (strconv_bool2_int)

-- NOT PRINTED: function 37 (strconv_numDigits)

-- NOT PRINTED: function 38 (strconv_formatBase10)

-- NOT PRINTED: function 55 (strconv_isPowerOfTwo)

-- NOT PRINTED: function 61 (bits_TrailingZeros32)

-- NOT PRINTED: function 62 (bits_TrailingZeros64)

-- NOT PRINTED: function 56 (bits_TrailingZeros)

-- NOT PRINTED: function 39 (strconv_formatBits)

-- NOT PRINTED: function 25 (strconv_FormatUint_25)

-- NOT PRINTED: function 20 (strconv_FormatUint_20)

-- NOT PRINTED: function 40 (bits_Mul32)

-- NOT PRINTED: function 41 (bits_Mul64)

-- NOT PRINTED: function 26 (bits_Mul)

-- NOT PRINTED: function 42 (stringslite_HasPrefix)

-- NOT PRINTED: function 27 (strings_HasPrefix)

-- NOT PRINTED: function 57 (abi_NoEscape)

-- NOT PRINTED: function 43 (strings_Builder_copyCheck)

-- NOT PRINTED: function 58 (bytealg_MakeNoZero)

-- NOT PRINTED: function 44 (strings_Builder_grow)

-- NOT PRINTED: function 28 (strings_Builder_Grow)

-- NOT PRINTED: function 29 (strings_Builder_WriteString)

-- NOT PRINTED: function 30 (strings_Builder_Len)

-- NOT PRINTED: function 31 (strings_Builder_String)

-- NOT PRINTED: function 21 (strings_Repeat)

/-! ### digit_Put: function 8 -/
def digit_Put.f (a0 : Int) (a1 : Int) : Option (ByteArray × Int) := if 0 ≤ a0 ∧ a0 < 100 then some (Dg.putS a0.toNat a1) else none
theorem digit_Put.calls (a0 : Int) (a1 : Int) (r1 : ByteArray) (r2 : Int) (w : World) (h : digit_Put.f a0 a1 = some (r1, r2)) :
    Calls Tryd.prog 8 #[.int .u64 a0, .int .i64 a1] w fun e w' => e = .returned (.tuple #[.string r1, .int .i64 r2]) ∧ Below w.heap.size w w' := by
  unfold digit_Put.f at h
  split at h
  · obtain ⟨n, rfl⟩ : ∃ n : Nat, a0 = n := ⟨a0.toNat, by omega⟩
    rw [Int.toNat_natCast] at h
    have h1 : (Dg.putS n a1).1 = r1 := by rw [Option.some.inj h]
    have h2 : (Dg.putS n a1).2 = r2 := by rw [Option.some.inj h]
    rw [← h1, ← h2]
    exact Fu.put_w n (by omega) a1 w (fun h_ => by omega)
  · cases h


/-! ### digit_All_p: function 14 -/
def digit_All_p.l0 : Nat → ByteArray → Int → Int → Option (Bool)
  | 0, _, _, _ => none
  | k + 1, x0, x5, x6 => if x6 < x5 then (if 0 ≤ x6 then (if x6 < (x0.size : Int) then (if (bt x0 x6) < 48 then (some false) else (if (bt x0 x6) > 57 then (some false) else (digit_All_p.l0 k x0 x5 (wrap64 (x6 + 1))))) else (none)) else (none)) else (some true)
def digit_All_p.f (k : Nat) (a0 : ByteArray) : Option (Bool) := digit_All_p.l0 k a0 (a0.size : Int) 0
theorem digit_All_p.mono_l : ∀ k, (∀ y0 y1 y2, LeO (digit_All_p.l0 k y0 y1 y2) (digit_All_p.l0 (k + 1) y0 y1 y2))
  | 0 => fun _ _ _ r h => by simp [digit_All_p.l0] at h
  | k + 1 => by
    have ih0 := digit_All_p.mono_l k
    · intro y0 y1 y2
      unfold digit_All_p.l0
      repeat' first
      | (with_reducible exact ih0 _ _ _)
      | (with_reducible exact LeO.refl _)
      | (with_reducible exact LeO.none _)
      | (with_reducible refine LeO.ite ?_ ?_)
      | (with_reducible refine LeO.bind ?_ (fun _ => ?_))
      | exact ih0 _ _ _
      | exact LeO.none _
      | refine LeO.ite ?_ ?_
      | refine LeO.bind ?_ (fun _ => ?_)
theorem digit_All_p.mono : ∀ a0 k, LeO (digit_All_p.f k a0) (digit_All_p.f (k + 1) a0) := by
  intro a0 k
  have ih0 := digit_All_p.mono_l k
  unfold digit_All_p.f
  repeat' first
      | (with_reducible exact ih0 _ _ _)
      | (with_reducible exact LeO.refl _)
      | (with_reducible exact LeO.none _)
      | (with_reducible refine LeO.ite ?_ ?_)
      | (with_reducible refine LeO.bind ?_ (fun _ => ?_))
      | exact ih0 _ _ _
      | exact LeO.none _
      | refine LeO.ite ?_ ?_
      | refine LeO.bind ?_ (fun _ => ?_)
set_option maxHeartbeats 8000000 in
set_option maxRecDepth 100000 in
theorem digit_All_p.calls (k : Nat) (a0 : ByteArray) (r : Bool) (w : World) (h : digit_All_p.f k a0 = some r) :
    Calls Tryd.prog 14 #[.string a0] w fun e w' => e = .returned (.bool r) ∧ Drawn0 w w' := by
  have H : (digit_All_p.l0 k a0 (a0.size : Int) 0) = some r := h
  clear h
  have H' := Aside0.mk H
  clear H
  go_enter Tryd.func14, Tryd.ntmps14
  go_wp2
  go_loopg [6] k (fun kq v6 w' => ∃ (x6_1 : Int), v6 = .int .i64 x6_1 ∧ Aside0 (digit_All_p.l0 kq a0 (a0.size : Int) x6_1 = some r) ∧ Aside0 (kq ≤ k) ∧ Drawn0 w w')
  case atStart => exact ⟨(0), (by first | rfl | (simp; done) | (simp [*]; done) | (simp [Pu.bne_nil, Pu.beq_nil]; done)), H', ⟨Nat.le_refl _⟩, by repeat (first | exact Drawn0.refl _ | apply Drawn0.step)⟩
  case round =>
    clear H'
    try clear c1
    obtain ⟨x6_1, rfl, HA, HK1, ⟨m1, rfl⟩⟩ := hrel
    cases gk with
    | zero => exact absurd HA.out (by simp [digit_All_p.l0])
    | succ k1 =>
      have H := HA.out
      clear HA
      simp only [digit_All_p.l0] at H
      by_cases c2 : x6_1 < (a0.size : Int)
      · rw [if_pos c2] at H
        have c2b0 : decide (x6_1 < (a0.size : Int)) = true := decide_eq_true c2
        clear c2
        by_cases c3 : 0 ≤ x6_1
        · rw [if_pos c3] at H
          have c3b0 : decide (0 ≤ x6_1) = true := decide_eq_true c3
          clear c3
          by_cases c4 : x6_1 < (a0.size : Int)
          · rw [if_pos c4] at H
            have c4b0 : decide (x6_1 < (a0.size : Int)) = true := decide_eq_true c4
            clear c4
            by_cases c6 : (bt a0 x6_1) < 48
            · rw [if_pos c6] at H
              have c6b0 : decide ((bt a0 x6_1) < 48) = true := decide_eq_true c6
              clear c6
              obtain rfl := Option.some.inj H
              have p5 : 0 ≤ (x6_1 : Int) := of_decide_eq_true (by first | (with_reducible assumption) | assumption)
              have q5 : x6_1 < (a0.size : Int) := of_decide_eq_true (by first | (with_reducible assumption) | assumption)
              have hx5 := bt_at a0 x6_1
              replace p5 := eq_true p5
              replace q5 := eq_true q5
              go_wp2
              go_ret
              exact ⟨by first | rfl | (simp; done) | (simp [*]; done), by repeat (first | exact Drawn0.refl _ | apply Drawn0.step)⟩
            · rw [if_neg c6] at H
              have c6b0 : decide ((bt a0 x6_1) < 48) = false := decide_eq_false c6
              clear c6
              by_cases c8 : (bt a0 x6_1) > 57
              · rw [if_pos c8] at H
                have c8b0 : decide (57 < (bt a0 x6_1)) = true := decide_eq_true c8
                clear c8
                obtain rfl := Option.some.inj H
                have p5 : 0 ≤ (x6_1 : Int) := of_decide_eq_true (by first | (with_reducible assumption) | assumption)
                have q5 : x6_1 < (a0.size : Int) := of_decide_eq_true (by first | (with_reducible assumption) | assumption)
                have hx5 := bt_at a0 x6_1
                replace p5 := eq_true p5
                replace q5 := eq_true q5
                have p7 : 0 ≤ (x6_1 : Int) := of_decide_eq_true (by first | (with_reducible assumption) | assumption)
                have q7 : x6_1 < (a0.size : Int) := of_decide_eq_true (by first | (with_reducible assumption) | assumption)
                have hx7 := bt_at a0 x6_1
                replace p7 := eq_true p7
                replace q7 := eq_true q7
                go_wp2
                go_ret
                exact ⟨by first | rfl | (simp; done) | (simp [*]; done), by repeat (first | exact Drawn0.refl _ | apply Drawn0.step)⟩
              · rw [if_neg c8] at H
                have c8b0 : decide (57 < (bt a0 x6_1)) = false := decide_eq_false c8
                clear c8
                have H' := Aside0.mk H
                clear H
                have p5 : 0 ≤ (x6_1 : Int) := of_decide_eq_true (by first | (with_reducible assumption) | assumption)
                have q5 : x6_1 < (a0.size : Int) := of_decide_eq_true (by first | (with_reducible assumption) | assumption)
                have hx5 := bt_at a0 x6_1
                replace p5 := eq_true p5
                replace q5 := eq_true q5
                have p7 : 0 ≤ (x6_1 : Int) := of_decide_eq_true (by first | (with_reducible assumption) | assumption)
                have q7 : x6_1 < (a0.size : Int) := of_decide_eq_true (by first | (with_reducible assumption) | assumption)
                have hx7 := bt_at a0 x6_1
                replace p7 := eq_true p7
                replace q7 := eq_true q7
                go_wp2
                go_roundg k1
                case measure => have := HK1.out; omega
                case rel => exact ⟨(wrap64 (x6_1 + 1)), (by first | rfl | (simp; done) | (simp [*]; done) | (simp [Pu.bne_nil, Pu.beq_nil]; done)), H', ⟨by have := HK1.out; omega⟩, by repeat (first | exact Drawn0.refl _ | apply Drawn0.step)⟩
          · rw [if_neg c4] at H
            exact absurd H (by simp)
        · rw [if_neg c3] at H
          exact absurd H (by simp)
      · rw [if_neg c2] at H
        have c2b0 : decide (x6_1 < (a0.size : Int)) = false := decide_eq_false c2
        clear c2
        obtain rfl := Option.some.inj H
        go_wp2
        go_ret
        exact ⟨by first | rfl | (simp; done) | (simp [*]; done), by repeat (first | exact Drawn0.refl _ | apply Drawn0.step)⟩

/-! #### digit_All, refined -/
theorem digit_All_l (s : ByteArray) (hs : s.size ≤ 4096) : ∀ (d i k : Nat), i + d = s.size → d < k → digit_All_p.l0 k s (s.size : Int) (i : Int) = some (((Pu.bs s).drop i).all Pu.dig) := by
  intro d
  induction d with
  | zero =>
    intro i k hi hk
    obtain ⟨k, rfl⟩ : ∃ m, k = m + 1 := ⟨k - 1, by omega⟩
    obtain rfl : i = s.size := by omega
    simp only [digit_All_p.l0]
    rw [if_neg (by omega), Pu.bs_drop_all]; rfl
  | succ d ih =>
    intro i k hi hk
    obtain ⟨k, rfl⟩ : ∃ m, k = m + 1 := ⟨k - 1, by omega⟩
    simp only [digit_All_p.l0]
    rw [if_pos (by omega), if_pos (by omega), if_pos (by omega), Pu.bs_drop s i (by omega), List.all_cons]
    by_cases h1 : bt s i < 48
    · rw [if_pos h1, (Pu.dig_no _).mpr (.inl h1)]; rfl
    · rw [if_neg h1]
      by_cases h2 : bt s i > 57
      · rw [if_pos h2, (Pu.dig_no _).mpr (.inr h2)]; rfl
      · rw [if_neg h2, (Pu.dig_iff _).mpr ⟨by omega, by omega⟩, Bool.true_and, Pu.wrap_small (by omega) (by omega)]
        exact ih (i + 1) k (by omega) (by omega)
def digit_All.f (a0 : ByteArray) : Option Bool := if a0.size ≤ 4096 then some (Pu.allD a0) else none
theorem digit_All.calls (a0 : ByteArray) (r : Bool) (w : World) (h : digit_All.f a0 = some r) :
    Calls Tryd.prog 14 #[.string a0] w fun e w' => e = .returned (.bool r) ∧ Drawn0 w w' := by
  unfold digit_All.f at h
  split at h
  · exact digit_All_p.calls (a0.size + 1) a0 r w ((digit_All_l a0 ‹_› a0.size 0 (a0.size + 1) (by omega) (by omega)).trans h)
  · cases h


-- NOT PRINTED: function 45 (strconv_lower)

-- NOT PRINTED: function 46 (strconv_underscoreOK)

-- NOT PRINTED: function 32 (strconv_ParseUint_32)

-- NOT PRINTED: function 59 (stringslite_Clone)

-- NOT PRINTED: function 47 (strconv_syntaxError)

-- NOT PRINTED: function 48 (strconv_rangeError)

-- NOT PRINTED: function 51 (strconv_FormatInt)

-- NOT PRINTED: function 35 (strconv_Itoa_35)

-- NOT PRINTED: function 24 (strconv_Itoa_24)

-- NOT PRINTED: function 60 (errors_New)

-- NOT PRINTED: function 49 (strconv_baseError)

-- NOT PRINTED: function 50 (strconv_bitSizeError)

-- NOT PRINTED: function 33 (strconv_toError)

-- NOT PRINTED: function 22 (strconv_ParseUint_22)

/-! ### digit_Get: function 11 -/
theorem x_nil_no {s : ByteArray} (h : s.size ≠ 0) : (s.toList == ([] : List UInt8)) = false ∧ s.toList.isEmpty = false ∧ (s.toList = []) = False := by
  have h1 : (s.toList == ([] : List UInt8)) = false := by rw [Pu.toList_empty]; exact decide_eq_false h
  refine ⟨h1, by rw [← Pu.beq_nil]; exact h1, eq_false fun hn => h (Pu.toList_nil.mp hn)⟩
theorem digit_Get_w (s : ByteArray) (hs : s.size ≤ 4096) (w : World) :
    Calls Tryd.prog 11 #[.string s] w fun e w' => e = .returned (.tuple #[.int .u64 (Dg.getS s).1, .int .i64 (Dg.getS s).2]) ∧ Below w.heap.size w w' := by
  by_cases h0 : s.size = 0
  · obtain rfl := Pu.size_nil h0
    go_enter Tryd.func11, Tryd.ntmps11
    go_wp2
    go_ret2
    exact ⟨rfl, Below.refl _ _⟩
  · obtain ⟨hn1, hn2, hn3⟩ := x_nil_no h0
    by_cases h19 : 19 < s.size
    · go_enter Tryd.func11, Tryd.ntmps11
      go_wp2
      go_ret2
      exact ⟨by unfold Dg.getS; rw [if_pos (Or.inr h19)]; rfl, Below.refl _ _⟩
    · by_cases ha : Pu.allD s = true
      · have hcall := digit_All.calls s true
        go_enter Tryd.func11, Tryd.ntmps11
        go_wp2_with (first
          | (go_at_call 14; refine (digit_All.calls s true _ (by unfold digit_All.f; rw [if_pos hs, ha])).mono ?_; rintro e w1 ⟨rfl, hD⟩)
          | (go_at_call 22; refine (Tryd.strconv_ParseUint_10_at64_ok s (by omega) _ (Dg.parse_ok s ha (by omega) (by omega)) _).mono ?_; rintro e w2 ⟨rfl, hW⟩))
        go_ret2
        refine ⟨by unfold Dg.getS; rw [if_neg (by omega), if_pos ha]; rfl, ?_⟩
        have hb := hD.below
        rcases hW with rfl | rfl
        · exact hb
        · refine hb.trans (Below.mono ?_ hb.size)
          exact bytes_below (Below.refl _ _) (Nat.le_refl _) _ _
      · have ha' : Pu.allD s = false := by simpa using ha
        go_enter Tryd.func11, Tryd.ntmps11
        go_wp2_with (go_at_call 14; refine (digit_All.calls s false _ (by unfold digit_All.f; rw [if_pos hs, ha'])).mono ?_; rintro e w1 ⟨rfl, hD⟩)
        go_ret2
        exact ⟨by unfold Dg.getS; rw [if_neg (by omega), if_neg ha]; rfl, hD.below⟩
def digit_Get.f (a0 : ByteArray) : Option (Int × Int) := if a0.size ≤ 4096 then some (Dg.getS a0) else none
theorem digit_Get.calls (a0 : ByteArray) (r1 : Int) (r2 : Int) (w : World) (h : digit_Get.f a0 = some (r1, r2)) :
    Calls Tryd.prog 11 #[.string a0] w fun e w' => e = .returned (.tuple #[.int .u64 r1, .int .i64 r2]) ∧ Below w.heap.size w w' := by
  unfold digit_Get.f at h
  split at h
  · have h1 : (Dg.getS a0).1 = r1 := by rw [Option.some.inj h]
    have h2 : (Dg.getS a0).2 = r2 := by rw [Option.some.inj h]
    rw [← h1, ← h2]
    exact digit_Get_w a0 (by assumption) w
  · cases h


/-! ### digit_sum: function 23 -/
theorem x_ret_i {k : IntKind} {a b : Int} (h : a = b) : Ending.returned (.int k a) = .returned (.int k b) := by rw [h]
theorem digit_sum_1 (d : Int) (h0 : 0 ≤ d) (h9 : d ≤ 9) (w : World) :
    Calls Tryd.prog 34 #[.int .i64 d] w fun e w' => e = .returned (.int .i64 (Pu.dbl d)) ∧ w = w' := by
  go_enter Tryd.func34, Tryd.ntmps34
  go_wp2
  go_ret
  exact ⟨x_ret_i (by unfold Pu.dbl; split <;> omega), rfl⟩
theorem digit_sum_w (s : ByteArray) (hs : s.size ≤ 4096) (hd : Pu.allD s = true) (w : World) :
    Calls Tryd.prog 23 #[.string s] w fun e w' => e = .returned (.int .i64 (Pu.luhn (Pu.bs s))) ∧ w = w' := by
  go_enter Tryd.func23, Tryd.ntmps23
  go_wp2
  go_loop [4, 9] (fun n i => ∃ k : Nat, k ≤ s.size ∧ i = .int .i64 k ∧ n = .int .i64 (Pu.luhn ((Pu.bs s).drop (s.size - k)))) (fun _ i => s.size - (intOf i).toNat)
  case atStart => exact ⟨0, Nat.zero_le _, rfl, by rw [Nat.sub_zero, Pu.bs_drop_all]; rfl⟩
  case round =>
    obtain ⟨k, hk, rfl, rfl⟩ := hrel
    by_cases hlt : k < s.size
    · obtain ⟨n, hn, hb1, hb2, hx⟩ := Pu.back_at s hd k hlt
      obtain ⟨hd1, hd2⟩ := Pu.luhn_part s hd k hk
      obtain ⟨hd3, hd4⟩ := Pu.dbl_bound ((n : Int) - 48) (by omega) (by omega)
      have HS0 := Pu.luhn_back s k hlt
      rw [hn] at HS0
      have HS := Lib.hid HS0
      clear HS0 hn
      by_cases hp : k % 2 = 1
      · have hp' : ((k : Int) % 2 == 1) = true := by rw [beq_iff_eq]; omega
        have HP := Lib.hid hp
        clear hp
        go_wp2_with (go_at_call 34; refine (digit_sum_1 _ (by omega) (by omega) _).mono ?_; rintro e w' ⟨rfl, rfl⟩)
        go_round
        case rel => exact ⟨k + 1, by omega, by go_num, by rw [HS.out, if_pos HP.out]⟩
        case measure => simp [intOf]; omega
      · have hp' : ((k : Int) % 2 == 1) = false := by rw [beq_eq_false_iff_ne]; omega
        have HP := Lib.hid hp
        clear hp
        go_wp2
        go_round
        case rel => exact ⟨k + 1, by omega, by go_num, by rw [HS.out, if_neg HP.out]⟩
        case measure => simp [intOf]; omega
    · go_wp2
      go_ret
      exact ⟨x_ret_i (by rw [show s.size - k = 0 by omega]; rfl), rfl⟩
def digit_sum.f (a0 : ByteArray) : Option Int := if a0.size ≤ 4096 ∧ Pu.allD a0 = true then some (Pu.luhn (Pu.bs a0)) else none
theorem digit_sum.calls (a0 : ByteArray) (r : Int) (w : World) (h : digit_sum.f a0 = some r) :
    Calls Tryd.prog 23 #[.string a0] w fun e w' => e = .returned (.int .i64 r) ∧ Drawn0 w w' := by
  unfold digit_sum.f at h
  split at h
  · obtain rfl := Option.some.inj h
    refine (digit_sum_w a0 (‹_ ∧ _› : _ ∧ _).1 (‹_ ∧ _› : _ ∧ _).2 w).mono ?_
    rintro e w' ⟨rfl, rfl⟩
    exact ⟨rfl, Drawn0.refl _⟩
  · cases h


/-! ### digit_Sign: function 16 -/
set_option maxHeartbeats 6400000 in
theorem digit_Sign_w (s : ByteArray) (hs : s.size ≤ 4000) (w : World) :
    Calls Tryd.prog 16 #[.string s] w fun e w' => e = .returned (.tuple #[.string (Dg.signS s).1, .int .i64 (Dg.signS s).2]) ∧ Below w.heap.size w w' := by
  by_cases h0 : s.size = 0
  · obtain rfl := Pu.size_nil h0
    go_enter Tryd.func16, Tryd.ntmps16
    go_wp2
    go_ret2
    exact ⟨rfl, Below.refl _ _⟩
  · obtain ⟨hn1, hn2, hn3⟩ := x_nil_no h0
    by_cases ha : Pu.allD s = true
    · have hsz : (s ++ (⟨#[48]⟩ : ByteArray)).size = s.size + 1 := by rw [ByteArray.size_append]; rfl
      have ha0 : Pu.allD (s ++ (⟨#[48]⟩ : ByteArray)) = true := by rw [Dg.allD_app, ha]; rfl
      have hlu : Pu.luhn (Pu.bs (s ++ (⟨#[48]⟩ : ByteArray))) = Pu.luhn (Pu.bs s ++ [48]) := by rw [Dg.bs_app]; rfl
      obtain ⟨hl0, hl9⟩ := Pu.luhn_bound _ ha0
      obtain ⟨n, hn⟩ : ∃ n : Nat, Pu.luhn (Pu.bs (s ++ (⟨#[48]⟩ : ByteArray))) = n := ⟨(Pu.luhn (Pu.bs (s ++ (⟨#[48]⟩ : ByteArray)))).toNat, by omega⟩
      have hnn : n ≤ 40000 := by rw [hn, Pu.bs_length, hsz] at hl9; omega
      have hsum := fun W => digit_sum.calls (s ++ (⟨#[48]⟩ : ByteArray)) (n : Int) W (by unfold digit_sum.f; rw [if_pos ⟨by rw [hsz]; omega, ha0⟩, hn])
      have hd : Dg.signD s = ((10 - n % 10) % 10 : Nat) := by unfold Dg.signD; rw [← hlu, hn]; omega
      have hsig : Dg.signS s = (s ++ Dg.ba (Lib.decDigits ((10 - n % 10) % 10)), 0) := by
        unfold Dg.signS; rw [if_neg (by rintro (h_ | h_); exact h0 h_; rw [ha] at h_; cases h_), hd, Int.toNat_natCast]
      have hca : -((n : Int) % 10) % 10 = ((10 - n % 10) % 10 : Nat) := by omega
      have hito := fun W => Tryd.strconv_Itoa_small ((10 - n % 10) % 10) (by omega) W
      rw [← hca] at hito
      have hno : ¬ 9223372036854775807 < s.size + (Lib.decDigits ((10 - n % 10) % 10)).length := by rw [Lib.decDigits_one (by omega)]; show ¬ _ < _ + 1; omega
      clear hca hd hl0 hl9 hn hlu ha0
      go_enter Tryd.func16, Tryd.ntmps16
      go_wp2_with (first
        | (go_at_call 14; refine (digit_All.calls s true _ (by unfold digit_All.f; rw [if_pos (by omega), ha])).mono ?_; rintro e w1 ⟨rfl, hD⟩)
        | (go_at_call 23; refine (hsum _).mono ?_; rintro e w2 ⟨rfl, hD2⟩)
        | (go_at_call 24; refine (hito _).mono ?_; rintro e w3 ⟨rfl, rfl⟩))
      go_ret2
      rw [hsig]
      exact ⟨rfl, hD.below.trans (hD2.below.mono hD.below.size)⟩
    · have ha' : Pu.allD s = false := by simpa using ha
      go_enter Tryd.func16, Tryd.ntmps16
      go_wp2_with (go_at_call 14; refine (digit_All.calls s false _ (by unfold digit_All.f; rw [if_pos (by omega), ha'])).mono ?_; rintro e w1 ⟨rfl, hD⟩)
      go_ret2
      exact ⟨by unfold Dg.signS; rw [if_pos (Or.inr ha')]; rfl, hD.below⟩
def digit_Sign.f (a0 : ByteArray) : Option (ByteArray × Int) := if a0.size ≤ 4000 then some (Dg.signS a0) else none
theorem digit_Sign.calls (a0 : ByteArray) (r1 : ByteArray) (r2 : Int) (w : World) (h : digit_Sign.f a0 = some (r1, r2)) :
    Calls Tryd.prog 16 #[.string a0] w fun e w' => e = .returned (.tuple #[.string r1, .int .i64 r2]) ∧ Below w.heap.size w w' := by
  unfold digit_Sign.f at h
  split at h
  · have h1 : (Dg.signS a0).1 = r1 := by rw [Option.some.inj h]
    have h2 : (Dg.signS a0).2 = r2 := by rw [Option.some.inj h]
    rw [← h1, ← h2]
    exact digit_Sign_w a0 (by assumption) w
  · cases h


/-! ### digit_Sound_p: function 18 -/
def digit_Sound_p.f (a0 : ByteArray) : Option (Bool) := if (a0.size : Int) ≥ 2 then ((digit_All.f a0).bind fun t101 => (if t101 = true then ((digit_sum.f a0).bind fun t102 => (some ((Int.tmod t102 10) == 0))) else (some false))) else (some false)
set_option maxHeartbeats 8000000 in
set_option maxRecDepth 100000 in
theorem digit_Sound_p.calls (a0 : ByteArray) (r : Bool) (w : World) (h : digit_Sound_p.f a0 = some r) :
    Calls Tryd.prog 18 #[.string a0] w fun e w' => e = .returned (.bool r) ∧ Drawn0 w w' := by
  have H : (if (a0.size : Int) ≥ 2 then ((digit_All.f a0).bind fun t101 => (if t101 = true then ((digit_sum.f a0).bind fun t102 => (some ((Int.tmod t102 10) == 0))) else (some false))) else (some false)) = some r := h
  clear h
  by_cases c2 : (a0.size : Int) ≥ 2
  · rw [if_pos c2] at H
    have c2b0 : decide (2 ≤ (a0.size : Int)) = true := decide_eq_true c2
    have c2b1 : decide (2 ≤ a0.size) = true := decide_eq_true (by omega)
    clear c2
    replace H := Option.bind_eq_some_iff.mp H
    obtain ⟨t101, A30, H⟩ := H
    replace H : (if t101 = true then ((digit_sum.f a0).bind fun t102 => (some ((Int.tmod t102 10) == 0))) else (some false)) = some r := H
    have A3 := Aside0.mk A30
    clear A30
    by_cases c4 : t101 = true
    · subst c4
      have H1 : ((digit_sum.f a0).bind fun t102 => (some ((Int.tmod t102 10) == 0))) = some r := by rw [if_pos rfl] at H; exact H
      clear H
      have H := H1
      clear H1
      replace H := Option.bind_eq_some_iff.mp H
      obtain ⟨t102, A50, H⟩ := H
      replace H : (some ((Int.tmod t102 10) == 0)) = some r := H
      have A5 := Aside0.mk A50
      clear A50
      obtain rfl := Option.some.inj H
      go_enter Tryd.func18, Tryd.ntmps18
      go_wp2_with (first | (go_at_call 14; (with_reducible refine (digit_All.calls a0 true _ A3.out).mono ?_); rintro e w' ⟨rfl, ⟨nd, rfl⟩⟩) | (go_at_call 23; (with_reducible refine (digit_sum.calls a0 t102 _ A5.out).mono ?_); rintro e w' ⟨rfl, ⟨nd, rfl⟩⟩))
      go_ret
      exact ⟨by first | rfl | (simp; done) | (simp [*]; done), by repeat (first | exact Drawn0.refl _ | apply Drawn0.step)⟩
    · replace c4 := Bool.eq_false_iff.mpr c4
      subst c4
      have H1 : (some false) = some r := by rw [if_neg (show ¬ (false = true) by decide)] at H; exact H
      clear H
      have H := H1
      clear H1
      obtain rfl := Option.some.inj H
      go_enter Tryd.func18, Tryd.ntmps18
      go_wp2_with (first | (go_at_call 14; (with_reducible refine (digit_All.calls a0 false _ A3.out).mono ?_); rintro e w' ⟨rfl, ⟨nd, rfl⟩⟩))
      go_ret
      exact ⟨by first | rfl | (simp; done) | (simp [*]; done), by repeat (first | exact Drawn0.refl _ | apply Drawn0.step)⟩
  · rw [if_neg c2] at H
    have c2b0 : decide (2 ≤ (a0.size : Int)) = false := decide_eq_false c2
    have c2b1 : decide (2 ≤ a0.size) = false := decide_eq_false (by omega)
    clear c2
    obtain rfl := Option.some.inj H
    go_enter Tryd.func18, Tryd.ntmps18
    go_wp2
    go_ret
    exact ⟨by first | rfl | (simp; done) | (simp [*]; done), by repeat (first | exact Drawn0.refl _ | apply Drawn0.step)⟩

/-! #### digit_Sound, refined -/
theorem digit_Sound_e (s : ByteArray) (hs : s.size ≤ 4096) : digit_Sound_p.f s = some (Pu.soundB s) := by
  unfold digit_Sound_p.f digit_All.f digit_sum.f
  by_cases h2 : 2 ≤ s.size
  · rw [if_pos (by omega), if_pos hs, Option.bind_some]
    cases ha : Pu.allD s with
    | false => rw [if_neg (by simp), Pu.soundB_no ha]
    | true => rw [if_pos rfl, if_pos ⟨hs, rfl⟩, Option.bind_some, Pu.soundB_yes h2 ha]
  · rw [if_neg (by omega), Pu.soundB_short h2]
def digit_Sound.f (a0 : ByteArray) : Option Bool := if a0.size ≤ 4096 then some (Pu.soundB a0) else none
theorem digit_Sound.calls (a0 : ByteArray) (r : Bool) (w : World) (h : digit_Sound.f a0 = some r) :
    Calls Tryd.prog 18 #[.string a0] w fun e w' => e = .returned (.bool r) ∧ Drawn0 w w' := by
  unfold digit_Sound.f at h
  split at h
  · exact digit_Sound_p.calls a0 r w ((digit_Sound_e a0 ‹_›).trans h)
  · cases h


end Go.Proofs.YteghpaomggajdaaDoor.XG
