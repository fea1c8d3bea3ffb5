-- Written by wip/xprint.py, a session's program: printed out of the translation, with hand-written functions. Lean checks it.
import Derived.Test.YtnelnmlhlmocdaaGreatDoorXB0
namespace Go.Proofs.YtnelnmlhlmocdaaGreatDoor.XB
open Go.RowKit Go.Proofs.YtnelnmlhlmocdaaGreatDoorW.PrintWords Go.Proofs.YtnelnmlhlmocdaaGreatDoorW.PrintLast Go.Proofs.YtnelnmlhlmocdaaGreatDoorW.PrintMore
attribute [local go_sem] max2_int min2_int max_two min_two max_three min_three max_four min_four   -- for this text's walks alone
set_option linter.unusedVariables false
set_option linter.unusedSimpArgs false

-- NOT PRINTED: function 68 (strconv_small)

-- NOT PRINTED: function 90 (strconv_log10Pow2)

-- NOT PRINTED: function 91 (bits_Len64)

-- NOT PRINTED: function 92 (strconv_bool2_int)

-- NOT PRINTED: function 69 (strconv_numDigits)

-- NOT PRINTED: function 70 (strconv_formatBase10)

-- NOT PRINTED: function 93 (strconv_isPowerOfTwo)

-- NOT PRINTED: function 112 (bits_TrailingZeros32)

-- NOT PRINTED: function 113 (bits_TrailingZeros64)

-- NOT PRINTED: function 94 (bits_TrailingZeros)

-- NOT PRINTED: function 71 (strconv_formatBits)

-- NOT PRINTED: function 39 (strconv_FormatUint_39)

-- NOT PRINTED: function 16 (strconv_FormatUint_16)

-- NOT PRINTED: function 72 (bits_Mul32)

-- NOT PRINTED: function 73 (bits_Mul64)

-- NOT PRINTED: function 40 (bits_Mul)

/-! ### stringslite_HasPrefix: function 74 -/
def stringslite_HasPrefix.f (a0 : ByteArray) (a1 : ByteArray) : Option (Bool) := if (a0.size : Int) ≥ (a1.size : Int) then (if 0 ≤ (a1.size : Int) then (if (a1.size : Int) ≤ (a0.size : Int) then (some ((a0.extract 0 ((a1.size : Int) : Int).toNat).toList == a1.toList)) else (none)) else (none)) else (some false)
set_option maxHeartbeats 8000000 in
set_option maxRecDepth 100000 in
theorem stringslite_HasPrefix.calls (a0 : ByteArray) (a1 : ByteArray) (r : Bool) (w : World) (h : stringslite_HasPrefix.f a0 a1 = some r) :
    Calls Tryz.prog 74 #[.string a0, .string a1] w fun e w' => e = .returned (.bool r) ∧ Drawn0 w w' := by
  have H : (if (a0.size : Int) ≥ (a1.size : Int) then (if 0 ≤ (a1.size : Int) then (if (a1.size : Int) ≤ (a0.size : Int) then (some ((a0.extract 0 ((a1.size : Int) : Int).toNat).toList == a1.toList)) else (none)) else (none)) else (some false)) = some r := h
  clear h
  by_cases c3 : (a0.size : Int) ≥ (a1.size : Int)
  · rw [if_pos c3] at H
    have c3b0 : decide ((a1.size : Int) ≤ (a0.size : Int)) = true := decide_eq_true c3
    have c3b1 : decide (a1.size ≤ a0.size) = true := decide_eq_true (Int.ofNat_le.mp c3)
    clear c3
    by_cases c4 : 0 ≤ (a1.size : Int)
    · rw [if_pos c4] at H
      have c4b0 := eq_true c4
      have c4b1 : decide (0 ≤ (a1.size : Int)) = true := decide_eq_true c4
      clear c4
      by_cases c5 : (a1.size : Int) ≤ (a0.size : Int)
      · rw [if_pos c5] at H
        have c5b0 := eq_true c5
        have c5b1 : decide ((a1.size : Int) ≤ (a0.size : Int)) = true := decide_eq_true c5
        clear c5
        obtain rfl := Option.some.inj H
        go_enter Tryz.func74, Tryz.ntmps74
        go_wp2
        go_ret
        exact ⟨by first | rfl | (simp; done) | (simp [*]; done), by repeat (first | exact Drawn0.refl _ | apply Drawn0.step)⟩
      · rw [if_neg c5] at H
        exact absurd H (by simp)
    · rw [if_neg c4] at H
      exact absurd H (by simp)
  · rw [if_neg c3] at H
    have c3b0 : decide ((a1.size : Int) ≤ (a0.size : Int)) = false := decide_eq_false c3
    have c3b1 : decide (a1.size ≤ a0.size) = false := decide_eq_false (fun h => c3 (Int.ofNat_le.mpr h))
    clear c3
    obtain rfl := Option.some.inj H
    go_enter Tryz.func74, Tryz.ntmps74
    go_wp2
    go_ret
    exact ⟨by first | rfl | (simp; done) | (simp [*]; done), by repeat (first | exact Drawn0.refl _ | apply Drawn0.step)⟩

/-! ### strings_HasPrefix: function 41 -/
def strings_HasPrefix.f (a0 : ByteArray) (a1 : ByteArray) : Option (Bool) := (stringslite_HasPrefix.f a0 a1).bind fun t101 => (some t101)
set_option maxHeartbeats 8000000 in
set_option maxRecDepth 100000 in
theorem strings_HasPrefix.calls (a0 : ByteArray) (a1 : ByteArray) (r : Bool) (w : World) (h : strings_HasPrefix.f a0 a1 = some r) :
    Calls Tryz.prog 41 #[.string a0, .string a1] w fun e w' => e = .returned (.bool r) ∧ Drawn0 w w' := by
  have H : ((stringslite_HasPrefix.f a0 a1).bind fun t101 => (some t101)) = some r := h
  clear h
  replace H := Option.bind_eq_some_iff.mp H
  obtain ⟨t101, A30, H⟩ := H
  replace H : (some t101) = some r := H
  have A3 := Aside0.mk A30
  clear A30
  obtain rfl := Option.some.inj H
  go_enter Tryz.func41, Tryz.ntmps41
  go_wp2_with (first | ((with_reducible refine gate_callee (f := 74) rfl ?_); refine goesL_ (some 7) rfl rfl Tryz.func74 (by kernel_rfl) rfl #[.string a0, .string a1] rfl (by (try simp only [List.map_toArray, List.map_cons, List.map_nil]); first | done | rfl | (simp only [List.length_drop, List.length_take]; rfl)) ?_; (with_reducible refine (stringslite_HasPrefix.calls a0 a1 t101 _ A3.out).mono ?_); rintro e w' ⟨rfl, ⟨nd, rfl⟩⟩; refine ⟨_, rfl, ?_⟩))
  go_ret
  exact ⟨by first | rfl | (simp; done) | (simp [*]; done), by repeat (first | exact Drawn0.refl _ | apply Drawn0.step)⟩

-- NOT PRINTED: function 95 (abi_NoEscape)

-- NOT PRINTED: function 75 (strings_Builder_copyCheck)

-- NOT PRINTED: function 96 (bytealg_MakeNoZero)

-- NOT PRINTED: function 76 (strings_Builder_grow)

-- NOT PRINTED: function 42 (strings_Builder_Grow)

-- NOT PRINTED: function 43 (strings_Builder_WriteString)

-- NOT PRINTED: function 44 (strings_Builder_Len)

-- NOT PRINTED: function 45 (strings_Builder_String)

/-! ### strings_Repeat: function 17 -/
def strings_Repeat.f (a0 : ByteArray) (a1 : Int) : Option ByteArray := if 0 ≤ a1 ∧ a1 ≤ 1000 ∧ a0.size ≤ 1000 then some ⟨(Lib.repeatL a0.data.toList a1.toNat).toArray⟩ else none
theorem strings_Repeat.calls (a0 : ByteArray) (a1 : Int) (r : ByteArray) (w : World) (h : strings_Repeat.f a0 a1 = some r) :
    Calls Tryz.prog 17 #[.string a0, .int .i64 a1] w fun e w' => e = .returned (.string r) ∧ Below w.heap.size w w' := by
  unfold strings_Repeat.f at h
  split at h
  case isFalse => cases h
  case isTrue hb =>
  obtain ⟨c, rfl⟩ : ∃ c : Nat, a1 = c := ⟨a1.toNat, by omega⟩
  rw [Int.toNat_natCast] at h
  obtain rfl := Option.some.inj h
  have hm : a0.size * c ≤ 1000 * 1000 := Nat.mul_le_mul hb.2.2 (by omega)
  refine (Tryz.strings_Repeat a0 c w (by omega) (by omega)).mono ?_
  rintro e w' ⟨rfl, hB⟩
  exact ⟨rfl, hB⟩


/-! ### digit_Put: function 4 -/
def digit_Put.f (a0 : Int) (a1 : Int) : Option (ByteArray × Int) := if 0 ≤ a0 ∧ a0 < 18446744073709551616 then some (Dg.putS a0.toNat a1) else none
theorem digit_Put.calls (a0 : Int) (a1 : Int) (r1 : ByteArray) (r2 : Int) (w : World) (h : digit_Put.f a0 a1 = some (r1, r2)) (HT : 100 ≤ a0 → Fu.Tab w) :
    Calls Tryz.prog 4 #[.int .u64 a0, .int .i64 a1] w fun e w' => e = .returned (.tuple #[.string r1, .int .i64 r2]) ∧ Below w.heap.size w w' := by
  unfold digit_Put.f at h
  split at h
  · obtain ⟨n, rfl⟩ : ∃ n : Nat, a0 = n := ⟨a0.toNat, by omega⟩
    rw [Int.toNat_natCast] at h
    have h1 : (Dg.putS n a1).1 = r1 := by rw [Option.some.inj h]
    have h2 : (Dg.putS n a1).2 = r2 := by rw [Option.some.inj h]
    rw [← h1, ← h2]
    exact Fu.put_w n (by omega) a1 w (fun h_ => HT (by omega))
  · cases h


/-! ### digit_All_p: function 18 -/
def digit_All_p.l0 : Nat → ByteArray → Int → Int → Option (Bool)
  | 0, _, _, _ => none
  | k + 1, x0, x5, x6 => if x6 < x5 then (if 0 ≤ x6 then (if x6 < (x0.size : Int) then (if (bt x0 x6) < 48 then (some false) else (if (bt x0 x6) > 57 then (some false) else (digit_All_p.l0 k x0 x5 (wrap64 (x6 + 1))))) else (none)) else (none)) else (some true)
def digit_All_p.f (k : Nat) (a0 : ByteArray) : Option (Bool) := digit_All_p.l0 k a0 (a0.size : Int) 0
theorem digit_All_p.mono_l : ∀ k, (∀ y0 y1 y2, LeO (digit_All_p.l0 k y0 y1 y2) (digit_All_p.l0 (k + 1) y0 y1 y2))
  | 0 => fun _ _ _ r h => by simp [digit_All_p.l0] at h
  | k + 1 => by
    have ih0 := digit_All_p.mono_l k
    · intro y0 y1 y2
      unfold digit_All_p.l0
      repeat' first
      | (with_reducible exact ih0 _ _ _)
      | (with_reducible exact LeO.refl _)
      | (with_reducible exact LeO.none _)
      | (with_reducible refine LeO.ite ?_ ?_)
      | (with_reducible refine LeO.bind ?_ (fun _ => ?_))
      | exact ih0 _ _ _
      | exact LeO.none _
      | refine LeO.ite ?_ ?_
      | refine LeO.bind ?_ (fun _ => ?_)
theorem digit_All_p.mono : ∀ a0 k, LeO (digit_All_p.f k a0) (digit_All_p.f (k + 1) a0) := by
  intro a0 k
  have ih0 := digit_All_p.mono_l k
  unfold digit_All_p.f
  repeat' first
      | (with_reducible exact ih0 _ _ _)
      | (with_reducible exact LeO.refl _)
      | (with_reducible exact LeO.none _)
      | (with_reducible refine LeO.ite ?_ ?_)
      | (with_reducible refine LeO.bind ?_ (fun _ => ?_))
      | exact ih0 _ _ _
      | exact LeO.none _
      | refine LeO.ite ?_ ?_
      | refine LeO.bind ?_ (fun _ => ?_)
set_option maxHeartbeats 8000000 in
set_option maxRecDepth 100000 in
theorem digit_All_p.calls (k : Nat) (a0 : ByteArray) (r : Bool) (w : World) (h : digit_All_p.f k a0 = some r) :
    Calls Tryz.prog 18 #[.string a0] w fun e w' => e = .returned (.bool r) ∧ Drawn0 w w' := by
  have H : (digit_All_p.l0 k a0 (a0.size : Int) 0) = some r := h
  clear h
  have H' := Aside0.mk H
  clear H
  go_enter Tryz.func18, Tryz.ntmps18
  go_wp2
  go_loopg [6] k (fun kq v6 w' => ∃ (x6_1 : Int), v6 = .int .i64 x6_1 ∧ Aside0 (digit_All_p.l0 kq a0 (a0.size : Int) x6_1 = some r) ∧ Aside0 (kq ≤ k) ∧ Drawn0 w w')
  case atStart => exact ⟨(0), (by first | rfl | (simp; done) | (simp [*]; done) | (simp [Pu.bne_nil, Pu.beq_nil]; done)), H', ⟨Nat.le_refl _⟩, by repeat (first | exact Drawn0.refl _ | apply Drawn0.step)⟩
  case round =>
    clear H'
    try clear c1
    obtain ⟨x6_1, rfl, HA, HK1, ⟨m1, rfl⟩⟩ := hrel
    cases gk with
    | zero => exact absurd HA.out (by simp [digit_All_p.l0])
    | succ k1 =>
      have H := HA.out
      clear HA
      simp only [digit_All_p.l0] at H
      by_cases c2 : x6_1 < (a0.size : Int)
      · rw [if_pos c2] at H
        have c2b0 : decide (x6_1 < (a0.size : Int)) = true := decide_eq_true c2
        clear c2
        by_cases c3 : 0 ≤ x6_1
        · rw [if_pos c3] at H
          have c3b0 : decide (0 ≤ x6_1) = true := decide_eq_true c3
          clear c3
          by_cases c4 : x6_1 < (a0.size : Int)
          · rw [if_pos c4] at H
            have c4b0 : decide (x6_1 < (a0.size : Int)) = true := decide_eq_true c4
            clear c4
            by_cases c6 : (bt a0 x6_1) < 48
            · rw [if_pos c6] at H
              have c6b0 : decide ((bt a0 x6_1) < 48) = true := decide_eq_true c6
              clear c6
              obtain rfl := Option.some.inj H
              have p5 : 0 ≤ (x6_1 : Int) := of_decide_eq_true (by first | (with_reducible assumption) | assumption)
              have q5 : x6_1 < (a0.size : Int) := of_decide_eq_true (by first | (with_reducible assumption) | assumption)
              have hx5 := bt_at a0 x6_1
              replace p5 := eq_true p5
              replace q5 := eq_true q5
              go_wp2
              go_ret
              exact ⟨by first | rfl | (simp; done) | (simp [*]; done), by repeat (first | exact Drawn0.refl _ | apply Drawn0.step)⟩
            · rw [if_neg c6] at H
              have c6b0 : decide ((bt a0 x6_1) < 48) = false := decide_eq_false c6
              clear c6
              by_cases c8 : (bt a0 x6_1) > 57
              · rw [if_pos c8] at H
                have c8b0 : decide (57 < (bt a0 x6_1)) = true := decide_eq_true c8
                clear c8
                obtain rfl := Option.some.inj H
                have p5 : 0 ≤ (x6_1 : Int) := of_decide_eq_true (by first | (with_reducible assumption) | assumption)
                have q5 : x6_1 < (a0.size : Int) := of_decide_eq_true (by first | (with_reducible assumption) | assumption)
                have hx5 := bt_at a0 x6_1
                replace p5 := eq_true p5
                replace q5 := eq_true q5
                have p7 : 0 ≤ (x6_1 : Int) := of_decide_eq_true (by first | (with_reducible assumption) | assumption)
                have q7 : x6_1 < (a0.size : Int) := of_decide_eq_true (by first | (with_reducible assumption) | assumption)
                have hx7 := bt_at a0 x6_1
                replace p7 := eq_true p7
                replace q7 := eq_true q7
                go_wp2
                go_ret
                exact ⟨by first | rfl | (simp; done) | (simp [*]; done), by repeat (first | exact Drawn0.refl _ | apply Drawn0.step)⟩
              · rw [if_neg c8] at H
                have c8b0 : decide (57 < (bt a0 x6_1)) = false := decide_eq_false c8
                clear c8
                have H' := Aside0.mk H
                clear H
                have p5 : 0 ≤ (x6_1 : Int) := of_decide_eq_true (by first | (with_reducible assumption) | assumption)
                have q5 : x6_1 < (a0.size : Int) := of_decide_eq_true (by first | (with_reducible assumption) | assumption)
                have hx5 := bt_at a0 x6_1
                replace p5 := eq_true p5
                replace q5 := eq_true q5
                have p7 : 0 ≤ (x6_1 : Int) := of_decide_eq_true (by first | (with_reducible assumption) | assumption)
                have q7 : x6_1 < (a0.size : Int) := of_decide_eq_true (by first | (with_reducible assumption) | assumption)
                have hx7 := bt_at a0 x6_1
                replace p7 := eq_true p7
                replace q7 := eq_true q7
                go_wp2
                go_roundg k1
                case measure => have := HK1.out; omega
                case rel => exact ⟨(wrap64 (x6_1 + 1)), (by first | rfl | (simp; done) | (simp [*]; done) | (simp [Pu.bne_nil, Pu.beq_nil]; done)), H', ⟨by have := HK1.out; omega⟩, by repeat (first | exact Drawn0.refl _ | apply Drawn0.step)⟩
          · rw [if_neg c4] at H
            exact absurd H (by simp)
        · rw [if_neg c3] at H
          exact absurd H (by simp)
      · rw [if_neg c2] at H
        have c2b0 : decide (x6_1 < (a0.size : Int)) = false := decide_eq_false c2
        clear c2
        obtain rfl := Option.some.inj H
        go_wp2
        go_ret
        exact ⟨by first | rfl | (simp; done) | (simp [*]; done), by repeat (first | exact Drawn0.refl _ | apply Drawn0.step)⟩

/-! #### digit_All, refined -/
theorem digit_All_l (s : ByteArray) (hs : s.size ≤ 4096) : ∀ (d i k : Nat), i + d = s.size → d < k → digit_All_p.l0 k s (s.size : Int) (i : Int) = some (((Pu.bs s).drop i).all Pu.dig) := by
  intro d
  induction d with
  | zero =>
    intro i k hi hk
    obtain ⟨k, rfl⟩ : ∃ m, k = m + 1 := ⟨k - 1, by omega⟩
    obtain rfl : i = s.size := by omega
    simp only [digit_All_p.l0]
    rw [if_neg (by omega), Pu.bs_drop_all]; rfl
  | succ d ih =>
    intro i k hi hk
    obtain ⟨k, rfl⟩ : ∃ m, k = m + 1 := ⟨k - 1, by omega⟩
    simp only [digit_All_p.l0]
    rw [if_pos (by omega), if_pos (by omega), if_pos (by omega), Pu.bs_drop s i (by omega), List.all_cons]
    by_cases h1 : bt s i < 48
    · rw [if_pos h1, (Pu.dig_no _).mpr (.inl h1)]; rfl
    · rw [if_neg h1]
      by_cases h2 : bt s i > 57
      · rw [if_pos h2, (Pu.dig_no _).mpr (.inr h2)]; rfl
      · rw [if_neg h2, (Pu.dig_iff _).mpr ⟨by omega, by omega⟩, Bool.true_and, Pu.wrap_small (by omega) (by omega)]
        exact ih (i + 1) k (by omega) (by omega)
def digit_All.f (a0 : ByteArray) : Option Bool := if a0.size ≤ 4096 then some (Pu.allD a0) else none
theorem digit_All.calls (a0 : ByteArray) (r : Bool) (w : World) (h : digit_All.f a0 = some r) :
    Calls Tryz.prog 18 #[.string a0] w fun e w' => e = .returned (.bool r) ∧ Drawn0 w w' := by
  unfold digit_All.f at h
  split at h
  · exact digit_All_p.calls (a0.size + 1) a0 r w ((digit_All_l a0 ‹_› a0.size 0 (a0.size + 1) (by omega) (by omega)).trans h)
  · cases h


/-! ### digit_sum: function 19 -/
theorem x_ret_i {k : IntKind} {a b : Int} (h : a = b) : Ending.returned (.int k a) = .returned (.int k b) := by rw [h]
theorem digit_sum_1 (d : Int) (h0 : 0 ≤ d) (h9 : d ≤ 9) (w : World) :
    Calls Tryz.prog 46 #[.int .i64 d] w fun e w' => e = .returned (.int .i64 (Pu.dbl d)) ∧ w = w' := by
  go_enter Tryz.func46, Tryz.ntmps46
  go_wp2
  go_ret
  exact ⟨x_ret_i (by unfold Pu.dbl; split <;> omega), rfl⟩
theorem digit_sum_w (s : ByteArray) (hs : s.size ≤ 4096) (hd : Pu.allD s = true) (w : World) :
    Calls Tryz.prog 19 #[.string s] w fun e w' => e = .returned (.int .i64 (Pu.luhn (Pu.bs s))) ∧ w = w' := by
  go_enter Tryz.func19, Tryz.ntmps19
  go_wp2
  go_loop [4, 9] (fun n i => ∃ k : Nat, k ≤ s.size ∧ i = .int .i64 k ∧ n = .int .i64 (Pu.luhn ((Pu.bs s).drop (s.size - k)))) (fun _ i => s.size - (intOf i).toNat)
  case atStart => exact ⟨0, Nat.zero_le _, rfl, by rw [Nat.sub_zero, Pu.bs_drop_all]; rfl⟩
  case round =>
    obtain ⟨k, hk, rfl, rfl⟩ := hrel
    by_cases hlt : k < s.size
    · obtain ⟨n, hn, hb1, hb2, hx⟩ := Pu.back_at s hd k hlt
      obtain ⟨hd1, hd2⟩ := Pu.luhn_part s hd k hk
      obtain ⟨hd3, hd4⟩ := Pu.dbl_bound ((n : Int) - 48) (by omega) (by omega)
      have HS0 := Pu.luhn_back s k hlt
      rw [hn] at HS0
      have HS := Lib.hid HS0
      clear HS0 hn
      by_cases hp : k % 2 = 1
      · have hp' : ((k : Int) % 2 == 1) = true := by rw [beq_iff_eq]; omega
        have HP := Lib.hid hp
        clear hp
        go_wp2_with (go_at_call 46; refine (digit_sum_1 _ (by omega) (by omega) _).mono ?_; rintro e w' ⟨rfl, rfl⟩)
        go_round
        case rel => exact ⟨k + 1, by omega, by go_num, by rw [HS.out, if_pos HP.out]⟩
        case measure => simp [intOf]; omega
      · have hp' : ((k : Int) % 2 == 1) = false := by rw [beq_eq_false_iff_ne]; omega
        have HP := Lib.hid hp
        clear hp
        go_wp2
        go_round
        case rel => exact ⟨k + 1, by omega, by go_num, by rw [HS.out, if_neg HP.out]⟩
        case measure => simp [intOf]; omega
    · go_wp2
      go_ret
      exact ⟨x_ret_i (by rw [show s.size - k = 0 by omega]; rfl), rfl⟩
def digit_sum.f (a0 : ByteArray) : Option Int := if a0.size ≤ 4096 ∧ Pu.allD a0 = true then some (Pu.luhn (Pu.bs a0)) else none
theorem digit_sum.calls (a0 : ByteArray) (r : Int) (w : World) (h : digit_sum.f a0 = some r) :
    Calls Tryz.prog 19 #[.string a0] w fun e w' => e = .returned (.int .i64 r) ∧ Drawn0 w w' := by
  unfold digit_sum.f at h
  split at h
  · obtain rfl := Option.some.inj h
    refine (digit_sum_w a0 (‹_ ∧ _› : _ ∧ _).1 (‹_ ∧ _› : _ ∧ _).2 w).mono ?_
    rintro e w' ⟨rfl, rfl⟩
    exact ⟨rfl, Drawn0.refl _⟩
  · cases h


-- NOT PRINTED: function 77 (strconv_FormatInt)

-- NOT PRINTED: function 47 (strconv_Itoa_47)

/-! ### strconv_Itoa_20: function 20 -/
def strconv_Itoa_20.f (a0 : Int) : Option ByteArray := if 0 ≤ a0 ∧ a0 < 9223372036854775807 then some ⟨(Lib.itoa a0).toArray⟩ else none
theorem strconv_Itoa_20.calls (a0 : Int) (r : ByteArray) (w : World) (h : strconv_Itoa_20.f a0 = some r) (HT0 : As.Env w) :
    Calls Tryz.prog 20 #[.int .i64 a0] w fun e w' => e = .returned (.string r) ∧ Below w.heap.size w w' := by
  unfold strconv_Itoa_20.f at h
  split at h
  case isFalse => cases h
  case isTrue hb =>
  obtain rfl := Option.some.inj h
  refine (Tryz.strconv_Itoa a0 (by omega) (by omega) w HT0.tab).mono ?_
  rintro e w' ⟨rfl, k, os, rfl⟩
  exact ⟨rfl, Fu.below_grow w k os⟩


/-! ### digit_Sign: function 5 -/
theorem x_nil_no {s : ByteArray} (h : s.size ≠ 0) : (s.toList == ([] : List UInt8)) = false ∧ s.toList.isEmpty = false ∧ (s.toList = []) = False := by
  have h1 : (s.toList == ([] : List UInt8)) = false := by rw [Pu.toList_empty]; exact decide_eq_false h
  refine ⟨h1, by rw [← Pu.beq_nil]; exact h1, eq_false fun hn => h (Pu.toList_nil.mp hn)⟩
set_option maxHeartbeats 6400000 in
theorem digit_Sign_w (s : ByteArray) (hs : s.size ≤ 4000) (w : World) :
    Calls Tryz.prog 5 #[.string s] w fun e w' => e = .returned (.tuple #[.string (Dg.signS s).1, .int .i64 (Dg.signS s).2]) ∧ Below w.heap.size w w' := by
  by_cases h0 : s.size = 0
  · obtain rfl := Pu.size_nil h0
    go_enter Tryz.func5, Tryz.ntmps5
    go_wp2
    go_ret2
    exact ⟨rfl, Below.refl _ _⟩
  · obtain ⟨hn1, hn2, hn3⟩ := x_nil_no h0
    by_cases ha : Pu.allD s = true
    · have hsz : (s ++ (⟨#[48]⟩ : ByteArray)).size = s.size + 1 := by rw [ByteArray.size_append]; rfl
      have ha0 : Pu.allD (s ++ (⟨#[48]⟩ : ByteArray)) = true := by rw [Dg.allD_app, ha]; rfl
      have hlu : Pu.luhn (Pu.bs (s ++ (⟨#[48]⟩ : ByteArray))) = Pu.luhn (Pu.bs s ++ [48]) := by rw [Dg.bs_app]; rfl
      obtain ⟨hl0, hl9⟩ := Pu.luhn_bound _ ha0
      obtain ⟨n, hn⟩ : ∃ n : Nat, Pu.luhn (Pu.bs (s ++ (⟨#[48]⟩ : ByteArray))) = n := ⟨(Pu.luhn (Pu.bs (s ++ (⟨#[48]⟩ : ByteArray)))).toNat, by omega⟩
      have hnn : n ≤ 40000 := by rw [hn, Pu.bs_length, hsz] at hl9; omega
      have hsum := fun W => digit_sum.calls (s ++ (⟨#[48]⟩ : ByteArray)) (n : Int) W (by unfold digit_sum.f; rw [if_pos ⟨by rw [hsz]; omega, ha0⟩, hn])
      have hd : Dg.signD s = ((10 - n % 10) % 10 : Nat) := by unfold Dg.signD; rw [← hlu, hn]; omega
      have hsig : Dg.signS s = (s ++ Dg.ba (Lib.decDigits ((10 - n % 10) % 10)), 0) := by
        unfold Dg.signS; rw [if_neg (by rintro (h_ | h_); exact h0 h_; rw [ha] at h_; cases h_), hd, Int.toNat_natCast]
      have hca : -((n : Int) % 10) % 10 = ((10 - n % 10) % 10 : Nat) := by omega
      have hito := fun W => Tryz.strconv_Itoa_small ((10 - n % 10) % 10) (by omega) W
      rw [← hca] at hito
      have hno : ¬ 9223372036854775807 < s.size + (Lib.decDigits ((10 - n % 10) % 10)).length := by rw [Lib.decDigits_one (by omega)]; show ¬ _ < _ + 1; omega
      clear hca hd hl0 hl9 hn hlu ha0
      go_enter Tryz.func5, Tryz.ntmps5
      go_wp2_with (first
        | (go_at_call 18; refine (digit_All.calls s true _ (by unfold digit_All.f; rw [if_pos (by omega), ha])).mono ?_; rintro e w1 ⟨rfl, hD⟩)
        | (go_at_call 19; refine (hsum _).mono ?_; rintro e w2 ⟨rfl, hD2⟩)
        | (go_at_call 20; refine (hito _).mono ?_; rintro e w3 ⟨rfl, rfl⟩))
      go_ret2
      rw [hsig]
      exact ⟨rfl, hD.below.trans (hD2.below.mono hD.below.size)⟩
    · have ha' : Pu.allD s = false := by simpa using ha
      go_enter Tryz.func5, Tryz.ntmps5
      go_wp2_with (go_at_call 18; refine (digit_All.calls s false _ (by unfold digit_All.f; rw [if_pos (by omega), ha'])).mono ?_; rintro e w1 ⟨rfl, hD⟩)
      go_ret2
      exact ⟨by unfold Dg.signS; rw [if_pos (Or.inr ha')]; rfl, hD.below⟩
def digit_Sign.f (a0 : ByteArray) : Option (ByteArray × Int) := if a0.size ≤ 4000 then some (Dg.signS a0) else none
theorem digit_Sign.calls (a0 : ByteArray) (r1 : ByteArray) (r2 : Int) (w : World) (h : digit_Sign.f a0 = some (r1, r2)) :
    Calls Tryz.prog 5 #[.string a0] w fun e w' => e = .returned (.tuple #[.string r1, .int .i64 r2]) ∧ Below w.heap.size w w' := by
  unfold digit_Sign.f at h
  split at h
  · have h1 : (Dg.signS a0).1 = r1 := by rw [Option.some.inj h]
    have h2 : (Dg.signS a0).2 = r2 := by rw [Option.some.inj h]
    rw [← h1, ← h2]
    exact digit_Sign_w a0 (by assumption) w
  · cases h


-- NOT PRINTED: function 24 (api_Field_24)

-- NOT PRINTED: function 21 (api_Field_21)

-- NOT PRINTED: function 22 (api_Field_22)

-- NOT PRINTED: function 48 (api_Field_48)

-- NOT PRINTED: function 97 (api_Field_97)

-- NOT PRINTED: function 78 (api_Field_78)

-- NOT PRINTED: function 49 (api_Field_49)

-- NOT PRINTED: function 26 (api_Field_26)

/-! ### iso_numbers: function 51 -/
def iso_numbers.l0 : Nat → List Int → List (S56) → Int → Int → Option (List Int)
  | 0, _, _, _, _ => none
  | k + 1, x3, x6, x7, x8 => if x8 < x7 then (if 0 ≤ x8 then (if x8 < (x6.length : Int) then (if x3.length < 17592186044416 then (iso_numbers.l0 k (x3 ++ [(rd_T56 x6 x8).f0]) x6 x7 (wrap64 (x8 + 1))) else (none)) else (none)) else (none)) else (some x3)
def iso_numbers.f (k : Nat) (l0 : List (S56)) : Option (List Int) := iso_numbers.l0 k ([] : List Int) l0 (l0.length : Int) 0
theorem iso_numbers.mono_l : ∀ k, (∀ y0 y1 y2 y3, LeO (iso_numbers.l0 k y0 y1 y2 y3) (iso_numbers.l0 (k + 1) y0 y1 y2 y3))
  | 0 => fun _ _ _ _ r h => by simp [iso_numbers.l0] at h
  | k + 1 => by
    have ih0 := iso_numbers.mono_l k
    · intro y0 y1 y2 y3
      unfold iso_numbers.l0
      repeat' first
      | (with_reducible exact ih0 _ _ _ _)
      | (with_reducible exact LeO.refl _)
      | (with_reducible exact LeO.none _)
      | (with_reducible refine LeO.ite ?_ ?_)
      | (with_reducible refine LeO.bind ?_ (fun _ => ?_))
      | exact ih0 _ _ _ _
      | exact LeO.none _
      | refine LeO.ite ?_ ?_
      | refine LeO.bind ?_ (fun _ => ?_)
theorem iso_numbers.mono : ∀ a0 k, LeO (iso_numbers.f k a0) (iso_numbers.f (k + 1) a0) := by
  intro a0 k
  have ih0 := iso_numbers.mono_l k
  unfold iso_numbers.f
  repeat' first
      | (with_reducible exact ih0 _ _ _ _)
      | (with_reducible exact LeO.refl _)
      | (with_reducible exact LeO.none _)
      | (with_reducible refine LeO.ite ?_ ?_)
      | (with_reducible refine LeO.bind ?_ (fun _ => ?_))
      | exact ih0 _ _ _ _
      | exact LeO.none _
      | refine LeO.ite ?_ ?_
      | refine LeO.bind ?_ (fun _ => ?_)
set_option maxHeartbeats 8000000 in
set_option maxRecDepth 100000 in
theorem iso_numbers.calls (k : Nat) (A0 : Option Addr) (c0 : Nat) (l0 : List (S56)) (r : List Int) (w : World) (hr0 : Kd.C k56 w A0 l0.length l0) (hc0 : l0.length ≤ c0) (h : iso_numbers.f k l0 = some r) :
    Calls Tryz.prog 51 #[.slice A0 l0.length c0] w fun e w' => ∃ v0_ : Value, e = .returned (v0_) ∧ Kd.R (Kd.int .i64) 3 w' w.heap.size (fun _ => True) v0_ r ∧ Below w.heap.size w w' := by
  have hu56 := Tryz.underlying56
  have HR0 := Aside0.mk hr0
  have HC0 := Aside0.mk hc0
  clear hr0 hc0
  have HB := Aside0.mk (Below.refl w.heap.size w)
  have H : (iso_numbers.l0 k ([] : List Int) l0 (l0.length : Int) 0) = some r := h
  clear h
  have H' := Aside0.mk H
  clear H
  go_enter Tryz.func51, Tryz.ntmps51
  go_wp2
  go_loopg [3, 8] k (fun kq v3 v8 w' => ∃ (x3_1 : List Int) (x8_1 : Int), v8 = .int .i64 x8_1 ∧ Aside0 (iso_numbers.l0 kq x3_1 l0 (l0.length : Int) x8_1 = some r) ∧ Aside0 (kq ≤ k) ∧ Aside0 (Kd.R (Kd.int .i64) 3 w' w.heap.size (fun _ => True) v3 x3_1) ∧ Aside0 (Below w.heap.size w w'))
  case atStart => exact ⟨(([] : List Int)), (0), (by first | rfl | (simp; done) | (simp [*]; done) | (simp [Pu.bne_nil, Pu.beq_nil]; done)), H', ⟨Nat.le_refl _⟩, ⟨by first | exact Kd.R_nil _ _ _ _ _ | exact Kd.N_nil _ _ _ _ _ | exact Kd.V_nil _ _ _ _ _ | exact Kd.Q_nil _ _ _ _ _ | exact Kd.S_nil _ _ _ _ _⟩, ⟨by repeat (first | (with_reducible first | exact HB.out | apply below_alloc | apply pw_below_drewN | apply below_drew1) | exact HB.out)⟩⟩
  case round =>
    clear H'
    obtain ⟨x3_1, x8_1, rfl, HA, HK1, HO_3, HB⟩ := hrel
    cases gk with
    | zero => exact absurd HA.out (by simp [iso_numbers.l0])
    | succ k1 =>
      have H := HA.out
      clear HA
      simp only [iso_numbers.l0] at H
      by_cases c2 : x8_1 < (l0.length : Int)
      · rw [if_pos c2] at H
        have c2b0 : decide (x8_1 < (l0.length : Int)) = true := decide_eq_true c2
        clear c2
        by_cases c3 : 0 ≤ x8_1
        · rw [if_pos c3] at H
          have c3b0 : decide (0 ≤ x8_1) = true := decide_eq_true c3
          clear c3
          by_cases c4 : x8_1 < (l0.length : Int)
          · rw [if_pos c4] at H
            have c4b0 : decide (x8_1 < (l0.length : Int)) = true := decide_eq_true c4
            clear c4
            by_cases c5 : x3_1.length < 17592186044416
            · rw [if_pos c5] at H
              have LMc5 := Aside0.mk c5
              clear c5
              obtain ⟨y104, hy104⟩ : ∃ y_ : List Int, y_ = (x3_1 ++ [(rd_T56 l0 x8_1).f0]) := ⟨_, rfl⟩
              replace H : (iso_numbers.l0 k1 y104 l0 (l0.length : Int) (wrap64 (x8_1 + 1))) = some r := by first | (rw [hy104]; with_reducible exact H) | (have H2_ := (Option.bind_some _ _).symm.trans H; rw [hy104]; with_reducible exact H2_) | (have H2_ := (Option.bind_some _ _).symm.trans H; with_reducible exact H2_) | with_reducible exact H | (rw [hy104]; exact H) | exact H
              have Ny104 := Aside0.mk hy104
              clear hy104
              have H' := Aside0.mk H
              clear H
              have p102 : 0 ≤ (x8_1 : Int) := of_decide_eq_true (by first | (with_reducible assumption) | assumption)
              have q102 : x8_1 < (l0.length : Int) := of_decide_eq_true (by first | (with_reducible assumption) | assumption)
              obtain ⟨ad102, e102, hx102_0, hx102_1⟩ := at_T56 HR0.out x8_1 p102 q102
              cases e102
              replace hx102_0 := (HB.out.cell (World.block_lt_of_cell? w _ hx102_0)).trans hx102_0
              replace hx102_1 := (HB.out.cell (World.block_lt_of_cell? w _ hx102_1)).trans hx102_1
              replace p102 := eq_true p102
              replace q102 := eq_true q102
              go_wp2_with (first | ((with_reducible refine gate_dst (N := 5) rfl ?_); refine box_event ?hg (N := 5) ?hd (cs := #[.int .i64 0, .string (⟨#[]⟩ : ByteArray)]) (t := 56) ?hr ?_; (case hd => rfl); (case hg => rfl); (case hr => first | (go_simp; done) | (go_simp; rfl)); intro gb103 hg w6 hbox hb; have n0_ := Aside0.mk (Kd.R_below (by (with_reducible repeat (first | apply Kd.R_alloc | apply Kd.R_drewN | apply Kd.R_drew)); exact HO_3.out) hb); have n1_ := Aside0.mk (below_step (by repeat (first | (with_reducible first | exact HB.out | apply below_alloc | apply pw_below_drewN | apply below_drew1) | exact HB.out)) hb); have n2_ := Aside0.mk (hbox); have n3_ := Aside0.mk ((by rw [hg]; exact (below_size (by repeat (first | (with_reducible first | exact HB.out | apply below_alloc | apply pw_below_drewN | apply below_drew1) | exact HB.out))) : w.heap.size ≤ gb103)); have n4_ := Aside0.mk ((by rw [hg]; exact (below_size (by repeat (first | (with_reducible first | exact HB.out | apply below_alloc | apply pw_below_drewN | apply below_drew1) | exact HB.out))) : w.heap.size ≤ gb103)); clear HO_3; clear HB; have HO_3 := n0_; have HB := n1_; have BK103 := n2_; have GW103 := n3_; have GE103 := n4_; clear n0_ n1_ n2_ n3_ n4_; clear hb hbox hg; have hcz7_0 := blk_cell BK103.out; have hfz7_0 := blk_frozen BK103.out) | ((with_reducible refine gate_builtin (b := .append) (xs := #[.tmp 12, .tmp 15]) rfl ?_); at_builtin; refine Kd.R_append (Kd.int .i64) (w0 := w) w.heap.size rfl (.tmp 12) (.tmp 15) 65 3 (.int .i64 0) 8 rfl Tryz.underlying65 info3 rfl (by decide) (by omega) u3 x3_1 ((rd_T56 l0 x8_1).f0) [.int .i64 ((rd_T56 l0 x8_1).f0)] (fun _ => True) (fun _ => False) rfl (by first | (go_simp; done) | (go_simp; rfl)) ?aP (fun _ hk => hk.elim) ?aF ?aO ?aB ?aS ?aL ?_; (case aP => exact rfl); (case aB => exact (by repeat (first | (with_reducible first | exact HB.out | apply below_alloc | apply pw_below_drewN | apply below_drew1 | refine below_set ?_ GE103.out) | exact HB.out))); (case aF => exact (fun _ _ => trivial)); (case aO => exact (by (with_reducible repeat (first | apply Kd.R_alloc | apply Kd.R_drewN | apply Kd.R_drew)); exact Kd.R_mono (Kd.R_far (p := ⟨gb103, 1, none⟩) (Kd.R_far (p := ⟨gb103, 0, none⟩) (Kd.R_types HO_3.out BK103.out (by decide)) (fun _ hk => hk.2) (.int .i64 ((rd_T56 l0 x8_1).f0))) (fun _ hk => hk.2) (.string ((rd_T56 l0 x8_1).f1))) (fun _ hk => trivial))); (case aS => exact (below_size (by repeat (first | (with_reducible first | exact HB.out | apply below_alloc | apply pw_below_drewN | apply below_drew1 | refine below_set ?_ GE103.out) | exact HB.out)))); (case aL => have := LMc5.out; omega); intro v105 w8 ho hb hg hat; rw [← Ny104.out] at ho; have n0_ := Aside0.mk (blk_grown (g := gb103) (o := .cells #[.int .i64 ((rd_T56 l0 x8_1).f0), .string ((rd_T56 l0 x8_1).f1)] 56 (0, 0)) (by (with_reducible repeat (first | refine blk_drewN ?_ _ | refine blk_drew ?_ | refine blk_alloc ?_ _)); refine blk_put (cs := #[.int .i64 ((rd_T56 l0 x8_1).f0), .string (⟨#[]⟩ : ByteArray)]) ?_ 1 _ rfl; (with_reducible repeat (first | refine blk_drewN ?_ _ | refine blk_drew ?_ | refine blk_alloc ?_ _)); refine blk_put (cs := #[.int .i64 0, .string (⟨#[]⟩ : ByteArray)]) ?_ 0 _ rfl; (with_reducible repeat (first | refine blk_drewN ?_ _ | refine blk_drew ?_ | refine blk_alloc ?_ _)); exact BK103.out) hg (Kd.R_ne HO_3.out BK103.out (by decide))); have n1_ := Aside0.mk (hb); have n2_ := Aside0.mk (ho); clear BK103; clear HB; clear HO_3; have BK103 := n0_; have HB := n1_; have HO106 := n2_; clear n0_ n1_ n2_; clear ho hb hg hat))
              go_roundg k1
              case measure => have := HK1.out; omega
              case rel => exact ⟨(y104), (wrap64 (x8_1 + 1)), (by first | rfl | (simp; done) | (simp [*]; done) | (simp [Pu.bne_nil, Pu.beq_nil]; done)), H', ⟨by have := HK1.out; omega⟩, ⟨by (with_reducible repeat (first | apply Kd.R_alloc | apply Kd.R_drewN | apply Kd.R_drew)); exact HO106.out⟩, ⟨by repeat (first | (with_reducible first | exact HB.out | apply below_alloc | apply pw_below_drewN | apply below_drew1 | refine below_set ?_ GE103.out) | exact HB.out)⟩⟩
            · rw [if_neg c5] at H
              exact absurd H (by simp)
          · rw [if_neg c4] at H
            exact absurd H (by simp)
        · rw [if_neg c3] at H
          exact absurd H (by simp)
      · rw [if_neg c2] at H
        have c2b0 : decide (x8_1 < (l0.length : Int)) = false := decide_eq_false c2
        clear c2
        obtain rfl := Option.some.inj H
        go_wp2
        go_ret
        exact ⟨_, by first | rfl | (simp [errW_none, errW_some] <;> rfl) | (simp [*, errW_none, errW_some] <;> rfl), by (with_reducible repeat (first | apply Kd.R_alloc | apply Kd.R_drewN | apply Kd.R_drew)); exact HO_3.out, by repeat (first | (with_reducible first | exact HB.out | apply below_alloc | apply pw_below_drewN | apply below_drew1) | exact HB.out)⟩

end Go.Proofs.YtnelnmlhlmocdaaGreatDoor.XB
