-- Written by wip/xprint.py, a session's program: printed out of the translation, with hand-written functions. Lean checks it.
import Derived.Test.YtmifpifhiiommaaDoorXT0
namespace Go.Proofs.YtmifpifhiiommaaDoor.XT
open Go.RowKit Go.Proofs.YtmifpifhiiommaaDoorW.PrintWords Go.Proofs.YtmifpifhiiommaaDoorW.PrintLast Go.Proofs.YtmifpifhiiommaaDoorW.PrintMore
attribute [local go_sem] max2_int min2_int max_two min_two max_three min_three max_four min_four   -- for this text's walks alone
set_option linter.unusedVariables false
set_option linter.unusedSimpArgs false

/-! ### digit_All_p: function 22 -/
def digit_All_p.l0 : Nat → ByteArray → Int → Int → Option (Bool)
  | 0, _, _, _ => none
  | k + 1, x0, x5, x6 => if x6 < x5 then (if 0 ≤ x6 then (if x6 < (x0.size : Int) then (if (bt x0 x6) < 48 then (some false) else (if (bt x0 x6) > 57 then (some false) else (digit_All_p.l0 k x0 x5 (wrap64 (x6 + 1))))) else (none)) else (none)) else (some true)
def digit_All_p.f (k : Nat) (a0 : ByteArray) : Option (Bool) := digit_All_p.l0 k a0 (a0.size : Int) 0
theorem digit_All_p.mono_l : ∀ k, (∀ y0 y1 y2, LeO (digit_All_p.l0 k y0 y1 y2) (digit_All_p.l0 (k + 1) y0 y1 y2))
  | 0 => fun _ _ _ r h => by simp [digit_All_p.l0] at h
  | k + 1 => by
    have ih0 := digit_All_p.mono_l k
    · intro y0 y1 y2
      unfold digit_All_p.l0
      repeat' first
      | (with_reducible exact ih0 _ _ _)
      | (with_reducible exact LeO.refl _)
      | (with_reducible exact LeO.none _)
      | (with_reducible refine LeO.ite ?_ ?_)
      | (with_reducible refine LeO.bind ?_ (fun _ => ?_))
      | exact ih0 _ _ _
      | exact LeO.none _
      | refine LeO.ite ?_ ?_
      | refine LeO.bind ?_ (fun _ => ?_)
theorem digit_All_p.mono : ∀ a0 k, LeO (digit_All_p.f k a0) (digit_All_p.f (k + 1) a0) := by
  intro a0 k
  have ih0 := digit_All_p.mono_l k
  unfold digit_All_p.f
  repeat' first
      | (with_reducible exact ih0 _ _ _)
      | (with_reducible exact LeO.refl _)
      | (with_reducible exact LeO.none _)
      | (with_reducible refine LeO.ite ?_ ?_)
      | (with_reducible refine LeO.bind ?_ (fun _ => ?_))
      | exact ih0 _ _ _
      | exact LeO.none _
      | refine LeO.ite ?_ ?_
      | refine LeO.bind ?_ (fun _ => ?_)
set_option maxHeartbeats 8000000 in
set_option maxRecDepth 100000 in
theorem digit_All_p.calls (k : Nat) (a0 : ByteArray) (r : Bool) (w : World) (h : digit_All_p.f k a0 = some r) :
    Calls Tryd.prog 22 #[.string a0] w fun e w' => e = .returned (.bool r) ∧ Drawn0 w w' := by
  have H : (digit_All_p.l0 k a0 (a0.size : Int) 0) = some r := h
  clear h
  have H' := Aside0.mk H
  clear H
  go_enter Tryd.func22, Tryd.ntmps22
  go_wp2
  go_loopg [6] k (fun kq v6 w' => ∃ (x6_1 : Int), v6 = .int .i64 x6_1 ∧ Aside0 (digit_All_p.l0 kq a0 (a0.size : Int) x6_1 = some r) ∧ Aside0 (kq ≤ k) ∧ Drawn0 w w')
  case atStart => exact ⟨(0), (by first | rfl | (simp; done) | (simp [*]; done) | (simp [Pu.bne_nil, Pu.beq_nil]; done)), H', ⟨Nat.le_refl _⟩, by repeat (first | exact Drawn0.refl _ | apply Drawn0.step)⟩
  case round =>
    clear H'
    obtain ⟨x6_1, rfl, HA, HK1, ⟨m1, rfl⟩⟩ := hrel
    cases gk with
    | zero => exact absurd HA.out (by simp [digit_All_p.l0])
    | succ k1 =>
      have H := HA.out
      clear HA
      simp only [digit_All_p.l0] at H
      by_cases c2 : x6_1 < (a0.size : Int)
      · rw [if_pos c2] at H
        have c2b0 : decide (x6_1 < (a0.size : Int)) = true := decide_eq_true c2
        clear c2
        by_cases c3 : 0 ≤ x6_1
        · rw [if_pos c3] at H
          have c3b0 : decide (0 ≤ x6_1) = true := decide_eq_true c3
          clear c3
          by_cases c4 : x6_1 < (a0.size : Int)
          · rw [if_pos c4] at H
            have c4b0 : decide (x6_1 < (a0.size : Int)) = true := decide_eq_true c4
            clear c4
            by_cases c6 : (bt a0 x6_1) < 48
            · rw [if_pos c6] at H
              have c6b0 : decide ((bt a0 x6_1) < 48) = true := decide_eq_true c6
              clear c6
              obtain rfl := Option.some.inj H
              have p5 : 0 ≤ (x6_1 : Int) := of_decide_eq_true (by first | (with_reducible assumption) | assumption)
              have q5 : x6_1 < (a0.size : Int) := of_decide_eq_true (by first | (with_reducible assumption) | assumption)
              have hx5 := bt_at a0 x6_1
              replace p5 := eq_true p5
              replace q5 := eq_true q5
              go_wp2
              go_ret
              exact ⟨by first | rfl | (simp; done) | (simp [*]; done), by repeat (first | exact Drawn0.refl _ | apply Drawn0.step)⟩
            · rw [if_neg c6] at H
              have c6b0 : decide ((bt a0 x6_1) < 48) = false := decide_eq_false c6
              clear c6
              by_cases c8 : (bt a0 x6_1) > 57
              · rw [if_pos c8] at H
                have c8b0 : decide (57 < (bt a0 x6_1)) = true := decide_eq_true c8
                clear c8
                obtain rfl := Option.some.inj H
                have p5 : 0 ≤ (x6_1 : Int) := of_decide_eq_true (by first | (with_reducible assumption) | assumption)
                have q5 : x6_1 < (a0.size : Int) := of_decide_eq_true (by first | (with_reducible assumption) | assumption)
                have hx5 := bt_at a0 x6_1
                replace p5 := eq_true p5
                replace q5 := eq_true q5
                have p7 : 0 ≤ (x6_1 : Int) := of_decide_eq_true (by first | (with_reducible assumption) | assumption)
                have q7 : x6_1 < (a0.size : Int) := of_decide_eq_true (by first | (with_reducible assumption) | assumption)
                have hx7 := bt_at a0 x6_1
                replace p7 := eq_true p7
                replace q7 := eq_true q7
                go_wp2
                go_ret
                exact ⟨by first | rfl | (simp; done) | (simp [*]; done), by repeat (first | exact Drawn0.refl _ | apply Drawn0.step)⟩
              · rw [if_neg c8] at H
                have c8b0 : decide (57 < (bt a0 x6_1)) = false := decide_eq_false c8
                clear c8
                have H' := Aside0.mk H
                clear H
                have p5 : 0 ≤ (x6_1 : Int) := of_decide_eq_true (by first | (with_reducible assumption) | assumption)
                have q5 : x6_1 < (a0.size : Int) := of_decide_eq_true (by first | (with_reducible assumption) | assumption)
                have hx5 := bt_at a0 x6_1
                replace p5 := eq_true p5
                replace q5 := eq_true q5
                have p7 : 0 ≤ (x6_1 : Int) := of_decide_eq_true (by first | (with_reducible assumption) | assumption)
                have q7 : x6_1 < (a0.size : Int) := of_decide_eq_true (by first | (with_reducible assumption) | assumption)
                have hx7 := bt_at a0 x6_1
                replace p7 := eq_true p7
                replace q7 := eq_true q7
                go_wp2
                go_roundg k1
                case measure => have := HK1.out; omega
                case rel => exact ⟨(wrap64 (x6_1 + 1)), (by first | rfl | (simp; done) | (simp [*]; done) | (simp [Pu.bne_nil, Pu.beq_nil]; done)), H', ⟨by have := HK1.out; omega⟩, by repeat (first | exact Drawn0.refl _ | apply Drawn0.step)⟩
          · rw [if_neg c4] at H
            exact absurd H (by simp)
        · rw [if_neg c3] at H
          exact absurd H (by simp)
      · rw [if_neg c2] at H
        have c2b0 : decide (x6_1 < (a0.size : Int)) = false := decide_eq_false c2
        clear c2
        obtain rfl := Option.some.inj H
        go_wp2
        go_ret
        exact ⟨by first | rfl | (simp; done) | (simp [*]; done), by repeat (first | exact Drawn0.refl _ | apply Drawn0.step)⟩

/-! #### digit_All, refined -/
theorem digit_All_l (s : ByteArray) (hs : s.size ≤ 4096) : ∀ (d i k : Nat), i + d = s.size → d < k → digit_All_p.l0 k s (s.size : Int) (i : Int) = some (((Pu.bs s).drop i).all Pu.dig) := by
  intro d
  induction d with
  | zero =>
    intro i k hi hk
    obtain ⟨k, rfl⟩ : ∃ m, k = m + 1 := ⟨k - 1, by omega⟩
    obtain rfl : i = s.size := by omega
    simp only [digit_All_p.l0]
    rw [if_neg (by omega), Pu.bs_drop_all]; rfl
  | succ d ih =>
    intro i k hi hk
    obtain ⟨k, rfl⟩ : ∃ m, k = m + 1 := ⟨k - 1, by omega⟩
    simp only [digit_All_p.l0]
    rw [if_pos (by omega), if_pos (by omega), if_pos (by omega), Pu.bs_drop s i (by omega), List.all_cons]
    by_cases h1 : bt s i < 48
    · rw [if_pos h1, (Pu.dig_no _).mpr (.inl h1)]; rfl
    · rw [if_neg h1]
      by_cases h2 : bt s i > 57
      · rw [if_pos h2, (Pu.dig_no _).mpr (.inr h2)]; rfl
      · rw [if_neg h2, (Pu.dig_iff _).mpr ⟨by omega, by omega⟩, Bool.true_and, Pu.wrap_small (by omega) (by omega)]
        exact ih (i + 1) k (by omega) (by omega)
def digit_All.f (a0 : ByteArray) : Option Bool := if a0.size ≤ 4096 then some (Pu.allD a0) else none
theorem digit_All.calls (a0 : ByteArray) (r : Bool) (w : World) (h : digit_All.f a0 = some r) :
    Calls Tryd.prog 22 #[.string a0] w fun e w' => e = .returned (.bool r) ∧ Drawn0 w w' := by
  unfold digit_All.f at h
  split at h
  · exact digit_All_p.calls (a0.size + 1) a0 r w ((digit_All_l a0 ‹_› a0.size 0 (a0.size + 1) (by omega) (by omega)).trans h)
  · cases h


-- NOT PRINTED: function 47 (strconv_lower)

-- NOT PRINTED: function 48 (strconv_underscoreOK)

-- NOT PRINTED: function 34 (strconv_ParseUint_34)

-- NOT PRINTED: function 63 (stringslite_Clone)

-- NOT PRINTED: function 49 (strconv_syntaxError)

-- NOT PRINTED: function 50 (strconv_rangeError)

-- NOT PRINTED: function 64 (errors_New)

-- NOT PRINTED: function 54 (strconv_small)

-- NOT PRINTED: function 67 (strconv_log10Pow2)

-- NOT PRINTED: function 68 (bits_Len64)

-- NOT PRINTED: function 69 (strconv_bool2_int)

-- NOT PRINTED: function 55 (strconv_numDigits)

-- NOT PRINTED: function 56 (strconv_formatBase10)

-- NOT PRINTED: function 70 (strconv_isPowerOfTwo)

-- NOT PRINTED: function 75 (bits_TrailingZeros32)

-- NOT PRINTED: function 76 (bits_TrailingZeros64)

-- NOT PRINTED: function 71 (bits_TrailingZeros)

-- NOT PRINTED: function 57 (strconv_formatBits)

-- NOT PRINTED: function 77 (strconv_FormatInt)

-- NOT PRINTED: function 74 (strconv_Itoa_74)

/-! ### strconv_Itoa_65: function 65 -/
def strconv_Itoa_65.f (a0 : Int) : Option ByteArray := if 0 ≤ a0 ∧ a0 < 100 then some ⟨(Lib.decDigits a0.toNat).toArray⟩ else none
theorem strconv_Itoa_65.calls (a0 : Int) (r : ByteArray) (w : World) (h : strconv_Itoa_65.f a0 = some r) :
    Calls Tryd.prog 65 #[.int .i64 a0] w fun e w' => e = .returned (.string r) ∧ Drawn0 w w' := by
  unfold strconv_Itoa_65.f at h
  split at h
  · obtain ⟨n, rfl⟩ : ∃ n : Nat, a0 = n := ⟨a0.toNat, by omega⟩
    rw [Int.toNat_natCast] at h
    obtain rfl := Option.some.inj h
    refine (Tryd.strconv_Itoa_small n (by omega) w).mono ?_
    rintro e w' ⟨rfl, rfl⟩
    exact ⟨rfl, Drawn0.refl _⟩
  · cases h


-- NOT PRINTED: function 51 (strconv_baseError)

-- NOT PRINTED: function 52 (strconv_bitSizeError)

-- NOT PRINTED: function 35 (strconv_toError)

-- NOT PRINTED: function 23 (strconv_ParseUint_23)

/-! ### digit_Get: function 12 -/
theorem x_nil_no {s : ByteArray} (h : s.size ≠ 0) : (s.toList == ([] : List UInt8)) = false ∧ s.toList.isEmpty = false ∧ (s.toList = []) = False := by
  have h1 : (s.toList == ([] : List UInt8)) = false := by rw [Pu.toList_empty]; exact decide_eq_false h
  refine ⟨h1, by rw [← Pu.beq_nil]; exact h1, eq_false fun hn => h (Pu.toList_nil.mp hn)⟩
theorem digit_Get_w (s : ByteArray) (hs : s.size ≤ 4096) (w : World) :
    Calls Tryd.prog 12 #[.string s] w fun e w' => e = .returned (.tuple #[.int .u64 (Dg.getS s).1, .int .i64 (Dg.getS s).2]) ∧ Below w.heap.size w w' := by
  by_cases h0 : s.size = 0
  · obtain rfl := Pu.size_nil h0
    go_enter Tryd.func12, Tryd.ntmps12
    go_wp2
    go_ret2
    exact ⟨rfl, Below.refl _ _⟩
  · obtain ⟨hn1, hn2, hn3⟩ := x_nil_no h0
    by_cases h19 : 19 < s.size
    · go_enter Tryd.func12, Tryd.ntmps12
      go_wp2
      go_ret2
      exact ⟨by unfold Dg.getS; rw [if_pos (Or.inr h19)]; rfl, Below.refl _ _⟩
    · by_cases ha : Pu.allD s = true
      · have hcall := digit_All.calls s true
        go_enter Tryd.func12, Tryd.ntmps12
        go_wp2_with (first
          | (go_at_call 22; refine (digit_All.calls s true _ (by unfold digit_All.f; rw [if_pos hs, ha])).mono ?_; rintro e w1 ⟨rfl, hD⟩)
          | (go_at_call 23; refine (Tryd.strconv_ParseUint_10_at64_ok s (by omega) _ (Dg.parse_ok s ha (by omega) (by omega)) _).mono ?_; rintro e w2 ⟨rfl, hW⟩))
        go_ret2
        refine ⟨by unfold Dg.getS; rw [if_neg (by omega), if_pos ha]; rfl, ?_⟩
        have hb := hD.below
        rcases hW with rfl | rfl
        · exact hb
        · refine hb.trans (Below.mono ?_ hb.size)
          exact bytes_below (Below.refl _ _) (Nat.le_refl _) _ _
      · have ha' : Pu.allD s = false := by simpa using ha
        go_enter Tryd.func12, Tryd.ntmps12
        go_wp2_with (go_at_call 22; refine (digit_All.calls s false _ (by unfold digit_All.f; rw [if_pos hs, ha'])).mono ?_; rintro e w1 ⟨rfl, hD⟩)
        go_ret2
        exact ⟨by unfold Dg.getS; rw [if_neg (by omega), if_neg ha]; rfl, hD.below⟩
def digit_Get.f (a0 : ByteArray) : Option (Int × Int) := if a0.size ≤ 4096 then some (Dg.getS a0) else none
theorem digit_Get.calls (a0 : ByteArray) (r1 : Int) (r2 : Int) (w : World) (h : digit_Get.f a0 = some (r1, r2)) :
    Calls Tryd.prog 12 #[.string a0] w fun e w' => e = .returned (.tuple #[.int .u64 r1, .int .i64 r2]) ∧ Below w.heap.size w w' := by
  unfold digit_Get.f at h
  split at h
  · have h1 : (Dg.getS a0).1 = r1 := by rw [Option.some.inj h]
    have h2 : (Dg.getS a0).2 = r2 := by rw [Option.some.inj h]
    rw [← h1, ← h2]
    exact digit_Get_w a0 (by assumption) w
  · cases h


-- NOT PRINTED: function 66 (strings_indexFunc)

-- NOT PRINTED: function 53 (strings_IndexFunc)

-- NOT PRINTED: function 36 (strings_ContainsFunc)

/-! ### dup_letters: function 24 -/
theorem lett_pred (w : World) : PredAt Tryd.prog 37 #[] encR (fun r => !Dp.lettC r) w := fun W x _ => by
  show Calls Tryd.prog 37 #[.int .i32 (x : Int)] W fun e w' => e = .returned (.bool (!Dp.lettC x)) ∧ ∃ q, w' = W.drewN q
  by_cases h1 : (x : Int) < 48 <;> by_cases h2 : (57 : Int) < x <;> by_cases h3 : (x : Int) < 65 <;> by_cases h4 : (90 : Int) < x <;> first | (exfalso; omega) | skip
  all_goals
    have hl : Dp.lettC x = decide (((48 : Int) ≤ x ∧ (x : Int) ≤ 57) ∨ ((65 : Int) ≤ x ∧ (x : Int) ≤ 90)) := by
      unfold Dp.lettC
      rw [Bool.eq_iff_iff]; simp; omega
    first | rw [decide_eq_true (by omega)] at hl | rw [decide_eq_false (by omega)] at hl
    rw [hl]
    go_enter Tryd.func37, Tryd.ntmps37
    go_wp2
    go_ret
    exact ⟨rfl, 0, by first | rfl | simp⟩
def dup_letters.f (a0 : ByteArray) : Option Bool := some (Dp.lettB a0)
theorem dup_letters.calls (a0 : ByteArray) (r : Bool) (w : World) (h : dup_letters.f a0 = some r) :
    Calls Tryd.prog 24 #[.string a0] w fun e w' => e = .returned (.bool r) ∧ Below w.heap.size w w' := by
  obtain rfl := Option.some.inj h
  have hC := Tryd.strings_ContainsFunc 37 #[] (enters_of Tryd.func37 (by kernel_rfl) rfl) (fun r => !Dp.lettC r) a0 w (lett_pred w)
  rw [Dp.lett_law] at hC
  generalize Dp.lettB a0 = b at hC ⊢
  go_enter Tryd.func24, Tryd.ntmps24
  go_wp2_with (go_at_call 36; refine hC.mono ?_; rintro e w' ⟨rfl, hb⟩)
  go_ret
  exact ⟨by simp, hb⟩


end Go.Proofs.YtmifpifhiiommaaDoor.XT
