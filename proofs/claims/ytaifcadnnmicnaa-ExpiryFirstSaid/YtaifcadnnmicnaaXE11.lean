-- Written by wip/xprint.py, a session's program: printed out of the translation, with hand-written functions. Lean checks it.
import Derived.Test.YtaifcadnnmicnaaXE0
namespace Go.Proofs.Ytaifcadnnmicnaa.XE
open Go.RowKit Go.Proofs.YtaifcadnnmicnaaW.PrintWords Go.Proofs.YtaifcadnnmicnaaW.PrintLast Go.Proofs.YtaifcadnnmicnaaW.PrintMore
attribute [local go_sem] max2_int min2_int max_two min_two max_three min_three max_four min_four   -- for this text's walks alone
set_option linter.unusedVariables false
set_option linter.unusedSimpArgs false

/-! ### digit_All_p: function 44 -/
def digit_All_p.l0 : Nat → ByteArray → Int → Int → Option (Bool)
  | 0, _, _, _ => none
  | k + 1, x0, x5, x6 => if x6 < x5 then (if 0 ≤ x6 then (if x6 < (x0.size : Int) then (if (bt x0 x6) < 48 then (some false) else (if (bt x0 x6) > 57 then (some false) else (digit_All_p.l0 k x0 x5 (wrap64 (x6 + 1))))) else (none)) else (none)) else (some true)
def digit_All_p.f (k : Nat) (a0 : ByteArray) : Option (Bool) := digit_All_p.l0 k a0 (a0.size : Int) 0
theorem digit_All_p.mono_l : ∀ k, (∀ y0 y1 y2, LeO (digit_All_p.l0 k y0 y1 y2) (digit_All_p.l0 (k + 1) y0 y1 y2))
  | 0 => fun _ _ _ r h => by simp [digit_All_p.l0] at h
  | k + 1 => by
    have ih0 := digit_All_p.mono_l k
    · intro y0 y1 y2
      unfold digit_All_p.l0
      repeat' first
      | (with_reducible exact ih0 _ _ _)
      | (with_reducible exact LeO.refl _)
      | (with_reducible exact LeO.none _)
      | (with_reducible refine LeO.ite ?_ ?_)
      | (with_reducible refine LeO.bind ?_ (fun _ => ?_))
      | exact ih0 _ _ _
      | exact LeO.none _
      | refine LeO.ite ?_ ?_
      | refine LeO.bind ?_ (fun _ => ?_)
theorem digit_All_p.mono : ∀ a0 k, LeO (digit_All_p.f k a0) (digit_All_p.f (k + 1) a0) := by
  intro a0 k
  have ih0 := digit_All_p.mono_l k
  unfold digit_All_p.f
  repeat' first
      | (with_reducible exact ih0 _ _ _)
      | (with_reducible exact LeO.refl _)
      | (with_reducible exact LeO.none _)
      | (with_reducible refine LeO.ite ?_ ?_)
      | (with_reducible refine LeO.bind ?_ (fun _ => ?_))
      | exact ih0 _ _ _
      | exact LeO.none _
      | refine LeO.ite ?_ ?_
      | refine LeO.bind ?_ (fun _ => ?_)
set_option maxHeartbeats 8000000 in
set_option maxRecDepth 100000 in
theorem digit_All_p.calls (k : Nat) (a0 : ByteArray) (r : Bool) (w : World) (h : digit_All_p.f k a0 = some r) :
    Calls Try.prog 44 #[.string a0] w fun e w' => e = .returned (.bool r) ∧ Drawn0 w w' := by
  have H : (digit_All_p.l0 k a0 (a0.size : Int) 0) = some r := h
  clear h
  have H' := Aside0.mk H
  clear H
  go_enter Try.func44, Try.ntmps44
  go_wp2
  go_loopg [6] k (fun kq v6 w' => ∃ (x6_1 : Int), v6 = .int .i64 x6_1 ∧ Aside0 (digit_All_p.l0 kq a0 (a0.size : Int) x6_1 = some r) ∧ Aside0 (kq ≤ k) ∧ Drawn0 w w')
  case atStart => exact ⟨(0), (by first | rfl | (simp; done) | (simp [*]; done) | (simp [Pu.bne_nil, Pu.beq_nil]; done)), H', ⟨Nat.le_refl _⟩, by repeat (first | exact Drawn0.refl _ | apply Drawn0.step)⟩
  case round =>
    clear H'
    obtain ⟨x6_1, rfl, HA, HK1, ⟨m1, rfl⟩⟩ := hrel
    cases gk with
    | zero => exact absurd HA.out (by simp [digit_All_p.l0])
    | succ k1 =>
      have H := HA.out
      clear HA
      simp only [digit_All_p.l0] at H
      by_cases c2 : x6_1 < (a0.size : Int)
      · rw [if_pos c2] at H
        have c2b0 : decide (x6_1 < (a0.size : Int)) = true := decide_eq_true c2
        clear c2
        by_cases c3 : 0 ≤ x6_1
        · rw [if_pos c3] at H
          have c3b0 : decide (0 ≤ x6_1) = true := decide_eq_true c3
          clear c3
          by_cases c4 : x6_1 < (a0.size : Int)
          · rw [if_pos c4] at H
            have c4b0 : decide (x6_1 < (a0.size : Int)) = true := decide_eq_true c4
            clear c4
            by_cases c6 : (bt a0 x6_1) < 48
            · rw [if_pos c6] at H
              have c6b0 : decide ((bt a0 x6_1) < 48) = true := decide_eq_true c6
              clear c6
              obtain rfl := Option.some.inj H
              have p5 : 0 ≤ (x6_1 : Int) := of_decide_eq_true (by first | (with_reducible assumption) | assumption)
              have q5 : x6_1 < (a0.size : Int) := of_decide_eq_true (by first | (with_reducible assumption) | assumption)
              have hx5 := bt_at a0 x6_1
              replace p5 := eq_true p5
              replace q5 := eq_true q5
              go_wp2
              go_ret
              exact ⟨by first | rfl | (simp; done) | (simp [*]; done), by repeat (first | exact Drawn0.refl _ | apply Drawn0.step)⟩
            · rw [if_neg c6] at H
              have c6b0 : decide ((bt a0 x6_1) < 48) = false := decide_eq_false c6
              clear c6
              by_cases c8 : (bt a0 x6_1) > 57
              · rw [if_pos c8] at H
                have c8b0 : decide (57 < (bt a0 x6_1)) = true := decide_eq_true c8
                clear c8
                obtain rfl := Option.some.inj H
                have p5 : 0 ≤ (x6_1 : Int) := of_decide_eq_true (by first | (with_reducible assumption) | assumption)
                have q5 : x6_1 < (a0.size : Int) := of_decide_eq_true (by first | (with_reducible assumption) | assumption)
                have hx5 := bt_at a0 x6_1
                replace p5 := eq_true p5
                replace q5 := eq_true q5
                have p7 : 0 ≤ (x6_1 : Int) := of_decide_eq_true (by first | (with_reducible assumption) | assumption)
                have q7 : x6_1 < (a0.size : Int) := of_decide_eq_true (by first | (with_reducible assumption) | assumption)
                have hx7 := bt_at a0 x6_1
                replace p7 := eq_true p7
                replace q7 := eq_true q7
                go_wp2
                go_ret
                exact ⟨by first | rfl | (simp; done) | (simp [*]; done), by repeat (first | exact Drawn0.refl _ | apply Drawn0.step)⟩
              · rw [if_neg c8] at H
                have c8b0 : decide (57 < (bt a0 x6_1)) = false := decide_eq_false c8
                clear c8
                have H' := Aside0.mk H
                clear H
                have p5 : 0 ≤ (x6_1 : Int) := of_decide_eq_true (by first | (with_reducible assumption) | assumption)
                have q5 : x6_1 < (a0.size : Int) := of_decide_eq_true (by first | (with_reducible assumption) | assumption)
                have hx5 := bt_at a0 x6_1
                replace p5 := eq_true p5
                replace q5 := eq_true q5
                have p7 : 0 ≤ (x6_1 : Int) := of_decide_eq_true (by first | (with_reducible assumption) | assumption)
                have q7 : x6_1 < (a0.size : Int) := of_decide_eq_true (by first | (with_reducible assumption) | assumption)
                have hx7 := bt_at a0 x6_1
                replace p7 := eq_true p7
                replace q7 := eq_true q7
                go_wp2
                go_roundg k1
                case measure => have := HK1.out; omega
                case rel => exact ⟨(wrap64 (x6_1 + 1)), (by first | rfl | (simp; done) | (simp [*]; done) | (simp [Pu.bne_nil, Pu.beq_nil]; done)), H', ⟨by have := HK1.out; omega⟩, by repeat (first | exact Drawn0.refl _ | apply Drawn0.step)⟩
          · rw [if_neg c4] at H
            exact absurd H (by simp)
        · rw [if_neg c3] at H
          exact absurd H (by simp)
      · rw [if_neg c2] at H
        have c2b0 : decide (x6_1 < (a0.size : Int)) = false := decide_eq_false c2
        clear c2
        obtain rfl := Option.some.inj H
        go_wp2
        go_ret
        exact ⟨by first | rfl | (simp; done) | (simp [*]; done), by repeat (first | exact Drawn0.refl _ | apply Drawn0.step)⟩

/-! #### digit_All, refined -/
theorem digit_All_l (s : ByteArray) (hs : s.size ≤ 4096) : ∀ (d i k : Nat), i + d = s.size → d < k → digit_All_p.l0 k s (s.size : Int) (i : Int) = some (((Pu.bs s).drop i).all Pu.dig) := by
  intro d
  induction d with
  | zero =>
    intro i k hi hk
    obtain ⟨k, rfl⟩ : ∃ m, k = m + 1 := ⟨k - 1, by omega⟩
    obtain rfl : i = s.size := by omega
    simp only [digit_All_p.l0]
    rw [if_neg (by omega), Pu.bs_drop_all]; rfl
  | succ d ih =>
    intro i k hi hk
    obtain ⟨k, rfl⟩ : ∃ m, k = m + 1 := ⟨k - 1, by omega⟩
    simp only [digit_All_p.l0]
    rw [if_pos (by omega), if_pos (by omega), if_pos (by omega), Pu.bs_drop s i (by omega), List.all_cons]
    by_cases h1 : bt s i < 48
    · rw [if_pos h1, (Pu.dig_no _).mpr (.inl h1)]; rfl
    · rw [if_neg h1]
      by_cases h2 : bt s i > 57
      · rw [if_pos h2, (Pu.dig_no _).mpr (.inr h2)]; rfl
      · rw [if_neg h2, (Pu.dig_iff _).mpr ⟨by omega, by omega⟩, Bool.true_and, Pu.wrap_small (by omega) (by omega)]
        exact ih (i + 1) k (by omega) (by omega)
def digit_All.f (a0 : ByteArray) : Option Bool := if a0.size ≤ 4096 then some (Pu.allD a0) else none
theorem digit_All.calls (a0 : ByteArray) (r : Bool) (w : World) (h : digit_All.f a0 = some r) :
    Calls Try.prog 44 #[.string a0] w fun e w' => e = .returned (.bool r) ∧ Drawn0 w w' := by
  unfold digit_All.f at h
  split at h
  · exact digit_All_p.calls (a0.size + 1) a0 r w ((digit_All_l a0 ‹_› a0.size 0 (a0.size + 1) (by omega) (by omega)).trans h)
  · cases h


/-! ### digit_sum: function 45 -/
theorem x_ret_i {k : IntKind} {a b : Int} (h : a = b) : Ending.returned (.int k a) = .returned (.int k b) := by rw [h]
theorem digit_sum_1 (d : Int) (h0 : 0 ≤ d) (h9 : d ≤ 9) (w : World) :
    Calls Try.prog 46 #[.int .i64 d] w fun e w' => e = .returned (.int .i64 (Pu.dbl d)) ∧ w = w' := by
  go_enter Try.func46, Try.ntmps46
  go_wp2
  go_ret
  exact ⟨x_ret_i (by unfold Pu.dbl; split <;> omega), rfl⟩
theorem digit_sum_w (s : ByteArray) (hs : s.size ≤ 4096) (hd : Pu.allD s = true) (w : World) :
    Calls Try.prog 45 #[.string s] w fun e w' => e = .returned (.int .i64 (Pu.luhn (Pu.bs s))) ∧ w = w' := by
  go_enter Try.func45, Try.ntmps45
  go_wp2
  go_loop [4, 9] (fun n i => ∃ k : Nat, k ≤ s.size ∧ i = .int .i64 k ∧ n = .int .i64 (Pu.luhn ((Pu.bs s).drop (s.size - k)))) (fun _ i => s.size - (intOf i).toNat)
  case atStart => exact ⟨0, Nat.zero_le _, rfl, by rw [Nat.sub_zero, Pu.bs_drop_all]; rfl⟩
  case round =>
    obtain ⟨k, hk, rfl, rfl⟩ := hrel
    by_cases hlt : k < s.size
    · obtain ⟨n, hn, hb1, hb2, hx⟩ := Pu.back_at s hd k hlt
      obtain ⟨hd1, hd2⟩ := Pu.luhn_part s hd k hk
      obtain ⟨hd3, hd4⟩ := Pu.dbl_bound ((n : Int) - 48) (by omega) (by omega)
      have HS0 := Pu.luhn_back s k hlt
      rw [hn] at HS0
      have HS := Lib.hid HS0
      clear HS0 hn
      by_cases hp : k % 2 = 1
      · have hp' : ((k : Int) % 2 == 1) = true := by rw [beq_iff_eq]; omega
        have HP := Lib.hid hp
        clear hp
        go_wp2_with (go_at_call 46; refine (digit_sum_1 _ (by omega) (by omega) _).mono ?_; rintro e w' ⟨rfl, rfl⟩)
        go_round
        case rel => exact ⟨k + 1, by omega, by go_num, by rw [HS.out, if_pos HP.out]⟩
        case measure => simp [intOf]; omega
      · have hp' : ((k : Int) % 2 == 1) = false := by rw [beq_eq_false_iff_ne]; omega
        have HP := Lib.hid hp
        clear hp
        go_wp2
        go_round
        case rel => exact ⟨k + 1, by omega, by go_num, by rw [HS.out, if_neg HP.out]⟩
        case measure => simp [intOf]; omega
    · go_wp2
      go_ret
      exact ⟨x_ret_i (by rw [show s.size - k = 0 by omega]; rfl), rfl⟩
def digit_sum.f (a0 : ByteArray) : Option Int := if a0.size ≤ 4096 ∧ Pu.allD a0 = true then some (Pu.luhn (Pu.bs a0)) else none
theorem digit_sum.calls (a0 : ByteArray) (r : Int) (w : World) (h : digit_sum.f a0 = some r) :
    Calls Try.prog 45 #[.string a0] w fun e w' => e = .returned (.int .i64 r) ∧ Drawn0 w w' := by
  unfold digit_sum.f at h
  split at h
  · obtain rfl := Option.some.inj h
    refine (digit_sum_w a0 (‹_ ∧ _› : _ ∧ _).1 (‹_ ∧ _› : _ ∧ _).2 w).mono ?_
    rintro e w' ⟨rfl, rfl⟩
    exact ⟨rfl, Drawn0.refl _⟩
  · cases h


/-! ### digit_Sound_p: function 43 -/
def digit_Sound_p.f (a0 : ByteArray) : Option (Bool) := if (a0.size : Int) ≥ 2 then ((digit_All.f a0).bind fun t134 => (if t134 = true then ((digit_sum.f a0).bind fun t135 => (some ((Int.tmod t135 10) == 0))) else (some false))) else (some false)
set_option maxHeartbeats 8000000 in
set_option maxRecDepth 100000 in
theorem digit_Sound_p.calls (a0 : ByteArray) (r : Bool) (w : World) (h : digit_Sound_p.f a0 = some r) :
    Calls Try.prog 43 #[.string a0] w fun e w' => e = .returned (.bool r) ∧ Drawn0 w w' := by
  have H : (if (a0.size : Int) ≥ 2 then ((digit_All.f a0).bind fun t134 => (if t134 = true then ((digit_sum.f a0).bind fun t135 => (some ((Int.tmod t135 10) == 0))) else (some false))) else (some false)) = some r := h
  clear h
  by_cases c2 : (a0.size : Int) ≥ 2
  · rw [if_pos c2] at H
    have c2b0 : decide (2 ≤ (a0.size : Int)) = true := decide_eq_true c2
    have c2b1 : decide (2 ≤ a0.size) = true := decide_eq_true (by omega)
    clear c2
    replace H := Option.bind_eq_some_iff.mp H
    obtain ⟨t134, A30, H⟩ := H
    replace H : (if t134 = true then ((digit_sum.f a0).bind fun t135 => (some ((Int.tmod t135 10) == 0))) else (some false)) = some r := H
    have A3 := Aside0.mk A30
    clear A30
    by_cases c4 : t134 = true
    · subst c4
      have H1 : ((digit_sum.f a0).bind fun t135 => (some ((Int.tmod t135 10) == 0))) = some r := by rw [if_pos rfl] at H; exact H
      clear H
      have H := H1
      clear H1
      replace H := Option.bind_eq_some_iff.mp H
      obtain ⟨t135, A50, H⟩ := H
      replace H : (some ((Int.tmod t135 10) == 0)) = some r := H
      have A5 := Aside0.mk A50
      clear A50
      obtain rfl := Option.some.inj H
      go_enter Try.func43, Try.ntmps43
      go_wp2_with (first | (go_at_call 44; (with_reducible refine (digit_All.calls a0 true _ A3.out).mono ?_); rintro e w' ⟨rfl, ⟨nd, rfl⟩⟩) | (go_at_call 45; (with_reducible refine (digit_sum.calls a0 t135 _ A5.out).mono ?_); rintro e w' ⟨rfl, ⟨nd, rfl⟩⟩))
      go_ret
      exact ⟨by first | rfl | (simp; done) | (simp [*]; done), by repeat (first | exact Drawn0.refl _ | apply Drawn0.step)⟩
    · replace c4 := Bool.eq_false_iff.mpr c4
      subst c4
      have H1 : (some false) = some r := by rw [if_neg (show ¬ (false = true) by decide)] at H; exact H
      clear H
      have H := H1
      clear H1
      obtain rfl := Option.some.inj H
      go_enter Try.func43, Try.ntmps43
      go_wp2_with (first | (go_at_call 44; (with_reducible refine (digit_All.calls a0 false _ A3.out).mono ?_); rintro e w' ⟨rfl, ⟨nd, rfl⟩⟩))
      go_ret
      exact ⟨by first | rfl | (simp; done) | (simp [*]; done), by repeat (first | exact Drawn0.refl _ | apply Drawn0.step)⟩
  · rw [if_neg c2] at H
    have c2b0 : decide (2 ≤ (a0.size : Int)) = false := decide_eq_false c2
    have c2b1 : decide (2 ≤ a0.size) = false := decide_eq_false (by omega)
    clear c2
    obtain rfl := Option.some.inj H
    go_enter Try.func43, Try.ntmps43
    go_wp2
    go_ret
    exact ⟨by first | rfl | (simp; done) | (simp [*]; done), by repeat (first | exact Drawn0.refl _ | apply Drawn0.step)⟩

/-! #### digit_Sound, refined -/
theorem digit_Sound_e (s : ByteArray) (hs : s.size ≤ 4096) : digit_Sound_p.f s = some (Pu.soundB s) := by
  unfold digit_Sound_p.f digit_All.f digit_sum.f
  by_cases h2 : 2 ≤ s.size
  · rw [if_pos (by omega), if_pos hs, Option.bind_some]
    cases ha : Pu.allD s with
    | false => rw [if_neg (by simp), Pu.soundB_no ha]
    | true => rw [if_pos rfl, if_pos ⟨hs, rfl⟩, Option.bind_some, Pu.soundB_yes h2 ha]
  · rw [if_neg (by omega), Pu.soundB_short h2]
def digit_Sound.f (a0 : ByteArray) : Option Bool := if a0.size ≤ 4096 then some (Pu.soundB a0) else none
theorem digit_Sound.calls (a0 : ByteArray) (r : Bool) (w : World) (h : digit_Sound.f a0 = some r) :
    Calls Try.prog 43 #[.string a0] w fun e w' => e = .returned (.bool r) ∧ Drawn0 w w' := by
  unfold digit_Sound.f at h
  split at h
  · exact digit_Sound_p.calls a0 r w ((digit_Sound_e a0 ‹_›).trans h)
  · cases h


end Go.Proofs.Ytaifcadnnmicnaa.XE
