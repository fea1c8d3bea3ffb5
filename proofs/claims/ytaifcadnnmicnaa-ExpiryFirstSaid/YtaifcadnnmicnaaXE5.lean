-- Written by wip/xprint.py, a session's program: printed out of the translation, with hand-written functions. Lean checks it.
import Derived.Test.YtaifcadnnmicnaaXE0
import Derived.Test.YtaifcadnnmicnaaXE4
namespace Go.Proofs.Ytaifcadnnmicnaa.XE
open Go.RowKit Go.Proofs.YtaifcadnnmicnaaW.PrintWords Go.Proofs.YtaifcadnnmicnaaW.PrintLast Go.Proofs.YtaifcadnnmicnaaW.PrintMore
attribute [local go_sem] max2_int min2_int max_two min_two max_three min_three max_four min_four   -- for this text's walks alone
set_option linter.unusedVariables false
set_option linter.unusedSimpArgs false

/-! #### bursarref02_All, refined -/
theorem ref02_All_l (s : ByteArray) (hs : s.size ≤ 4096) : ∀ (d i k : Nat), i + d = s.size → d < k → bursarref02_All_p.l0 k s (i : Int) = some (((Pu.bs s).drop i).all Pu.dig) := by
  intro d
  induction d with
  | zero =>
    intro i k hi hk
    obtain ⟨k, rfl⟩ : ∃ m, k = m + 1 := ⟨k - 1, by omega⟩
    obtain rfl : i = s.size := by omega
    simp only [bursarref02_All_p.l0]
    rw [if_neg (by omega), Pu.bs_drop_all]; rfl
  | succ d ih =>
    intro i k hi hk
    obtain ⟨k, rfl⟩ : ∃ m, k = m + 1 := ⟨k - 1, by omega⟩
    simp only [bursarref02_All_p.l0]
    rw [if_pos (by omega), if_pos (by omega), Pu.bs_drop s i (by omega), List.all_cons]
    by_cases h1 : bt s i < 48
    · rw [if_pos h1, (Pu.dig_no _).mpr (.inl h1)]; rfl
    · rw [if_neg h1]
      by_cases h2 : bt s i > 57
      · rw [if_pos h2, (Pu.dig_no _).mpr (.inr h2)]; rfl
      · rw [if_neg h2, (Pu.dig_iff _).mpr ⟨by omega, by omega⟩, Bool.true_and, Pu.wrap_small (by omega) (by omega)]
        exact ih (i + 1) k (by omega) (by omega)
def bursarref02_All.f (a0 : ByteArray) : Option Bool := if a0.size ≤ 4096 then some (Pu.allD a0) else none
theorem bursarref02_All.calls (a0 : ByteArray) (r : Bool) (w : World) (h : bursarref02_All.f a0 = some r) :
    Calls Try.prog 35 #[.string a0] w fun e w' => e = .returned (.bool r) ∧ Drawn0 w w' := by
  unfold bursarref02_All.f at h
  split at h
  · exact bursarref02_All_p.calls (a0.size + 1) a0 r w ((ref02_All_l a0 ‹_› a0.size 0 (a0.size + 1) (by omega) (by omega)).trans h)
  · cases h


/-! ### bursarref02_Sound_p: function 34 -/
mutual
def bursarref02_Sound_p.j0 : Nat → ByteArray → Bool → Option (Bool)
  | 0, _, _ => none
  | k + 1, x0, x13 => if x13 = true then (some false) else (bursarref02_Sound_p.l0 k x0 0 0)
def bursarref02_Sound_p.l0 : Nat → ByteArray → Int → Int → Option (Bool)
  | 0, _, _, _ => none
  | k + 1, x0, x3, x4 => if x4 < (x0.size : Int) then (if 0 ≤ x4 then (if (Int.tmod (wrap64 ((x0.size : Int) - x4)) 2) = 0 then (if (wrap64 (2 * (wrap64 ((wrap64 (bt x0 x4)) - 48)))) > 9 then (bursarref02_Sound_p.l0 k x0 (wrap64 (x3 + (wrap64 ((wrap64 (2 * (wrap64 ((wrap64 (bt x0 x4)) - 48)))) - 9)))) (wrap64 (x4 + 1))) else (bursarref02_Sound_p.l0 k x0 (wrap64 (x3 + (wrap64 (2 * (wrap64 ((wrap64 (bt x0 x4)) - 48)))))) (wrap64 (x4 + 1)))) else (bursarref02_Sound_p.l0 k x0 (wrap64 (x3 + (wrap64 ((wrap64 (bt x0 x4)) - 48)))) (wrap64 (x4 + 1)))) else (none)) else (some ((Int.tmod x3 10) == 0))
end
def bursarref02_Sound_p.f (k : Nat) (a0 : ByteArray) : Option (Bool) := if (a0.size : Int) < 2 then (bursarref02_Sound_p.j0 k a0 true) else ((bursarref02_All.f a0).bind fun t124 => (bursarref02_Sound_p.j0 k a0 (!t124)))
theorem bursarref02_Sound_p.mono_l : ∀ k, (∀ y0 y1, LeO (bursarref02_Sound_p.j0 k y0 y1) (bursarref02_Sound_p.j0 (k + 1) y0 y1)) ∧ (∀ y0 y1 y2, LeO (bursarref02_Sound_p.l0 k y0 y1 y2) (bursarref02_Sound_p.l0 (k + 1) y0 y1 y2))
  | 0 => ⟨fun _ _ r h => by simp [bursarref02_Sound_p.j0] at h, fun _ _ _ r h => by simp [bursarref02_Sound_p.l0] at h⟩
  | k + 1 => by
    obtain ⟨ih0, ih1⟩ := bursarref02_Sound_p.mono_l k
    refine ⟨?_, ?_⟩
    · intro y0 y1
      unfold bursarref02_Sound_p.j0
      repeat' first
      | (with_reducible exact ih0 _ _)
      | (with_reducible exact ih1 _ _ _)
      | (with_reducible exact LeO.refl _)
      | (with_reducible exact LeO.none _)
      | (with_reducible refine LeO.ite ?_ ?_)
      | (with_reducible refine LeO.bind ?_ (fun _ => ?_))
      | exact ih0 _ _
      | exact ih1 _ _ _
      | exact LeO.none _
      | refine LeO.ite ?_ ?_
      | refine LeO.bind ?_ (fun _ => ?_)
    · intro y0 y1 y2
      unfold bursarref02_Sound_p.l0
      repeat' first
      | (with_reducible exact ih0 _ _)
      | (with_reducible exact ih1 _ _ _)
      | (with_reducible exact LeO.refl _)
      | (with_reducible exact LeO.none _)
      | (with_reducible refine LeO.ite ?_ ?_)
      | (with_reducible refine LeO.bind ?_ (fun _ => ?_))
      | exact ih0 _ _
      | exact ih1 _ _ _
      | exact LeO.none _
      | refine LeO.ite ?_ ?_
      | refine LeO.bind ?_ (fun _ => ?_)
theorem bursarref02_Sound_p.mono : ∀ a0 k, LeO (bursarref02_Sound_p.f k a0) (bursarref02_Sound_p.f (k + 1) a0) := by
  intro a0 k
  obtain ⟨ih0, ih1⟩ := bursarref02_Sound_p.mono_l k
  unfold bursarref02_Sound_p.f
  repeat' first
      | (with_reducible exact ih0 _ _)
      | (with_reducible exact ih1 _ _ _)
      | (with_reducible exact LeO.refl _)
      | (with_reducible exact LeO.none _)
      | (with_reducible refine LeO.ite ?_ ?_)
      | (with_reducible refine LeO.bind ?_ (fun _ => ?_))
      | exact ih0 _ _
      | exact ih1 _ _ _
      | exact LeO.none _
      | refine LeO.ite ?_ ?_
      | refine LeO.bind ?_ (fun _ => ?_)
set_option maxHeartbeats 8000000 in
set_option maxRecDepth 100000 in
theorem bursarref02_Sound_p.calls (k : Nat) (a0 : ByteArray) (r : Bool) (w : World) (h : bursarref02_Sound_p.f k a0 = some r) :
    Calls Try.prog 34 #[.string a0] w fun e w' => e = .returned (.bool r) ∧ Drawn0 w w' := by
  have H : (if (a0.size : Int) < 2 then (bursarref02_Sound_p.j0 k a0 true) else ((bursarref02_All.f a0).bind fun t124 => (bursarref02_Sound_p.j0 k a0 (!t124)))) = some r := h
  clear h
  have HC2 := Aside0.mk H
  clear H
  go_enter Try.func34, Try.ntmps34
  go_upto_region 1 with (fail)
  go_cut [13] (fun v13 wc => ∃ (kq : Nat) (x13_1 : Bool), v13 = .bool x13_1 ∧ Aside0 (bursarref02_Sound_p.j0 kq a0 x13_1 = some r) ∧ Aside0 (kq ≤ k) ∧ Drawn0 w wc)
  case first =>
    have H := HC2.out
    clear HC2
    by_cases c3 : (a0.size : Int) < 2
    · rw [if_pos c3] at H
      have c3b0 : decide ((a0.size : Int) < 2) = true := decide_eq_true c3
      have c3b1 : decide (a0.size < 2) = true := decide_eq_true (by omega)
      clear c3
      (first | rw [c3b0] | (simp only [i64_w, i32_w]; rw [c3b0]) | skip)
      have H' := Aside0.mk H
      clear H
      go_wp2
      go_meet
      case rel => exact ⟨_, (true), (by first | rfl | (simp; done) | (simp [*]; done) | (simp [Pu.bne_nil, Pu.beq_nil]; done)), H', ⟨by first | omega | exact Nat.le_refl _⟩, by repeat (first | exact Drawn0.refl _ | apply Drawn0.step)⟩
    · rw [if_neg c3] at H
      have c3b0 : decide ((a0.size : Int) < 2) = false := decide_eq_false c3
      have c3b1 : decide (a0.size < 2) = false := decide_eq_false (by omega)
      clear c3
      (first | rw [c3b0] | (simp only [i64_w, i32_w]; rw [c3b0]) | skip)
      replace H := Option.bind_eq_some_iff.mp H
      obtain ⟨t124, A40, H⟩ := H
      replace H : (bursarref02_Sound_p.j0 k a0 (!t124)) = some r := H
      have A4 := Aside0.mk A40
      clear A40
      have H' := Aside0.mk H
      clear H
      go_wp2_with (first | (go_at_call 35; (with_reducible refine (bursarref02_All.calls a0 t124 _ A4.out).mono ?_); rintro e w' ⟨rfl, ⟨nd, rfl⟩⟩))
      go_meet
      case rel => exact ⟨_, (!t124), (by first | rfl | (simp; done) | (simp [*]; done) | (simp [Pu.bne_nil, Pu.beq_nil]; done)), H', ⟨by first | omega | exact Nat.le_refl _⟩, by repeat (first | exact Drawn0.refl _ | apply Drawn0.step)⟩
  case rest =>
    clear HC2
    try clear p2
    try clear c3
    try clear c3b0
    try clear c3b1
    obtain ⟨kq, x13_1, rfl, HA, HJ1, ⟨mc1, rfl⟩⟩ := hcut
    cases kq with
    | zero => exact absurd HA.out (by simp [bursarref02_Sound_p.j0])
    | succ kj1 =>
      have H := HA.out
      clear HA
      simp only [bursarref02_Sound_p.j0] at H
      by_cases c5 : x13_1 = true
      · subst c5
        have H1 : (some false) = some r := by rw [if_pos rfl] at H; exact H
        clear H
        have H := H1
        clear H1
        obtain rfl := Option.some.inj H
        go_wp2
        go_ret
        exact ⟨by first | rfl | (simp; done) | (simp [*]; done), by repeat (first | exact Drawn0.refl _ | apply Drawn0.step)⟩
      · replace c5 := Bool.eq_false_iff.mpr c5
        subst c5
        have H1 : (bursarref02_Sound_p.l0 kj1 a0 0 0) = some r := by rw [if_neg (show ¬ (false = true) by decide)] at H; exact H
        clear H
        have H := H1
        clear H1
        have H' := Aside0.mk H
        clear H
        go_wp2
        go_loopg [3, 4] kj1 (fun kq v3 v4 w' => ∃ (x3_2 : Int) (x4_2 : Int), v3 = .int .i64 x3_2 ∧ v4 = .int .i64 x4_2 ∧ Aside0 (bursarref02_Sound_p.l0 kq a0 x3_2 x4_2 = some r) ∧ Aside0 (kq ≤ kj1) ∧ Drawn0 w w')
        case atStart => exact ⟨(0), (0), (by first | rfl | (simp; done) | (simp [*]; done) | (simp [Pu.bne_nil, Pu.beq_nil]; done)), (by first | rfl | (simp; done) | (simp [*]; done) | (simp [Pu.bne_nil, Pu.beq_nil]; done)), H', ⟨Nat.le_refl _⟩, by repeat (first | exact Drawn0.refl _ | apply Drawn0.step)⟩
        case round =>
          clear H'
          try clear c1
          try clear p2
          try clear c3
          try clear c3b0
          try clear c3b1
          try clear c5
          try clear p2
          obtain ⟨x3_2, x4_2, rfl, rfl, HA, HK2, ⟨m2, rfl⟩⟩ := hrel
          cases gk with
          | zero => exact absurd HA.out (by simp [bursarref02_Sound_p.l0])
          | succ k2 =>
            have H := HA.out
            clear HA
            simp only [bursarref02_Sound_p.l0] at H
            by_cases c6 : x4_2 < (a0.size : Int)
            · rw [if_pos c6] at H
              have c6b0 : decide (x4_2 < (a0.size : Int)) = true := decide_eq_true c6
              clear c6
              by_cases c7 : 0 ≤ x4_2
              · rw [if_pos c7] at H
                have c7b0 : decide (0 ≤ x4_2) = true := decide_eq_true c7
                clear c7
                by_cases c9 : (Int.tmod (wrap64 ((a0.size : Int) - x4_2)) 2) = 0
                · rw [if_pos c9] at H
                  have c9b0 : ((Int.tmod (wrap64 ((a0.size : Int) - x4_2)) 2) == 0) = true := beq_iff_eq.mpr c9
                  have c9b1 : ((Int.tmod (wrap64 ((a0.size : Int) - x4_2)) 2) != 0) = false := bne_eq_false_iff_eq.mpr c9
                  clear c9
                  by_cases c10 : (wrap64 (2 * (wrap64 ((wrap64 (bt a0 x4_2)) - 48)))) > 9
                  · rw [if_pos c10] at H
                    have c10b0 : decide (9 < (wrap64 (2 * (wrap64 ((wrap64 (bt a0 x4_2)) - 48))))) = true := decide_eq_true c10
                    clear c10
                    have H' := Aside0.mk H
                    clear H
                    have p8 : 0 ≤ (x4_2 : Int) := of_decide_eq_true (by first | (with_reducible assumption) | assumption)
                    have q8 : x4_2 < (a0.size : Int) := of_decide_eq_true (by first | (with_reducible assumption) | assumption)
                    have hx8 := bt_at a0 x4_2
                    replace p8 := eq_true p8
                    replace q8 := eq_true q8
                    go_wp2
                    go_roundg k2
                    case measure => have := HJ1.out; have := HK2.out; omega
                    case rel => exact ⟨(wrap64 (x3_2 + (wrap64 ((wrap64 (2 * (wrap64 ((wrap64 (bt a0 x4_2)) - 48)))) - 9)))), (wrap64 (x4_2 + 1)), (by first | rfl | (simp; done) | (simp [*]; done) | (simp [Pu.bne_nil, Pu.beq_nil]; done)), (by first | rfl | (simp; done) | (simp [*]; done) | (simp [Pu.bne_nil, Pu.beq_nil]; done)), H', ⟨by have := HJ1.out; have := HK2.out; omega⟩, by repeat (first | exact Drawn0.refl _ | apply Drawn0.step)⟩
                  · rw [if_neg c10] at H
                    have c10b0 : decide (9 < (wrap64 (2 * (wrap64 ((wrap64 (bt a0 x4_2)) - 48))))) = false := decide_eq_false c10
                    clear c10
                    have H' := Aside0.mk H
                    clear H
                    have p8 : 0 ≤ (x4_2 : Int) := of_decide_eq_true (by first | (with_reducible assumption) | assumption)
                    have q8 : x4_2 < (a0.size : Int) := of_decide_eq_true (by first | (with_reducible assumption) | assumption)
                    have hx8 := bt_at a0 x4_2
                    replace p8 := eq_true p8
                    replace q8 := eq_true q8
                    go_wp2
                    go_roundg k2
                    case measure => have := HJ1.out; have := HK2.out; omega
                    case rel => exact ⟨(wrap64 (x3_2 + (wrap64 (2 * (wrap64 ((wrap64 (bt a0 x4_2)) - 48)))))), (wrap64 (x4_2 + 1)), (by first | rfl | (simp; done) | (simp [*]; done) | (simp [Pu.bne_nil, Pu.beq_nil]; done)), (by first | rfl | (simp; done) | (simp [*]; done) | (simp [Pu.bne_nil, Pu.beq_nil]; done)), H', ⟨by have := HJ1.out; have := HK2.out; omega⟩, by repeat (first | exact Drawn0.refl _ | apply Drawn0.step)⟩
                · rw [if_neg c9] at H
                  have c9b0 : ((Int.tmod (wrap64 ((a0.size : Int) - x4_2)) 2) == 0) = false := beq_eq_false_iff_ne.mpr c9
                  have c9b1 : ((Int.tmod (wrap64 ((a0.size : Int) - x4_2)) 2) != 0) = true := bne_iff_ne.mpr c9
                  have H' := Aside0.mk H
                  clear H
                  have p8 : 0 ≤ (x4_2 : Int) := of_decide_eq_true (by first | (with_reducible assumption) | assumption)
                  have q8 : x4_2 < (a0.size : Int) := of_decide_eq_true (by first | (with_reducible assumption) | assumption)
                  have hx8 := bt_at a0 x4_2
                  replace p8 := eq_true p8
                  replace q8 := eq_true q8
                  go_wp2
                  go_roundg k2
                  case measure => have := HJ1.out; have := HK2.out; omega
                  case rel => exact ⟨(wrap64 (x3_2 + (wrap64 ((wrap64 (bt a0 x4_2)) - 48)))), (wrap64 (x4_2 + 1)), (by first | rfl | (simp; done) | (simp [*]; done) | (simp [Pu.bne_nil, Pu.beq_nil]; done)), (by first | rfl | (simp; done) | (simp [*]; done) | (simp [Pu.bne_nil, Pu.beq_nil]; done)), H', ⟨by have := HJ1.out; have := HK2.out; omega⟩, by repeat (first | exact Drawn0.refl _ | apply Drawn0.step)⟩
              · rw [if_neg c7] at H
                exact absurd H (by simp)
            · rw [if_neg c6] at H
              have c6b0 : decide (x4_2 < (a0.size : Int)) = false := decide_eq_false c6
              clear c6
              obtain rfl := Option.some.inj H
              go_wp2
              go_ret
              exact ⟨by first | rfl | (simp; done) | (simp [*]; done), by repeat (first | exact Drawn0.refl _ | apply Drawn0.step)⟩

/-! #### bursarref02_Sound, refined -/
theorem ref02_Sound_l (s : ByteArray) (hs : s.size ≤ 4096) (hd : Pu.allD s = true) : ∀ (d i k : Nat) (n : Int), i + d = s.size → d < k → 0 ≤ n → n ≤ 9 * i → bursarref02_Sound_p.l0 k s n (i : Int) = some (Int.tmod (n + Pu.luhn ((Pu.bs s).drop i)) 10 == 0) := by
  intro d
  induction d with
  | zero =>
    intro i k n hi hk h0 h9
    obtain ⟨k, rfl⟩ : ∃ m, k = m + 1 := ⟨k - 1, by omega⟩
    obtain rfl : i = s.size := by omega
    simp only [bursarref02_Sound_p.l0]
    rw [if_neg (by omega), Pu.bs_drop_all, Pu.luhn, Int.add_zero]
  | succ d ih =>
    intro i k n hi hk h0 h9
    obtain ⟨k, rfl⟩ : ∃ m, k = m + 1 := ⟨k - 1, by omega⟩
    have hb := Pu.bt_dig s hd i (by omega)
    have hst := Pu.luhn_step s i (by omega)
    simp only [bursarref02_Sound_p.l0]
    rw [if_pos (by omega), if_pos (by omega), Pu.wrap_small (i := bt s i) (by omega) (by omega), Pu.wrap_small (i := bt s i - 48) (by omega) (by omega), Pu.wrap_small (i := (s.size : Int) - i) (by omega) (by omega), Pu.wrap_small (i := 2 * (bt s i - 48)) (by omega) (by omega), Pu.wrap_small (i := (i : Int) + 1) (by omega) (by omega), Pu.tmod_pos (by omega)]
    by_cases hp : ((s.size : Int) - i) % 2 = 0
    · rw [if_pos hp]
      rw [if_pos (by omega)] at hst
      unfold Pu.dbl at hst
      by_cases h5 : 2 * (bt s i - 48) > 9
      · rw [if_pos h5, Pu.wrap_small (i := 2 * (bt s i - 48) - 9) (by omega) (by omega), Pu.wrap_small (by omega) (by omega)]
        rw [if_pos (by omega)] at hst
        have := ih (i + 1) k (n + (2 * (bt s i - 48) - 9)) (by omega) (by omega) (by omega) (by omega)
        rw [show ((i : Int) + 1) = ((i + 1 : Nat) : Int) by omega, this, hst]
        congr 3; omega
      · rw [if_neg h5, Pu.wrap_small (i := n + 2 * (bt s i - 48)) (by omega) (by omega)]
        rw [if_neg (by omega)] at hst
        have := ih (i + 1) k (n + 2 * (bt s i - 48)) (by omega) (by omega) (by omega) (by omega)
        rw [show ((i : Int) + 1) = ((i + 1 : Nat) : Int) by omega, this, hst]
        congr 3; omega
    · rw [if_neg hp, Pu.wrap_small (i := n + (bt s i - 48)) (by omega) (by omega)]
      rw [if_neg (by omega)] at hst
      have := ih (i + 1) k (n + (bt s i - 48)) (by omega) (by omega) (by omega) (by omega)
      rw [show ((i : Int) + 1) = ((i + 1 : Nat) : Int) by omega, this, hst]
      congr 3; omega
theorem ref02_Sound_e (s : ByteArray) (hs : s.size ≤ 4096) : bursarref02_Sound_p.f (s.size + 2) s = some (Pu.soundB s) := by
  unfold bursarref02_Sound_p.f bursarref02_All.f
  by_cases h2 : 2 ≤ s.size
  · rw [if_neg (by omega), if_pos hs, Option.bind_some]
    simp only [bursarref02_Sound_p.j0]
    cases ha : Pu.allD s with
    | false => rw [if_pos (by rfl), Pu.soundB_no ha]
    | true => rw [if_neg (by simp), Pu.soundB_yes h2 ha]; have := ref02_Sound_l s hs ha s.size 0 (s.size + 1) 0 (by omega) (by omega) (by omega) (by omega); rw [Int.zero_add] at this; exact this
  · rw [if_pos (by omega), Pu.soundB_short h2]
    simp only [bursarref02_Sound_p.j0]; rw [if_pos trivial]
def bursarref02_Sound.f (a0 : ByteArray) : Option Bool := if a0.size ≤ 4096 then some (Pu.soundB a0) else none
theorem bursarref02_Sound.calls (a0 : ByteArray) (r : Bool) (w : World) (h : bursarref02_Sound.f a0 = some r) :
    Calls Try.prog 34 #[.string a0] w fun e w' => e = .returned (.bool r) ∧ Drawn0 w w' := by
  unfold bursarref02_Sound.f at h
  split at h
  · exact bursarref02_Sound_p.calls (a0.size + 2) a0 r w ((ref02_Sound_e a0 ‹_›).trans h)
  · cases h


end Go.Proofs.Ytaifcadnnmicnaa.XE
