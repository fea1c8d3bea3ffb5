-- Written by wip/xprint.py, a session's program: printed out of the translation, with hand-written functions. Lean checks it.
import Derived.Test.YtddlmcaclbkopaaXDX0
namespace Go.Proofs.Ytddlmcaclbkopaa.XDX
open Go.RowKit Go.Proofs.YtddlmcaclbkopaaW.PrintWords Go.Proofs.YtddlmcaclbkopaaW.PrintLast Go.Proofs.YtddlmcaclbkopaaW.PrintMore
attribute [local go_sem] max2_int min2_int max_two min_two max_three min_three max_four min_four   -- for this text's walks alone
set_option linter.unusedVariables false
set_option linter.unusedSimpArgs false

/-! ### bursarref02_All_p: function 68 -/
def bursarref02_All_p.l0 : Nat → ByteArray → Int → Option (Bool)
  | 0, _, _ => none
  | k + 1, x0, x3 => if x3 < (x0.size : Int) then (if 0 ≤ x3 then (if (bt x0 x3) < 48 then (some false) else (if (bt x0 x3) > 57 then (some false) else (bursarref02_All_p.l0 k x0 (wrap64 (x3 + 1))))) else (none)) else (some true)
def bursarref02_All_p.f (k : Nat) (a0 : ByteArray) : Option (Bool) := bursarref02_All_p.l0 k a0 0
theorem bursarref02_All_p.mono_l : ∀ k, (∀ y0 y1, LeO (bursarref02_All_p.l0 k y0 y1) (bursarref02_All_p.l0 (k + 1) y0 y1))
  | 0 => fun _ _ r h => by simp [bursarref02_All_p.l0] at h
  | k + 1 => by
    have ih0 := bursarref02_All_p.mono_l k
    · intro y0 y1
      unfold bursarref02_All_p.l0
      repeat' first
      | (with_reducible exact ih0 _ _)
      | (with_reducible exact LeO.refl _)
      | (with_reducible exact LeO.none _)
      | (with_reducible refine LeO.ite ?_ ?_)
      | (with_reducible refine LeO.bind ?_ (fun _ => ?_))
      | exact ih0 _ _
      | exact LeO.none _
      | refine LeO.ite ?_ ?_
      | refine LeO.bind ?_ (fun _ => ?_)
theorem bursarref02_All_p.mono : ∀ a0 k, LeO (bursarref02_All_p.f k a0) (bursarref02_All_p.f (k + 1) a0) := by
  intro a0 k
  have ih0 := bursarref02_All_p.mono_l k
  unfold bursarref02_All_p.f
  repeat' first
      | (with_reducible exact ih0 _ _)
      | (with_reducible exact LeO.refl _)
      | (with_reducible exact LeO.none _)
      | (with_reducible refine LeO.ite ?_ ?_)
      | (with_reducible refine LeO.bind ?_ (fun _ => ?_))
      | exact ih0 _ _
      | exact LeO.none _
      | refine LeO.ite ?_ ?_
      | refine LeO.bind ?_ (fun _ => ?_)
set_option maxHeartbeats 8000000 in
set_option maxRecDepth 100000 in
theorem bursarref02_All_p.calls (k : Nat) (a0 : ByteArray) (r : Bool) (w : World) (h : bursarref02_All_p.f k a0 = some r) :
    Calls Try.prog 68 #[.string a0] w fun e w' => e = .returned (.bool r) ∧ Drawn0 w w' := by
  have H : (bursarref02_All_p.l0 k a0 0) = some r := h
  clear h
  have H' := Aside0.mk H
  clear H
  go_enter Try.func68, Try.ntmps68
  go_wp2
  go_loopg [3] k (fun kq v3 w' => ∃ (x3_1 : Int), v3 = .int .i64 x3_1 ∧ Aside0 (bursarref02_All_p.l0 kq a0 x3_1 = some r) ∧ Aside0 (kq ≤ k) ∧ Drawn0 w w')
  case atStart => exact ⟨(0), (by first | rfl | (simp; done) | (simp [*]; done) | (simp [Pu.bne_nil, Pu.beq_nil]; done)), H', ⟨Nat.le_refl _⟩, by repeat (first | exact Drawn0.refl _ | apply Drawn0.step)⟩
  case round =>
    clear H'
    obtain ⟨x3_1, rfl, HA, HK1, ⟨m1, rfl⟩⟩ := hrel
    cases gk with
    | zero => exact absurd HA.out (by simp [bursarref02_All_p.l0])
    | succ k1 =>
      have H := HA.out
      clear HA
      simp only [bursarref02_All_p.l0] at H
      by_cases c2 : x3_1 < (a0.size : Int)
      · rw [if_pos c2] at H
        have c2b0 : decide (x3_1 < (a0.size : Int)) = true := decide_eq_true c2
        clear c2
        by_cases c3 : 0 ≤ x3_1
        · rw [if_pos c3] at H
          have c3b0 : decide (0 ≤ x3_1) = true := decide_eq_true c3
          clear c3
          by_cases c5 : (bt a0 x3_1) < 48
          · rw [if_pos c5] at H
            have c5b0 : decide ((bt a0 x3_1) < 48) = true := decide_eq_true c5
            clear c5
            obtain rfl := Option.some.inj H
            have p4 : 0 ≤ (x3_1 : Int) := of_decide_eq_true (by first | (with_reducible assumption) | assumption)
            have q4 : x3_1 < (a0.size : Int) := of_decide_eq_true (by first | (with_reducible assumption) | assumption)
            have hx4 := bt_at a0 x3_1
            replace p4 := eq_true p4
            replace q4 := eq_true q4
            go_wp2
            go_ret
            exact ⟨by first | rfl | (simp; done) | (simp [*]; done), by repeat (first | exact Drawn0.refl _ | apply Drawn0.step)⟩
          · rw [if_neg c5] at H
            have c5b0 : decide ((bt a0 x3_1) < 48) = false := decide_eq_false c5
            clear c5
            by_cases c7 : (bt a0 x3_1) > 57
            · rw [if_pos c7] at H
              have c7b0 : decide (57 < (bt a0 x3_1)) = true := decide_eq_true c7
              clear c7
              obtain rfl := Option.some.inj H
              have p4 : 0 ≤ (x3_1 : Int) := of_decide_eq_true (by first | (with_reducible assumption) | assumption)
              have q4 : x3_1 < (a0.size : Int) := of_decide_eq_true (by first | (with_reducible assumption) | assumption)
              have hx4 := bt_at a0 x3_1
              replace p4 := eq_true p4
              replace q4 := eq_true q4
              have p6 : 0 ≤ (x3_1 : Int) := of_decide_eq_true (by first | (with_reducible assumption) | assumption)
              have q6 : x3_1 < (a0.size : Int) := of_decide_eq_true (by first | (with_reducible assumption) | assumption)
              have hx6 := bt_at a0 x3_1
              replace p6 := eq_true p6
              replace q6 := eq_true q6
              go_wp2
              go_ret
              exact ⟨by first | rfl | (simp; done) | (simp [*]; done), by repeat (first | exact Drawn0.refl _ | apply Drawn0.step)⟩
            · rw [if_neg c7] at H
              have c7b0 : decide (57 < (bt a0 x3_1)) = false := decide_eq_false c7
              clear c7
              have H' := Aside0.mk H
              clear H
              have p4 : 0 ≤ (x3_1 : Int) := of_decide_eq_true (by first | (with_reducible assumption) | assumption)
              have q4 : x3_1 < (a0.size : Int) := of_decide_eq_true (by first | (with_reducible assumption) | assumption)
              have hx4 := bt_at a0 x3_1
              replace p4 := eq_true p4
              replace q4 := eq_true q4
              have p6 : 0 ≤ (x3_1 : Int) := of_decide_eq_true (by first | (with_reducible assumption) | assumption)
              have q6 : x3_1 < (a0.size : Int) := of_decide_eq_true (by first | (with_reducible assumption) | assumption)
              have hx6 := bt_at a0 x3_1
              replace p6 := eq_true p6
              replace q6 := eq_true q6
              go_wp2
              go_roundg k1
              case measure => have := HK1.out; omega
              case rel => exact ⟨(wrap64 (x3_1 + 1)), (by first | rfl | (simp; done) | (simp [*]; done) | (simp [Pu.bne_nil, Pu.beq_nil]; done)), H', ⟨by have := HK1.out; omega⟩, by repeat (first | exact Drawn0.refl _ | apply Drawn0.step)⟩
        · rw [if_neg c3] at H
          exact absurd H (by simp)
      · rw [if_neg c2] at H
        have c2b0 : decide (x3_1 < (a0.size : Int)) = false := decide_eq_false c2
        clear c2
        obtain rfl := Option.some.inj H
        go_wp2
        go_ret
        exact ⟨by first | rfl | (simp; done) | (simp [*]; done), by repeat (first | exact Drawn0.refl _ | apply Drawn0.step)⟩

/-! #### bursarref02_All, refined -/
theorem ref02_All_l (s : ByteArray) (hs : s.size ≤ 4096) : ∀ (d i k : Nat), i + d = s.size → d < k → bursarref02_All_p.l0 k s (i : Int) = some (((Pu.bs s).drop i).all Pu.dig) := by
  intro d
  induction d with
  | zero =>
    intro i k hi hk
    obtain ⟨k, rfl⟩ : ∃ m, k = m + 1 := ⟨k - 1, by omega⟩
    obtain rfl : i = s.size := by omega
    simp only [bursarref02_All_p.l0]
    rw [if_neg (by omega), Pu.bs_drop_all]; rfl
  | succ d ih =>
    intro i k hi hk
    obtain ⟨k, rfl⟩ : ∃ m, k = m + 1 := ⟨k - 1, by omega⟩
    simp only [bursarref02_All_p.l0]
    rw [if_pos (by omega), if_pos (by omega), Pu.bs_drop s i (by omega), List.all_cons]
    by_cases h1 : bt s i < 48
    · rw [if_pos h1, (Pu.dig_no _).mpr (.inl h1)]; rfl
    · rw [if_neg h1]
      by_cases h2 : bt s i > 57
      · rw [if_pos h2, (Pu.dig_no _).mpr (.inr h2)]; rfl
      · rw [if_neg h2, (Pu.dig_iff _).mpr ⟨by omega, by omega⟩, Bool.true_and, Pu.wrap_small (by omega) (by omega)]
        exact ih (i + 1) k (by omega) (by omega)
def bursarref02_All.f (a0 : ByteArray) : Option Bool := if a0.size ≤ 4096 then some (Pu.allD a0) else none
theorem bursarref02_All.calls (a0 : ByteArray) (r : Bool) (w : World) (h : bursarref02_All.f a0 = some r) :
    Calls Try.prog 68 #[.string a0] w fun e w' => e = .returned (.bool r) ∧ Drawn0 w w' := by
  unfold bursarref02_All.f at h
  split at h
  · exact bursarref02_All_p.calls (a0.size + 1) a0 r w ((ref02_All_l a0 ‹_› a0.size 0 (a0.size + 1) (by omega) (by omega)).trans h)
  · cases h


/-! ### bursarref02_Sound_p: function 67 -/
mutual
def bursarref02_Sound_p.j0 : Nat → ByteArray → Bool → Option (Bool)
  | 0, _, _ => none
  | k + 1, x0, x13 => if x13 = true then (some false) else (bursarref02_Sound_p.l0 k x0 0 0)
def bursarref02_Sound_p.l0 : Nat → ByteArray → Int → Int → Option (Bool)
  | 0, _, _, _ => none
  | k + 1, x0, x3, x4 => if x4 < (x0.size : Int) then (if 0 ≤ x4 then (if (Int.tmod (wrap64 ((x0.size : Int) - x4)) 2) = 0 then (if (wrap64 (2 * (wrap64 ((wrap64 (bt x0 x4)) - 48)))) > 9 then (bursarref02_Sound_p.l0 k x0 (wrap64 (x3 + (wrap64 ((wrap64 (2 * (wrap64 ((wrap64 (bt x0 x4)) - 48)))) - 9)))) (wrap64 (x4 + 1))) else (bursarref02_Sound_p.l0 k x0 (wrap64 (x3 + (wrap64 (2 * (wrap64 ((wrap64 (bt x0 x4)) - 48)))))) (wrap64 (x4 + 1)))) else (bursarref02_Sound_p.l0 k x0 (wrap64 (x3 + (wrap64 ((wrap64 (bt x0 x4)) - 48)))) (wrap64 (x4 + 1)))) else (none)) else (some ((Int.tmod x3 10) == 0))
end
def bursarref02_Sound_p.f (k : Nat) (a0 : ByteArray) : Option (Bool) := if (a0.size : Int) < 2 then (bursarref02_Sound_p.j0 k a0 true) else ((bursarref02_All.f a0).bind fun t297 => (bursarref02_Sound_p.j0 k a0 (!t297)))
theorem bursarref02_Sound_p.mono_l : ∀ k, (∀ y0 y1, LeO (bursarref02_Sound_p.j0 k y0 y1) (bursarref02_Sound_p.j0 (k + 1) y0 y1)) ∧ (∀ y0 y1 y2, LeO (bursarref02_Sound_p.l0 k y0 y1 y2) (bursarref02_Sound_p.l0 (k + 1) y0 y1 y2))
  | 0 => ⟨fun _ _ r h => by simp [bursarref02_Sound_p.j0] at h, fun _ _ _ r h => by simp [bursarref02_Sound_p.l0] at h⟩
  | k + 1 => by
    obtain ⟨ih0, ih1⟩ := bursarref02_Sound_p.mono_l k
    refine ⟨?_, ?_⟩
    all_goals
      intros
      first
      | unfold bursarref02_Sound_p.j0
      | unfold bursarref02_Sound_p.l0
      repeat' first
      | (with_reducible exact ih0 _ _)
      | (with_reducible exact ih1 _ _ _)
      | (with_reducible exact LeO.refl _)
      | (with_reducible exact LeO.none _)
      | (with_reducible refine LeO.ite ?_ ?_)
      | (with_reducible refine LeO.bind ?_ (fun _ => ?_))
      | exact ih0 _ _
      | exact ih1 _ _ _
      | exact LeO.none _
      | refine LeO.ite ?_ ?_
      | refine LeO.bind ?_ (fun _ => ?_)
theorem bursarref02_Sound_p.mono : ∀ a0 k, LeO (bursarref02_Sound_p.f k a0) (bursarref02_Sound_p.f (k + 1) a0) := by
  intro a0 k
  obtain ⟨ih0, ih1⟩ := bursarref02_Sound_p.mono_l k
  unfold bursarref02_Sound_p.f
  repeat' first
      | (with_reducible exact ih0 _ _)
      | (with_reducible exact ih1 _ _ _)
      | (with_reducible exact LeO.refl _)
      | (with_reducible exact LeO.none _)
      | (with_reducible refine LeO.ite ?_ ?_)
      | (with_reducible refine LeO.bind ?_ (fun _ => ?_))
      | exact ih0 _ _
      | exact ih1 _ _ _
      | exact LeO.none _
      | refine LeO.ite ?_ ?_
      | refine LeO.bind ?_ (fun _ => ?_)
set_option maxHeartbeats 8000000 in
set_option maxRecDepth 100000 in
theorem bursarref02_Sound_p.calls (k : Nat) (a0 : ByteArray) (r : Bool) (w : World) (h : bursarref02_Sound_p.f k a0 = some r) :
    Calls Try.prog 67 #[.string a0] w fun e w' => e = .returned (.bool r) ∧ Drawn0 w w' := by
  have H : (if (a0.size : Int) < 2 then (bursarref02_Sound_p.j0 k a0 true) else ((bursarref02_All.f a0).bind fun t297 => (bursarref02_Sound_p.j0 k a0 (!t297)))) = some r := h
  clear h
  have HC2 := Aside0.mk H
  clear H
  go_enter Try.func67, Try.ntmps67
  go_upto_region 1 with (fail)
  go_cut [13] (fun v13 wc => ∃ (kq : Nat) (x13_1 : Bool), v13 = .bool x13_1 ∧ Aside0 (bursarref02_Sound_p.j0 kq a0 x13_1 = some r) ∧ Aside0 (kq ≤ k) ∧ Drawn0 w wc)
  case first =>
    have H := HC2.out
    clear HC2
    by_cases c3 : (a0.size : Int) < 2
    · rw [if_pos c3] at H
      have c3b0 : decide ((a0.size : Int) < 2) = true := decide_eq_true c3
      have c3b1 : decide (a0.size < 2) = true := decide_eq_true (by omega)
      clear c3
      (first | rw [c3b0] | (simp only [i64_w, i32_w]; rw [c3b0]) | skip)
      have H' := Aside0.mk H
      clear H
      go_wp2
      go_meet
      case rel => exact ⟨_, (true), (by first | rfl | (simp; done) | (simp [*]; done) | (simp [Pu.bne_nil, Pu.beq_nil]; done)), H', ⟨by first | omega | exact Nat.le_refl _⟩, by repeat (first | exact Drawn0.refl _ | apply Drawn0.step)⟩
    · rw [if_neg c3] at H
      have c3b0 : decide ((a0.size : Int) < 2) = false := decide_eq_false c3
      have c3b1 : decide (a0.size < 2) = false := decide_eq_false (by omega)
      clear c3
      (first | rw [c3b0] | (simp only [i64_w, i32_w]; rw [c3b0]) | skip)
      replace H := Option.bind_eq_some_iff.mp H
      obtain ⟨t297, A40, H⟩ := H
      replace H : (bursarref02_Sound_p.j0 k a0 (!t297)) = some r := H
      have A4 := Aside0.mk A40
      clear A40
      have H' := Aside0.mk H
      clear H
      go_wp2_with (first | (go_at_call 68; (with_reducible refine (bursarref02_All.calls a0 t297 _ A4.out).mono ?_); rintro e w' ⟨rfl, ⟨nd, rfl⟩⟩))
      go_meet
      case rel => exact ⟨_, (!t297), (by first | rfl | (simp; done) | (simp [*]; done) | (simp [Pu.bne_nil, Pu.beq_nil]; done)), H', ⟨by first | omega | exact Nat.le_refl _⟩, by repeat (first | exact Drawn0.refl _ | apply Drawn0.step)⟩
  case rest =>
    clear HC2
    try clear p2
    try clear c3
    try clear c3b0
    try clear c3b1
    obtain ⟨kq, x13_1, rfl, HA, HJ1, ⟨mc1, rfl⟩⟩ := hcut
    cases kq with
    | zero => exact absurd HA.out (by simp [bursarref02_Sound_p.j0])
    | succ kj1 =>
      have H := HA.out
      clear HA
      simp only [bursarref02_Sound_p.j0] at H
      by_cases c5 : x13_1 = true
      · subst c5
        have H1 : (some false) = some r := by rw [if_pos rfl] at H; exact H
        clear H
        have H := H1
        clear H1
        obtain rfl := Option.some.inj H
        go_wp2
        go_ret
        exact ⟨by first | rfl | (simp; done) | (simp [*]; done), by repeat (first | exact Drawn0.refl _ | apply Drawn0.step)⟩
      · replace c5 := Bool.eq_false_iff.mpr c5
        subst c5
        have H1 : (bursarref02_Sound_p.l0 kj1 a0 0 0) = some r := by rw [if_neg (show ¬ (false = true) by decide)] at H; exact H
        clear H
        have H := H1
        clear H1
        have H' := Aside0.mk H
        clear H
        go_wp2
        go_loopg [3, 4] kj1 (fun kq v3 v4 w' => ∃ (x3_2 : Int) (x4_2 : Int), v3 = .int .i64 x3_2 ∧ v4 = .int .i64 x4_2 ∧ Aside0 (bursarref02_Sound_p.l0 kq a0 x3_2 x4_2 = some r) ∧ Aside0 (kq ≤ kj1) ∧ Drawn0 w w')
        case atStart => exact ⟨(0), (0), (by first | rfl | (simp; done) | (simp [*]; done) | (simp [Pu.bne_nil, Pu.beq_nil]; done)), (by first | rfl | (simp; done) | (simp [*]; done) | (simp [Pu.bne_nil, Pu.beq_nil]; done)), H', ⟨Nat.le_refl _⟩, by repeat (first | exact Drawn0.refl _ | apply Drawn0.step)⟩
        case round =>
          clear H'
          try clear c1
          try clear p2
          try clear c3
          try clear c3b0
          try clear c3b1
          try clear c5
          try clear p2
          obtain ⟨x3_2, x4_2, rfl, rfl, HA, HK2, ⟨m2, rfl⟩⟩ := hrel
          cases gk with
          | zero => exact absurd HA.out (by simp [bursarref02_Sound_p.l0])
          | succ k2 =>
            have H := HA.out
            clear HA
            simp only [bursarref02_Sound_p.l0] at H
            by_cases c6 : x4_2 < (a0.size : Int)
            · rw [if_pos c6] at H
              have c6b0 : decide (x4_2 < (a0.size : Int)) = true := decide_eq_true c6
              clear c6
              by_cases c7 : 0 ≤ x4_2
              · rw [if_pos c7] at H
                have c7b0 : decide (0 ≤ x4_2) = true := decide_eq_true c7
                clear c7
                by_cases c9 : (Int.tmod (wrap64 ((a0.size : Int) - x4_2)) 2) = 0
                · rw [if_pos c9] at H
                  have c9b0 : ((Int.tmod (wrap64 ((a0.size : Int) - x4_2)) 2) == 0) = true := beq_iff_eq.mpr c9
                  have c9b1 : ((Int.tmod (wrap64 ((a0.size : Int) - x4_2)) 2) != 0) = false := bne_eq_false_iff_eq.mpr c9
                  clear c9
                  by_cases c10 : (wrap64 (2 * (wrap64 ((wrap64 (bt a0 x4_2)) - 48)))) > 9
                  · rw [if_pos c10] at H
                    have c10b0 : decide (9 < (wrap64 (2 * (wrap64 ((wrap64 (bt a0 x4_2)) - 48))))) = true := decide_eq_true c10
                    clear c10
                    have H' := Aside0.mk H
                    clear H
                    have p8 : 0 ≤ (x4_2 : Int) := of_decide_eq_true (by first | (with_reducible assumption) | assumption)
                    have q8 : x4_2 < (a0.size : Int) := of_decide_eq_true (by first | (with_reducible assumption) | assumption)
                    have hx8 := bt_at a0 x4_2
                    replace p8 := eq_true p8
                    replace q8 := eq_true q8
                    go_wp2
                    go_roundg k2
                    case measure => have := HJ1.out; have := HK2.out; omega
                    case rel => exact ⟨(wrap64 (x3_2 + (wrap64 ((wrap64 (2 * (wrap64 ((wrap64 (bt a0 x4_2)) - 48)))) - 9)))), (wrap64 (x4_2 + 1)), (by first | rfl | (simp; done) | (simp [*]; done) | (simp [Pu.bne_nil, Pu.beq_nil]; done)), (by first | rfl | (simp; done) | (simp [*]; done) | (simp [Pu.bne_nil, Pu.beq_nil]; done)), H', ⟨by have := HJ1.out; have := HK2.out; omega⟩, by repeat (first | exact Drawn0.refl _ | apply Drawn0.step)⟩
                  · rw [if_neg c10] at H
                    have c10b0 : decide (9 < (wrap64 (2 * (wrap64 ((wrap64 (bt a0 x4_2)) - 48))))) = false := decide_eq_false c10
                    clear c10
                    have H' := Aside0.mk H
                    clear H
                    have p8 : 0 ≤ (x4_2 : Int) := of_decide_eq_true (by first | (with_reducible assumption) | assumption)
                    have q8 : x4_2 < (a0.size : Int) := of_decide_eq_true (by first | (with_reducible assumption) | assumption)
                    have hx8 := bt_at a0 x4_2
                    replace p8 := eq_true p8
                    replace q8 := eq_true q8
                    go_wp2
                    go_roundg k2
                    case measure => have := HJ1.out; have := HK2.out; omega
                    case rel => exact ⟨(wrap64 (x3_2 + (wrap64 (2 * (wrap64 ((wrap64 (bt a0 x4_2)) - 48)))))), (wrap64 (x4_2 + 1)), (by first | rfl | (simp; done) | (simp [*]; done) | (simp [Pu.bne_nil, Pu.beq_nil]; done)), (by first | rfl | (simp; done) | (simp [*]; done) | (simp [Pu.bne_nil, Pu.beq_nil]; done)), H', ⟨by have := HJ1.out; have := HK2.out; omega⟩, by repeat (first | exact Drawn0.refl _ | apply Drawn0.step)⟩
                · rw [if_neg c9] at H
                  have c9b0 : ((Int.tmod (wrap64 ((a0.size : Int) - x4_2)) 2) == 0) = false := beq_eq_false_iff_ne.mpr c9
                  have c9b1 : ((Int.tmod (wrap64 ((a0.size : Int) - x4_2)) 2) != 0) = true := bne_iff_ne.mpr c9
                  have H' := Aside0.mk H
                  clear H
                  have p8 : 0 ≤ (x4_2 : Int) := of_decide_eq_true (by first | (with_reducible assumption) | assumption)
                  have q8 : x4_2 < (a0.size : Int) := of_decide_eq_true (by first | (with_reducible assumption) | assumption)
                  have hx8 := bt_at a0 x4_2
                  replace p8 := eq_true p8
                  replace q8 := eq_true q8
                  go_wp2
                  go_roundg k2
                  case measure => have := HJ1.out; have := HK2.out; omega
                  case rel => exact ⟨(wrap64 (x3_2 + (wrap64 ((wrap64 (bt a0 x4_2)) - 48)))), (wrap64 (x4_2 + 1)), (by first | rfl | (simp; done) | (simp [*]; done) | (simp [Pu.bne_nil, Pu.beq_nil]; done)), (by first | rfl | (simp; done) | (simp [*]; done) | (simp [Pu.bne_nil, Pu.beq_nil]; done)), H', ⟨by have := HJ1.out; have := HK2.out; omega⟩, by repeat (first | exact Drawn0.refl _ | apply Drawn0.step)⟩
              · rw [if_neg c7] at H
                exact absurd H (by simp)
            · rw [if_neg c6] at H
              have c6b0 : decide (x4_2 < (a0.size : Int)) = false := decide_eq_false c6
              clear c6
              obtain rfl := Option.some.inj H
              go_wp2
              go_ret
              exact ⟨by first | rfl | (simp; done) | (simp [*]; done), by repeat (first | exact Drawn0.refl _ | apply Drawn0.step)⟩

/-! #### bursarref02_Sound, refined -/
theorem ref02_Sound_l (s : ByteArray) (hs : s.size ≤ 4096) (hd : Pu.allD s = true) : ∀ (d i k : Nat) (n : Int), i + d = s.size → d < k → 0 ≤ n → n ≤ 9 * i → bursarref02_Sound_p.l0 k s n (i : Int) = some (Int.tmod (n + Pu.luhn ((Pu.bs s).drop i)) 10 == 0) := by
  intro d
  induction d with
  | zero =>
    intro i k n hi hk h0 h9
    obtain ⟨k, rfl⟩ : ∃ m, k = m + 1 := ⟨k - 1, by omega⟩
    obtain rfl : i = s.size := by omega
    simp only [bursarref02_Sound_p.l0]
    rw [if_neg (by omega), Pu.bs_drop_all, Pu.luhn, Int.add_zero]
  | succ d ih =>
    intro i k n hi hk h0 h9
    obtain ⟨k, rfl⟩ : ∃ m, k = m + 1 := ⟨k - 1, by omega⟩
    have hb := Pu.bt_dig s hd i (by omega)
    have hst := Pu.luhn_step s i (by omega)
    simp only [bursarref02_Sound_p.l0]
    rw [if_pos (by omega), if_pos (by omega), Pu.wrap_small (i := bt s i) (by omega) (by omega), Pu.wrap_small (i := bt s i - 48) (by omega) (by omega), Pu.wrap_small (i := (s.size : Int) - i) (by omega) (by omega), Pu.wrap_small (i := 2 * (bt s i - 48)) (by omega) (by omega), Pu.wrap_small (i := (i : Int) + 1) (by omega) (by omega), Pu.tmod_pos (by omega)]
    by_cases hp : ((s.size : Int) - i) % 2 = 0
    · rw [if_pos hp]
      rw [if_pos (by omega)] at hst
      unfold Pu.dbl at hst
      by_cases h5 : 2 * (bt s i - 48) > 9
      · rw [if_pos h5, Pu.wrap_small (i := 2 * (bt s i - 48) - 9) (by omega) (by omega), Pu.wrap_small (by omega) (by omega)]
        rw [if_pos (by omega)] at hst
        have := ih (i + 1) k (n + (2 * (bt s i - 48) - 9)) (by omega) (by omega) (by omega) (by omega)
        rw [show ((i : Int) + 1) = ((i + 1 : Nat) : Int) by omega, this, hst]
        congr 3; omega
      · rw [if_neg h5, Pu.wrap_small (i := n + 2 * (bt s i - 48)) (by omega) (by omega)]
        rw [if_neg (by omega)] at hst
        have := ih (i + 1) k (n + 2 * (bt s i - 48)) (by omega) (by omega) (by omega) (by omega)
        rw [show ((i : Int) + 1) = ((i + 1 : Nat) : Int) by omega, this, hst]
        congr 3; omega
    · rw [if_neg hp, Pu.wrap_small (i := n + (bt s i - 48)) (by omega) (by omega)]
      rw [if_neg (by omega)] at hst
      have := ih (i + 1) k (n + (bt s i - 48)) (by omega) (by omega) (by omega) (by omega)
      rw [show ((i : Int) + 1) = ((i + 1 : Nat) : Int) by omega, this, hst]
      congr 3; omega
theorem ref02_Sound_e (s : ByteArray) (hs : s.size ≤ 4096) : bursarref02_Sound_p.f (s.size + 2) s = some (Pu.soundB s) := by
  unfold bursarref02_Sound_p.f bursarref02_All.f
  by_cases h2 : 2 ≤ s.size
  · rw [if_neg (by omega), if_pos hs, Option.bind_some]
    simp only [bursarref02_Sound_p.j0]
    cases ha : Pu.allD s with
    | false => rw [if_pos (by rfl), Pu.soundB_no ha]
    | true => rw [if_neg (by simp), Pu.soundB_yes h2 ha]; have := ref02_Sound_l s hs ha s.size 0 (s.size + 1) 0 (by omega) (by omega) (by omega) (by omega); rw [Int.zero_add] at this; exact this
  · rw [if_pos (by omega), Pu.soundB_short h2]
    simp only [bursarref02_Sound_p.j0]; rw [if_pos trivial]
def bursarref02_Sound.f (a0 : ByteArray) : Option Bool := if a0.size ≤ 4096 then some (Pu.soundB a0) else none
theorem bursarref02_Sound.calls (a0 : ByteArray) (r : Bool) (w : World) (h : bursarref02_Sound.f a0 = some r) :
    Calls Try.prog 67 #[.string a0] w fun e w' => e = .returned (.bool r) ∧ Drawn0 w w' := by
  unfold bursarref02_Sound.f at h
  split at h
  · exact bursarref02_Sound_p.calls (a0.size + 2) a0 r w ((ref02_Sound_e a0 ‹_›).trans h)
  · cases h


/-! ### bursarref11_Name_p: function 45 -/
mutual
def bursarref11_Name_p.j0 : Nat → Bool → Int → ByteArray → Option (ByteArray × Bool)
  | 0, _, _, _ => none
  | k + 1, x17, x299000, x299001 => if x17 = true then (if 1 + x299001.size ≤ 9223372036854775807 then (some ((⟨#[67]⟩ : ByteArray) ++ x299001, true)) else (none)) else (if x299000 = 2 then (if (x299001.size : Int) = 6 then ((bursarref02_All.f x299001).bind fun t300 => (bursarref11_Name_p.j1 k t300 x299000 x299001)) else (bursarref11_Name_p.j1 k false x299000 x299001)) else (bursarref11_Name_p.j1 k false x299000 x299001))
def bursarref11_Name_p.j1 : Nat → Bool → Int → ByteArray → Option (ByteArray × Bool)
  | 0, _, _, _ => none
  | k + 1, x34, x299000, x299001 => if x34 = true then (if 1 + x299001.size ≤ 9223372036854775807 then (some ((⟨#[65]⟩ : ByteArray) ++ x299001, true)) else (none)) else (if x299000 = 3 then (bursarref11_Name_p.j2 k (x299001.toList == ([] : List UInt8)) x299000 x299001) else (bursarref11_Name_p.j2 k false x299000 x299001))
def bursarref11_Name_p.j2 : Nat → Bool → Int → ByteArray → Option (ByteArray × Bool)
  | 0, _, _, _ => none
  | k + 1, x45, x299000, x299001 => if x45 = true then (some ((⟨#[72]⟩ : ByteArray), true)) else (if x299000 = 4 then (if x299001.toList = ([] : List UInt8) then (some ((⟨#[68]⟩ : ByteArray), true)) else (some ((⟨#[]⟩ : ByteArray), false))) else (some ((⟨#[]⟩ : ByteArray), false)))
end
def bursarref11_Name_p.f (k : Nat) (a0_0 : Int) (a0_1 : ByteArray) : Option (ByteArray × Bool) := if a0_0 = 1 then (if (a0_1.size : Int) = 16 then ((bursarref02_Sound.f a0_1).bind fun t299 => (bursarref11_Name_p.j0 k t299 a0_0 a0_1)) else (bursarref11_Name_p.j0 k false a0_0 a0_1)) else (bursarref11_Name_p.j0 k false a0_0 a0_1)
theorem bursarref11_Name_p.mono_l : ∀ k, (∀ y0 y1 y2, LeO (bursarref11_Name_p.j0 k y0 y1 y2) (bursarref11_Name_p.j0 (k + 1) y0 y1 y2)) ∧ (∀ y0 y1 y2, LeO (bursarref11_Name_p.j1 k y0 y1 y2) (bursarref11_Name_p.j1 (k + 1) y0 y1 y2)) ∧ (∀ y0 y1 y2, LeO (bursarref11_Name_p.j2 k y0 y1 y2) (bursarref11_Name_p.j2 (k + 1) y0 y1 y2))
  | 0 => ⟨fun _ _ _ r h => by simp [bursarref11_Name_p.j0] at h, fun _ _ _ r h => by simp [bursarref11_Name_p.j1] at h, fun _ _ _ r h => by simp [bursarref11_Name_p.j2] at h⟩
  | k + 1 => by
    obtain ⟨ih0, ih1, ih2⟩ := bursarref11_Name_p.mono_l k
    refine ⟨?_, ?_, ?_⟩
    · intro y0 y1 y2
      unfold bursarref11_Name_p.j0
      repeat' first
      | (with_reducible exact ih0 _ _ _)
      | (with_reducible exact ih1 _ _ _)
      | (with_reducible exact ih2 _ _ _)
      | (with_reducible exact LeO.refl _)
      | (with_reducible exact LeO.none _)
      | (with_reducible refine LeO.ite ?_ ?_)
      | (with_reducible refine LeO.bind ?_ (fun _ => ?_))
      | exact ih0 _ _ _
      | exact ih1 _ _ _
      | exact ih2 _ _ _
      | exact LeO.none _
      | refine LeO.ite ?_ ?_
      | refine LeO.bind ?_ (fun _ => ?_)
    · intro y0 y1 y2
      unfold bursarref11_Name_p.j1
      repeat' first
      | (with_reducible exact ih0 _ _ _)
      | (with_reducible exact ih1 _ _ _)
      | (with_reducible exact ih2 _ _ _)
      | (with_reducible exact LeO.refl _)
      | (with_reducible exact LeO.none _)
      | (with_reducible refine LeO.ite ?_ ?_)
      | (with_reducible refine LeO.bind ?_ (fun _ => ?_))
      | exact ih0 _ _ _
      | exact ih1 _ _ _
      | exact ih2 _ _ _
      | exact LeO.none _
      | refine LeO.ite ?_ ?_
      | refine LeO.bind ?_ (fun _ => ?_)
    · intro y0 y1 y2
      unfold bursarref11_Name_p.j2
      repeat' first
      | (with_reducible exact ih0 _ _ _)
      | (with_reducible exact ih1 _ _ _)
      | (with_reducible exact ih2 _ _ _)
      | (with_reducible exact LeO.refl _)
      | (with_reducible exact LeO.none _)
      | (with_reducible refine LeO.ite ?_ ?_)
      | (with_reducible refine LeO.bind ?_ (fun _ => ?_))
      | exact ih0 _ _ _
      | exact ih1 _ _ _
      | exact ih2 _ _ _
      | exact LeO.none _
      | refine LeO.ite ?_ ?_
      | refine LeO.bind ?_ (fun _ => ?_)
theorem bursarref11_Name_p.mono : ∀ a0 a1 k, LeO (bursarref11_Name_p.f k a0 a1) (bursarref11_Name_p.f (k + 1) a0 a1) := by
  intro a0 a1 k
  obtain ⟨ih0, ih1, ih2⟩ := bursarref11_Name_p.mono_l k
  unfold bursarref11_Name_p.f
  repeat' first
      | (with_reducible exact ih0 _ _ _)
      | (with_reducible exact ih1 _ _ _)
      | (with_reducible exact ih2 _ _ _)
      | (with_reducible exact LeO.refl _)
      | (with_reducible exact LeO.none _)
      | (with_reducible refine LeO.ite ?_ ?_)
      | (with_reducible refine LeO.bind ?_ (fun _ => ?_))
      | exact ih0 _ _ _
      | exact ih1 _ _ _
      | exact ih2 _ _ _
      | exact LeO.none _
      | refine LeO.ite ?_ ?_
      | refine LeO.bind ?_ (fun _ => ?_)
set_option maxHeartbeats 8000000 in
set_option maxRecDepth 100000 in
theorem bursarref11_Name_p.calls (k : Nat) (a0_0 : Int) (a0_1 : ByteArray) (r1 : ByteArray) (r2 : Bool) (w : World) (h : bursarref11_Name_p.f k a0_0 a0_1 = some (r1, r2)) :
    Calls Try.prog 45 #[.agg #[.int .i64 a0_0, .string a0_1]] w fun e w' => e = .returned (.tuple #[.string r1, .bool r2]) ∧ Below w.heap.size w w' := by
  have hu73 := Try.underlying73
  have HB := Aside0.mk (Below.refl w.heap.size w)
  have H : (if a0_0 = 1 then (if (a0_1.size : Int) = 16 then ((bursarref02_Sound.f a0_1).bind fun t299 => (bursarref11_Name_p.j0 k t299 a0_0 a0_1)) else (bursarref11_Name_p.j0 k false a0_0 a0_1)) else (bursarref11_Name_p.j0 k false a0_0 a0_1)) = some (r1, r2) := h
  clear h
  have HC2 := Aside0.mk H
  clear H
  go_enter Try.func45, Try.ntmps45
  go_upto_region 1 with (first | ((with_reducible refine gate_dst (N := 1) rfl ?_); (try (refine gate_guard (by rfl) ?_; dsimp only)); refine box_event ?hg (N := 1) ?hd (cs := #[.int .i64 a0_0, .string a0_1]) (t := 73) ?hr ?_; (case hd => rfl); (case hg => rfl); (case hr => first | (go_simp; done) | (go_simp; rfl)); intro gb298 hg w3 hbox hb; have n0_ := Aside0.mk (below_step (by repeat (first | (with_reducible first | exact HB.out | apply below_alloc | apply pw_below_drewN | apply below_drew1) | exact HB.out)) hb); have n1_ := Aside0.mk (hbox); have n2_ := Aside0.mk ((by rw [hg]; exact (below_size (by repeat (first | (with_reducible first | exact HB.out | apply below_alloc | apply pw_below_drewN | apply below_drew1) | exact HB.out))) : w.heap.size ≤ gb298)); have n3_ := Aside0.mk ((by rw [hg]; exact (below_size (by repeat (first | (with_reducible first | exact HB.out | apply below_alloc | apply pw_below_drewN | apply below_drew1) | exact HB.out))) : w.heap.size ≤ gb298)); clear HB; have HB := n0_; have BK298 := n1_; have GW298 := n2_; have GE298 := n3_; clear n0_ n1_ n2_ n3_; clear hb hbox hg))
  (try simp only [Act.put, List.setIfInBounds_toArray, List.set_cons_zero, List.set_cons_succ])
  go_cut [17] (fun v17 wc => ∃ (kq : Nat) (x17_1 : Bool), v17 = .bool x17_1 ∧ Aside0 (bursarref11_Name_p.j0 kq x17_1 a0_0 a0_1 = some (r1, r2)) ∧ Aside0 (kq ≤ k) ∧ Aside0 (wc.heap[gb298]? = some (.cells #[.int .i64 a0_0, .string a0_1] 73 (0, 0))) ∧ Aside0 (Below w.heap.size w wc))
  case first =>
    have H := HC2.out
    clear HC2
    by_cases c4 : a0_0 = 1
    · rw [if_pos c4] at H
      have c4b0 : (a0_0 == 1) = true := beq_iff_eq.mpr c4
      have c4b1 : (a0_0 != 1) = false := bne_eq_false_iff_eq.mpr c4
      clear c4
      (first | rw [c4b0] | (simp only [i64_w, i32_w]; rw [c4b0]) | skip)
      by_cases c5 : (a0_1.size : Int) = 16
      · rw [if_pos c5] at H
        have c5b0 : ((a0_1.size : Int) == 16) = true := beq_iff_eq.mpr c5
        have c5b1 : ((a0_1.size : Int) != 16) = false := bne_eq_false_iff_eq.mpr c5
        clear c5
        replace H := Option.bind_eq_some_iff.mp H
        obtain ⟨t299, A60, H⟩ := H
        replace H : (bursarref11_Name_p.j0 k t299 a0_0 a0_1) = some (r1, r2) := H
        have A6 := Aside0.mk A60
        clear A60
        have H' := Aside0.mk H
        clear H
        have hcz7_0 := blk_cell BK298.out
        have hfz7_0 := blk_frozen BK298.out
        go_wp2_with (first | (go_at_call 67; (with_reducible refine (bursarref02_Sound.calls a0_1 t299 _ A6.out).mono ?_); rintro e w' ⟨rfl, ⟨nd, rfl⟩⟩))
        go_meet
        case rel => exact ⟨_, (t299), (by first | rfl | (simp; done) | (simp [*]; done) | (simp [Pu.bne_nil, Pu.beq_nil]; done)), H', ⟨by first | omega | exact Nat.le_refl _⟩, ⟨by (with_reducible repeat (first | refine blk_drewN ?_ _ | refine blk_drew ?_ | refine blk_alloc ?_ _)); exact BK298.out⟩, ⟨by repeat (first | (with_reducible first | exact HB.out | apply below_alloc | apply pw_below_drewN | apply below_drew1 | refine below_set ?_ GE298.out) | exact HB.out)⟩⟩
      · rw [if_neg c5] at H
        have c5b0 : ((a0_1.size : Int) == 16) = false := beq_eq_false_iff_ne.mpr c5
        have c5b1 : ((a0_1.size : Int) != 16) = true := bne_iff_ne.mpr c5
        have H' := Aside0.mk H
        clear H
        have hcz8_0 := blk_cell BK298.out
        have hfz8_0 := blk_frozen BK298.out
        go_wp2
        go_meet
        case rel => exact ⟨_, (false), (by first | rfl | (simp; done) | (simp [*]; done) | (simp [Pu.bne_nil, Pu.beq_nil]; done)), H', ⟨by first | omega | exact Nat.le_refl _⟩, ⟨by (with_reducible repeat (first | refine blk_drewN ?_ _ | refine blk_drew ?_ | refine blk_alloc ?_ _)); exact BK298.out⟩, ⟨by repeat (first | (with_reducible first | exact HB.out | apply below_alloc | apply pw_below_drewN | apply below_drew1 | refine below_set ?_ GE298.out) | exact HB.out)⟩⟩
    · rw [if_neg c4] at H
      have c4b0 : (a0_0 == 1) = false := beq_eq_false_iff_ne.mpr c4
      have c4b1 : (a0_0 != 1) = true := bne_iff_ne.mpr c4
      (first | rw [c4b0] | (simp only [i64_w, i32_w]; rw [c4b0]) | skip)
      have H' := Aside0.mk H
      clear H
      have hcz9_0 := blk_cell BK298.out
      have hfz9_0 := blk_frozen BK298.out
      go_wp2
      go_meet
      case rel => exact ⟨_, (false), (by first | rfl | (simp; done) | (simp [*]; done) | (simp [Pu.bne_nil, Pu.beq_nil]; done)), H', ⟨by first | omega | exact Nat.le_refl _⟩, ⟨by (with_reducible repeat (first | refine blk_drewN ?_ _ | refine blk_drew ?_ | refine blk_alloc ?_ _)); exact BK298.out⟩, ⟨by repeat (first | (with_reducible first | exact HB.out | apply below_alloc | apply pw_below_drewN | apply below_drew1 | refine below_set ?_ GE298.out) | exact HB.out)⟩⟩
  case rest =>
    clear HC2
    try clear p2
    try clear c4
    try clear c4b0
    try clear c4b1
    try clear c5
    try clear c5b0
    try clear c5b1
    try clear hcz7_0
    try clear hcz8_0
    try clear hcz9_0
    try clear hfz7_0
    try clear hfz8_0
    try clear hfz9_0
    obtain ⟨kq, x17_1, rfl, HA, HJ1, BK298, HB⟩ := hcut
    cases kq with
    | zero => exact absurd HA.out (by simp [bursarref11_Name_p.j0])
    | succ kj1 =>
      have H := HA.out
      clear HA
      simp only [bursarref11_Name_p.j0] at H
      by_cases c10 : x17_1 = true
      · subst c10
        have H1 : (if 1 + a0_1.size ≤ 9223372036854775807 then (some ((⟨#[67]⟩ : ByteArray) ++ a0_1, true)) else (none)) = some (r1, r2) := by rw [if_pos rfl] at H; exact H
        clear H
        have H := H1
        clear H1
        by_cases c11 : 1 + a0_1.size ≤ 9223372036854775807
        · rw [if_pos c11] at H
          have c11b0 := eq_true c11
          have c11b1 : decide (1 + a0_1.size ≤ 9223372036854775807) = true := decide_eq_true c11
          try have c11b2 : (9223372036854775807 < 1 + a0_1.size) = False := eq_false (Nat.not_lt.2 c11)
          simp only [Option.some.injEq, Prod.mk.injEq] at H
          obtain ⟨rfl, rfl⟩ := H
          have hcz12_0 := blk_cell BK298.out
          have hfz12_0 := blk_frozen BK298.out
          go_wp2
          go_ret2
          exact ⟨by first | rfl | (simp [errW_none, errW_some] <;> rfl) | (simp [*, errW_none, errW_some] <;> rfl), by repeat (first | (with_reducible first | exact HB.out | apply below_alloc | apply pw_below_drewN | apply below_drew1 | refine below_set ?_ GE298.out) | exact HB.out)⟩
        · rw [if_neg c11] at H
          exact absurd H (by simp)
      · replace c10 := Bool.eq_false_iff.mpr c10
        subst c10
        have H1 : (if a0_0 = 2 then (if (a0_1.size : Int) = 6 then ((bursarref02_All.f a0_1).bind fun t300 => (bursarref11_Name_p.j1 kj1 t300 a0_0 a0_1)) else (bursarref11_Name_p.j1 kj1 false a0_0 a0_1)) else (bursarref11_Name_p.j1 kj1 false a0_0 a0_1)) = some (r1, r2) := by rw [if_neg (show ¬ (false = true) by decide)] at H; exact H
        clear H
        have H := H1
        clear H1
        have HC13 := Aside0.mk H
        clear H
        go_upto_region 3 with (fail)
        go_cut [34] (fun v34 wc => ∃ (kq : Nat) (x34_12 : Bool), v34 = .bool x34_12 ∧ Aside0 (bursarref11_Name_p.j1 kq x34_12 a0_0 a0_1 = some (r1, r2)) ∧ Aside0 (kq ≤ kj1) ∧ Aside0 (wc.heap[gb298]? = some (.cells #[.int .i64 a0_0, .string a0_1] 73 (0, 0))) ∧ Aside0 (Below w.heap.size w wc))
        case first =>
          have H := HC13.out
          clear HC13
          by_cases c14 : a0_0 = 2
          · rw [if_pos c14] at H
            have c14b0 : (a0_0 == 2) = true := beq_iff_eq.mpr c14
            have c14b1 : (a0_0 != 2) = false := bne_eq_false_iff_eq.mpr c14
            clear c14
            (first | rw [c14b0] | (simp only [i64_w, i32_w]; rw [c14b0]) | skip)
            by_cases c15 : (a0_1.size : Int) = 6
            · rw [if_pos c15] at H
              have c15b0 : ((a0_1.size : Int) == 6) = true := beq_iff_eq.mpr c15
              have c15b1 : ((a0_1.size : Int) != 6) = false := bne_eq_false_iff_eq.mpr c15
              clear c15
              replace H := Option.bind_eq_some_iff.mp H
              obtain ⟨t300, A160, H⟩ := H
              replace H : (bursarref11_Name_p.j1 kj1 t300 a0_0 a0_1) = some (r1, r2) := H
              have A16 := Aside0.mk A160
              clear A160
              have H' := Aside0.mk H
              clear H
              have hcz17_0 := blk_cell BK298.out
              have hfz17_0 := blk_frozen BK298.out
              go_wp2_with (first | (go_at_call 68; (with_reducible refine (bursarref02_All.calls a0_1 t300 _ A16.out).mono ?_); rintro e w' ⟨rfl, ⟨nd, rfl⟩⟩))
              go_meet
              case rel => exact ⟨_, (t300), (by first | rfl | (simp; done) | (simp [*]; done) | (simp [Pu.bne_nil, Pu.beq_nil]; done)), H', ⟨by have := HJ1.out; first | omega | exact Nat.le_refl _⟩, ⟨by (with_reducible repeat (first | refine blk_drewN ?_ _ | refine blk_drew ?_ | refine blk_alloc ?_ _)); exact BK298.out⟩, ⟨by repeat (first | (with_reducible first | exact HB.out | apply below_alloc | apply pw_below_drewN | apply below_drew1 | refine below_set ?_ GE298.out) | exact HB.out)⟩⟩
            · rw [if_neg c15] at H
              have c15b0 : ((a0_1.size : Int) == 6) = false := beq_eq_false_iff_ne.mpr c15
              have c15b1 : ((a0_1.size : Int) != 6) = true := bne_iff_ne.mpr c15
              have H' := Aside0.mk H
              clear H
              have hcz18_0 := blk_cell BK298.out
              have hfz18_0 := blk_frozen BK298.out
              go_wp2
              go_meet
              case rel => exact ⟨_, (false), (by first | rfl | (simp; done) | (simp [*]; done) | (simp [Pu.bne_nil, Pu.beq_nil]; done)), H', ⟨by have := HJ1.out; first | omega | exact Nat.le_refl _⟩, ⟨by (with_reducible repeat (first | refine blk_drewN ?_ _ | refine blk_drew ?_ | refine blk_alloc ?_ _)); exact BK298.out⟩, ⟨by repeat (first | (with_reducible first | exact HB.out | apply below_alloc | apply pw_below_drewN | apply below_drew1 | refine below_set ?_ GE298.out) | exact HB.out)⟩⟩
          · rw [if_neg c14] at H
            have c14b0 : (a0_0 == 2) = false := beq_eq_false_iff_ne.mpr c14
            have c14b1 : (a0_0 != 2) = true := bne_iff_ne.mpr c14
            (first | rw [c14b0] | (simp only [i64_w, i32_w]; rw [c14b0]) | skip)
            have H' := Aside0.mk H
            clear H
            have hcz19_0 := blk_cell BK298.out
            have hfz19_0 := blk_frozen BK298.out
            go_wp2
            go_meet
            case rel => exact ⟨_, (false), (by first | rfl | (simp; done) | (simp [*]; done) | (simp [Pu.bne_nil, Pu.beq_nil]; done)), H', ⟨by have := HJ1.out; first | omega | exact Nat.le_refl _⟩, ⟨by (with_reducible repeat (first | refine blk_drewN ?_ _ | refine blk_drew ?_ | refine blk_alloc ?_ _)); exact BK298.out⟩, ⟨by repeat (first | (with_reducible first | exact HB.out | apply below_alloc | apply pw_below_drewN | apply below_drew1 | refine below_set ?_ GE298.out) | exact HB.out)⟩⟩
        case rest =>
          clear HC13
          try clear c1
          try clear p2
          try clear c4
          try clear c4b0
          try clear c4b1
          try clear c5
          try clear c5b0
          try clear c5b1
          try clear c10
          try clear c11
          try clear c11b0
          try clear c11b1
          try clear c11b2
          try clear c14
          try clear c14b0
          try clear c14b1
          try clear c15
          try clear c15b0
          try clear c15b1
          try clear hcz12_0
          try clear hcz17_0
          try clear hcz18_0
          try clear hcz19_0
          try clear hcz7_0
          try clear hcz8_0
          try clear hcz9_0
          try clear hfz12_0
          try clear hfz17_0
          try clear hfz18_0
          try clear hfz19_0
          try clear hfz7_0
          try clear hfz8_0
          try clear hfz9_0
          try clear p2
          obtain ⟨kq, x34_12, rfl, HA, HJ12, BK298, HB⟩ := hcut
          cases kq with
          | zero => exact absurd HA.out (by simp [bursarref11_Name_p.j1])
          | succ kj12 =>
            have H := HA.out
            clear HA
            simp only [bursarref11_Name_p.j1] at H
            by_cases c20 : x34_12 = true
            · subst c20
              have H1 : (if 1 + a0_1.size ≤ 9223372036854775807 then (some ((⟨#[65]⟩ : ByteArray) ++ a0_1, true)) else (none)) = some (r1, r2) := by rw [if_pos rfl] at H; exact H
              clear H
              have H := H1
              clear H1
              by_cases c21 : 1 + a0_1.size ≤ 9223372036854775807
              · rw [if_pos c21] at H
                have c21b0 := eq_true c21
                have c21b1 : decide (1 + a0_1.size ≤ 9223372036854775807) = true := decide_eq_true c21
                try have c21b2 : (9223372036854775807 < 1 + a0_1.size) = False := eq_false (Nat.not_lt.2 c21)
                simp only [Option.some.injEq, Prod.mk.injEq] at H
                obtain ⟨rfl, rfl⟩ := H
                have hcz22_0 := blk_cell BK298.out
                have hfz22_0 := blk_frozen BK298.out
                go_wp2
                go_ret2
                exact ⟨by first | rfl | (simp [errW_none, errW_some] <;> rfl) | (simp [*, errW_none, errW_some] <;> rfl), by repeat (first | (with_reducible first | exact HB.out | apply below_alloc | apply pw_below_drewN | apply below_drew1 | refine below_set ?_ GE298.out) | exact HB.out)⟩
              · rw [if_neg c21] at H
                exact absurd H (by simp)
            · replace c20 := Bool.eq_false_iff.mpr c20
              subst c20
              have H1 : (if a0_0 = 3 then (bursarref11_Name_p.j2 kj12 (a0_1.toList == ([] : List UInt8)) a0_0 a0_1) else (bursarref11_Name_p.j2 kj12 false a0_0 a0_1)) = some (r1, r2) := by rw [if_neg (show ¬ (false = true) by decide)] at H; exact H
              clear H
              have H := H1
              clear H1
              have HC23 := Aside0.mk H
              clear H
              go_upto_region 5 with (fail)
              go_cut [45] (fun v45 wc => ∃ (kq : Nat) (x45_22 : Bool), v45 = .bool x45_22 ∧ Aside0 (bursarref11_Name_p.j2 kq x45_22 a0_0 a0_1 = some (r1, r2)) ∧ Aside0 (kq ≤ kj12) ∧ Aside0 (wc.heap[gb298]? = some (.cells #[.int .i64 a0_0, .string a0_1] 73 (0, 0))) ∧ Aside0 (Below w.heap.size w wc))
              case first =>
                have H := HC23.out
                clear HC23
                by_cases c24 : a0_0 = 3
                · rw [if_pos c24] at H
                  have c24b0 : (a0_0 == 3) = true := beq_iff_eq.mpr c24
                  have c24b1 : (a0_0 != 3) = false := bne_eq_false_iff_eq.mpr c24
                  clear c24
                  (first | rw [c24b0] | (simp only [i64_w, i32_w]; rw [c24b0]) | skip)
                  have H' := Aside0.mk H
                  clear H
                  have hcz25_0 := blk_cell BK298.out
                  have hfz25_0 := blk_frozen BK298.out
                  go_wp2
                  go_meet
                  case rel => exact ⟨_, ((a0_1.toList == ([] : List UInt8))), (by first | rfl | (simp; done) | (simp [*]; done) | (simp [Pu.bne_nil, Pu.beq_nil]; done)), H', ⟨by have := HJ1.out; have := HJ12.out; first | omega | exact Nat.le_refl _⟩, ⟨by (with_reducible repeat (first | refine blk_drewN ?_ _ | refine blk_drew ?_ | refine blk_alloc ?_ _)); exact BK298.out⟩, ⟨by repeat (first | (with_reducible first | exact HB.out | apply below_alloc | apply pw_below_drewN | apply below_drew1 | refine below_set ?_ GE298.out) | exact HB.out)⟩⟩
                · rw [if_neg c24] at H
                  have c24b0 : (a0_0 == 3) = false := beq_eq_false_iff_ne.mpr c24
                  have c24b1 : (a0_0 != 3) = true := bne_iff_ne.mpr c24
                  (first | rw [c24b0] | (simp only [i64_w, i32_w]; rw [c24b0]) | skip)
                  have H' := Aside0.mk H
                  clear H
                  have hcz26_0 := blk_cell BK298.out
                  have hfz26_0 := blk_frozen BK298.out
                  go_wp2
                  go_meet
                  case rel => exact ⟨_, (false), (by first | rfl | (simp; done) | (simp [*]; done) | (simp [Pu.bne_nil, Pu.beq_nil]; done)), H', ⟨by have := HJ1.out; have := HJ12.out; first | omega | exact Nat.le_refl _⟩, ⟨by (with_reducible repeat (first | refine blk_drewN ?_ _ | refine blk_drew ?_ | refine blk_alloc ?_ _)); exact BK298.out⟩, ⟨by repeat (first | (with_reducible first | exact HB.out | apply below_alloc | apply pw_below_drewN | apply below_drew1 | refine below_set ?_ GE298.out) | exact HB.out)⟩⟩
              case rest =>
                clear HC23
                try clear c1
                try clear c2
                try clear p2
                try clear c4
                try clear c4b0
                try clear c4b1
                try clear c5
                try clear c5b0
                try clear c5b1
                try clear c10
                try clear c11
                try clear c11b0
                try clear c11b1
                try clear c11b2
                try clear c14
                try clear c14b0
                try clear c14b1
                try clear c15
                try clear c15b0
                try clear c15b1
                try clear c20
                try clear c21
                try clear c21b0
                try clear c21b1
                try clear c21b2
                try clear c24
                try clear c24b0
                try clear c24b1
                try clear hcz12_0
                try clear hcz17_0
                try clear hcz18_0
                try clear hcz19_0
                try clear hcz22_0
                try clear hcz25_0
                try clear hcz26_0
                try clear hcz7_0
                try clear hcz8_0
                try clear hcz9_0
                try clear hfz12_0
                try clear hfz17_0
                try clear hfz18_0
                try clear hfz19_0
                try clear hfz22_0
                try clear hfz25_0
                try clear hfz26_0
                try clear hfz7_0
                try clear hfz8_0
                try clear hfz9_0
                try clear p2
                obtain ⟨kq, x45_22, rfl, HA, HJ22, BK298, HB⟩ := hcut
                cases kq with
                | zero => exact absurd HA.out (by simp [bursarref11_Name_p.j2])
                | succ kj22 =>
                  have H := HA.out
                  clear HA
                  simp only [bursarref11_Name_p.j2] at H
                  by_cases c27 : x45_22 = true
                  · subst c27
                    have H1 : (some ((⟨#[72]⟩ : ByteArray), true)) = some (r1, r2) := by rw [if_pos rfl] at H; exact H
                    clear H
                    have H := H1
                    clear H1
                    simp only [Option.some.injEq, Prod.mk.injEq] at H
                    obtain ⟨rfl, rfl⟩ := H
                    go_wp2
                    go_ret2
                    exact ⟨by first | rfl | (simp [errW_none, errW_some] <;> rfl) | (simp [*, errW_none, errW_some] <;> rfl), by repeat (first | (with_reducible first | exact HB.out | apply below_alloc | apply pw_below_drewN | apply below_drew1 | refine below_set ?_ GE298.out) | exact HB.out)⟩
                  · replace c27 := Bool.eq_false_iff.mpr c27
                    subst c27
                    have H1 : (if a0_0 = 4 then (if a0_1.toList = ([] : List UInt8) then (some ((⟨#[68]⟩ : ByteArray), true)) else (some ((⟨#[]⟩ : ByteArray), false))) else (some ((⟨#[]⟩ : ByteArray), false))) = some (r1, r2) := by rw [if_neg (show ¬ (false = true) by decide)] at H; exact H
                    clear H
                    have H := H1
                    clear H1
                    by_cases c28 : a0_0 = 4
                    · rw [if_pos c28] at H
                      have c28b0 : (a0_0 == 4) = true := beq_iff_eq.mpr c28
                      have c28b1 : (a0_0 != 4) = false := bne_eq_false_iff_eq.mpr c28
                      clear c28
                      by_cases c29 : a0_1.toList = ([] : List UInt8)
                      · rw [if_pos c29] at H
                        have c29b0 : (a0_1.toList == ([] : List UInt8)) = true := beq_iff_eq.mpr c29
                        have c29b1 : (a0_1.toList != ([] : List UInt8)) = false := bne_eq_false_iff_eq.mpr c29
                        clear c29
                        simp only [Option.some.injEq, Prod.mk.injEq] at H
                        obtain ⟨rfl, rfl⟩ := H
                        have hcz30_0 := blk_cell BK298.out
                        have hfz30_0 := blk_frozen BK298.out
                        go_wp2
                        go_ret2
                        exact ⟨by first | rfl | (simp [errW_none, errW_some] <;> rfl) | (simp [*, errW_none, errW_some] <;> rfl), by repeat (first | (with_reducible first | exact HB.out | apply below_alloc | apply pw_below_drewN | apply below_drew1 | refine below_set ?_ GE298.out) | exact HB.out)⟩
                      · rw [if_neg c29] at H
                        have c29b0 : (a0_1.toList == ([] : List UInt8)) = false := beq_eq_false_iff_ne.mpr c29
                        have c29b1 : (a0_1.toList != ([] : List UInt8)) = true := bne_iff_ne.mpr c29
                        simp only [Option.some.injEq, Prod.mk.injEq] at H
                        obtain ⟨rfl, rfl⟩ := H
                        have hcz31_0 := blk_cell BK298.out
                        have hfz31_0 := blk_frozen BK298.out
                        go_wp2
                        go_ret2
                        exact ⟨by first | rfl | (simp [errW_none, errW_some] <;> rfl) | (simp [*, errW_none, errW_some] <;> rfl), by repeat (first | (with_reducible first | exact HB.out | apply below_alloc | apply pw_below_drewN | apply below_drew1 | refine below_set ?_ GE298.out) | exact HB.out)⟩
                    · rw [if_neg c28] at H
                      have c28b0 : (a0_0 == 4) = false := beq_eq_false_iff_ne.mpr c28
                      have c28b1 : (a0_0 != 4) = true := bne_iff_ne.mpr c28
                      simp only [Option.some.injEq, Prod.mk.injEq] at H
                      obtain ⟨rfl, rfl⟩ := H
                      have hcz32_0 := blk_cell BK298.out
                      have hfz32_0 := blk_frozen BK298.out
                      go_wp2
                      go_ret2
                      exact ⟨by first | rfl | (simp [errW_none, errW_some] <;> rfl) | (simp [*, errW_none, errW_some] <;> rfl), by repeat (first | (with_reducible first | exact HB.out | apply below_alloc | apply pw_below_drewN | apply below_drew1 | refine below_set ?_ GE298.out) | exact HB.out)⟩

end Go.Proofs.Ytddlmcaclbkopaa.XDX
