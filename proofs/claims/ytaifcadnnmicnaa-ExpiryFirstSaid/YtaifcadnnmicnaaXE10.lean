-- Written by wip/xprint.py, a session's program: printed out of the translation, with hand-written functions. Lean checks it.
import Derived.Test.YtaifcadnnmicnaaXE0
namespace Go.Proofs.Ytaifcadnnmicnaa.XE
open Go.RowKit Go.Proofs.YtaifcadnnmicnaaW.PrintWords Go.Proofs.YtaifcadnnmicnaaW.PrintLast Go.Proofs.YtaifcadnnmicnaaW.PrintMore
attribute [local go_sem] max2_int min2_int max_two min_two max_three min_three max_four min_four   -- for this text's walks alone
set_option linter.unusedVariables false
set_option linter.unusedSimpArgs false

/-! ### hold_Ref_p: function 39 -/
mutual
def hold_Ref_p.l0 : Nat → ByteArray → Int → Int → Option (Bool)
  | 0, _, _, _ => none
  | k + 1, x0, x6, x7 => if x7 < x6 then (if 0 ≤ x7 then (if x7 < (x0.size : Int) then (if (bt x0 x7) < 48 then (if (bt x0 x7) < 65 then (hold_Ref_p.j1 k x0 x6 x7 true) else (hold_Ref_p.j1 k x0 x6 x7 (decide ((bt x0 x7) > 90)))) else (if (bt x0 x7) > 57 then (if (bt x0 x7) < 65 then (hold_Ref_p.j1 k x0 x6 x7 true) else (hold_Ref_p.j1 k x0 x6 x7 (decide ((bt x0 x7) > 90)))) else (hold_Ref_p.j1 k x0 x6 x7 false))) else (none)) else (none)) else (some ((x0.size : Int) == 12))
def hold_Ref_p.j1 : Nat → ByteArray → Int → Int → Bool → Option (Bool)
  | 0, _, _, _, _ => none
  | k + 1, x0, x6, x7, x26 => if x26 = true then (some false) else (hold_Ref_p.l0 k x0 x6 (wrap64 (x7 + 1)))
end
def hold_Ref_p.f (k : Nat) (a0 : ByteArray) : Option (Bool) := hold_Ref_p.l0 k a0 (a0.size : Int) 0
theorem hold_Ref_p.mono_l : ∀ k, (∀ y0 y1 y2, LeO (hold_Ref_p.l0 k y0 y1 y2) (hold_Ref_p.l0 (k + 1) y0 y1 y2)) ∧ (∀ y0 y1 y2 y3, LeO (hold_Ref_p.j1 k y0 y1 y2 y3) (hold_Ref_p.j1 (k + 1) y0 y1 y2 y3))
  | 0 => ⟨fun _ _ _ r h => by simp [hold_Ref_p.l0] at h, fun _ _ _ _ r h => by simp [hold_Ref_p.j1] at h⟩
  | k + 1 => by
    obtain ⟨ih0, ih1⟩ := hold_Ref_p.mono_l k
    refine ⟨?_, ?_⟩
    · intro y0 y1 y2
      unfold hold_Ref_p.l0
      repeat' first
      | (with_reducible exact ih0 _ _ _)
      | (with_reducible exact ih1 _ _ _ _)
      | (with_reducible exact LeO.refl _)
      | (with_reducible exact LeO.none _)
      | (with_reducible refine LeO.ite ?_ ?_)
      | (with_reducible refine LeO.bind ?_ (fun _ => ?_))
      | exact ih0 _ _ _
      | exact ih1 _ _ _ _
      | exact LeO.none _
      | refine LeO.ite ?_ ?_
      | refine LeO.bind ?_ (fun _ => ?_)
    · intro y0 y1 y2 y3
      unfold hold_Ref_p.j1
      repeat' first
      | (with_reducible exact ih0 _ _ _)
      | (with_reducible exact ih1 _ _ _ _)
      | (with_reducible exact LeO.refl _)
      | (with_reducible exact LeO.none _)
      | (with_reducible refine LeO.ite ?_ ?_)
      | (with_reducible refine LeO.bind ?_ (fun _ => ?_))
      | exact ih0 _ _ _
      | exact ih1 _ _ _ _
      | exact LeO.none _
      | refine LeO.ite ?_ ?_
      | refine LeO.bind ?_ (fun _ => ?_)
theorem hold_Ref_p.mono : ∀ a0 k, LeO (hold_Ref_p.f k a0) (hold_Ref_p.f (k + 1) a0) := by
  intro a0 k
  obtain ⟨ih0, ih1⟩ := hold_Ref_p.mono_l k
  unfold hold_Ref_p.f
  repeat' first
      | (with_reducible exact ih0 _ _ _)
      | (with_reducible exact ih1 _ _ _ _)
      | (with_reducible exact LeO.refl _)
      | (with_reducible exact LeO.none _)
      | (with_reducible refine LeO.ite ?_ ?_)
      | (with_reducible refine LeO.bind ?_ (fun _ => ?_))
      | exact ih0 _ _ _
      | exact ih1 _ _ _ _
      | exact LeO.none _
      | refine LeO.ite ?_ ?_
      | refine LeO.bind ?_ (fun _ => ?_)
set_option maxHeartbeats 8000000 in
set_option maxRecDepth 100000 in
theorem hold_Ref_p.calls (k : Nat) (a0 : ByteArray) (r : Bool) (w : World) (h : hold_Ref_p.f k a0 = some r) :
    Calls Try.prog 39 #[.string a0] w fun e w' => e = .returned (.bool r) ∧ Drawn0 w w' := by
  have H : (hold_Ref_p.l0 k a0 (a0.size : Int) 0) = some r := h
  clear h
  have H' := Aside0.mk H
  clear H
  go_enter Try.func39, Try.ntmps39
  go_wp2
  go_loopg [7] k (fun kq v7 w' => ∃ (x7_1 : Int), v7 = .int .i64 x7_1 ∧ Aside0 (hold_Ref_p.l0 kq a0 (a0.size : Int) x7_1 = some r) ∧ Aside0 (kq ≤ k) ∧ Drawn0 w w')
  case atStart => exact ⟨(0), (by first | rfl | (simp; done) | (simp [*]; done) | (simp [Pu.bne_nil, Pu.beq_nil]; done)), H', ⟨Nat.le_refl _⟩, by repeat (first | exact Drawn0.refl _ | apply Drawn0.step)⟩
  case round =>
    clear H'
    obtain ⟨x7_1, rfl, HA, HK1, ⟨m1, rfl⟩⟩ := hrel
    cases gk with
    | zero => exact absurd HA.out (by simp [hold_Ref_p.l0])
    | succ k1 =>
      have H := HA.out
      clear HA
      simp only [hold_Ref_p.l0] at H
      by_cases c2 : x7_1 < (a0.size : Int)
      · rw [if_pos c2] at H
        have c2b0 : decide (x7_1 < (a0.size : Int)) = true := decide_eq_true c2
        clear c2
        by_cases c3 : 0 ≤ x7_1
        · rw [if_pos c3] at H
          have c3b0 : decide (0 ≤ x7_1) = true := decide_eq_true c3
          clear c3
          by_cases c4 : x7_1 < (a0.size : Int)
          · rw [if_pos c4] at H
            have c4b0 : decide (x7_1 < (a0.size : Int)) = true := decide_eq_true c4
            clear c4
            have HC6 := Aside0.mk H
            clear H
            have p5 : 0 ≤ (x7_1 : Int) := of_decide_eq_true (by first | (with_reducible assumption) | assumption)
            have q5 : x7_1 < (a0.size : Int) := of_decide_eq_true (by first | (with_reducible assumption) | assumption)
            have hx5 := bt_at a0 x7_1
            replace p5 := eq_true p5
            replace q5 := eq_true q5
            go_upto_region 5 with (fail)
            go_cut [26] (fun v26 wc => ∃ (kq : Nat) (x26_5 : Bool), v26 = .bool x26_5 ∧ Aside0 (hold_Ref_p.j1 kq a0 (a0.size : Int) x7_1 x26_5 = some r) ∧ Aside0 (kq ≤ k1) ∧ Drawn0 w wc)
            case first =>
              have H := HC6.out
              clear HC6
              by_cases c7 : (bt a0 x7_1) < 48
              · rw [if_pos c7] at H
                have c7b0 : decide ((bt a0 x7_1) < 48) = true := decide_eq_true c7
                clear c7
                (first | rw [c7b0] | (simp only [i64_w, i32_w]; rw [c7b0]) | skip)
                by_cases c8 : (bt a0 x7_1) < 65
                · rw [if_pos c8] at H
                  have c8b0 : decide ((bt a0 x7_1) < 65) = true := decide_eq_true c8
                  clear c8
                  have H' := Aside0.mk H
                  clear H
                  go_wp2
                  go_meet
                  case rel => exact ⟨_, (true), (by first | rfl | (simp; done) | (simp [*]; done) | (simp [Pu.bne_nil, Pu.beq_nil]; done)), H', ⟨by have := HK1.out; first | omega | exact Nat.le_refl _⟩, by repeat (first | exact Drawn0.refl _ | apply Drawn0.step)⟩
                · rw [if_neg c8] at H
                  have c8b0 : decide ((bt a0 x7_1) < 65) = false := decide_eq_false c8
                  clear c8
                  have H' := Aside0.mk H
                  clear H
                  go_wp2
                  go_meet
                  case rel => exact ⟨_, (decide ((bt a0 x7_1) > 90)), (by first | rfl | (simp; done) | (simp [*]; done) | (simp [Pu.bne_nil, Pu.beq_nil]; done)), H', ⟨by have := HK1.out; first | omega | exact Nat.le_refl _⟩, by repeat (first | exact Drawn0.refl _ | apply Drawn0.step)⟩
              · rw [if_neg c7] at H
                have c7b0 : decide ((bt a0 x7_1) < 48) = false := decide_eq_false c7
                clear c7
                (first | rw [c7b0] | (simp only [i64_w, i32_w]; rw [c7b0]) | skip)
                by_cases c9 : (bt a0 x7_1) > 57
                · rw [if_pos c9] at H
                  have c9b0 : decide (57 < (bt a0 x7_1)) = true := decide_eq_true c9
                  clear c9
                  by_cases c10 : (bt a0 x7_1) < 65
                  · rw [if_pos c10] at H
                    have c10b0 : decide ((bt a0 x7_1) < 65) = true := decide_eq_true c10
                    clear c10
                    have H' := Aside0.mk H
                    clear H
                    go_wp2
                    go_meet
                    case rel => exact ⟨_, (true), (by first | rfl | (simp; done) | (simp [*]; done) | (simp [Pu.bne_nil, Pu.beq_nil]; done)), H', ⟨by have := HK1.out; first | omega | exact Nat.le_refl _⟩, by repeat (first | exact Drawn0.refl _ | apply Drawn0.step)⟩
                  · rw [if_neg c10] at H
                    have c10b0 : decide ((bt a0 x7_1) < 65) = false := decide_eq_false c10
                    clear c10
                    have H' := Aside0.mk H
                    clear H
                    go_wp2
                    go_meet
                    case rel => exact ⟨_, (decide ((bt a0 x7_1) > 90)), (by first | rfl | (simp; done) | (simp [*]; done) | (simp [Pu.bne_nil, Pu.beq_nil]; done)), H', ⟨by have := HK1.out; first | omega | exact Nat.le_refl _⟩, by repeat (first | exact Drawn0.refl _ | apply Drawn0.step)⟩
                · rw [if_neg c9] at H
                  have c9b0 : decide (57 < (bt a0 x7_1)) = false := decide_eq_false c9
                  clear c9
                  have H' := Aside0.mk H
                  clear H
                  go_wp2
                  go_meet
                  case rel => exact ⟨_, (false), (by first | rfl | (simp; done) | (simp [*]; done) | (simp [Pu.bne_nil, Pu.beq_nil]; done)), H', ⟨by have := HK1.out; first | omega | exact Nat.le_refl _⟩, by repeat (first | exact Drawn0.refl _ | apply Drawn0.step)⟩
            case rest =>
              clear HC6
              try clear c1
              try clear c2
              try clear c2b0
              try clear p2
              try clear c3
              try clear c3b0
              try clear c4
              try clear c4b0
              try clear p5
              try clear q5
              try clear hx5
              try clear c7
              try clear c7b0
              try clear c8
              try clear c8b0
              try clear c9
              try clear c9b0
              try clear c10
              try clear c10b0
              try clear p5
              try clear q5
              obtain ⟨kq, x26_5, rfl, HA, HJ5, ⟨mc5, rfl⟩⟩ := hcut
              cases kq with
              | zero => exact absurd HA.out (by simp [hold_Ref_p.j1])
              | succ kj5 =>
                have H := HA.out
                clear HA
                simp only [hold_Ref_p.j1] at H
                by_cases c11 : x26_5 = true
                · subst c11
                  have H1 : (some false) = some r := by rw [if_pos rfl] at H; exact H
                  clear H
                  have H := H1
                  clear H1
                  obtain rfl := Option.some.inj H
                  go_wp2
                  go_ret
                  exact ⟨by first | rfl | (simp; done) | (simp [*]; done), by repeat (first | exact Drawn0.refl _ | apply Drawn0.step)⟩
                · replace c11 := Bool.eq_false_iff.mpr c11
                  subst c11
                  have H1 : (hold_Ref_p.l0 kj5 a0 (a0.size : Int) (wrap64 (x7_1 + 1))) = some r := by rw [if_neg (show ¬ (false = true) by decide)] at H; exact H
                  clear H
                  have H := H1
                  clear H1
                  have H' := Aside0.mk H
                  clear H
                  go_wp2
                  go_roundg kj5
                  case measure => have := HK1.out; have := HJ5.out; omega
                  case rel => exact ⟨(wrap64 (x7_1 + 1)), (by first | rfl | (simp; done) | (simp [*]; done) | (simp [Pu.bne_nil, Pu.beq_nil]; done)), H', ⟨by have := HK1.out; have := HJ5.out; omega⟩, by repeat (first | exact Drawn0.refl _ | apply Drawn0.step)⟩
          · rw [if_neg c4] at H
            exact absurd H (by simp)
        · rw [if_neg c3] at H
          exact absurd H (by simp)
      · rw [if_neg c2] at H
        have c2b0 : decide (x7_1 < (a0.size : Int)) = false := decide_eq_false c2
        clear c2
        obtain rfl := Option.some.inj H
        go_wp2
        go_ret
        exact ⟨by first | rfl | (simp; done) | (simp [*]; done), by repeat (first | exact Drawn0.refl _ | apply Drawn0.step)⟩

/-! #### hold_Ref, refined -/
theorem hold_Ref_l (s : ByteArray) (hs : s.size ≤ 4096) : ∀ (d i k : Nat), i + d = s.size → 2 * d < k → hold_Ref_p.l0 k s (s.size : Int) (i : Int) = some (((Pu.bs s).drop i).all Pu.alnum && decide (s.size = 12)) := by
  intro d
  induction d with
  | zero =>
    intro i k hi hk
    obtain ⟨k, rfl⟩ : ∃ m, k = m + 1 := ⟨k - 1, by omega⟩
    obtain rfl : i = s.size := by omega
    simp only [hold_Ref_p.l0]
    rw [if_neg (by omega), Pu.bs_drop_all, List.all_nil, Bool.true_and]
    congr 1
    rw [Bool.eq_iff_iff, beq_iff_eq, decide_eq_true_iff]; omega
  | succ d ih =>
    intro i k hi hk
    obtain ⟨k, rfl⟩ : ∃ m, k = m + 2 := ⟨k - 2, by omega⟩
    have hj : ∀ b : Bool, hold_Ref_p.j1 (k + 1) s (s.size : Int) i b = if b = true then some false else some (((Pu.bs s).drop (i + 1)).all Pu.alnum && decide (s.size = 12)) := fun b => by
      simp only [hold_Ref_p.j1]
      cases b with
      | true => rfl
      | false =>
        rw [if_neg (by decide), if_neg (by decide), Pu.wrap_small (by omega) (by omega)]
        exact ih (i + 1) k (by omega) (by omega)
    simp only [hold_Ref_p.l0]
    rw [if_pos (by omega), if_pos (by omega), if_pos (by omega), Pu.bs_drop s i (by omega), List.all_cons, Bool.and_assoc]
    simp only [hj]
    have hb := bt_range s i
    unfold Pu.alnum
    by_cases h1 : bt s i < 48
    · rw [if_pos h1, if_pos (show bt s i < 65 by omega), if_pos trivial, decide_eq_false (show ¬ 48 ≤ bt s i by omega), decide_eq_false (show ¬ 65 ≤ bt s i by omega)]; rfl
    · rw [if_neg h1, decide_eq_true (show 48 ≤ bt s i by omega)]
      by_cases h2 : bt s i > 57
      · rw [if_pos h2, decide_eq_false (show ¬ bt s i ≤ 57 by omega)]
        by_cases h3 : bt s i < 65
        · rw [if_pos h3, if_pos trivial, decide_eq_false (show ¬ 65 ≤ bt s i by omega)]; rfl
        · rw [if_neg h3, decide_eq_true (show 65 ≤ bt s i by omega)]
          by_cases h4 : bt s i > 90
          · rw [decide_eq_true h4, if_pos rfl, decide_eq_false (show ¬ bt s i ≤ 90 by omega)]; rfl
          · rw [decide_eq_false h4, if_neg (by decide), decide_eq_true (show bt s i ≤ 90 by omega)]; rfl
      · rw [if_neg h2, if_neg (by decide), decide_eq_true (show bt s i ≤ 57 by omega)]; rfl
def hold_Ref.f (a0 : ByteArray) : Option Bool := if a0.size ≤ 4096 then some (Pu.refB a0) else none
theorem hold_Ref.calls (a0 : ByteArray) (r : Bool) (w : World) (h : hold_Ref.f a0 = some r) :
    Calls Try.prog 39 #[.string a0] w fun e w' => e = .returned (.bool r) ∧ Drawn0 w w' := by
  unfold hold_Ref.f at h
  split at h
  · refine hold_Ref_p.calls (2 * a0.size + 1) a0 r w (Eq.trans ?_ h)
    unfold hold_Ref_p.f Pu.refB
    have := hold_Ref_l a0 ‹_› a0.size 0 (2 * a0.size + 1) (by omega) (by omega)
    rw [Bool.and_comm]; exact this
  · cases h


end Go.Proofs.Ytaifcadnnmicnaa.XE
