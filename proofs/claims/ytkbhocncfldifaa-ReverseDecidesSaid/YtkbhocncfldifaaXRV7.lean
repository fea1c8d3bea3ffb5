-- Written by wip/xprint.py, a session's program: printed out of the translation, with hand-written functions. Lean checks it.
import Derived.Test.YtkbhocncfldifaaXRV0
import Derived.Test.YtkbhocncfldifaaXRV6
namespace Go.Proofs.Ytkbhocncfldifaa.XRV
open Go.RowKit Go.Proofs.YtkbhocncfldifaaW.PrintWords Go.Proofs.YtkbhocncfldifaaW.PrintLast Go.Proofs.YtkbhocncfldifaaW.PrintMore
attribute [local go_sem] max2_int min2_int max_two min_two max_three min_three max_four min_four   -- for this text's walks alone
set_option linter.unusedVariables false
set_option linter.unusedSimpArgs false

/-! ### bursarref14_Ref_p: function 71 -/
mutual
def bursarref14_Ref_p.l0 : Nat → ByteArray → Int → Option (Bool)
  | 0, _, _ => none
  | k + 1, x0, x3 => if x3 < 12 then (if 0 ≤ x3 then (if x3 < (x0.size : Int) then (if 48 ≤ (bt x0 x3) then (if ((bt x0 x3) ≤ 57) then (bursarref14_Ref_p.j1 k x0 x3 false) else (if 65 ≤ (bt x0 x3) then (bursarref14_Ref_p.j1 k x0 x3 (!(decide ((bt x0 x3) ≤ 90)))) else (bursarref14_Ref_p.j1 k x0 x3 (!false)))) else (if 65 ≤ (bt x0 x3) then (bursarref14_Ref_p.j1 k x0 x3 (!(decide ((bt x0 x3) ≤ 90)))) else (bursarref14_Ref_p.j1 k x0 x3 (!false)))) else (none)) else (none)) else (some true)
def bursarref14_Ref_p.j1 : Nat → ByteArray → Int → Bool → Option (Bool)
  | 0, _, _, _ => none
  | k + 1, x0, x3, x34 => if x34 = true then (some false) else (bursarref14_Ref_p.l0 k x0 (wrap64 (x3 + 1)))
end
def bursarref14_Ref_p.f (k : Nat) (a0 : ByteArray) : Option (Bool) := if (a0.size : Int) = 12 then (bursarref14_Ref_p.l0 k a0 0) else (some false)
theorem bursarref14_Ref_p.mono_l : ∀ k, (∀ y0 y1, LeO (bursarref14_Ref_p.l0 k y0 y1) (bursarref14_Ref_p.l0 (k + 1) y0 y1)) ∧ (∀ y0 y1 y2, LeO (bursarref14_Ref_p.j1 k y0 y1 y2) (bursarref14_Ref_p.j1 (k + 1) y0 y1 y2))
  | 0 => ⟨fun _ _ r h => by simp [bursarref14_Ref_p.l0] at h, fun _ _ _ r h => by simp [bursarref14_Ref_p.j1] at h⟩
  | k + 1 => by
    obtain ⟨ih0, ih1⟩ := bursarref14_Ref_p.mono_l k
    refine ⟨?_, ?_⟩
    · intro y0 y1
      unfold bursarref14_Ref_p.l0
      repeat' first
      | (with_reducible exact ih0 _ _)
      | (with_reducible exact ih1 _ _ _)
      | (with_reducible exact LeO.refl _)
      | (with_reducible exact LeO.none _)
      | (with_reducible refine LeO.ite ?_ ?_)
      | (with_reducible refine LeO.bind ?_ (fun _ => ?_))
      | exact ih0 _ _
      | exact ih1 _ _ _
      | exact LeO.none _
      | refine LeO.ite ?_ ?_
      | refine LeO.bind ?_ (fun _ => ?_)
    · intro y0 y1 y2
      unfold bursarref14_Ref_p.j1
      repeat' first
      | (with_reducible exact ih0 _ _)
      | (with_reducible exact ih1 _ _ _)
      | (with_reducible exact LeO.refl _)
      | (with_reducible exact LeO.none _)
      | (with_reducible refine LeO.ite ?_ ?_)
      | (with_reducible refine LeO.bind ?_ (fun _ => ?_))
      | exact ih0 _ _
      | exact ih1 _ _ _
      | exact LeO.none _
      | refine LeO.ite ?_ ?_
      | refine LeO.bind ?_ (fun _ => ?_)
theorem bursarref14_Ref_p.mono : ∀ a0 k, LeO (bursarref14_Ref_p.f k a0) (bursarref14_Ref_p.f (k + 1) a0) := by
  intro a0 k
  obtain ⟨ih0, ih1⟩ := bursarref14_Ref_p.mono_l k
  unfold bursarref14_Ref_p.f
  repeat' first
      | (with_reducible exact ih0 _ _)
      | (with_reducible exact ih1 _ _ _)
      | (with_reducible exact LeO.refl _)
      | (with_reducible exact LeO.none _)
      | (with_reducible refine LeO.ite ?_ ?_)
      | (with_reducible refine LeO.bind ?_ (fun _ => ?_))
      | exact ih0 _ _
      | exact ih1 _ _ _
      | exact LeO.none _
      | refine LeO.ite ?_ ?_
      | refine LeO.bind ?_ (fun _ => ?_)
set_option maxHeartbeats 8000000 in
set_option maxRecDepth 100000 in
theorem bursarref14_Ref_p.calls (k : Nat) (a0 : ByteArray) (r : Bool) (w : World) (h : bursarref14_Ref_p.f k a0 = some r) :
    Calls Try.prog 71 #[.string a0] w fun e w' => e = .returned (.bool r) ∧ Drawn0 w w' := by
  have H : (if (a0.size : Int) = 12 then (bursarref14_Ref_p.l0 k a0 0) else (some false)) = some r := h
  clear h
  by_cases c2 : (a0.size : Int) = 12
  · rw [if_pos c2] at H
    have c2b0 : ((a0.size : Int) == 12) = true := beq_iff_eq.mpr c2
    have c2b1 : ((a0.size : Int) != 12) = false := bne_eq_false_iff_eq.mpr c2
    clear c2
    have H' := Aside0.mk H
    clear H
    go_enter Try.func71, Try.ntmps71
    go_wp2
    go_loopg [3] k (fun kq v3 w' => ∃ (x3_1 : Int), v3 = .int .i64 x3_1 ∧ Aside0 (bursarref14_Ref_p.l0 kq a0 x3_1 = some r) ∧ Aside0 (kq ≤ k) ∧ Drawn0 w w')
    case atStart => exact ⟨(0), (by first | rfl | (simp; done) | (simp [*]; done) | (simp [Pu.bne_nil, Pu.beq_nil]; done)), H', ⟨Nat.le_refl _⟩, by repeat (first | exact Drawn0.refl _ | apply Drawn0.step)⟩
    case round =>
      clear H'
      try clear c2
      try clear c2b0
      try clear c2b1
      try clear p2
      obtain ⟨x3_1, rfl, HA, HK1, ⟨m1, rfl⟩⟩ := hrel
      cases gk with
      | zero => exact absurd HA.out (by simp [bursarref14_Ref_p.l0])
      | succ k1 =>
        have H := HA.out
        clear HA
        simp only [bursarref14_Ref_p.l0] at H
        by_cases c3 : x3_1 < 12
        · rw [if_pos c3] at H
          have c3b0 : decide (x3_1 < 12) = true := decide_eq_true c3
          clear c3
          have HC4 := Aside0.mk H
          clear H
          go_upto_region 6 with (fail)
          go_cut [34] (fun v34 wc => ∃ (kq : Nat) (x34_3 : Bool), v34 = .bool x34_3 ∧ Aside0 (bursarref14_Ref_p.j1 kq a0 x3_1 x34_3 = some r) ∧ Aside0 (kq ≤ k1) ∧ Drawn0 w wc)
          case first =>
            have H := HC4.out
            clear HC4
            by_cases c5 : 0 ≤ x3_1
            · rw [if_pos c5] at H
              have c5b0 : decide (0 ≤ x3_1) = true := decide_eq_true c5
              clear c5
              (first | rw [c5b0] | (simp only [i64_w, i32_w]; rw [c5b0]) | skip)
              by_cases c6 : x3_1 < (a0.size : Int)
              · rw [if_pos c6] at H
                have c6b0 : decide (x3_1 < (a0.size : Int)) = true := decide_eq_true c6
                clear c6
                by_cases c8 : 48 ≤ (bt a0 x3_1)
                · rw [if_pos c8] at H
                  have c8b0 : decide (48 ≤ (bt a0 x3_1)) = true := decide_eq_true c8
                  clear c8
                  by_cases c10 : ((bt a0 x3_1) ≤ 57)
                  · rw [if_pos c10] at H
                    have c10b0 : decide ((bt a0 x3_1) ≤ 57) = true := decide_eq_true c10
                    clear c10
                    have H' := Aside0.mk H
                    clear H
                    have p7 : 0 ≤ (x3_1 : Int) := of_decide_eq_true (by first | (with_reducible assumption) | assumption)
                    have q7 : x3_1 < (a0.size : Int) := of_decide_eq_true (by first | (with_reducible assumption) | assumption)
                    have hx7 := bt_at a0 x3_1
                    replace p7 := eq_true p7
                    replace q7 := eq_true q7
                    have p9 : 0 ≤ (x3_1 : Int) := of_decide_eq_true (by first | (with_reducible assumption) | assumption)
                    have q9 : x3_1 < (a0.size : Int) := of_decide_eq_true (by first | (with_reducible assumption) | assumption)
                    have hx9 := bt_at a0 x3_1
                    replace p9 := eq_true p9
                    replace q9 := eq_true q9
                    go_wp2
                    go_meet
                    case rel => exact ⟨_, (false), (by first | rfl | (simp; done) | (simp [*]; done) | (simp [Pu.bne_nil, Pu.beq_nil]; done)), H', ⟨by have := HK1.out; first | omega | exact Nat.le_refl _⟩, by repeat (first | exact Drawn0.refl _ | apply Drawn0.step)⟩
                  · rw [if_neg c10] at H
                    have c10b0 : decide ((bt a0 x3_1) ≤ 57) = false := decide_eq_false c10
                    clear c10
                    by_cases c12 : 65 ≤ (bt a0 x3_1)
                    · rw [if_pos c12] at H
                      have c12b0 : decide (65 ≤ (bt a0 x3_1)) = true := decide_eq_true c12
                      clear c12
                      have H' := Aside0.mk H
                      clear H
                      have p7 : 0 ≤ (x3_1 : Int) := of_decide_eq_true (by first | (with_reducible assumption) | assumption)
                      have q7 : x3_1 < (a0.size : Int) := of_decide_eq_true (by first | (with_reducible assumption) | assumption)
                      have hx7 := bt_at a0 x3_1
                      replace p7 := eq_true p7
                      replace q7 := eq_true q7
                      have p9 : 0 ≤ (x3_1 : Int) := of_decide_eq_true (by first | (with_reducible assumption) | assumption)
                      have q9 : x3_1 < (a0.size : Int) := of_decide_eq_true (by first | (with_reducible assumption) | assumption)
                      have hx9 := bt_at a0 x3_1
                      replace p9 := eq_true p9
                      replace q9 := eq_true q9
                      have p11 : 0 ≤ (x3_1 : Int) := of_decide_eq_true (by first | (with_reducible assumption) | assumption)
                      have q11 : x3_1 < (a0.size : Int) := of_decide_eq_true (by first | (with_reducible assumption) | assumption)
                      have hx11 := bt_at a0 x3_1
                      replace p11 := eq_true p11
                      replace q11 := eq_true q11
                      have p13 : 0 ≤ (x3_1 : Int) := of_decide_eq_true (by first | (with_reducible assumption) | assumption)
                      have q13 : x3_1 < (a0.size : Int) := of_decide_eq_true (by first | (with_reducible assumption) | assumption)
                      have hx13 := bt_at a0 x3_1
                      replace p13 := eq_true p13
                      replace q13 := eq_true q13
                      go_wp2
                      go_meet
                      case rel => exact ⟨_, (!(decide ((bt a0 x3_1) ≤ 90))), (by first | rfl | (simp; done) | (simp [*]; done) | (simp [Pu.bne_nil, Pu.beq_nil]; done)), H', ⟨by have := HK1.out; first | omega | exact Nat.le_refl _⟩, by repeat (first | exact Drawn0.refl _ | apply Drawn0.step)⟩
                    · rw [if_neg c12] at H
                      have c12b0 : decide (65 ≤ (bt a0 x3_1)) = false := decide_eq_false c12
                      clear c12
                      have H' := Aside0.mk H
                      clear H
                      have p7 : 0 ≤ (x3_1 : Int) := of_decide_eq_true (by first | (with_reducible assumption) | assumption)
                      have q7 : x3_1 < (a0.size : Int) := of_decide_eq_true (by first | (with_reducible assumption) | assumption)
                      have hx7 := bt_at a0 x3_1
                      replace p7 := eq_true p7
                      replace q7 := eq_true q7
                      have p9 : 0 ≤ (x3_1 : Int) := of_decide_eq_true (by first | (with_reducible assumption) | assumption)
                      have q9 : x3_1 < (a0.size : Int) := of_decide_eq_true (by first | (with_reducible assumption) | assumption)
                      have hx9 := bt_at a0 x3_1
                      replace p9 := eq_true p9
                      replace q9 := eq_true q9
                      have p11 : 0 ≤ (x3_1 : Int) := of_decide_eq_true (by first | (with_reducible assumption) | assumption)
                      have q11 : x3_1 < (a0.size : Int) := of_decide_eq_true (by first | (with_reducible assumption) | assumption)
                      have hx11 := bt_at a0 x3_1
                      replace p11 := eq_true p11
                      replace q11 := eq_true q11
                      go_wp2
                      go_meet
                      case rel => exact ⟨_, (!false), (by first | rfl | (simp; done) | (simp [*]; done) | (simp [Pu.bne_nil, Pu.beq_nil]; done)), H', ⟨by have := HK1.out; first | omega | exact Nat.le_refl _⟩, by repeat (first | exact Drawn0.refl _ | apply Drawn0.step)⟩
                · rw [if_neg c8] at H
                  have c8b0 : decide (48 ≤ (bt a0 x3_1)) = false := decide_eq_false c8
                  clear c8
                  by_cases c15 : 65 ≤ (bt a0 x3_1)
                  · rw [if_pos c15] at H
                    have c15b0 : decide (65 ≤ (bt a0 x3_1)) = true := decide_eq_true c15
                    clear c15
                    have H' := Aside0.mk H
                    clear H
                    have p7 : 0 ≤ (x3_1 : Int) := of_decide_eq_true (by first | (with_reducible assumption) | assumption)
                    have q7 : x3_1 < (a0.size : Int) := of_decide_eq_true (by first | (with_reducible assumption) | assumption)
                    have hx7 := bt_at a0 x3_1
                    replace p7 := eq_true p7
                    replace q7 := eq_true q7
                    have p14 : 0 ≤ (x3_1 : Int) := of_decide_eq_true (by first | (with_reducible assumption) | assumption)
                    have q14 : x3_1 < (a0.size : Int) := of_decide_eq_true (by first | (with_reducible assumption) | assumption)
                    have hx14 := bt_at a0 x3_1
                    replace p14 := eq_true p14
                    replace q14 := eq_true q14
                    have p16 : 0 ≤ (x3_1 : Int) := of_decide_eq_true (by first | (with_reducible assumption) | assumption)
                    have q16 : x3_1 < (a0.size : Int) := of_decide_eq_true (by first | (with_reducible assumption) | assumption)
                    have hx16 := bt_at a0 x3_1
                    replace p16 := eq_true p16
                    replace q16 := eq_true q16
                    go_wp2
                    go_meet
                    case rel => exact ⟨_, (!(decide ((bt a0 x3_1) ≤ 90))), (by first | rfl | (simp; done) | (simp [*]; done) | (simp [Pu.bne_nil, Pu.beq_nil]; done)), H', ⟨by have := HK1.out; first | omega | exact Nat.le_refl _⟩, by repeat (first | exact Drawn0.refl _ | apply Drawn0.step)⟩
                  · rw [if_neg c15] at H
                    have c15b0 : decide (65 ≤ (bt a0 x3_1)) = false := decide_eq_false c15
                    clear c15
                    have H' := Aside0.mk H
                    clear H
                    have p7 : 0 ≤ (x3_1 : Int) := of_decide_eq_true (by first | (with_reducible assumption) | assumption)
                    have q7 : x3_1 < (a0.size : Int) := of_decide_eq_true (by first | (with_reducible assumption) | assumption)
                    have hx7 := bt_at a0 x3_1
                    replace p7 := eq_true p7
                    replace q7 := eq_true q7
                    have p14 : 0 ≤ (x3_1 : Int) := of_decide_eq_true (by first | (with_reducible assumption) | assumption)
                    have q14 : x3_1 < (a0.size : Int) := of_decide_eq_true (by first | (with_reducible assumption) | assumption)
                    have hx14 := bt_at a0 x3_1
                    replace p14 := eq_true p14
                    replace q14 := eq_true q14
                    go_wp2
                    go_meet
                    case rel => exact ⟨_, (!false), (by first | rfl | (simp; done) | (simp [*]; done) | (simp [Pu.bne_nil, Pu.beq_nil]; done)), H', ⟨by have := HK1.out; first | omega | exact Nat.le_refl _⟩, by repeat (first | exact Drawn0.refl _ | apply Drawn0.step)⟩
              · rw [if_neg c6] at H
                exact absurd H (by simp)
            · rw [if_neg c5] at H
              exact absurd H (by simp)
          case rest =>
            clear HC4
            try clear c1
            try clear p1
            try clear q1
            try clear hx1
            try clear c2
            try clear c2b0
            try clear c2b1
            try clear p2
            try clear c3
            try clear c3b0
            try clear c5
            try clear c5b0
            try clear c6
            try clear c6b0
            try clear c7
            try clear p7
            try clear q7
            try clear hx7
            try clear c8
            try clear c8b0
            try clear p9
            try clear q9
            try clear hx9
            try clear c10
            try clear c10b0
            try clear p11
            try clear q11
            try clear hx11
            try clear c12
            try clear c12b0
            try clear p13
            try clear q13
            try clear hx13
            try clear p14
            try clear q14
            try clear hx14
            try clear c15
            try clear c15b0
            try clear p16
            try clear q16
            try clear hx16
            try clear p11
            try clear p13
            try clear p14
            try clear p16
            try clear p2
            try clear p7
            try clear p9
            try clear q11
            try clear q13
            try clear q14
            try clear q16
            try clear q7
            try clear q9
            obtain ⟨kq, x34_3, rfl, HA, HJ3, ⟨mc3, rfl⟩⟩ := hcut
            cases kq with
            | zero => exact absurd HA.out (by simp [bursarref14_Ref_p.j1])
            | succ kj3 =>
              have H := HA.out
              clear HA
              simp only [bursarref14_Ref_p.j1] at H
              by_cases c17 : x34_3 = true
              · subst c17
                have H1 : (some false) = some r := by rw [if_pos rfl] at H; exact H
                clear H
                have H := H1
                clear H1
                obtain rfl := Option.some.inj H
                go_wp2
                go_ret
                exact ⟨by first | rfl | (simp; done) | (simp [*]; done), by repeat (first | exact Drawn0.refl _ | apply Drawn0.step)⟩
              · replace c17 := Bool.eq_false_iff.mpr c17
                subst c17
                have H1 : (bursarref14_Ref_p.l0 kj3 a0 (wrap64 (x3_1 + 1))) = some r := by rw [if_neg (show ¬ (false = true) by decide)] at H; exact H
                clear H
                have H := H1
                clear H1
                have H' := Aside0.mk H
                clear H
                go_wp2
                go_roundg kj3
                case measure => have := HK1.out; have := HJ3.out; omega
                case rel => exact ⟨(wrap64 (x3_1 + 1)), (by first | rfl | (simp; done) | (simp [*]; done) | (simp [Pu.bne_nil, Pu.beq_nil]; done)), H', ⟨by have := HK1.out; have := HJ3.out; omega⟩, by repeat (first | exact Drawn0.refl _ | apply Drawn0.step)⟩
        · rw [if_neg c3] at H
          have c3b0 : decide (x3_1 < 12) = false := decide_eq_false c3
          clear c3
          obtain rfl := Option.some.inj H
          go_wp2
          go_ret
          exact ⟨by first | rfl | (simp; done) | (simp [*]; done), by repeat (first | exact Drawn0.refl _ | apply Drawn0.step)⟩
  · rw [if_neg c2] at H
    have c2b0 : ((a0.size : Int) == 12) = false := beq_eq_false_iff_ne.mpr c2
    have c2b1 : ((a0.size : Int) != 12) = true := bne_iff_ne.mpr c2
    obtain rfl := Option.some.inj H
    go_enter Try.func71, Try.ntmps71
    go_wp2
    go_ret
    exact ⟨by first | rfl | (simp; done) | (simp [*]; done), by repeat (first | exact Drawn0.refl _ | apply Drawn0.step)⟩

/-! #### bursarref14_Ref, refined -/
theorem ref14_Ref_l (s : ByteArray) (hs : s.size = 12) : ∀ (d i k : Nat), i + d = 12 → 2 * d < k → bursarref14_Ref_p.l0 k s (i : Int) = some (((Pu.bs s).drop i).all Pu.alnum) := by
  intro d
  induction d with
  | zero =>
    intro i k hi hk
    obtain ⟨k, rfl⟩ : ∃ m, k = m + 1 := ⟨k - 1, by omega⟩
    obtain rfl : i = s.size := by omega
    simp only [bursarref14_Ref_p.l0]
    rw [if_neg (by omega), Pu.bs_drop_all, List.all_nil]
  | succ d ih =>
    intro i k hi hk
    obtain ⟨k, rfl⟩ : ∃ m, k = m + 2 := ⟨k - 2, by omega⟩
    have hj : ∀ b : Bool, bursarref14_Ref_p.j1 (k + 1) s i b = if b = true then some false else some (((Pu.bs s).drop (i + 1)).all Pu.alnum) := fun b => by
      simp only [bursarref14_Ref_p.j1]
      cases b with
      | true => rfl
      | false =>
        rw [if_neg (by decide), if_neg (by decide), Pu.wrap_small (by omega) (by omega)]
        exact ih (i + 1) k (by omega) (by omega)
    simp only [bursarref14_Ref_p.l0]
    rw [if_pos (by omega), if_pos (by omega), if_pos (by omega), Pu.bs_drop s i (by omega), List.all_cons]
    simp only [hj]
    have hb := bt_range s i
    unfold Pu.alnum
    by_cases h1 : 48 ≤ bt s i
    · rw [if_pos h1, decide_eq_true h1]
      by_cases h2 : bt s i ≤ 57
      · rw [if_pos h2, if_neg (by decide), decide_eq_true h2]; rfl
      · rw [if_neg h2, decide_eq_false h2]
        by_cases h3 : 65 ≤ bt s i
        · rw [if_pos h3, decide_eq_true h3]
          by_cases h4 : bt s i ≤ 90
          · rw [decide_eq_true h4, if_neg (by decide)]; rfl
          · rw [decide_eq_false h4, if_pos (by decide)]; rfl
        · rw [if_neg h3, decide_eq_false h3, if_pos (by decide)]; rfl
    · rw [if_neg h1, decide_eq_false h1, if_neg (show ¬ 65 ≤ bt s i by omega), decide_eq_false (show ¬ 65 ≤ bt s i by omega), if_pos (by decide)]; rfl
def bursarref14_Ref.f (a0 : ByteArray) : Option Bool := some (Pu.refB a0)
theorem bursarref14_Ref.calls (a0 : ByteArray) (r : Bool) (w : World) (h : bursarref14_Ref.f a0 = some r) :
    Calls Try.prog 71 #[.string a0] w fun e w' => e = .returned (.bool r) ∧ Drawn0 w w' := by
  refine bursarref14_Ref_p.calls 25 a0 r w (Eq.trans ?_ h)
  unfold bursarref14_Ref_p.f bursarref14_Ref.f Pu.refB
  by_cases hs : a0.size = 12
  · rw [if_pos (by omega), decide_eq_true hs, Bool.true_and]
    exact ref14_Ref_l a0 hs 12 0 25 (by omega) (by omega)
  · rw [if_neg (by omega), decide_eq_false hs]; rfl


/-! ### bursarref14_May_p: function 45 -/
def bursarref14_May_p.f (a0_0 : ByteArray) (a0_1 : ByteArray) (a0_2 : ByteArray) (a0_3 : Int) (a0_4 : Int) (a0_5 : Int) (a0_6 : Bool) : Option (Bool) := (bursarref11_Name.f 1 a0_2).bind fun bt192 => ((bursarref11_Name.f 2 a0_1).bind fun bt194 => ((bursarref14_Ref.f a0_0).bind fun t196 => (if t196 = true then (if bt192.2 = true then (if bt194.2 = true then (if 0 ≤ a0_4 then (if a0_4 ≤ a0_3 then (if 0 ≤ a0_5 then (if a0_5 ≤ 2147483647 then (if a0_6 = true then (some (decide (a0_3 > a0_4))) else (some true)) else (some false)) else (some false)) else (some false)) else (some false)) else (some false)) else (some false)) else (some false))))
set_option maxHeartbeats 8000000 in
set_option maxRecDepth 100000 in
theorem bursarref14_May_p.calls (a0_0 : ByteArray) (a0_1 : ByteArray) (a0_2 : ByteArray) (a0_3 : Int) (a0_4 : Int) (a0_5 : Int) (a0_6 : Bool) (r : Bool) (w : World) (h : bursarref14_May_p.f a0_0 a0_1 a0_2 a0_3 a0_4 a0_5 a0_6 = some r) :
    Calls Try.prog 45 #[.agg #[.string a0_0, .string a0_1, .string a0_2, .int .i64 a0_3, .int .i64 a0_4, .int .i64 a0_5, .bool a0_6]] w fun e w' => e = .returned (.bool r) ∧ Below w.heap.size w w' := by
  have hu61 := Try.underlying61
  have hu23 := Try.underlying23
  have HO := Aside0.mk (Ow.Own.nil w)
  have hmf : ∀ (fn : Fn) (first cap : Array Value) (w : World), (Instr.makeFunc fn first cap).run Try.prog w = .ok (.func fn first cap) w := fun _ _ _ _ => rfl
  have H : ((bursarref11_Name.f 1 a0_2).bind fun bt192 => ((bursarref11_Name.f 2 a0_1).bind fun bt194 => ((bursarref14_Ref.f a0_0).bind fun t196 => (if t196 = true then (if bt192.2 = true then (if bt194.2 = true then (if 0 ≤ a0_4 then (if a0_4 ≤ a0_3 then (if 0 ≤ a0_5 then (if a0_5 ≤ 2147483647 then (if a0_6 = true then (some (decide (a0_3 > a0_4))) else (some true)) else (some false)) else (some false)) else (some false)) else (some false)) else (some false)) else (some false)) else (some false))))) = some r := h
  clear h
  replace H := Option.bind_eq_some_iff.mp H
  obtain ⟨⟨t192, t193⟩, A20, H⟩ := H
  replace H : ((bursarref11_Name.f 2 a0_1).bind fun bt194 => ((bursarref14_Ref.f a0_0).bind fun t196 => (if t196 = true then (if t193 = true then (if bt194.2 = true then (if 0 ≤ a0_4 then (if a0_4 ≤ a0_3 then (if 0 ≤ a0_5 then (if a0_5 ≤ 2147483647 then (if a0_6 = true then (some (decide (a0_3 > a0_4))) else (some true)) else (some false)) else (some false)) else (some false)) else (some false)) else (some false)) else (some false)) else (some false)))) = some r := H
  have A2 := Aside0.mk A20
  clear A20
  replace H := Option.bind_eq_some_iff.mp H
  obtain ⟨⟨t194, t195⟩, A30, H⟩ := H
  replace H : ((bursarref14_Ref.f a0_0).bind fun t196 => (if t196 = true then (if t193 = true then (if t195 = true then (if 0 ≤ a0_4 then (if a0_4 ≤ a0_3 then (if 0 ≤ a0_5 then (if a0_5 ≤ 2147483647 then (if a0_6 = true then (some (decide (a0_3 > a0_4))) else (some true)) else (some false)) else (some false)) else (some false)) else (some false)) else (some false)) else (some false)) else (some false))) = some r := H
  have A3 := Aside0.mk A30
  clear A30
  replace H := Option.bind_eq_some_iff.mp H
  obtain ⟨t196, A40, H⟩ := H
  replace H : (if t196 = true then (if t193 = true then (if t195 = true then (if 0 ≤ a0_4 then (if a0_4 ≤ a0_3 then (if 0 ≤ a0_5 then (if a0_5 ≤ 2147483647 then (if a0_6 = true then (some (decide (a0_3 > a0_4))) else (some true)) else (some false)) else (some false)) else (some false)) else (some false)) else (some false)) else (some false)) else (some false)) = some r := H
  have A4 := Aside0.mk A40
  clear A40
  by_cases c5 : t196 = true
  · subst c5
    have H1 : (if t193 = true then (if t195 = true then (if 0 ≤ a0_4 then (if a0_4 ≤ a0_3 then (if 0 ≤ a0_5 then (if a0_5 ≤ 2147483647 then (if a0_6 = true then (some (decide (a0_3 > a0_4))) else (some true)) else (some false)) else (some false)) else (some false)) else (some false)) else (some false)) else (some false)) = some r := by rw [if_pos rfl] at H; exact H
    clear H
    have H := H1
    clear H1
    by_cases c6 : t193 = true
    · subst c6
      have H1 : (if t195 = true then (if 0 ≤ a0_4 then (if a0_4 ≤ a0_3 then (if 0 ≤ a0_5 then (if a0_5 ≤ 2147483647 then (if a0_6 = true then (some (decide (a0_3 > a0_4))) else (some true)) else (some false)) else (some false)) else (some false)) else (some false)) else (some false)) = some r := by rw [if_pos rfl] at H; exact H
      clear H
      have H := H1
      clear H1
      by_cases c7 : t195 = true
      · subst c7
        have H1 : (if 0 ≤ a0_4 then (if a0_4 ≤ a0_3 then (if 0 ≤ a0_5 then (if a0_5 ≤ 2147483647 then (if a0_6 = true then (some (decide (a0_3 > a0_4))) else (some true)) else (some false)) else (some false)) else (some false)) else (some false)) = some r := by rw [if_pos rfl] at H; exact H
        clear H
        have H := H1
        clear H1
        by_cases c8 : 0 ≤ a0_4
        · rw [if_pos c8] at H
          have c8b0 : decide (0 ≤ a0_4) = true := decide_eq_true c8
          clear c8
          by_cases c9 : a0_4 ≤ a0_3
          · rw [if_pos c9] at H
            have c9b0 : decide (a0_4 ≤ a0_3) = true := decide_eq_true c9
            clear c9
            by_cases c10 : 0 ≤ a0_5
            · rw [if_pos c10] at H
              have c10b0 : decide (0 ≤ a0_5) = true := decide_eq_true c10
              clear c10
              by_cases c11 : a0_5 ≤ 2147483647
              · rw [if_pos c11] at H
                have c11b0 : decide (a0_5 ≤ 2147483647) = true := decide_eq_true c11
                clear c11
                by_cases c12 : a0_6 = true
                · subst c12
                  have H1 : (some (decide (a0_3 > a0_4))) = some r := by rw [if_pos rfl] at H; exact H
                  clear H
                  have H := H1
                  clear H1
                  obtain rfl := Option.some.inj H
                  obtain ⟨Q0, hQ0_⟩ : ∃ q_ : Array Value, q_ = (#[.string a0_0, .string a0_1, .string a0_2, .int .i64 a0_3, .int .i64 a0_4, .int .i64 a0_5, .bool true] : Array Value) := ⟨_, rfl⟩
                  try rw [← hQ0_]
                  have hQ0 := Aside0.mk hQ0_; clear hQ0_
                  go_enter Try.func45, Try.ntmps45
                  go_wp2_with (first | ((with_reducible refine gate_dst (N := 1) rfl ?_); refine Ow.box rfl (N := 1) rfl (cs := Q0) (t := 61) HO.out (by first | (go_simp; done) | (go_simp; rfl)) ?_; clear HO; intro gb191 w13 HO; simp only [List.cons_append, List.nil_append] at HO) | ((with_reducible refine gate_callee (f := 16) rfl ?_); refine goesL_ (some 11) rfl rfl Try.func16 (by kernel_rfl) rfl #[.agg #[.int .i64 1, .string a0_2]] rfl (by (try simp only [List.map_toArray, List.map_cons, List.map_nil]); first | done | rfl | (simp only [hQ0.out]; done) | (simp only [hQ0.out]; rfl)) ?_; refine Calls.mono (calls_of_args (by first | (simp only [hQ0.out] <;> rfl) | rfl) (bursarref11_Name.calls 1 a0_2 t192 true _ A2.out)) ?_; rintro e w15 ⟨he_, hb⟩; subst he_; refine ⟨_, rfl, ?_⟩; replace HO := Aside0.mk (Ow.Own.call HO.out hb); clear hb) | ((with_reducible refine gate_callee (f := 16) rfl ?_); refine goesL_ (some 18) rfl rfl Try.func16 (by kernel_rfl) rfl #[.agg #[.int .i64 2, .string a0_1]] rfl (by (try simp only [List.map_toArray, List.map_cons, List.map_nil]); first | done | rfl | (simp only [hQ0.out]; done) | (simp only [hQ0.out]; rfl)) ?_; refine Calls.mono (calls_of_args (by first | (simp only [hQ0.out] <;> rfl) | rfl) (bursarref11_Name.calls 2 a0_1 t194 true _ A3.out)) ?_; rintro e w17 ⟨he_, hb⟩; subst he_; refine ⟨_, rfl, ?_⟩; replace HO := Aside0.mk (Ow.Own.call HO.out hb); clear hb) | ((with_reducible refine gate_callee (f := 71) rfl ?_); refine goesL_ (some 23) rfl rfl Try.func71 (by kernel_rfl) rfl #[.string a0_0] rfl (by (try simp only [List.map_toArray, List.map_cons, List.map_nil]); first | done | rfl | (simp only [hQ0.out]; done) | (simp only [hQ0.out]; rfl)) ?_; refine Calls.mono (calls_of_args (by first | (simp only [hQ0.out] <;> rfl) | rfl) (bursarref14_Ref.calls a0_0 true _ A4.out)) ?_; rintro e w' ⟨he_, ⟨nd, rfl⟩⟩; subst he_; refine ⟨_, rfl, ?_⟩; replace HO := Aside0.mk (Ow.Own.drewN HO.out nd)) | ((with_reducible refine Ow.gate_build rfl ?_); (try (refine gate_guard (by rfl) ?_; dsimp only)); refine' Ow.tbuild Ot.bd rfl rfl rfl ?hf_ ?_; (case hf_ => repeat (any_goals (first | exact Ow.Fills.nil | (refine' Ow.Fills.cons ?hv_ rfl ?hn_ ?hz_ ?_; (case hv_ => first | exact Ow.ev_tmp rfl | rfl); (case hn_ => first | (simp only [hQ0.out] <;> rfl) | rfl); (case hz_ => first | (simp only [hQ0.out] <;> rfl) | rfl)))))) | ((with_reducible refine Ow.gate_load rfl ?_); (try (refine gate_guard (by rfl) ?_; dsimp only)); (first | refine Ow.tload1 Ot.ty HO.out rfl rfl rfl rfl (by with_reducible first | exact Ow.at0) (by first | (simp only [hQ0.out] <;> rfl) | rfl) ?_)))
                  go_ret
                  exact ⟨by first | rfl | (simp only [hQ0.out]; done) | (simp only [hQ0.out]; rfl) | (simp [errW_none, errW_some] <;> rfl) | (simp [*, errW_none, errW_some] <;> rfl), Ow.Own.below HO.out⟩
                · replace c12 := Bool.eq_false_iff.mpr c12
                  subst c12
                  have H1 : (some true) = some r := by rw [if_neg (show ¬ (false = true) by decide)] at H; exact H
                  clear H
                  have H := H1
                  clear H1
                  obtain rfl := Option.some.inj H
                  obtain ⟨Q1, hQ1_⟩ : ∃ q_ : Array Value, q_ = (#[.string a0_0, .string a0_1, .string a0_2, .int .i64 a0_3, .int .i64 a0_4, .int .i64 a0_5, .bool false] : Array Value) := ⟨_, rfl⟩
                  try rw [← hQ1_]
                  have hQ1 := Aside0.mk hQ1_; clear hQ1_
                  go_enter Try.func45, Try.ntmps45
                  go_wp2_with (first | ((with_reducible refine gate_dst (N := 1) rfl ?_); refine Ow.box rfl (N := 1) rfl (cs := Q1) (t := 61) HO.out (by first | (go_simp; done) | (go_simp; rfl)) ?_; clear HO; intro gb191 w19 HO; simp only [List.cons_append, List.nil_append] at HO) | ((with_reducible refine gate_callee (f := 16) rfl ?_); refine goesL_ (some 11) rfl rfl Try.func16 (by kernel_rfl) rfl #[.agg #[.int .i64 1, .string a0_2]] rfl (by (try simp only [List.map_toArray, List.map_cons, List.map_nil]); first | done | rfl | (simp only [hQ1.out]; done) | (simp only [hQ1.out]; rfl)) ?_; refine Calls.mono (calls_of_args (by first | (simp only [hQ1.out] <;> rfl) | rfl) (bursarref11_Name.calls 1 a0_2 t192 true _ A2.out)) ?_; rintro e w21 ⟨he_, hb⟩; subst he_; refine ⟨_, rfl, ?_⟩; replace HO := Aside0.mk (Ow.Own.call HO.out hb); clear hb) | ((with_reducible refine gate_callee (f := 16) rfl ?_); refine goesL_ (some 18) rfl rfl Try.func16 (by kernel_rfl) rfl #[.agg #[.int .i64 2, .string a0_1]] rfl (by (try simp only [List.map_toArray, List.map_cons, List.map_nil]); first | done | rfl | (simp only [hQ1.out]; done) | (simp only [hQ1.out]; rfl)) ?_; refine Calls.mono (calls_of_args (by first | (simp only [hQ1.out] <;> rfl) | rfl) (bursarref11_Name.calls 2 a0_1 t194 true _ A3.out)) ?_; rintro e w23 ⟨he_, hb⟩; subst he_; refine ⟨_, rfl, ?_⟩; replace HO := Aside0.mk (Ow.Own.call HO.out hb); clear hb) | ((with_reducible refine gate_callee (f := 71) rfl ?_); refine goesL_ (some 23) rfl rfl Try.func71 (by kernel_rfl) rfl #[.string a0_0] rfl (by (try simp only [List.map_toArray, List.map_cons, List.map_nil]); first | done | rfl | (simp only [hQ1.out]; done) | (simp only [hQ1.out]; rfl)) ?_; refine Calls.mono (calls_of_args (by first | (simp only [hQ1.out] <;> rfl) | rfl) (bursarref14_Ref.calls a0_0 true _ A4.out)) ?_; rintro e w' ⟨he_, ⟨nd, rfl⟩⟩; subst he_; refine ⟨_, rfl, ?_⟩; replace HO := Aside0.mk (Ow.Own.drewN HO.out nd)) | ((with_reducible refine Ow.gate_build rfl ?_); (try (refine gate_guard (by rfl) ?_; dsimp only)); refine' Ow.tbuild Ot.bd rfl rfl rfl ?hf_ ?_; (case hf_ => repeat (any_goals (first | exact Ow.Fills.nil | (refine' Ow.Fills.cons ?hv_ rfl ?hn_ ?hz_ ?_; (case hv_ => first | exact Ow.ev_tmp rfl | rfl); (case hn_ => first | (simp only [hQ1.out] <;> rfl) | rfl); (case hz_ => first | (simp only [hQ1.out] <;> rfl) | rfl)))))) | ((with_reducible refine Ow.gate_load rfl ?_); (try (refine gate_guard (by rfl) ?_; dsimp only)); (first | refine Ow.tload1 Ot.ty HO.out rfl rfl rfl rfl (by with_reducible first | exact Ow.at0) (by first | (simp only [hQ1.out] <;> rfl) | rfl) ?_)))
                  go_ret
                  exact ⟨by first | rfl | (simp only [hQ1.out]; done) | (simp only [hQ1.out]; rfl) | (simp [errW_none, errW_some] <;> rfl) | (simp [*, errW_none, errW_some] <;> rfl), Ow.Own.below HO.out⟩
              · rw [if_neg c11] at H
                have c11b0 : decide (a0_5 ≤ 2147483647) = false := decide_eq_false c11
                clear c11
                obtain rfl := Option.some.inj H
                obtain ⟨Q2, hQ2_⟩ : ∃ q_ : Array Value, q_ = (#[.string a0_0, .string a0_1, .string a0_2, .int .i64 a0_3, .int .i64 a0_4, .int .i64 a0_5, .bool a0_6] : Array Value) := ⟨_, rfl⟩
                try rw [← hQ2_]
                have hQ2 := Aside0.mk hQ2_; clear hQ2_
                go_enter Try.func45, Try.ntmps45
                go_wp2_with (first | ((with_reducible refine gate_dst (N := 1) rfl ?_); refine Ow.box rfl (N := 1) rfl (cs := Q2) (t := 61) HO.out (by first | (go_simp; done) | (go_simp; rfl)) ?_; clear HO; intro gb191 w25 HO; simp only [List.cons_append, List.nil_append] at HO) | ((with_reducible refine gate_callee (f := 16) rfl ?_); refine goesL_ (some 11) rfl rfl Try.func16 (by kernel_rfl) rfl #[.agg #[.int .i64 1, .string a0_2]] rfl (by (try simp only [List.map_toArray, List.map_cons, List.map_nil]); first | done | rfl | (simp only [hQ2.out]; done) | (simp only [hQ2.out]; rfl)) ?_; refine Calls.mono (calls_of_args (by first | (simp only [hQ2.out] <;> rfl) | rfl) (bursarref11_Name.calls 1 a0_2 t192 true _ A2.out)) ?_; rintro e w27 ⟨he_, hb⟩; subst he_; refine ⟨_, rfl, ?_⟩; replace HO := Aside0.mk (Ow.Own.call HO.out hb); clear hb) | ((with_reducible refine gate_callee (f := 16) rfl ?_); refine goesL_ (some 18) rfl rfl Try.func16 (by kernel_rfl) rfl #[.agg #[.int .i64 2, .string a0_1]] rfl (by (try simp only [List.map_toArray, List.map_cons, List.map_nil]); first | done | rfl | (simp only [hQ2.out]; done) | (simp only [hQ2.out]; rfl)) ?_; refine Calls.mono (calls_of_args (by first | (simp only [hQ2.out] <;> rfl) | rfl) (bursarref11_Name.calls 2 a0_1 t194 true _ A3.out)) ?_; rintro e w29 ⟨he_, hb⟩; subst he_; refine ⟨_, rfl, ?_⟩; replace HO := Aside0.mk (Ow.Own.call HO.out hb); clear hb) | ((with_reducible refine gate_callee (f := 71) rfl ?_); refine goesL_ (some 23) rfl rfl Try.func71 (by kernel_rfl) rfl #[.string a0_0] rfl (by (try simp only [List.map_toArray, List.map_cons, List.map_nil]); first | done | rfl | (simp only [hQ2.out]; done) | (simp only [hQ2.out]; rfl)) ?_; refine Calls.mono (calls_of_args (by first | (simp only [hQ2.out] <;> rfl) | rfl) (bursarref14_Ref.calls a0_0 true _ A4.out)) ?_; rintro e w' ⟨he_, ⟨nd, rfl⟩⟩; subst he_; refine ⟨_, rfl, ?_⟩; replace HO := Aside0.mk (Ow.Own.drewN HO.out nd)) | ((with_reducible refine Ow.gate_build rfl ?_); (try (refine gate_guard (by rfl) ?_; dsimp only)); refine' Ow.tbuild Ot.bd rfl rfl rfl ?hf_ ?_; (case hf_ => repeat (any_goals (first | exact Ow.Fills.nil | (refine' Ow.Fills.cons ?hv_ rfl ?hn_ ?hz_ ?_; (case hv_ => first | exact Ow.ev_tmp rfl | rfl); (case hn_ => first | (simp only [hQ2.out] <;> rfl) | rfl); (case hz_ => first | (simp only [hQ2.out] <;> rfl) | rfl)))))) | ((with_reducible refine Ow.gate_load rfl ?_); (try (refine gate_guard (by rfl) ?_; dsimp only)); (first | refine Ow.tload1 Ot.ty HO.out rfl rfl rfl rfl (by with_reducible first | exact Ow.at0) (by first | (simp only [hQ2.out] <;> rfl) | rfl) ?_)))
                go_ret
                exact ⟨by first | rfl | (simp only [hQ2.out]; done) | (simp only [hQ2.out]; rfl) | (simp [errW_none, errW_some] <;> rfl) | (simp [*, errW_none, errW_some] <;> rfl), Ow.Own.below HO.out⟩
            · rw [if_neg c10] at H
              have c10b0 : decide (0 ≤ a0_5) = false := decide_eq_false c10
              clear c10
              obtain rfl := Option.some.inj H
              obtain ⟨Q3, hQ3_⟩ : ∃ q_ : Array Value, q_ = (#[.string a0_0, .string a0_1, .string a0_2, .int .i64 a0_3, .int .i64 a0_4, .int .i64 a0_5, .bool a0_6] : Array Value) := ⟨_, rfl⟩
              try rw [← hQ3_]
              have hQ3 := Aside0.mk hQ3_; clear hQ3_
              go_enter Try.func45, Try.ntmps45
              go_wp2_with (first | ((with_reducible refine gate_dst (N := 1) rfl ?_); refine Ow.box rfl (N := 1) rfl (cs := Q3) (t := 61) HO.out (by first | (go_simp; done) | (go_simp; rfl)) ?_; clear HO; intro gb191 w31 HO; simp only [List.cons_append, List.nil_append] at HO) | ((with_reducible refine gate_callee (f := 16) rfl ?_); refine goesL_ (some 11) rfl rfl Try.func16 (by kernel_rfl) rfl #[.agg #[.int .i64 1, .string a0_2]] rfl (by (try simp only [List.map_toArray, List.map_cons, List.map_nil]); first | done | rfl | (simp only [hQ3.out]; done) | (simp only [hQ3.out]; rfl)) ?_; refine Calls.mono (calls_of_args (by first | (simp only [hQ3.out] <;> rfl) | rfl) (bursarref11_Name.calls 1 a0_2 t192 true _ A2.out)) ?_; rintro e w33 ⟨he_, hb⟩; subst he_; refine ⟨_, rfl, ?_⟩; replace HO := Aside0.mk (Ow.Own.call HO.out hb); clear hb) | ((with_reducible refine gate_callee (f := 16) rfl ?_); refine goesL_ (some 18) rfl rfl Try.func16 (by kernel_rfl) rfl #[.agg #[.int .i64 2, .string a0_1]] rfl (by (try simp only [List.map_toArray, List.map_cons, List.map_nil]); first | done | rfl | (simp only [hQ3.out]; done) | (simp only [hQ3.out]; rfl)) ?_; refine Calls.mono (calls_of_args (by first | (simp only [hQ3.out] <;> rfl) | rfl) (bursarref11_Name.calls 2 a0_1 t194 true _ A3.out)) ?_; rintro e w35 ⟨he_, hb⟩; subst he_; refine ⟨_, rfl, ?_⟩; replace HO := Aside0.mk (Ow.Own.call HO.out hb); clear hb) | ((with_reducible refine gate_callee (f := 71) rfl ?_); refine goesL_ (some 23) rfl rfl Try.func71 (by kernel_rfl) rfl #[.string a0_0] rfl (by (try simp only [List.map_toArray, List.map_cons, List.map_nil]); first | done | rfl | (simp only [hQ3.out]; done) | (simp only [hQ3.out]; rfl)) ?_; refine Calls.mono (calls_of_args (by first | (simp only [hQ3.out] <;> rfl) | rfl) (bursarref14_Ref.calls a0_0 true _ A4.out)) ?_; rintro e w' ⟨he_, ⟨nd, rfl⟩⟩; subst he_; refine ⟨_, rfl, ?_⟩; replace HO := Aside0.mk (Ow.Own.drewN HO.out nd)) | ((with_reducible refine Ow.gate_build rfl ?_); (try (refine gate_guard (by rfl) ?_; dsimp only)); refine' Ow.tbuild Ot.bd rfl rfl rfl ?hf_ ?_; (case hf_ => repeat (any_goals (first | exact Ow.Fills.nil | (refine' Ow.Fills.cons ?hv_ rfl ?hn_ ?hz_ ?_; (case hv_ => first | exact Ow.ev_tmp rfl | rfl); (case hn_ => first | (simp only [hQ3.out] <;> rfl) | rfl); (case hz_ => first | (simp only [hQ3.out] <;> rfl) | rfl)))))) | ((with_reducible refine Ow.gate_load rfl ?_); (try (refine gate_guard (by rfl) ?_; dsimp only)); (first | refine Ow.tload1 Ot.ty HO.out rfl rfl rfl rfl (by with_reducible first | exact Ow.at0) (by first | (simp only [hQ3.out] <;> rfl) | rfl) ?_)))
              go_ret
              exact ⟨by first | rfl | (simp only [hQ3.out]; done) | (simp only [hQ3.out]; rfl) | (simp [errW_none, errW_some] <;> rfl) | (simp [*, errW_none, errW_some] <;> rfl), Ow.Own.below HO.out⟩
          · rw [if_neg c9] at H
            have c9b0 : decide (a0_4 ≤ a0_3) = false := decide_eq_false c9
            clear c9
            obtain rfl := Option.some.inj H
            obtain ⟨Q4, hQ4_⟩ : ∃ q_ : Array Value, q_ = (#[.string a0_0, .string a0_1, .string a0_2, .int .i64 a0_3, .int .i64 a0_4, .int .i64 a0_5, .bool a0_6] : Array Value) := ⟨_, rfl⟩
            try rw [← hQ4_]
            have hQ4 := Aside0.mk hQ4_; clear hQ4_
            go_enter Try.func45, Try.ntmps45
            go_wp2_with (first | ((with_reducible refine gate_dst (N := 1) rfl ?_); refine Ow.box rfl (N := 1) rfl (cs := Q4) (t := 61) HO.out (by first | (go_simp; done) | (go_simp; rfl)) ?_; clear HO; intro gb191 w37 HO; simp only [List.cons_append, List.nil_append] at HO) | ((with_reducible refine gate_callee (f := 16) rfl ?_); refine goesL_ (some 11) rfl rfl Try.func16 (by kernel_rfl) rfl #[.agg #[.int .i64 1, .string a0_2]] rfl (by (try simp only [List.map_toArray, List.map_cons, List.map_nil]); first | done | rfl | (simp only [hQ4.out]; done) | (simp only [hQ4.out]; rfl)) ?_; refine Calls.mono (calls_of_args (by first | (simp only [hQ4.out] <;> rfl) | rfl) (bursarref11_Name.calls 1 a0_2 t192 true _ A2.out)) ?_; rintro e w39 ⟨he_, hb⟩; subst he_; refine ⟨_, rfl, ?_⟩; replace HO := Aside0.mk (Ow.Own.call HO.out hb); clear hb) | ((with_reducible refine gate_callee (f := 16) rfl ?_); refine goesL_ (some 18) rfl rfl Try.func16 (by kernel_rfl) rfl #[.agg #[.int .i64 2, .string a0_1]] rfl (by (try simp only [List.map_toArray, List.map_cons, List.map_nil]); first | done | rfl | (simp only [hQ4.out]; done) | (simp only [hQ4.out]; rfl)) ?_; refine Calls.mono (calls_of_args (by first | (simp only [hQ4.out] <;> rfl) | rfl) (bursarref11_Name.calls 2 a0_1 t194 true _ A3.out)) ?_; rintro e w41 ⟨he_, hb⟩; subst he_; refine ⟨_, rfl, ?_⟩; replace HO := Aside0.mk (Ow.Own.call HO.out hb); clear hb) | ((with_reducible refine gate_callee (f := 71) rfl ?_); refine goesL_ (some 23) rfl rfl Try.func71 (by kernel_rfl) rfl #[.string a0_0] rfl (by (try simp only [List.map_toArray, List.map_cons, List.map_nil]); first | done | rfl | (simp only [hQ4.out]; done) | (simp only [hQ4.out]; rfl)) ?_; refine Calls.mono (calls_of_args (by first | (simp only [hQ4.out] <;> rfl) | rfl) (bursarref14_Ref.calls a0_0 true _ A4.out)) ?_; rintro e w' ⟨he_, ⟨nd, rfl⟩⟩; subst he_; refine ⟨_, rfl, ?_⟩; replace HO := Aside0.mk (Ow.Own.drewN HO.out nd)) | ((with_reducible refine Ow.gate_build rfl ?_); (try (refine gate_guard (by rfl) ?_; dsimp only)); refine' Ow.tbuild Ot.bd rfl rfl rfl ?hf_ ?_; (case hf_ => repeat (any_goals (first | exact Ow.Fills.nil | (refine' Ow.Fills.cons ?hv_ rfl ?hn_ ?hz_ ?_; (case hv_ => first | exact Ow.ev_tmp rfl | rfl); (case hn_ => first | (simp only [hQ4.out] <;> rfl) | rfl); (case hz_ => first | (simp only [hQ4.out] <;> rfl) | rfl)))))) | ((with_reducible refine Ow.gate_load rfl ?_); (try (refine gate_guard (by rfl) ?_; dsimp only)); (first | refine Ow.tload1 Ot.ty HO.out rfl rfl rfl rfl (by with_reducible first | exact Ow.at0) (by first | (simp only [hQ4.out] <;> rfl) | rfl) ?_)))
            go_ret
            exact ⟨by first | rfl | (simp only [hQ4.out]; done) | (simp only [hQ4.out]; rfl) | (simp [errW_none, errW_some] <;> rfl) | (simp [*, errW_none, errW_some] <;> rfl), Ow.Own.below HO.out⟩
        · rw [if_neg c8] at H
          have c8b0 : decide (0 ≤ a0_4) = false := decide_eq_false c8
          clear c8
          obtain rfl := Option.some.inj H
          obtain ⟨Q5, hQ5_⟩ : ∃ q_ : Array Value, q_ = (#[.string a0_0, .string a0_1, .string a0_2, .int .i64 a0_3, .int .i64 a0_4, .int .i64 a0_5, .bool a0_6] : Array Value) := ⟨_, rfl⟩
          try rw [← hQ5_]
          have hQ5 := Aside0.mk hQ5_; clear hQ5_
          go_enter Try.func45, Try.ntmps45
          go_wp2_with (first | ((with_reducible refine gate_dst (N := 1) rfl ?_); refine Ow.box rfl (N := 1) rfl (cs := Q5) (t := 61) HO.out (by first | (go_simp; done) | (go_simp; rfl)) ?_; clear HO; intro gb191 w43 HO; simp only [List.cons_append, List.nil_append] at HO) | ((with_reducible refine gate_callee (f := 16) rfl ?_); refine goesL_ (some 11) rfl rfl Try.func16 (by kernel_rfl) rfl #[.agg #[.int .i64 1, .string a0_2]] rfl (by (try simp only [List.map_toArray, List.map_cons, List.map_nil]); first | done | rfl | (simp only [hQ5.out]; done) | (simp only [hQ5.out]; rfl)) ?_; refine Calls.mono (calls_of_args (by first | (simp only [hQ5.out] <;> rfl) | rfl) (bursarref11_Name.calls 1 a0_2 t192 true _ A2.out)) ?_; rintro e w45 ⟨he_, hb⟩; subst he_; refine ⟨_, rfl, ?_⟩; replace HO := Aside0.mk (Ow.Own.call HO.out hb); clear hb) | ((with_reducible refine gate_callee (f := 16) rfl ?_); refine goesL_ (some 18) rfl rfl Try.func16 (by kernel_rfl) rfl #[.agg #[.int .i64 2, .string a0_1]] rfl (by (try simp only [List.map_toArray, List.map_cons, List.map_nil]); first | done | rfl | (simp only [hQ5.out]; done) | (simp only [hQ5.out]; rfl)) ?_; refine Calls.mono (calls_of_args (by first | (simp only [hQ5.out] <;> rfl) | rfl) (bursarref11_Name.calls 2 a0_1 t194 true _ A3.out)) ?_; rintro e w47 ⟨he_, hb⟩; subst he_; refine ⟨_, rfl, ?_⟩; replace HO := Aside0.mk (Ow.Own.call HO.out hb); clear hb) | ((with_reducible refine gate_callee (f := 71) rfl ?_); refine goesL_ (some 23) rfl rfl Try.func71 (by kernel_rfl) rfl #[.string a0_0] rfl (by (try simp only [List.map_toArray, List.map_cons, List.map_nil]); first | done | rfl | (simp only [hQ5.out]; done) | (simp only [hQ5.out]; rfl)) ?_; refine Calls.mono (calls_of_args (by first | (simp only [hQ5.out] <;> rfl) | rfl) (bursarref14_Ref.calls a0_0 true _ A4.out)) ?_; rintro e w' ⟨he_, ⟨nd, rfl⟩⟩; subst he_; refine ⟨_, rfl, ?_⟩; replace HO := Aside0.mk (Ow.Own.drewN HO.out nd)) | ((with_reducible refine Ow.gate_build rfl ?_); (try (refine gate_guard (by rfl) ?_; dsimp only)); refine' Ow.tbuild Ot.bd rfl rfl rfl ?hf_ ?_; (case hf_ => repeat (any_goals (first | exact Ow.Fills.nil | (refine' Ow.Fills.cons ?hv_ rfl ?hn_ ?hz_ ?_; (case hv_ => first | exact Ow.ev_tmp rfl | rfl); (case hn_ => first | (simp only [hQ5.out] <;> rfl) | rfl); (case hz_ => first | (simp only [hQ5.out] <;> rfl) | rfl)))))) | ((with_reducible refine Ow.gate_load rfl ?_); (try (refine gate_guard (by rfl) ?_; dsimp only)); (first | refine Ow.tload1 Ot.ty HO.out rfl rfl rfl rfl (by with_reducible first | exact Ow.at0) (by first | (simp only [hQ5.out] <;> rfl) | rfl) ?_)))
          go_ret
          exact ⟨by first | rfl | (simp only [hQ5.out]; done) | (simp only [hQ5.out]; rfl) | (simp [errW_none, errW_some] <;> rfl) | (simp [*, errW_none, errW_some] <;> rfl), Ow.Own.below HO.out⟩
      · replace c7 := Bool.eq_false_iff.mpr c7
        subst c7
        have H1 : (some false) = some r := by rw [if_neg (show ¬ (false = true) by decide)] at H; exact H
        clear H
        have H := H1
        clear H1
        obtain rfl := Option.some.inj H
        obtain ⟨Q6, hQ6_⟩ : ∃ q_ : Array Value, q_ = (#[.string a0_0, .string a0_1, .string a0_2, .int .i64 a0_3, .int .i64 a0_4, .int .i64 a0_5, .bool a0_6] : Array Value) := ⟨_, rfl⟩
        try rw [← hQ6_]
        have hQ6 := Aside0.mk hQ6_; clear hQ6_
        go_enter Try.func45, Try.ntmps45
        go_wp2_with (first | ((with_reducible refine gate_dst (N := 1) rfl ?_); refine Ow.box rfl (N := 1) rfl (cs := Q6) (t := 61) HO.out (by first | (go_simp; done) | (go_simp; rfl)) ?_; clear HO; intro gb191 w49 HO; simp only [List.cons_append, List.nil_append] at HO) | ((with_reducible refine gate_callee (f := 16) rfl ?_); refine goesL_ (some 11) rfl rfl Try.func16 (by kernel_rfl) rfl #[.agg #[.int .i64 1, .string a0_2]] rfl (by (try simp only [List.map_toArray, List.map_cons, List.map_nil]); first | done | rfl | (simp only [hQ6.out]; done) | (simp only [hQ6.out]; rfl)) ?_; refine Calls.mono (calls_of_args (by first | (simp only [hQ6.out] <;> rfl) | rfl) (bursarref11_Name.calls 1 a0_2 t192 true _ A2.out)) ?_; rintro e w51 ⟨he_, hb⟩; subst he_; refine ⟨_, rfl, ?_⟩; replace HO := Aside0.mk (Ow.Own.call HO.out hb); clear hb) | ((with_reducible refine gate_callee (f := 16) rfl ?_); refine goesL_ (some 18) rfl rfl Try.func16 (by kernel_rfl) rfl #[.agg #[.int .i64 2, .string a0_1]] rfl (by (try simp only [List.map_toArray, List.map_cons, List.map_nil]); first | done | rfl | (simp only [hQ6.out]; done) | (simp only [hQ6.out]; rfl)) ?_; refine Calls.mono (calls_of_args (by first | (simp only [hQ6.out] <;> rfl) | rfl) (bursarref11_Name.calls 2 a0_1 t194 false _ A3.out)) ?_; rintro e w53 ⟨he_, hb⟩; subst he_; refine ⟨_, rfl, ?_⟩; replace HO := Aside0.mk (Ow.Own.call HO.out hb); clear hb) | ((with_reducible refine gate_callee (f := 71) rfl ?_); refine goesL_ (some 23) rfl rfl Try.func71 (by kernel_rfl) rfl #[.string a0_0] rfl (by (try simp only [List.map_toArray, List.map_cons, List.map_nil]); first | done | rfl | (simp only [hQ6.out]; done) | (simp only [hQ6.out]; rfl)) ?_; refine Calls.mono (calls_of_args (by first | (simp only [hQ6.out] <;> rfl) | rfl) (bursarref14_Ref.calls a0_0 true _ A4.out)) ?_; rintro e w' ⟨he_, ⟨nd, rfl⟩⟩; subst he_; refine ⟨_, rfl, ?_⟩; replace HO := Aside0.mk (Ow.Own.drewN HO.out nd)) | ((with_reducible refine Ow.gate_build rfl ?_); (try (refine gate_guard (by rfl) ?_; dsimp only)); refine' Ow.tbuild Ot.bd rfl rfl rfl ?hf_ ?_; (case hf_ => repeat (any_goals (first | exact Ow.Fills.nil | (refine' Ow.Fills.cons ?hv_ rfl ?hn_ ?hz_ ?_; (case hv_ => first | exact Ow.ev_tmp rfl | rfl); (case hn_ => first | (simp only [hQ6.out] <;> rfl) | rfl); (case hz_ => first | (simp only [hQ6.out] <;> rfl) | rfl)))))) | ((with_reducible refine Ow.gate_load rfl ?_); (try (refine gate_guard (by rfl) ?_; dsimp only)); (first | refine Ow.tload1 Ot.ty HO.out rfl rfl rfl rfl (by with_reducible first | exact Ow.at0) (by first | (simp only [hQ6.out] <;> rfl) | rfl) ?_)))
        go_ret
        exact ⟨by first | rfl | (simp only [hQ6.out]; done) | (simp only [hQ6.out]; rfl) | (simp [errW_none, errW_some] <;> rfl) | (simp [*, errW_none, errW_some] <;> rfl), Ow.Own.below HO.out⟩
    · replace c6 := Bool.eq_false_iff.mpr c6
      subst c6
      have H1 : (some false) = some r := by rw [if_neg (show ¬ (false = true) by decide)] at H; exact H
      clear H
      have H := H1
      clear H1
      obtain rfl := Option.some.inj H
      obtain ⟨Q7, hQ7_⟩ : ∃ q_ : Array Value, q_ = (#[.string a0_0, .string a0_1, .string a0_2, .int .i64 a0_3, .int .i64 a0_4, .int .i64 a0_5, .bool a0_6] : Array Value) := ⟨_, rfl⟩
      try rw [← hQ7_]
      have hQ7 := Aside0.mk hQ7_; clear hQ7_
      go_enter Try.func45, Try.ntmps45
      go_wp2_with (first | ((with_reducible refine gate_dst (N := 1) rfl ?_); refine Ow.box rfl (N := 1) rfl (cs := Q7) (t := 61) HO.out (by first | (go_simp; done) | (go_simp; rfl)) ?_; clear HO; intro gb191 w55 HO; simp only [List.cons_append, List.nil_append] at HO) | ((with_reducible refine gate_callee (f := 16) rfl ?_); refine goesL_ (some 11) rfl rfl Try.func16 (by kernel_rfl) rfl #[.agg #[.int .i64 1, .string a0_2]] rfl (by (try simp only [List.map_toArray, List.map_cons, List.map_nil]); first | done | rfl | (simp only [hQ7.out]; done) | (simp only [hQ7.out]; rfl)) ?_; refine Calls.mono (calls_of_args (by first | (simp only [hQ7.out] <;> rfl) | rfl) (bursarref11_Name.calls 1 a0_2 t192 false _ A2.out)) ?_; rintro e w57 ⟨he_, hb⟩; subst he_; refine ⟨_, rfl, ?_⟩; replace HO := Aside0.mk (Ow.Own.call HO.out hb); clear hb) | ((with_reducible refine gate_callee (f := 16) rfl ?_); refine goesL_ (some 18) rfl rfl Try.func16 (by kernel_rfl) rfl #[.agg #[.int .i64 2, .string a0_1]] rfl (by (try simp only [List.map_toArray, List.map_cons, List.map_nil]); first | done | rfl | (simp only [hQ7.out]; done) | (simp only [hQ7.out]; rfl)) ?_; refine Calls.mono (calls_of_args (by first | (simp only [hQ7.out] <;> rfl) | rfl) (bursarref11_Name.calls 2 a0_1 t194 t195 _ A3.out)) ?_; rintro e w59 ⟨he_, hb⟩; subst he_; refine ⟨_, rfl, ?_⟩; replace HO := Aside0.mk (Ow.Own.call HO.out hb); clear hb) | ((with_reducible refine gate_callee (f := 71) rfl ?_); refine goesL_ (some 23) rfl rfl Try.func71 (by kernel_rfl) rfl #[.string a0_0] rfl (by (try simp only [List.map_toArray, List.map_cons, List.map_nil]); first | done | rfl | (simp only [hQ7.out]; done) | (simp only [hQ7.out]; rfl)) ?_; refine Calls.mono (calls_of_args (by first | (simp only [hQ7.out] <;> rfl) | rfl) (bursarref14_Ref.calls a0_0 true _ A4.out)) ?_; rintro e w' ⟨he_, ⟨nd, rfl⟩⟩; subst he_; refine ⟨_, rfl, ?_⟩; replace HO := Aside0.mk (Ow.Own.drewN HO.out nd)) | ((with_reducible refine Ow.gate_build rfl ?_); (try (refine gate_guard (by rfl) ?_; dsimp only)); refine' Ow.tbuild Ot.bd rfl rfl rfl ?hf_ ?_; (case hf_ => repeat (any_goals (first | exact Ow.Fills.nil | (refine' Ow.Fills.cons ?hv_ rfl ?hn_ ?hz_ ?_; (case hv_ => first | exact Ow.ev_tmp rfl | rfl); (case hn_ => first | (simp only [hQ7.out] <;> rfl) | rfl); (case hz_ => first | (simp only [hQ7.out] <;> rfl) | rfl)))))) | ((with_reducible refine Ow.gate_load rfl ?_); (try (refine gate_guard (by rfl) ?_; dsimp only)); (first | refine Ow.tload1 Ot.ty HO.out rfl rfl rfl rfl (by with_reducible first | exact Ow.at0) (by first | (simp only [hQ7.out] <;> rfl) | rfl) ?_)))
      go_ret
      exact ⟨by first | rfl | (simp only [hQ7.out]; done) | (simp only [hQ7.out]; rfl) | (simp [errW_none, errW_some] <;> rfl) | (simp [*, errW_none, errW_some] <;> rfl), Ow.Own.below HO.out⟩
  · replace c5 := Bool.eq_false_iff.mpr c5
    subst c5
    have H1 : (some false) = some r := by rw [if_neg (show ¬ (false = true) by decide)] at H; exact H
    clear H
    have H := H1
    clear H1
    obtain rfl := Option.some.inj H
    obtain ⟨Q8, hQ8_⟩ : ∃ q_ : Array Value, q_ = (#[.string a0_0, .string a0_1, .string a0_2, .int .i64 a0_3, .int .i64 a0_4, .int .i64 a0_5, .bool a0_6] : Array Value) := ⟨_, rfl⟩
    try rw [← hQ8_]
    have hQ8 := Aside0.mk hQ8_; clear hQ8_
    go_enter Try.func45, Try.ntmps45
    go_wp2_with (first | ((with_reducible refine gate_dst (N := 1) rfl ?_); refine Ow.box rfl (N := 1) rfl (cs := Q8) (t := 61) HO.out (by first | (go_simp; done) | (go_simp; rfl)) ?_; clear HO; intro gb191 w61 HO; simp only [List.cons_append, List.nil_append] at HO) | ((with_reducible refine gate_callee (f := 16) rfl ?_); refine goesL_ (some 11) rfl rfl Try.func16 (by kernel_rfl) rfl #[.agg #[.int .i64 1, .string a0_2]] rfl (by (try simp only [List.map_toArray, List.map_cons, List.map_nil]); first | done | rfl | (simp only [hQ8.out]; done) | (simp only [hQ8.out]; rfl)) ?_; refine Calls.mono (calls_of_args (by first | (simp only [hQ8.out] <;> rfl) | rfl) (bursarref11_Name.calls 1 a0_2 t192 t193 _ A2.out)) ?_; rintro e w63 ⟨he_, hb⟩; subst he_; refine ⟨_, rfl, ?_⟩; replace HO := Aside0.mk (Ow.Own.call HO.out hb); clear hb) | ((with_reducible refine gate_callee (f := 16) rfl ?_); refine goesL_ (some 18) rfl rfl Try.func16 (by kernel_rfl) rfl #[.agg #[.int .i64 2, .string a0_1]] rfl (by (try simp only [List.map_toArray, List.map_cons, List.map_nil]); first | done | rfl | (simp only [hQ8.out]; done) | (simp only [hQ8.out]; rfl)) ?_; refine Calls.mono (calls_of_args (by first | (simp only [hQ8.out] <;> rfl) | rfl) (bursarref11_Name.calls 2 a0_1 t194 t195 _ A3.out)) ?_; rintro e w65 ⟨he_, hb⟩; subst he_; refine ⟨_, rfl, ?_⟩; replace HO := Aside0.mk (Ow.Own.call HO.out hb); clear hb) | ((with_reducible refine gate_callee (f := 71) rfl ?_); refine goesL_ (some 23) rfl rfl Try.func71 (by kernel_rfl) rfl #[.string a0_0] rfl (by (try simp only [List.map_toArray, List.map_cons, List.map_nil]); first | done | rfl | (simp only [hQ8.out]; done) | (simp only [hQ8.out]; rfl)) ?_; refine Calls.mono (calls_of_args (by first | (simp only [hQ8.out] <;> rfl) | rfl) (bursarref14_Ref.calls a0_0 false _ A4.out)) ?_; rintro e w' ⟨he_, ⟨nd, rfl⟩⟩; subst he_; refine ⟨_, rfl, ?_⟩; replace HO := Aside0.mk (Ow.Own.drewN HO.out nd)) | ((with_reducible refine Ow.gate_build rfl ?_); (try (refine gate_guard (by rfl) ?_; dsimp only)); refine' Ow.tbuild Ot.bd rfl rfl rfl ?hf_ ?_; (case hf_ => repeat (any_goals (first | exact Ow.Fills.nil | (refine' Ow.Fills.cons ?hv_ rfl ?hn_ ?hz_ ?_; (case hv_ => first | exact Ow.ev_tmp rfl | rfl); (case hn_ => first | (simp only [hQ8.out] <;> rfl) | rfl); (case hz_ => first | (simp only [hQ8.out] <;> rfl) | rfl)))))) | ((with_reducible refine Ow.gate_load rfl ?_); (try (refine gate_guard (by rfl) ?_; dsimp only)); (first | refine Ow.tload1 Ot.ty HO.out rfl rfl rfl rfl (by with_reducible first | exact Ow.at0) (by first | (simp only [hQ8.out] <;> rfl) | rfl) ?_)))
    go_ret
    exact ⟨by first | rfl | (simp only [hQ8.out]; done) | (simp only [hQ8.out]; rfl) | (simp [errW_none, errW_some] <;> rfl) | (simp [*, errW_none, errW_some] <;> rfl), Ow.Own.below HO.out⟩

/-! #### bursarref14_May, refined -/
theorem ref14_May_e (rrn acq pan : ByteArray) (ap ca un : Int) (op : Bool) : bursarref14_May_p.f rrn acq pan ap ca un op = some (Pu.hmay rrn acq pan ap ca un op) := by
  unfold bursarref14_May_p.f bursarref14_Ref.f bursarref11_Name.f Pu.hmay
  simp only [Option.bind_some]
  cases Pu.refB rrn <;> cases Pu.mayB 1 pan <;> cases Pu.mayB 2 acq <;> try (simp; done)
  by_cases h1 : 0 ≤ un <;> by_cases h2 : un ≤ 2147483647 <;> by_cases h3 : 0 ≤ ca <;> by_cases h4 : ca ≤ ap <;> cases op <;> simp [h1, h2, h3, h4]
def bursarref14_May.f (a0_0 a0_1 a0_2 : ByteArray) (a0_3 a0_4 a0_5 : Int) (a0_6 : Bool) : Option Bool := some (Pu.hmay a0_0 a0_1 a0_2 a0_3 a0_4 a0_5 a0_6)
theorem bursarref14_May.calls (a0_0 a0_1 a0_2 : ByteArray) (a0_3 a0_4 a0_5 : Int) (a0_6 : Bool) (r : Bool) (w : World) (h : bursarref14_May.f a0_0 a0_1 a0_2 a0_3 a0_4 a0_5 a0_6 = some r) :
    Calls Try.prog 45 #[.agg #[.string a0_0, .string a0_1, .string a0_2, .int .i64 a0_3, .int .i64 a0_4, .int .i64 a0_5, .bool a0_6]] w fun e w' => e = .returned (.bool r) ∧ Below w.heap.size w w' :=
  bursarref14_May_p.calls a0_0 a0_1 a0_2 a0_3 a0_4 a0_5 a0_6 r w ((ref14_May_e a0_0 a0_1 a0_2 a0_3 a0_4 a0_5 a0_6).trans h)


/-! ### bursarref24_May: function 41 -/
def bursarref24_May.f (a0_0 : ByteArray) (a0_1 : ByteArray) (a0_2 : ByteArray) (a0_3 : Int) (a0_4 : ByteArray) (a0_5 : ByteArray) (a0_6 : ByteArray) (a0_7 : ByteArray) (a0_8 : ByteArray) (a0_9 : Int) (a0_10 : Int) (a0_11 : ByteArray) (a0_12 : Bool) (a0_13 : Int) (a0_14 : ByteArray) (a0_15 : ByteArray) (a0_16 : ByteArray) (a0_17 : Int) (a0_18 : Int) (a0_19 : Int) (a0_20 : Bool) (a0_21 : Bool) (a0_22 : Int) (a0_23 : Int) (a0_24 : Bool) : Option (Bool) := (bursarref11_Name.f 2 a0_6).bind fun bt198 => (if bt198.2 = true then ((bursarref14_Ref.f a0_7).bind fun t200 => (if t200 = true then (if a0_3 < 0 then (some false) else (if (a0_8.size : Int) = 35 then (if a0_21 = true then ((bursarref14_May.f a0_14 a0_15 a0_16 a0_17 a0_18 a0_19 a0_20).bind fun t201 => (if t201 = true then (if a0_14.toList = a0_7.toList then (some (a0_15.toList == a0_6.toList)) else (some false)) else (some false))) else (some true)) else (some false))) else (some false))) else (some false))
set_option maxHeartbeats 8000000 in
set_option maxRecDepth 100000 in
theorem bursarref24_May.calls (a0_0 : ByteArray) (a0_1 : ByteArray) (a0_2 : ByteArray) (a0_3 : Int) (a0_4 : ByteArray) (a0_5 : ByteArray) (a0_6 : ByteArray) (a0_7 : ByteArray) (a0_8 : ByteArray) (a0_9 : Int) (a0_10 : Int) (a0_11 : ByteArray) (a0_12 : Bool) (a0_13 : Int) (a0_14 : ByteArray) (a0_15 : ByteArray) (a0_16 : ByteArray) (a0_17 : Int) (a0_18 : Int) (a0_19 : Int) (a0_20 : Bool) (a0_21 : Bool) (a0_22 : Int) (a0_23 : Int) (a0_24 : Bool) (r : Bool) (w : World) (h : bursarref24_May.f a0_0 a0_1 a0_2 a0_3 a0_4 a0_5 a0_6 a0_7 a0_8 a0_9 a0_10 a0_11 a0_12 a0_13 a0_14 a0_15 a0_16 a0_17 a0_18 a0_19 a0_20 a0_21 a0_22 a0_23 a0_24 = some r) :
    Calls Try.prog 41 #[.agg #[.string a0_0, .string a0_1, .string a0_2, .int .i64 a0_3, .string a0_4, .string a0_5, .string a0_6, .string a0_7, .string a0_8, .int .i64 a0_9, .int .i64 a0_10, .string a0_11, .bool a0_12, .int .i64 a0_13, .string a0_14, .string a0_15, .string a0_16, .int .i64 a0_17, .int .i64 a0_18, .int .i64 a0_19, .bool a0_20, .bool a0_21, .int .i64 a0_22, .int .i64 a0_23, .bool a0_24]] w fun e w' => e = .returned (.bool r) ∧ Below w.heap.size w w' := by
  have hu63 := Try.underlying63
  have hu23 := Try.underlying23
  have hu61 := Try.underlying61
  have HO := Aside0.mk (Ow.Own.nil w)
  have hmf : ∀ (fn : Fn) (first cap : Array Value) (w : World), (Instr.makeFunc fn first cap).run Try.prog w = .ok (.func fn first cap) w := fun _ _ _ _ => rfl
  have H : ((bursarref11_Name.f 2 a0_6).bind fun bt198 => (if bt198.2 = true then ((bursarref14_Ref.f a0_7).bind fun t200 => (if t200 = true then (if a0_3 < 0 then (some false) else (if (a0_8.size : Int) = 35 then (if a0_21 = true then ((bursarref14_May.f a0_14 a0_15 a0_16 a0_17 a0_18 a0_19 a0_20).bind fun t201 => (if t201 = true then (if a0_14.toList = a0_7.toList then (some (a0_15.toList == a0_6.toList)) else (some false)) else (some false))) else (some true)) else (some false))) else (some false))) else (some false))) = some r := h
  clear h
  replace H := Option.bind_eq_some_iff.mp H
  obtain ⟨⟨t198, t199⟩, A20, H⟩ := H
  replace H : (if t199 = true then ((bursarref14_Ref.f a0_7).bind fun t200 => (if t200 = true then (if a0_3 < 0 then (some false) else (if (a0_8.size : Int) = 35 then (if a0_21 = true then ((bursarref14_May.f a0_14 a0_15 a0_16 a0_17 a0_18 a0_19 a0_20).bind fun t201 => (if t201 = true then (if a0_14.toList = a0_7.toList then (some (a0_15.toList == a0_6.toList)) else (some false)) else (some false))) else (some true)) else (some false))) else (some false))) else (some false)) = some r := H
  have A2 := Aside0.mk A20
  clear A20
  by_cases c3 : t199 = true
  · subst c3
    have H1 : ((bursarref14_Ref.f a0_7).bind fun t200 => (if t200 = true then (if a0_3 < 0 then (some false) else (if (a0_8.size : Int) = 35 then (if a0_21 = true then ((bursarref14_May.f a0_14 a0_15 a0_16 a0_17 a0_18 a0_19 a0_20).bind fun t201 => (if t201 = true then (if a0_14.toList = a0_7.toList then (some (a0_15.toList == a0_6.toList)) else (some false)) else (some false))) else (some true)) else (some false))) else (some false))) = some r := by rw [if_pos rfl] at H; exact H
    clear H
    have H := H1
    clear H1
    replace H := Option.bind_eq_some_iff.mp H
    obtain ⟨t200, A40, H⟩ := H
    replace H : (if t200 = true then (if a0_3 < 0 then (some false) else (if (a0_8.size : Int) = 35 then (if a0_21 = true then ((bursarref14_May.f a0_14 a0_15 a0_16 a0_17 a0_18 a0_19 a0_20).bind fun t201 => (if t201 = true then (if a0_14.toList = a0_7.toList then (some (a0_15.toList == a0_6.toList)) else (some false)) else (some false))) else (some true)) else (some false))) else (some false)) = some r := H
    have A4 := Aside0.mk A40
    clear A40
    by_cases c5 : t200 = true
    · subst c5
      have H1 : (if a0_3 < 0 then (some false) else (if (a0_8.size : Int) = 35 then (if a0_21 = true then ((bursarref14_May.f a0_14 a0_15 a0_16 a0_17 a0_18 a0_19 a0_20).bind fun t201 => (if t201 = true then (if a0_14.toList = a0_7.toList then (some (a0_15.toList == a0_6.toList)) else (some false)) else (some false))) else (some true)) else (some false))) = some r := by rw [if_pos rfl] at H; exact H
      clear H
      have H := H1
      clear H1
      by_cases c6 : a0_3 < 0
      · rw [if_pos c6] at H
        have c6b0 : decide (a0_3 < 0) = true := decide_eq_true c6
        clear c6
        obtain rfl := Option.some.inj H
        obtain ⟨Q0, hQ0_⟩ : ∃ q_ : Array Value, q_ = (#[.string a0_0, .string a0_1, .string a0_2, .int .i64 a0_3, .string a0_4, .string a0_5, .string a0_6, .string a0_7, .string a0_8, .int .i64 a0_9, .int .i64 a0_10, .string a0_11, .bool a0_12, .int .i64 a0_13, .string a0_14, .string a0_15, .string a0_16, .int .i64 a0_17, .int .i64 a0_18, .int .i64 a0_19, .bool a0_20, .bool a0_21, .int .i64 a0_22, .int .i64 a0_23, .bool a0_24] : Array Value) := ⟨_, rfl⟩
        try rw [← hQ0_]
        have hQ0 := Aside0.mk hQ0_; clear hQ0_
        go_enter Try.func41, Try.ntmps41
        go_wp2_with (first | ((with_reducible refine gate_dst (N := 1) rfl ?_); (try (refine gate_guard (by rfl) ?_; dsimp only)); refine Ow.box rfl (N := 1) rfl (cs := Q0) (t := 63) HO.out (by first | (go_simp; done) | (go_simp; rfl)) ?_; clear HO; intro gb197 w7 HO; simp only [List.cons_append, List.nil_append] at HO) | ((with_reducible refine gate_callee (f := 16) rfl ?_); refine goesL_ (some 10) rfl rfl Try.func16 (by kernel_rfl) rfl #[.agg #[.int .i64 2, .string a0_6]] rfl (by (try simp only [List.map_toArray, List.map_cons, List.map_nil]); first | done | rfl | (simp only [hQ0.out]; done) | (simp only [hQ0.out]; rfl)) ?_; refine Calls.mono (calls_of_args (by first | (simp only [hQ0.out] <;> rfl) | rfl) (bursarref11_Name.calls 2 a0_6 t198 true _ A2.out)) ?_; rintro e w9 ⟨he_, hb⟩; subst he_; refine ⟨_, rfl, ?_⟩; replace HO := Aside0.mk (Ow.Own.call HO.out hb); clear hb) | (go_at_call 71; refine Calls.mono (calls_of_args (by first | (simp only [hQ0.out] <;> rfl) | rfl) (bursarref14_Ref.calls a0_7 true _ A4.out)) ?_; rintro e w' ⟨he_, ⟨nd, rfl⟩⟩; subst he_; replace HO := Aside0.mk (Ow.Own.drewN HO.out nd)) | ((with_reducible refine Ow.gate_build rfl ?_); (try (refine gate_guard (by rfl) ?_; dsimp only)); refine' Ow.tbuild Ot.bd rfl rfl rfl ?hf_ ?_; (case hf_ => repeat (any_goals (first | exact Ow.Fills.nil | (refine' Ow.Fills.cons ?hv_ rfl ?hn_ ?hz_ ?_; (case hv_ => first | exact Ow.ev_tmp rfl | rfl); (case hn_ => first | (simp only [hQ0.out] <;> rfl) | rfl); (case hz_ => first | (simp only [hQ0.out] <;> rfl) | rfl)))))) | ((with_reducible refine Ow.gate_load rfl ?_); (try (refine gate_guard (by rfl) ?_; dsimp only)); (first | refine Ow.tload1 Ot.ty HO.out rfl rfl rfl rfl (by with_reducible first | exact Ow.at0) (by first | (simp only [hQ0.out] <;> rfl) | rfl) ?_ | refine Ow.tload0 Ot.ty HO.out rfl rfl rfl rfl (by with_reducible first | exact Ow.at0) (by first | (simp only [hQ0.out] <;> rfl) | rfl) ?_ | refine Ow.tloadp Ot.ty HO.out rfl rfl rfl rfl (by with_reducible first | exact Ow.at0) (by first | (simp only [hQ0.out] <;> rfl) | rfl) ?_)))
        go_ret
        exact ⟨by first | rfl | (simp only [hQ0.out]; done) | (simp only [hQ0.out]; rfl) | (simp [errW_none, errW_some] <;> rfl) | (simp [*, errW_none, errW_some] <;> rfl), Ow.Own.below HO.out⟩
      · rw [if_neg c6] at H
        have c6b0 : decide (a0_3 < 0) = false := decide_eq_false c6
        clear c6
        by_cases c11 : (a0_8.size : Int) = 35
        · rw [if_pos c11] at H
          have c11b0 : ((a0_8.size : Int) == 35) = true := beq_iff_eq.mpr c11
          have c11b1 : ((a0_8.size : Int) != 35) = false := bne_eq_false_iff_eq.mpr c11
          clear c11
          by_cases c12 : a0_21 = true
          · subst c12
            have H1 : ((bursarref14_May.f a0_14 a0_15 a0_16 a0_17 a0_18 a0_19 a0_20).bind fun t201 => (if t201 = true then (if a0_14.toList = a0_7.toList then (some (a0_15.toList == a0_6.toList)) else (some false)) else (some false))) = some r := by rw [if_pos rfl] at H; exact H
            clear H
            have H := H1
            clear H1
            replace H := Option.bind_eq_some_iff.mp H
            obtain ⟨t201, A130, H⟩ := H
            replace H : (if t201 = true then (if a0_14.toList = a0_7.toList then (some (a0_15.toList == a0_6.toList)) else (some false)) else (some false)) = some r := H
            have A13 := Aside0.mk A130
            clear A130
            by_cases c14 : t201 = true
            · subst c14
              have H1 : (if a0_14.toList = a0_7.toList then (some (a0_15.toList == a0_6.toList)) else (some false)) = some r := by rw [if_pos rfl] at H; exact H
              clear H
              have H := H1
              clear H1
              by_cases c15 : a0_14.toList = a0_7.toList
              · rw [if_pos c15] at H
                have c15b0 : (a0_14.toList == a0_7.toList) = true := beq_iff_eq.mpr c15
                have c15b1 : (a0_14.toList != a0_7.toList) = false := bne_eq_false_iff_eq.mpr c15
                clear c15
                obtain rfl := Option.some.inj H
                obtain ⟨Q1, hQ1_⟩ : ∃ q_ : Array Value, q_ = (#[.string a0_0, .string a0_1, .string a0_2, .int .i64 a0_3, .string a0_4, .string a0_5, .string a0_6, .string a0_7, .string a0_8, .int .i64 a0_9, .int .i64 a0_10, .string a0_11, .bool a0_12, .int .i64 a0_13, .string a0_14, .string a0_15, .string a0_16, .int .i64 a0_17, .int .i64 a0_18, .int .i64 a0_19, .bool a0_20, .bool true, .int .i64 a0_22, .int .i64 a0_23, .bool a0_24] : Array Value) := ⟨_, rfl⟩
                try rw [← hQ1_]
                have hQ1 := Aside0.mk hQ1_; clear hQ1_
                go_enter Try.func41, Try.ntmps41
                go_wp2_with (first | ((with_reducible refine gate_dst (N := 1) rfl ?_); (try (refine gate_guard (by rfl) ?_; dsimp only)); refine Ow.box rfl (N := 1) rfl (cs := Q1) (t := 63) HO.out (by first | (go_simp; done) | (go_simp; rfl)) ?_; clear HO; intro gb197 w16 HO; simp only [List.cons_append, List.nil_append] at HO) | ((with_reducible refine gate_callee (f := 16) rfl ?_); refine goesL_ (some 10) rfl rfl Try.func16 (by kernel_rfl) rfl #[.agg #[.int .i64 2, .string a0_6]] rfl (by (try simp only [List.map_toArray, List.map_cons, List.map_nil]); first | done | rfl | (simp only [hQ1.out]; done) | (simp only [hQ1.out]; rfl)) ?_; refine Calls.mono (calls_of_args (by first | (simp only [hQ1.out] <;> rfl) | rfl) (bursarref11_Name.calls 2 a0_6 t198 true _ A2.out)) ?_; rintro e w18 ⟨he_, hb⟩; subst he_; refine ⟨_, rfl, ?_⟩; replace HO := Aside0.mk (Ow.Own.call HO.out hb); clear hb) | (go_at_call 71; refine Calls.mono (calls_of_args (by first | (simp only [hQ1.out] <;> rfl) | rfl) (bursarref14_Ref.calls a0_7 true _ A4.out)) ?_; rintro e w' ⟨he_, ⟨nd, rfl⟩⟩; subst he_; replace HO := Aside0.mk (Ow.Own.drewN HO.out nd)) | (go_at_call 45; refine Calls.mono (calls_of_args (by first | (simp only [hQ1.out] <;> rfl) | rfl) (bursarref14_May.calls a0_14 a0_15 a0_16 a0_17 a0_18 a0_19 a0_20 true _ A13.out)) ?_; rintro e w20 ⟨he_, hb⟩; subst he_; replace HO := Aside0.mk (Ow.Own.call HO.out hb); clear hb) | ((with_reducible refine Ow.gate_build rfl ?_); (try (refine gate_guard (by rfl) ?_; dsimp only)); refine' Ow.tbuild Ot.bd rfl rfl rfl ?hf_ ?_; (case hf_ => repeat (any_goals (first | exact Ow.Fills.nil | (refine' Ow.Fills.cons ?hv_ rfl ?hn_ ?hz_ ?_; (case hv_ => first | exact Ow.ev_tmp rfl | rfl); (case hn_ => first | (simp only [hQ1.out] <;> rfl) | rfl); (case hz_ => first | (simp only [hQ1.out] <;> rfl) | rfl)))))) | ((with_reducible refine Ow.gate_load rfl ?_); (try (refine gate_guard (by rfl) ?_; dsimp only)); (first | refine Ow.tload1 Ot.ty HO.out rfl rfl rfl rfl (by with_reducible first | exact Ow.at0) (by first | (simp only [hQ1.out] <;> rfl) | rfl) ?_ | refine Ow.tload0 Ot.ty HO.out rfl rfl rfl rfl (by with_reducible first | exact Ow.at0) (by first | (simp only [hQ1.out] <;> rfl) | rfl) ?_ | refine Ow.tloadp Ot.ty HO.out rfl rfl rfl rfl (by with_reducible first | exact Ow.at0) (by first | (simp only [hQ1.out] <;> rfl) | rfl) ?_)))
                go_ret
                exact ⟨by first | rfl | (simp only [hQ1.out]; done) | (simp only [hQ1.out]; rfl) | (simp [errW_none, errW_some] <;> rfl) | (simp [*, errW_none, errW_some] <;> rfl), Ow.Own.below HO.out⟩
              · rw [if_neg c15] at H
                have c15b0 : (a0_14.toList == a0_7.toList) = false := beq_eq_false_iff_ne.mpr c15
                have c15b1 : (a0_14.toList != a0_7.toList) = true := bne_iff_ne.mpr c15
                obtain rfl := Option.some.inj H
                obtain ⟨Q2, hQ2_⟩ : ∃ q_ : Array Value, q_ = (#[.string a0_0, .string a0_1, .string a0_2, .int .i64 a0_3, .string a0_4, .string a0_5, .string a0_6, .string a0_7, .string a0_8, .int .i64 a0_9, .int .i64 a0_10, .string a0_11, .bool a0_12, .int .i64 a0_13, .string a0_14, .string a0_15, .string a0_16, .int .i64 a0_17, .int .i64 a0_18, .int .i64 a0_19, .bool a0_20, .bool true, .int .i64 a0_22, .int .i64 a0_23, .bool a0_24] : Array Value) := ⟨_, rfl⟩
                try rw [← hQ2_]
                have hQ2 := Aside0.mk hQ2_; clear hQ2_
                go_enter Try.func41, Try.ntmps41
                go_wp2_with (first | ((with_reducible refine gate_dst (N := 1) rfl ?_); (try (refine gate_guard (by rfl) ?_; dsimp only)); refine Ow.box rfl (N := 1) rfl (cs := Q2) (t := 63) HO.out (by first | (go_simp; done) | (go_simp; rfl)) ?_; clear HO; intro gb197 w22 HO; simp only [List.cons_append, List.nil_append] at HO) | ((with_reducible refine gate_callee (f := 16) rfl ?_); refine goesL_ (some 10) rfl rfl Try.func16 (by kernel_rfl) rfl #[.agg #[.int .i64 2, .string a0_6]] rfl (by (try simp only [List.map_toArray, List.map_cons, List.map_nil]); first | done | rfl | (simp only [hQ2.out]; done) | (simp only [hQ2.out]; rfl)) ?_; refine Calls.mono (calls_of_args (by first | (simp only [hQ2.out] <;> rfl) | rfl) (bursarref11_Name.calls 2 a0_6 t198 true _ A2.out)) ?_; rintro e w24 ⟨he_, hb⟩; subst he_; refine ⟨_, rfl, ?_⟩; replace HO := Aside0.mk (Ow.Own.call HO.out hb); clear hb) | (go_at_call 71; refine Calls.mono (calls_of_args (by first | (simp only [hQ2.out] <;> rfl) | rfl) (bursarref14_Ref.calls a0_7 true _ A4.out)) ?_; rintro e w' ⟨he_, ⟨nd, rfl⟩⟩; subst he_; replace HO := Aside0.mk (Ow.Own.drewN HO.out nd)) | (go_at_call 45; refine Calls.mono (calls_of_args (by first | (simp only [hQ2.out] <;> rfl) | rfl) (bursarref14_May.calls a0_14 a0_15 a0_16 a0_17 a0_18 a0_19 a0_20 true _ A13.out)) ?_; rintro e w26 ⟨he_, hb⟩; subst he_; replace HO := Aside0.mk (Ow.Own.call HO.out hb); clear hb) | ((with_reducible refine Ow.gate_build rfl ?_); (try (refine gate_guard (by rfl) ?_; dsimp only)); refine' Ow.tbuild Ot.bd rfl rfl rfl ?hf_ ?_; (case hf_ => repeat (any_goals (first | exact Ow.Fills.nil | (refine' Ow.Fills.cons ?hv_ rfl ?hn_ ?hz_ ?_; (case hv_ => first | exact Ow.ev_tmp rfl | rfl); (case hn_ => first | (simp only [hQ2.out] <;> rfl) | rfl); (case hz_ => first | (simp only [hQ2.out] <;> rfl) | rfl)))))) | ((with_reducible refine Ow.gate_load rfl ?_); (try (refine gate_guard (by rfl) ?_; dsimp only)); (first | refine Ow.tload1 Ot.ty HO.out rfl rfl rfl rfl (by with_reducible first | exact Ow.at0) (by first | (simp only [hQ2.out] <;> rfl) | rfl) ?_ | refine Ow.tload0 Ot.ty HO.out rfl rfl rfl rfl (by with_reducible first | exact Ow.at0) (by first | (simp only [hQ2.out] <;> rfl) | rfl) ?_ | refine Ow.tloadp Ot.ty HO.out rfl rfl rfl rfl (by with_reducible first | exact Ow.at0) (by first | (simp only [hQ2.out] <;> rfl) | rfl) ?_)))
                go_ret
                exact ⟨by first | rfl | (simp only [hQ2.out]; done) | (simp only [hQ2.out]; rfl) | (simp [errW_none, errW_some] <;> rfl) | (simp [*, errW_none, errW_some] <;> rfl), Ow.Own.below HO.out⟩
            · replace c14 := Bool.eq_false_iff.mpr c14
              subst c14
              have H1 : (some false) = some r := by rw [if_neg (show ¬ (false = true) by decide)] at H; exact H
              clear H
              have H := H1
              clear H1
              obtain rfl := Option.some.inj H
              obtain ⟨Q3, hQ3_⟩ : ∃ q_ : Array Value, q_ = (#[.string a0_0, .string a0_1, .string a0_2, .int .i64 a0_3, .string a0_4, .string a0_5, .string a0_6, .string a0_7, .string a0_8, .int .i64 a0_9, .int .i64 a0_10, .string a0_11, .bool a0_12, .int .i64 a0_13, .string a0_14, .string a0_15, .string a0_16, .int .i64 a0_17, .int .i64 a0_18, .int .i64 a0_19, .bool a0_20, .bool true, .int .i64 a0_22, .int .i64 a0_23, .bool a0_24] : Array Value) := ⟨_, rfl⟩
              try rw [← hQ3_]
              have hQ3 := Aside0.mk hQ3_; clear hQ3_
              go_enter Try.func41, Try.ntmps41
              go_wp2_with (first | ((with_reducible refine gate_dst (N := 1) rfl ?_); (try (refine gate_guard (by rfl) ?_; dsimp only)); refine Ow.box rfl (N := 1) rfl (cs := Q3) (t := 63) HO.out (by first | (go_simp; done) | (go_simp; rfl)) ?_; clear HO; intro gb197 w28 HO; simp only [List.cons_append, List.nil_append] at HO) | ((with_reducible refine gate_callee (f := 16) rfl ?_); refine goesL_ (some 10) rfl rfl Try.func16 (by kernel_rfl) rfl #[.agg #[.int .i64 2, .string a0_6]] rfl (by (try simp only [List.map_toArray, List.map_cons, List.map_nil]); first | done | rfl | (simp only [hQ3.out]; done) | (simp only [hQ3.out]; rfl)) ?_; refine Calls.mono (calls_of_args (by first | (simp only [hQ3.out] <;> rfl) | rfl) (bursarref11_Name.calls 2 a0_6 t198 true _ A2.out)) ?_; rintro e w30 ⟨he_, hb⟩; subst he_; refine ⟨_, rfl, ?_⟩; replace HO := Aside0.mk (Ow.Own.call HO.out hb); clear hb) | (go_at_call 71; refine Calls.mono (calls_of_args (by first | (simp only [hQ3.out] <;> rfl) | rfl) (bursarref14_Ref.calls a0_7 true _ A4.out)) ?_; rintro e w' ⟨he_, ⟨nd, rfl⟩⟩; subst he_; replace HO := Aside0.mk (Ow.Own.drewN HO.out nd)) | (go_at_call 45; refine Calls.mono (calls_of_args (by first | (simp only [hQ3.out] <;> rfl) | rfl) (bursarref14_May.calls a0_14 a0_15 a0_16 a0_17 a0_18 a0_19 a0_20 false _ A13.out)) ?_; rintro e w32 ⟨he_, hb⟩; subst he_; replace HO := Aside0.mk (Ow.Own.call HO.out hb); clear hb) | ((with_reducible refine Ow.gate_build rfl ?_); (try (refine gate_guard (by rfl) ?_; dsimp only)); refine' Ow.tbuild Ot.bd rfl rfl rfl ?hf_ ?_; (case hf_ => repeat (any_goals (first | exact Ow.Fills.nil | (refine' Ow.Fills.cons ?hv_ rfl ?hn_ ?hz_ ?_; (case hv_ => first | exact Ow.ev_tmp rfl | rfl); (case hn_ => first | (simp only [hQ3.out] <;> rfl) | rfl); (case hz_ => first | (simp only [hQ3.out] <;> rfl) | rfl)))))) | ((with_reducible refine Ow.gate_load rfl ?_); (try (refine gate_guard (by rfl) ?_; dsimp only)); (first | refine Ow.tload1 Ot.ty HO.out rfl rfl rfl rfl (by with_reducible first | exact Ow.at0) (by first | (simp only [hQ3.out] <;> rfl) | rfl) ?_ | refine Ow.tload0 Ot.ty HO.out rfl rfl rfl rfl (by with_reducible first | exact Ow.at0) (by first | (simp only [hQ3.out] <;> rfl) | rfl) ?_ | refine Ow.tloadp Ot.ty HO.out rfl rfl rfl rfl (by with_reducible first | exact Ow.at0) (by first | (simp only [hQ3.out] <;> rfl) | rfl) ?_)))
              go_ret
              exact ⟨by first | rfl | (simp only [hQ3.out]; done) | (simp only [hQ3.out]; rfl) | (simp [errW_none, errW_some] <;> rfl) | (simp [*, errW_none, errW_some] <;> rfl), Ow.Own.below HO.out⟩
          · replace c12 := Bool.eq_false_iff.mpr c12
            subst c12
            have H1 : (some true) = some r := by rw [if_neg (show ¬ (false = true) by decide)] at H; exact H
            clear H
            have H := H1
            clear H1
            obtain rfl := Option.some.inj H
            obtain ⟨Q4, hQ4_⟩ : ∃ q_ : Array Value, q_ = (#[.string a0_0, .string a0_1, .string a0_2, .int .i64 a0_3, .string a0_4, .string a0_5, .string a0_6, .string a0_7, .string a0_8, .int .i64 a0_9, .int .i64 a0_10, .string a0_11, .bool a0_12, .int .i64 a0_13, .string a0_14, .string a0_15, .string a0_16, .int .i64 a0_17, .int .i64 a0_18, .int .i64 a0_19, .bool a0_20, .bool false, .int .i64 a0_22, .int .i64 a0_23, .bool a0_24] : Array Value) := ⟨_, rfl⟩
            try rw [← hQ4_]
            have hQ4 := Aside0.mk hQ4_; clear hQ4_
            go_enter Try.func41, Try.ntmps41
            go_wp2_with (first | ((with_reducible refine gate_dst (N := 1) rfl ?_); (try (refine gate_guard (by rfl) ?_; dsimp only)); refine Ow.box rfl (N := 1) rfl (cs := Q4) (t := 63) HO.out (by first | (go_simp; done) | (go_simp; rfl)) ?_; clear HO; intro gb197 w33 HO; simp only [List.cons_append, List.nil_append] at HO) | ((with_reducible refine gate_callee (f := 16) rfl ?_); refine goesL_ (some 10) rfl rfl Try.func16 (by kernel_rfl) rfl #[.agg #[.int .i64 2, .string a0_6]] rfl (by (try simp only [List.map_toArray, List.map_cons, List.map_nil]); first | done | rfl | (simp only [hQ4.out]; done) | (simp only [hQ4.out]; rfl)) ?_; refine Calls.mono (calls_of_args (by first | (simp only [hQ4.out] <;> rfl) | rfl) (bursarref11_Name.calls 2 a0_6 t198 true _ A2.out)) ?_; rintro e w35 ⟨he_, hb⟩; subst he_; refine ⟨_, rfl, ?_⟩; replace HO := Aside0.mk (Ow.Own.call HO.out hb); clear hb) | (go_at_call 71; refine Calls.mono (calls_of_args (by first | (simp only [hQ4.out] <;> rfl) | rfl) (bursarref14_Ref.calls a0_7 true _ A4.out)) ?_; rintro e w' ⟨he_, ⟨nd, rfl⟩⟩; subst he_; replace HO := Aside0.mk (Ow.Own.drewN HO.out nd)) | ((with_reducible refine Ow.gate_build rfl ?_); (try (refine gate_guard (by rfl) ?_; dsimp only)); refine' Ow.tbuild Ot.bd rfl rfl rfl ?hf_ ?_; (case hf_ => repeat (any_goals (first | exact Ow.Fills.nil | (refine' Ow.Fills.cons ?hv_ rfl ?hn_ ?hz_ ?_; (case hv_ => first | exact Ow.ev_tmp rfl | rfl); (case hn_ => first | (simp only [hQ4.out] <;> rfl) | rfl); (case hz_ => first | (simp only [hQ4.out] <;> rfl) | rfl)))))) | ((with_reducible refine Ow.gate_load rfl ?_); (try (refine gate_guard (by rfl) ?_; dsimp only)); (first | refine Ow.tload1 Ot.ty HO.out rfl rfl rfl rfl (by with_reducible first | exact Ow.at0) (by first | (simp only [hQ4.out] <;> rfl) | rfl) ?_ | refine Ow.tload0 Ot.ty HO.out rfl rfl rfl rfl (by with_reducible first | exact Ow.at0) (by first | (simp only [hQ4.out] <;> rfl) | rfl) ?_ | refine Ow.tloadp Ot.ty HO.out rfl rfl rfl rfl (by with_reducible first | exact Ow.at0) (by first | (simp only [hQ4.out] <;> rfl) | rfl) ?_)))
            go_ret
            exact ⟨by first | rfl | (simp only [hQ4.out]; done) | (simp only [hQ4.out]; rfl) | (simp [errW_none, errW_some] <;> rfl) | (simp [*, errW_none, errW_some] <;> rfl), Ow.Own.below HO.out⟩
        · rw [if_neg c11] at H
          have c11b0 : ((a0_8.size : Int) == 35) = false := beq_eq_false_iff_ne.mpr c11
          have c11b1 : ((a0_8.size : Int) != 35) = true := bne_iff_ne.mpr c11
          obtain rfl := Option.some.inj H
          obtain ⟨Q5, hQ5_⟩ : ∃ q_ : Array Value, q_ = (#[.string a0_0, .string a0_1, .string a0_2, .int .i64 a0_3, .string a0_4, .string a0_5, .string a0_6, .string a0_7, .string a0_8, .int .i64 a0_9, .int .i64 a0_10, .string a0_11, .bool a0_12, .int .i64 a0_13, .string a0_14, .string a0_15, .string a0_16, .int .i64 a0_17, .int .i64 a0_18, .int .i64 a0_19, .bool a0_20, .bool a0_21, .int .i64 a0_22, .int .i64 a0_23, .bool a0_24] : Array Value) := ⟨_, rfl⟩
          try rw [← hQ5_]
          have hQ5 := Aside0.mk hQ5_; clear hQ5_
          go_enter Try.func41, Try.ntmps41
          go_wp2_with (first | ((with_reducible refine gate_dst (N := 1) rfl ?_); (try (refine gate_guard (by rfl) ?_; dsimp only)); refine Ow.box rfl (N := 1) rfl (cs := Q5) (t := 63) HO.out (by first | (go_simp; done) | (go_simp; rfl)) ?_; clear HO; intro gb197 w37 HO; simp only [List.cons_append, List.nil_append] at HO) | ((with_reducible refine gate_callee (f := 16) rfl ?_); refine goesL_ (some 10) rfl rfl Try.func16 (by kernel_rfl) rfl #[.agg #[.int .i64 2, .string a0_6]] rfl (by (try simp only [List.map_toArray, List.map_cons, List.map_nil]); first | done | rfl | (simp only [hQ5.out]; done) | (simp only [hQ5.out]; rfl)) ?_; refine Calls.mono (calls_of_args (by first | (simp only [hQ5.out] <;> rfl) | rfl) (bursarref11_Name.calls 2 a0_6 t198 true _ A2.out)) ?_; rintro e w39 ⟨he_, hb⟩; subst he_; refine ⟨_, rfl, ?_⟩; replace HO := Aside0.mk (Ow.Own.call HO.out hb); clear hb) | (go_at_call 71; refine Calls.mono (calls_of_args (by first | (simp only [hQ5.out] <;> rfl) | rfl) (bursarref14_Ref.calls a0_7 true _ A4.out)) ?_; rintro e w' ⟨he_, ⟨nd, rfl⟩⟩; subst he_; replace HO := Aside0.mk (Ow.Own.drewN HO.out nd)) | ((with_reducible refine Ow.gate_build rfl ?_); (try (refine gate_guard (by rfl) ?_; dsimp only)); refine' Ow.tbuild Ot.bd rfl rfl rfl ?hf_ ?_; (case hf_ => repeat (any_goals (first | exact Ow.Fills.nil | (refine' Ow.Fills.cons ?hv_ rfl ?hn_ ?hz_ ?_; (case hv_ => first | exact Ow.ev_tmp rfl | rfl); (case hn_ => first | (simp only [hQ5.out] <;> rfl) | rfl); (case hz_ => first | (simp only [hQ5.out] <;> rfl) | rfl)))))) | ((with_reducible refine Ow.gate_load rfl ?_); (try (refine gate_guard (by rfl) ?_; dsimp only)); (first | refine Ow.tload1 Ot.ty HO.out rfl rfl rfl rfl (by with_reducible first | exact Ow.at0) (by first | (simp only [hQ5.out] <;> rfl) | rfl) ?_ | refine Ow.tload0 Ot.ty HO.out rfl rfl rfl rfl (by with_reducible first | exact Ow.at0) (by first | (simp only [hQ5.out] <;> rfl) | rfl) ?_ | refine Ow.tloadp Ot.ty HO.out rfl rfl rfl rfl (by with_reducible first | exact Ow.at0) (by first | (simp only [hQ5.out] <;> rfl) | rfl) ?_)))
          go_ret
          exact ⟨by first | rfl | (simp only [hQ5.out]; done) | (simp only [hQ5.out]; rfl) | (simp [errW_none, errW_some] <;> rfl) | (simp [*, errW_none, errW_some] <;> rfl), Ow.Own.below HO.out⟩
    · replace c5 := Bool.eq_false_iff.mpr c5
      subst c5
      have H1 : (some false) = some r := by rw [if_neg (show ¬ (false = true) by decide)] at H; exact H
      clear H
      have H := H1
      clear H1
      obtain rfl := Option.some.inj H
      obtain ⟨Q6, hQ6_⟩ : ∃ q_ : Array Value, q_ = (#[.string a0_0, .string a0_1, .string a0_2, .int .i64 a0_3, .string a0_4, .string a0_5, .string a0_6, .string a0_7, .string a0_8, .int .i64 a0_9, .int .i64 a0_10, .string a0_11, .bool a0_12, .int .i64 a0_13, .string a0_14, .string a0_15, .string a0_16, .int .i64 a0_17, .int .i64 a0_18, .int .i64 a0_19, .bool a0_20, .bool a0_21, .int .i64 a0_22, .int .i64 a0_23, .bool a0_24] : Array Value) := ⟨_, rfl⟩
      try rw [← hQ6_]
      have hQ6 := Aside0.mk hQ6_; clear hQ6_
      go_enter Try.func41, Try.ntmps41
      go_wp2_with (first | ((with_reducible refine gate_dst (N := 1) rfl ?_); (try (refine gate_guard (by rfl) ?_; dsimp only)); refine Ow.box rfl (N := 1) rfl (cs := Q6) (t := 63) HO.out (by first | (go_simp; done) | (go_simp; rfl)) ?_; clear HO; intro gb197 w41 HO; simp only [List.cons_append, List.nil_append] at HO) | ((with_reducible refine gate_callee (f := 16) rfl ?_); refine goesL_ (some 10) rfl rfl Try.func16 (by kernel_rfl) rfl #[.agg #[.int .i64 2, .string a0_6]] rfl (by (try simp only [List.map_toArray, List.map_cons, List.map_nil]); first | done | rfl | (simp only [hQ6.out]; done) | (simp only [hQ6.out]; rfl)) ?_; refine Calls.mono (calls_of_args (by first | (simp only [hQ6.out] <;> rfl) | rfl) (bursarref11_Name.calls 2 a0_6 t198 true _ A2.out)) ?_; rintro e w43 ⟨he_, hb⟩; subst he_; refine ⟨_, rfl, ?_⟩; replace HO := Aside0.mk (Ow.Own.call HO.out hb); clear hb) | (go_at_call 71; refine Calls.mono (calls_of_args (by first | (simp only [hQ6.out] <;> rfl) | rfl) (bursarref14_Ref.calls a0_7 false _ A4.out)) ?_; rintro e w' ⟨he_, ⟨nd, rfl⟩⟩; subst he_; replace HO := Aside0.mk (Ow.Own.drewN HO.out nd)) | ((with_reducible refine Ow.gate_build rfl ?_); (try (refine gate_guard (by rfl) ?_; dsimp only)); refine' Ow.tbuild Ot.bd rfl rfl rfl ?hf_ ?_; (case hf_ => repeat (any_goals (first | exact Ow.Fills.nil | (refine' Ow.Fills.cons ?hv_ rfl ?hn_ ?hz_ ?_; (case hv_ => first | exact Ow.ev_tmp rfl | rfl); (case hn_ => first | (simp only [hQ6.out] <;> rfl) | rfl); (case hz_ => first | (simp only [hQ6.out] <;> rfl) | rfl)))))) | ((with_reducible refine Ow.gate_load rfl ?_); (try (refine gate_guard (by rfl) ?_; dsimp only)); (first | refine Ow.tload1 Ot.ty HO.out rfl rfl rfl rfl (by with_reducible first | exact Ow.at0) (by first | (simp only [hQ6.out] <;> rfl) | rfl) ?_ | refine Ow.tload0 Ot.ty HO.out rfl rfl rfl rfl (by with_reducible first | exact Ow.at0) (by first | (simp only [hQ6.out] <;> rfl) | rfl) ?_ | refine Ow.tloadp Ot.ty HO.out rfl rfl rfl rfl (by with_reducible first | exact Ow.at0) (by first | (simp only [hQ6.out] <;> rfl) | rfl) ?_)))
      go_ret
      exact ⟨by first | rfl | (simp only [hQ6.out]; done) | (simp only [hQ6.out]; rfl) | (simp [errW_none, errW_some] <;> rfl) | (simp [*, errW_none, errW_some] <;> rfl), Ow.Own.below HO.out⟩
  · replace c3 := Bool.eq_false_iff.mpr c3
    subst c3
    have H1 : (some false) = some r := by rw [if_neg (show ¬ (false = true) by decide)] at H; exact H
    clear H
    have H := H1
    clear H1
    obtain rfl := Option.some.inj H
    obtain ⟨Q7, hQ7_⟩ : ∃ q_ : Array Value, q_ = (#[.string a0_0, .string a0_1, .string a0_2, .int .i64 a0_3, .string a0_4, .string a0_5, .string a0_6, .string a0_7, .string a0_8, .int .i64 a0_9, .int .i64 a0_10, .string a0_11, .bool a0_12, .int .i64 a0_13, .string a0_14, .string a0_15, .string a0_16, .int .i64 a0_17, .int .i64 a0_18, .int .i64 a0_19, .bool a0_20, .bool a0_21, .int .i64 a0_22, .int .i64 a0_23, .bool a0_24] : Array Value) := ⟨_, rfl⟩
    try rw [← hQ7_]
    have hQ7 := Aside0.mk hQ7_; clear hQ7_
    go_enter Try.func41, Try.ntmps41
    go_wp2_with (first | ((with_reducible refine gate_dst (N := 1) rfl ?_); (try (refine gate_guard (by rfl) ?_; dsimp only)); refine Ow.box rfl (N := 1) rfl (cs := Q7) (t := 63) HO.out (by first | (go_simp; done) | (go_simp; rfl)) ?_; clear HO; intro gb197 w45 HO; simp only [List.cons_append, List.nil_append] at HO) | ((with_reducible refine gate_callee (f := 16) rfl ?_); refine goesL_ (some 10) rfl rfl Try.func16 (by kernel_rfl) rfl #[.agg #[.int .i64 2, .string a0_6]] rfl (by (try simp only [List.map_toArray, List.map_cons, List.map_nil]); first | done | rfl | (simp only [hQ7.out]; done) | (simp only [hQ7.out]; rfl)) ?_; refine Calls.mono (calls_of_args (by first | (simp only [hQ7.out] <;> rfl) | rfl) (bursarref11_Name.calls 2 a0_6 t198 false _ A2.out)) ?_; rintro e w47 ⟨he_, hb⟩; subst he_; refine ⟨_, rfl, ?_⟩; replace HO := Aside0.mk (Ow.Own.call HO.out hb); clear hb) | ((with_reducible refine Ow.gate_build rfl ?_); (try (refine gate_guard (by rfl) ?_; dsimp only)); refine' Ow.tbuild Ot.bd rfl rfl rfl ?hf_ ?_; (case hf_ => repeat (any_goals (first | exact Ow.Fills.nil | (refine' Ow.Fills.cons ?hv_ rfl ?hn_ ?hz_ ?_; (case hv_ => first | exact Ow.ev_tmp rfl | rfl); (case hn_ => first | (simp only [hQ7.out] <;> rfl) | rfl); (case hz_ => first | (simp only [hQ7.out] <;> rfl) | rfl)))))) | ((with_reducible refine Ow.gate_load rfl ?_); (try (refine gate_guard (by rfl) ?_; dsimp only)); (first | refine Ow.tload1 Ot.ty HO.out rfl rfl rfl rfl (by with_reducible first | exact Ow.at0) (by first | (simp only [hQ7.out] <;> rfl) | rfl) ?_ | refine Ow.tload0 Ot.ty HO.out rfl rfl rfl rfl (by with_reducible first | exact Ow.at0) (by first | (simp only [hQ7.out] <;> rfl) | rfl) ?_ | refine Ow.tloadp Ot.ty HO.out rfl rfl rfl rfl (by with_reducible first | exact Ow.at0) (by first | (simp only [hQ7.out] <;> rfl) | rfl) ?_)))
    go_ret
    exact ⟨by first | rfl | (simp only [hQ7.out]; done) | (simp only [hQ7.out]; rfl) | (simp [errW_none, errW_some] <;> rfl) | (simp [*, errW_none, errW_some] <;> rfl), Ow.Own.below HO.out⟩

/-! ### bursarref14_wrong: function 81 -/
def bursarref14_wrong.f (a0_0 : ByteArray) (a0_1 : ByteArray) (a0_2 : ByteArray) (a0_3 : Int) (a0_4 : Int) (a0_5 : Int) (a0_6 : Bool) (a1 : Int) : Option (Int) := (bursarref14_May.f a0_0 a0_1 a0_2 a0_3 a0_4 a0_5 a0_6).bind fun t203 => (if t203 = true then (if a0_6 = true then (if a1 ≤ 0 then (some 1) else (some 0)) else (some 14)) else (some 1))
set_option maxHeartbeats 8000000 in
set_option maxRecDepth 100000 in
theorem bursarref14_wrong.calls (a0_0 : ByteArray) (a0_1 : ByteArray) (a0_2 : ByteArray) (a0_3 : Int) (a0_4 : Int) (a0_5 : Int) (a0_6 : Bool) (a1 : Int) (r : Int) (w : World) (h : bursarref14_wrong.f a0_0 a0_1 a0_2 a0_3 a0_4 a0_5 a0_6 a1 = some r) :
    Calls Try.prog 81 #[.agg #[.string a0_0, .string a0_1, .string a0_2, .int .i64 a0_3, .int .i64 a0_4, .int .i64 a0_5, .bool a0_6], .int .i64 a1] w fun e w' => e = .returned (.int .i64 r) ∧ Below w.heap.size w w' := by
  have hu61 := Try.underlying61
  have HO := Aside0.mk (Ow.Own.nil w)
  have hmf : ∀ (fn : Fn) (first cap : Array Value) (w : World), (Instr.makeFunc fn first cap).run Try.prog w = .ok (.func fn first cap) w := fun _ _ _ _ => rfl
  have H : ((bursarref14_May.f a0_0 a0_1 a0_2 a0_3 a0_4 a0_5 a0_6).bind fun t203 => (if t203 = true then (if a0_6 = true then (if a1 ≤ 0 then (some 1) else (some 0)) else (some 14)) else (some 1))) = some r := h
  clear h
  replace H := Option.bind_eq_some_iff.mp H
  obtain ⟨t203, A30, H⟩ := H
  replace H : (if t203 = true then (if a0_6 = true then (if a1 ≤ 0 then (some 1) else (some 0)) else (some 14)) else (some 1)) = some r := H
  have A3 := Aside0.mk A30
  clear A30
  by_cases c4 : t203 = true
  · subst c4
    have H1 : (if a0_6 = true then (if a1 ≤ 0 then (some 1) else (some 0)) else (some 14)) = some r := by rw [if_pos rfl] at H; exact H
    clear H
    have H := H1
    clear H1
    by_cases c5 : a0_6 = true
    · subst c5
      have H1 : (if a1 ≤ 0 then (some 1) else (some 0)) = some r := by rw [if_pos rfl] at H; exact H
      clear H
      have H := H1
      clear H1
      by_cases c6 : a1 ≤ 0
      · rw [if_pos c6] at H
        have c6b0 : decide (a1 ≤ 0) = true := decide_eq_true c6
        clear c6
        obtain rfl := Option.some.inj H
        obtain ⟨Q0, hQ0_⟩ : ∃ q_ : Array Value, q_ = (#[.string a0_0, .string a0_1, .string a0_2, .int .i64 a0_3, .int .i64 a0_4, .int .i64 a0_5, .bool true] : Array Value) := ⟨_, rfl⟩
        try rw [← hQ0_]
        have hQ0 := Aside0.mk hQ0_; clear hQ0_
        go_enter Try.func81, Try.ntmps81
        go_wp2_with (first | ((with_reducible refine gate_dst (N := 2) rfl ?_); refine Ow.box rfl (N := 2) rfl (cs := Q0) (t := 61) HO.out (by first | (go_simp; done) | (go_simp; rfl)) ?_; clear HO; intro gb202 w7 HO; simp only [List.cons_append, List.nil_append] at HO) | ((with_reducible refine gate_callee (f := 45) rfl ?_); refine goesL_ (some 6) rfl rfl Try.func45 (by kernel_rfl) rfl #[.agg #[.string a0_0, .string a0_1, .string a0_2, .int .i64 a0_3, .int .i64 a0_4, .int .i64 a0_5, .bool true]] rfl (by (try simp only [List.map_toArray, List.map_cons, List.map_nil]); first | done | rfl | (simp only [hQ0.out]; done) | (simp only [hQ0.out]; rfl)) ?_; refine Calls.mono (calls_of_args (by first | (simp only [hQ0.out] <;> rfl) | rfl) (bursarref14_May.calls a0_0 a0_1 a0_2 a0_3 a0_4 a0_5 true true _ A3.out)) ?_; rintro e w9 ⟨he_, hb⟩; subst he_; refine ⟨_, rfl, ?_⟩; replace HO := Aside0.mk (Ow.Own.call HO.out hb); clear hb) | ((with_reducible refine Ow.gate_load rfl ?_); (try (refine gate_guard (by rfl) ?_; dsimp only)); (first | refine Ow.tload1 Ot.ty HO.out rfl rfl rfl rfl (by with_reducible first | exact Ow.at0) (by first | (simp only [hQ0.out] <;> rfl) | rfl) ?_ | refine Ow.tload0 Ot.ty HO.out rfl rfl rfl rfl (by with_reducible first | exact Ow.at0) (by first | (simp only [hQ0.out] <;> rfl) | rfl) ?_ | refine Ow.tloadp Ot.ty HO.out rfl rfl rfl rfl (by with_reducible first | exact Ow.at0) (by first | (simp only [hQ0.out] <;> rfl) | rfl) ?_)))
        go_ret
        exact ⟨by first | rfl | (simp only [hQ0.out]; done) | (simp only [hQ0.out]; rfl) | (simp [errW_none, errW_some] <;> rfl) | (simp [*, errW_none, errW_some] <;> rfl), Ow.Own.below HO.out⟩
      · rw [if_neg c6] at H
        have c6b0 : decide (a1 ≤ 0) = false := decide_eq_false c6
        clear c6
        obtain rfl := Option.some.inj H
        obtain ⟨Q1, hQ1_⟩ : ∃ q_ : Array Value, q_ = (#[.string a0_0, .string a0_1, .string a0_2, .int .i64 a0_3, .int .i64 a0_4, .int .i64 a0_5, .bool true] : Array Value) := ⟨_, rfl⟩
        try rw [← hQ1_]
        have hQ1 := Aside0.mk hQ1_; clear hQ1_
        go_enter Try.func81, Try.ntmps81
        go_wp2_with (first | ((with_reducible refine gate_dst (N := 2) rfl ?_); refine Ow.box rfl (N := 2) rfl (cs := Q1) (t := 61) HO.out (by first | (go_simp; done) | (go_simp; rfl)) ?_; clear HO; intro gb202 w11 HO; simp only [List.cons_append, List.nil_append] at HO) | ((with_reducible refine gate_callee (f := 45) rfl ?_); refine goesL_ (some 6) rfl rfl Try.func45 (by kernel_rfl) rfl #[.agg #[.string a0_0, .string a0_1, .string a0_2, .int .i64 a0_3, .int .i64 a0_4, .int .i64 a0_5, .bool true]] rfl (by (try simp only [List.map_toArray, List.map_cons, List.map_nil]); first | done | rfl | (simp only [hQ1.out]; done) | (simp only [hQ1.out]; rfl)) ?_; refine Calls.mono (calls_of_args (by first | (simp only [hQ1.out] <;> rfl) | rfl) (bursarref14_May.calls a0_0 a0_1 a0_2 a0_3 a0_4 a0_5 true true _ A3.out)) ?_; rintro e w13 ⟨he_, hb⟩; subst he_; refine ⟨_, rfl, ?_⟩; replace HO := Aside0.mk (Ow.Own.call HO.out hb); clear hb) | ((with_reducible refine Ow.gate_load rfl ?_); (try (refine gate_guard (by rfl) ?_; dsimp only)); (first | refine Ow.tload1 Ot.ty HO.out rfl rfl rfl rfl (by with_reducible first | exact Ow.at0) (by first | (simp only [hQ1.out] <;> rfl) | rfl) ?_ | refine Ow.tload0 Ot.ty HO.out rfl rfl rfl rfl (by with_reducible first | exact Ow.at0) (by first | (simp only [hQ1.out] <;> rfl) | rfl) ?_ | refine Ow.tloadp Ot.ty HO.out rfl rfl rfl rfl (by with_reducible first | exact Ow.at0) (by first | (simp only [hQ1.out] <;> rfl) | rfl) ?_)))
        go_ret
        exact ⟨by first | rfl | (simp only [hQ1.out]; done) | (simp only [hQ1.out]; rfl) | (simp [errW_none, errW_some] <;> rfl) | (simp [*, errW_none, errW_some] <;> rfl), Ow.Own.below HO.out⟩
    · replace c5 := Bool.eq_false_iff.mpr c5
      subst c5
      have H1 : (some 14) = some r := by rw [if_neg (show ¬ (false = true) by decide)] at H; exact H
      clear H
      have H := H1
      clear H1
      obtain rfl := Option.some.inj H
      obtain ⟨Q2, hQ2_⟩ : ∃ q_ : Array Value, q_ = (#[.string a0_0, .string a0_1, .string a0_2, .int .i64 a0_3, .int .i64 a0_4, .int .i64 a0_5, .bool false] : Array Value) := ⟨_, rfl⟩
      try rw [← hQ2_]
      have hQ2 := Aside0.mk hQ2_; clear hQ2_
      go_enter Try.func81, Try.ntmps81
      go_wp2_with (first | ((with_reducible refine gate_dst (N := 2) rfl ?_); refine Ow.box rfl (N := 2) rfl (cs := Q2) (t := 61) HO.out (by first | (go_simp; done) | (go_simp; rfl)) ?_; clear HO; intro gb202 w15 HO; simp only [List.cons_append, List.nil_append] at HO) | ((with_reducible refine gate_callee (f := 45) rfl ?_); refine goesL_ (some 6) rfl rfl Try.func45 (by kernel_rfl) rfl #[.agg #[.string a0_0, .string a0_1, .string a0_2, .int .i64 a0_3, .int .i64 a0_4, .int .i64 a0_5, .bool false]] rfl (by (try simp only [List.map_toArray, List.map_cons, List.map_nil]); first | done | rfl | (simp only [hQ2.out]; done) | (simp only [hQ2.out]; rfl)) ?_; refine Calls.mono (calls_of_args (by first | (simp only [hQ2.out] <;> rfl) | rfl) (bursarref14_May.calls a0_0 a0_1 a0_2 a0_3 a0_4 a0_5 false true _ A3.out)) ?_; rintro e w17 ⟨he_, hb⟩; subst he_; refine ⟨_, rfl, ?_⟩; replace HO := Aside0.mk (Ow.Own.call HO.out hb); clear hb) | ((with_reducible refine Ow.gate_load rfl ?_); (try (refine gate_guard (by rfl) ?_; dsimp only)); (first | refine Ow.tload1 Ot.ty HO.out rfl rfl rfl rfl (by with_reducible first | exact Ow.at0) (by first | (simp only [hQ2.out] <;> rfl) | rfl) ?_ | refine Ow.tload0 Ot.ty HO.out rfl rfl rfl rfl (by with_reducible first | exact Ow.at0) (by first | (simp only [hQ2.out] <;> rfl) | rfl) ?_ | refine Ow.tloadp Ot.ty HO.out rfl rfl rfl rfl (by with_reducible first | exact Ow.at0) (by first | (simp only [hQ2.out] <;> rfl) | rfl) ?_)))
      go_ret
      exact ⟨by first | rfl | (simp only [hQ2.out]; done) | (simp only [hQ2.out]; rfl) | (simp [errW_none, errW_some] <;> rfl) | (simp [*, errW_none, errW_some] <;> rfl), Ow.Own.below HO.out⟩
  · replace c4 := Bool.eq_false_iff.mpr c4
    subst c4
    have H1 : (some 1) = some r := by rw [if_neg (show ¬ (false = true) by decide)] at H; exact H
    clear H
    have H := H1
    clear H1
    obtain rfl := Option.some.inj H
    obtain ⟨Q3, hQ3_⟩ : ∃ q_ : Array Value, q_ = (#[.string a0_0, .string a0_1, .string a0_2, .int .i64 a0_3, .int .i64 a0_4, .int .i64 a0_5, .bool a0_6] : Array Value) := ⟨_, rfl⟩
    try rw [← hQ3_]
    have hQ3 := Aside0.mk hQ3_; clear hQ3_
    go_enter Try.func81, Try.ntmps81
    go_wp2_with (first | ((with_reducible refine gate_dst (N := 2) rfl ?_); refine Ow.box rfl (N := 2) rfl (cs := Q3) (t := 61) HO.out (by first | (go_simp; done) | (go_simp; rfl)) ?_; clear HO; intro gb202 w19 HO; simp only [List.cons_append, List.nil_append] at HO) | ((with_reducible refine gate_callee (f := 45) rfl ?_); refine goesL_ (some 6) rfl rfl Try.func45 (by kernel_rfl) rfl #[.agg #[.string a0_0, .string a0_1, .string a0_2, .int .i64 a0_3, .int .i64 a0_4, .int .i64 a0_5, .bool a0_6]] rfl (by (try simp only [List.map_toArray, List.map_cons, List.map_nil]); first | done | rfl | (simp only [hQ3.out]; done) | (simp only [hQ3.out]; rfl)) ?_; refine Calls.mono (calls_of_args (by first | (simp only [hQ3.out] <;> rfl) | rfl) (bursarref14_May.calls a0_0 a0_1 a0_2 a0_3 a0_4 a0_5 a0_6 false _ A3.out)) ?_; rintro e w21 ⟨he_, hb⟩; subst he_; refine ⟨_, rfl, ?_⟩; replace HO := Aside0.mk (Ow.Own.call HO.out hb); clear hb) | ((with_reducible refine Ow.gate_load rfl ?_); (try (refine gate_guard (by rfl) ?_; dsimp only)); (first | refine Ow.tload1 Ot.ty HO.out rfl rfl rfl rfl (by with_reducible first | exact Ow.at0) (by first | (simp only [hQ3.out] <;> rfl) | rfl) ?_ | refine Ow.tload0 Ot.ty HO.out rfl rfl rfl rfl (by with_reducible first | exact Ow.at0) (by first | (simp only [hQ3.out] <;> rfl) | rfl) ?_ | refine Ow.tloadp Ot.ty HO.out rfl rfl rfl rfl (by with_reducible first | exact Ow.at0) (by first | (simp only [hQ3.out] <;> rfl) | rfl) ?_)))
    go_ret
    exact ⟨by first | rfl | (simp only [hQ3.out]; done) | (simp only [hQ3.out]; rfl) | (simp [errW_none, errW_some] <;> rfl) | (simp [*, errW_none, errW_some] <;> rfl), Ow.Own.below HO.out⟩

/-! ### bursarref14_Undo: function 67 -/
def bursarref14_Undo.f (a0_0 : ByteArray) (a0_1 : ByteArray) (a0_2 : ByteArray) (a0_3 : Int) (a0_4 : Int) (a0_5 : Int) (a0_6 : Bool) : Option (ByteArray × ByteArray × ByteArray × Int × Int × Int × Bool × Int) := (bursarref14_wrong.f a0_0 a0_1 a0_2 a0_3 a0_4 a0_5 a0_6 1).bind fun t206 => (if t206 = 0 then (some (a0_0, a0_1, a0_2, a0_4, a0_4, a0_5, false, 0)) else (some ((⟨#[]⟩ : ByteArray), (⟨#[]⟩ : ByteArray), (⟨#[]⟩ : ByteArray), 0, 0, 0, false, t206)))
def bursarref14_Undo.Z7 : Array Value := #[.string (⟨#[]⟩ : ByteArray), .string (⟨#[]⟩ : ByteArray), .string (⟨#[]⟩ : ByteArray), .int .i64 0, .int .i64 0, .int .i64 0, .bool false]
set_option maxHeartbeats 8000000 in
set_option maxRecDepth 100000 in
theorem bursarref14_Undo.calls (a0_0 : ByteArray) (a0_1 : ByteArray) (a0_2 : ByteArray) (a0_3 : Int) (a0_4 : Int) (a0_5 : Int) (a0_6 : Bool) (r1 : ByteArray) (r2 : ByteArray) (r3 : ByteArray) (r4 : Int) (r5 : Int) (r6 : Int) (r7 : Bool) (r8 : Int) (w : World) (h : bursarref14_Undo.f a0_0 a0_1 a0_2 a0_3 a0_4 a0_5 a0_6 = some (r1, r2, r3, r4, r5, r6, r7, r8)) :
    Calls Try.prog 67 #[.agg #[.string a0_0, .string a0_1, .string a0_2, .int .i64 a0_3, .int .i64 a0_4, .int .i64 a0_5, .bool a0_6]] w fun e w' => e = .returned (.tuple #[.agg #[.string r1, .string r2, .string r3, .int .i64 r4, .int .i64 r5, .int .i64 r6, .bool r7], .int .i64 r8]) ∧ Below w.heap.size w w' := by
  have hu61 := Try.underlying61
  have HO := Aside0.mk (Ow.Own.nil w)
  have hmf : ∀ (fn : Fn) (first cap : Array Value) (w : World), (Instr.makeFunc fn first cap).run Try.prog w = .ok (.func fn first cap) w := fun _ _ _ _ => rfl
  have H : ((bursarref14_wrong.f a0_0 a0_1 a0_2 a0_3 a0_4 a0_5 a0_6 1).bind fun t206 => (if t206 = 0 then (some (a0_0, a0_1, a0_2, a0_4, a0_4, a0_5, false, 0)) else (some ((⟨#[]⟩ : ByteArray), (⟨#[]⟩ : ByteArray), (⟨#[]⟩ : ByteArray), 0, 0, 0, false, t206)))) = some (r1, r2, r3, r4, r5, r6, r7, r8) := h
  clear h
  replace H := Option.bind_eq_some_iff.mp H
  obtain ⟨t206, A20, H⟩ := H
  replace H : (if t206 = 0 then (some (a0_0, a0_1, a0_2, a0_4, a0_4, a0_5, false, 0)) else (some ((⟨#[]⟩ : ByteArray), (⟨#[]⟩ : ByteArray), (⟨#[]⟩ : ByteArray), 0, 0, 0, false, t206))) = some (r1, r2, r3, r4, r5, r6, r7, r8) := H
  have A2 := Aside0.mk A20
  clear A20
  by_cases c3 : t206 = 0
  · rw [if_pos c3] at H
    have c3b0 : (t206 == 0) = true := beq_iff_eq.mpr c3
    have c3b1 : (t206 != 0) = false := bne_eq_false_iff_eq.mpr c3
    clear c3
    simp only [Option.some.injEq, Prod.mk.injEq] at H
    obtain ⟨rfl, rfl, rfl, rfl, rfl, rfl, rfl, rfl⟩ := H
    obtain ⟨Q0, hQ0_⟩ : ∃ q_ : Array Value, q_ = (#[.string a0_0, .string a0_1, .string a0_2, .int .i64 a0_3, .int .i64 a0_4, .int .i64 a0_5, .bool a0_6] : Array Value) := ⟨_, rfl⟩
    try rw [← hQ0_]
    have hQ0 := Aside0.mk hQ0_; clear hQ0_
    go_enter Try.func67, Try.ntmps67
    go_wp2_with (first | ((with_reducible refine gate_dst (N := 1) rfl ?_); refine Ow.box rfl (N := 1) rfl (cs := Q0) (t := 61) HO.out (by first | (go_simp; done) | (go_simp; rfl)) ?_; clear HO; intro gb204 w4 HO; simp only [List.cons_append, List.nil_append] at HO) | ((with_reducible refine gate_dst (N := 2) rfl ?_); refine Ow.box rfl (N := 2) rfl (cs := bursarref14_Undo.Z7) (t := 61) HO.out (by first | (go_simp; done) | (go_simp; rfl)) ?_; clear HO; intro gb205 w5 HO; simp only [List.cons_append, List.nil_append] at HO) | ((with_reducible refine gate_callee (f := 81) rfl ?_); refine goesL_ (some 6) rfl rfl Try.func81 (by kernel_rfl) rfl #[.agg #[.string a0_0, .string a0_1, .string a0_2, .int .i64 a0_3, .int .i64 a0_4, .int .i64 a0_5, .bool a0_6], .int .i64 1] rfl (by (try simp only [List.map_toArray, List.map_cons, List.map_nil]); first | done | rfl | (simp only [hQ0.out]; done) | (simp only [hQ0.out]; rfl)) ?_; refine Calls.mono (calls_of_args (by first | (simp only [hQ0.out] <;> rfl) | rfl) (bursarref14_wrong.calls a0_0 a0_1 a0_2 a0_3 a0_4 a0_5 a0_6 1 t206 _ A2.out)) ?_; rintro e w8 ⟨he_, hb⟩; subst he_; refine ⟨_, rfl, ?_⟩; replace HO := Aside0.mk (Ow.Own.call HO.out hb); clear hb) | ((with_reducible refine Ow.gate_build rfl ?_); (try (refine gate_guard (by rfl) ?_; dsimp only)); refine' Ow.tbuild Ot.bd rfl rfl rfl ?hf_ ?_; (case hf_ => repeat (any_goals (first | exact Ow.Fills.nil | (refine' Ow.Fills.cons ?hv_ rfl ?hn_ ?hz_ ?_; (case hv_ => first | exact Ow.ev_tmp rfl | rfl); (case hn_ => first | (simp only [hQ0.out] <;> rfl) | rfl); (case hz_ => first | (simp only [hQ0.out] <;> rfl) | rfl)))))) | ((with_reducible refine Ow.gate_load rfl ?_); (try (refine gate_guard (by rfl) ?_; dsimp only)); (first | refine Ow.tload1 Ot.ty HO.out rfl rfl rfl rfl (by with_reducible first | exact Ow.at0 | exact Ow.at1) (by first | (simp only [hQ0.out] <;> rfl) | rfl) ?_ | refine Ow.tload0 Ot.ty HO.out rfl rfl rfl rfl (by with_reducible first | exact Ow.at0 | exact Ow.at1) (by first | (simp only [hQ0.out] <;> rfl) | rfl) ?_ | refine Ow.tloadp Ot.ty HO.out rfl rfl rfl rfl (by with_reducible first | exact Ow.at0 | exact Ow.at1) (by first | (simp only [hQ0.out] <;> rfl) | rfl) ?_)) | ((with_reducible refine gate_store rfl ?_); (try (refine gate_guard (by rfl) ?_; dsimp only)); (first | refine Ow.tput0 Ot.ty HO.out rfl rfl rfl rfl rfl (by with_reducible first | exact Ow.at0 | exact Ow.at1) (by first | exact Ow.ev_tmp rfl | rfl) (by first | (simp only [hQ0.out] <;> rfl) | rfl) (by first | (simp only [hQ0.out] <;> rfl) | rfl) (by first | (simp only [hQ0.out] <;> rfl) | rfl) ?_ | refine Ow.tput Ot.ty HO.out rfl rfl rfl rfl rfl (by with_reducible first | exact Ow.at0 | exact Ow.at1) (by first | exact Ow.ev_tmp rfl | rfl) (by first | (simp only [hQ0.out] <;> rfl) | rfl) (by first | (simp only [hQ0.out] <;> rfl) | rfl) (by first | (simp only [hQ0.out] <;> rfl) | rfl) ?_); clear HO; intro wz_ HO; simp only [List.set_cons_zero, List.set_cons_succ] at HO))
    refine' bodyPost_ret (results_ct rfl _ _ gb205 61 _ (0, 0) _ rfl ?hb_ Try.underlying61 rfl ?hi_) rfl ?_
    case hb_ => refine' Ow.Own.get HO.out 1 ?hk_; (case hk_ => rfl)
    case hi_ => exact (Ot.ty.size 61 rfl).trans (congrArg some (by first | (simp only [hQ0.out] <;> rfl) | rfl))
    exact ⟨by first | rfl | (simp only [hQ0.out]; done) | (simp only [hQ0.out]; rfl) | (simp [errW_none, errW_some] <;> rfl) | (simp [*, errW_none, errW_some] <;> rfl), Ow.Own.below HO.out⟩
  · rw [if_neg c3] at H
    have c3b0 : (t206 == 0) = false := beq_eq_false_iff_ne.mpr c3
    have c3b1 : (t206 != 0) = true := bne_iff_ne.mpr c3
    simp only [Option.some.injEq, Prod.mk.injEq] at H
    obtain ⟨rfl, rfl, rfl, rfl, rfl, rfl, rfl, rfl⟩ := H
    obtain ⟨Q1, hQ1_⟩ : ∃ q_ : Array Value, q_ = (#[.string a0_0, .string a0_1, .string a0_2, .int .i64 a0_3, .int .i64 a0_4, .int .i64 a0_5, .bool a0_6] : Array Value) := ⟨_, rfl⟩
    try rw [← hQ1_]
    have hQ1 := Aside0.mk hQ1_; clear hQ1_
    go_enter Try.func67, Try.ntmps67
    go_wp2_with (first | ((with_reducible refine gate_dst (N := 1) rfl ?_); refine Ow.box rfl (N := 1) rfl (cs := Q1) (t := 61) HO.out (by first | (go_simp; done) | (go_simp; rfl)) ?_; clear HO; intro gb204 w11 HO; simp only [List.cons_append, List.nil_append] at HO) | ((with_reducible refine gate_dst (N := 2) rfl ?_); refine Ow.box rfl (N := 2) rfl (cs := bursarref14_Undo.Z7) (t := 61) HO.out (by first | (go_simp; done) | (go_simp; rfl)) ?_; clear HO; intro gb205 w12 HO; simp only [List.cons_append, List.nil_append] at HO) | ((with_reducible refine gate_callee (f := 81) rfl ?_); refine goesL_ (some 6) rfl rfl Try.func81 (by kernel_rfl) rfl #[.agg #[.string a0_0, .string a0_1, .string a0_2, .int .i64 a0_3, .int .i64 a0_4, .int .i64 a0_5, .bool a0_6], .int .i64 1] rfl (by (try simp only [List.map_toArray, List.map_cons, List.map_nil]); first | done | rfl | (simp only [hQ1.out]; done) | (simp only [hQ1.out]; rfl)) ?_; refine Calls.mono (calls_of_args (by first | (simp only [hQ1.out] <;> rfl) | rfl) (bursarref14_wrong.calls a0_0 a0_1 a0_2 a0_3 a0_4 a0_5 a0_6 1 t206 _ A2.out)) ?_; rintro e w15 ⟨he_, hb⟩; subst he_; refine ⟨_, rfl, ?_⟩; replace HO := Aside0.mk (Ow.Own.call HO.out hb); clear hb) | ((with_reducible refine Ow.gate_build rfl ?_); (try (refine gate_guard (by rfl) ?_; dsimp only)); refine' Ow.tbuild Ot.bd rfl rfl rfl ?hf_ ?_; (case hf_ => repeat (any_goals (first | exact Ow.Fills.nil | (refine' Ow.Fills.cons ?hv_ rfl ?hn_ ?hz_ ?_; (case hv_ => first | exact Ow.ev_tmp rfl | rfl); (case hn_ => first | (simp only [hQ1.out] <;> rfl) | rfl); (case hz_ => first | (simp only [hQ1.out] <;> rfl) | rfl)))))) | ((with_reducible refine Ow.gate_load rfl ?_); (try (refine gate_guard (by rfl) ?_; dsimp only)); (first | refine Ow.tload1 Ot.ty HO.out rfl rfl rfl rfl (by with_reducible first | exact Ow.at0 | exact Ow.at1) (by first | (simp only [hQ1.out] <;> rfl) | rfl) ?_ | refine Ow.tload0 Ot.ty HO.out rfl rfl rfl rfl (by with_reducible first | exact Ow.at0 | exact Ow.at1) (by first | (simp only [hQ1.out] <;> rfl) | rfl) ?_ | refine Ow.tloadp Ot.ty HO.out rfl rfl rfl rfl (by with_reducible first | exact Ow.at0 | exact Ow.at1) (by first | (simp only [hQ1.out] <;> rfl) | rfl) ?_)) | ((with_reducible refine gate_store rfl ?_); (try (refine gate_guard (by rfl) ?_; dsimp only)); (first | refine Ow.tput0 Ot.ty HO.out rfl rfl rfl rfl rfl (by with_reducible first | exact Ow.at0 | exact Ow.at1) (by first | exact Ow.ev_tmp rfl | rfl) (by first | (simp only [hQ1.out] <;> rfl) | rfl) (by first | (simp only [hQ1.out] <;> rfl) | rfl) (by first | (simp only [hQ1.out] <;> rfl) | rfl) ?_ | refine Ow.tput Ot.ty HO.out rfl rfl rfl rfl rfl (by with_reducible first | exact Ow.at0 | exact Ow.at1) (by first | exact Ow.ev_tmp rfl | rfl) (by first | (simp only [hQ1.out] <;> rfl) | rfl) (by first | (simp only [hQ1.out] <;> rfl) | rfl) (by first | (simp only [hQ1.out] <;> rfl) | rfl) ?_); clear HO; intro wz_ HO; simp only [List.set_cons_zero, List.set_cons_succ] at HO))
    refine' bodyPost_ret (results_ct rfl _ _ gb205 61 _ (0, 0) _ rfl ?hb_ Try.underlying61 rfl ?hi_) rfl ?_
    case hb_ => refine' Ow.Own.get HO.out 1 ?hk_; (case hk_ => rfl)
    case hi_ => exact (Ot.ty.size 61 rfl).trans (congrArg some (by first | (simp only [hQ1.out] <;> rfl) | rfl))
    exact ⟨by first | rfl | (simp only [hQ1.out]; done) | (simp only [hQ1.out]; rfl) | (simp [errW_none, errW_some] <;> rfl) | (simp [*, errW_none, errW_some] <;> rfl), Ow.Own.below HO.out⟩

/-! ### bursarref14_Left: function 44 -/
def bursarref14_Left.f (a0_0 : ByteArray) (a0_1 : ByteArray) (a0_2 : ByteArray) (a0_3 : Int) (a0_4 : Int) (a0_5 : Int) (a0_6 : Bool) : Option (Int) := if a0_6 = true then (some (wrap64 (a0_3 - a0_4))) else (some 0)
set_option maxHeartbeats 8000000 in
set_option maxRecDepth 100000 in
theorem bursarref14_Left.calls (a0_0 : ByteArray) (a0_1 : ByteArray) (a0_2 : ByteArray) (a0_3 : Int) (a0_4 : Int) (a0_5 : Int) (a0_6 : Bool) (r : Int) (w : World) (h : bursarref14_Left.f a0_0 a0_1 a0_2 a0_3 a0_4 a0_5 a0_6 = some r) :
    Calls Try.prog 44 #[.agg #[.string a0_0, .string a0_1, .string a0_2, .int .i64 a0_3, .int .i64 a0_4, .int .i64 a0_5, .bool a0_6]] w fun e w' => e = .returned (.int .i64 r) ∧ Below w.heap.size w w' := by
  have hu61 := Try.underlying61
  have HO := Aside0.mk (Ow.Own.nil w)
  have hmf : ∀ (fn : Fn) (first cap : Array Value) (w : World), (Instr.makeFunc fn first cap).run Try.prog w = .ok (.func fn first cap) w := fun _ _ _ _ => rfl
  have H : (if a0_6 = true then (some (wrap64 (a0_3 - a0_4))) else (some 0)) = some r := h
  clear h
  by_cases c2 : a0_6 = true
  · subst c2
    have H1 : (some (wrap64 (a0_3 - a0_4))) = some r := by rw [if_pos rfl] at H; exact H
    clear H
    have H := H1
    clear H1
    obtain rfl := Option.some.inj H
    obtain ⟨Q0, hQ0_⟩ : ∃ q_ : Array Value, q_ = (#[.string a0_0, .string a0_1, .string a0_2, .int .i64 a0_3, .int .i64 a0_4, .int .i64 a0_5, .bool true] : Array Value) := ⟨_, rfl⟩
    try rw [← hQ0_]
    have hQ0 := Aside0.mk hQ0_; clear hQ0_
    go_enter Try.func44, Try.ntmps44
    go_wp2_with (first | ((with_reducible refine gate_dst (N := 1) rfl ?_); refine Ow.box rfl (N := 1) rfl (cs := Q0) (t := 61) HO.out (by first | (go_simp; done) | (go_simp; rfl)) ?_; clear HO; intro gb207 w3 HO; simp only [List.cons_append, List.nil_append] at HO) | ((with_reducible refine Ow.gate_load rfl ?_); (try (refine gate_guard (by rfl) ?_; dsimp only)); (first | refine Ow.tload1 Ot.ty HO.out rfl rfl rfl rfl (by with_reducible first | exact Ow.at0) (by first | (simp only [hQ0.out] <;> rfl) | rfl) ?_)))
    go_ret
    exact ⟨by first | rfl | (simp only [hQ0.out]; done) | (simp only [hQ0.out]; rfl) | (simp [errW_none, errW_some] <;> rfl) | (simp [*, errW_none, errW_some] <;> rfl), Ow.Own.below HO.out⟩
  · replace c2 := Bool.eq_false_iff.mpr c2
    subst c2
    have H1 : (some 0) = some r := by rw [if_neg (show ¬ (false = true) by decide)] at H; exact H
    clear H
    have H := H1
    clear H1
    obtain rfl := Option.some.inj H
    obtain ⟨Q1, hQ1_⟩ : ∃ q_ : Array Value, q_ = (#[.string a0_0, .string a0_1, .string a0_2, .int .i64 a0_3, .int .i64 a0_4, .int .i64 a0_5, .bool false] : Array Value) := ⟨_, rfl⟩
    try rw [← hQ1_]
    have hQ1 := Aside0.mk hQ1_; clear hQ1_
    go_enter Try.func44, Try.ntmps44
    go_wp2_with (first | ((with_reducible refine gate_dst (N := 1) rfl ?_); refine Ow.box rfl (N := 1) rfl (cs := Q1) (t := 61) HO.out (by first | (go_simp; done) | (go_simp; rfl)) ?_; clear HO; intro gb207 w5 HO; simp only [List.cons_append, List.nil_append] at HO) | ((with_reducible refine Ow.gate_load rfl ?_); (try (refine gate_guard (by rfl) ?_; dsimp only)); (first | refine Ow.tload1 Ot.ty HO.out rfl rfl rfl rfl (by with_reducible first | exact Ow.at0) (by first | (simp only [hQ1.out] <;> rfl) | rfl) ?_)))
    go_ret
    exact ⟨by first | rfl | (simp only [hQ1.out]; done) | (simp only [hQ1.out]; rfl) | (simp [errW_none, errW_some] <;> rfl) | (simp [*, errW_none, errW_some] <;> rfl), Ow.Own.below HO.out⟩

/-! ### bursarref14_Less: function 68 -/
def bursarref14_Less.f (a0_0 : ByteArray) (a0_1 : ByteArray) (a0_2 : ByteArray) (a0_3 : Int) (a0_4 : Int) (a0_5 : Int) (a0_6 : Bool) (a1 : Int) : Option (ByteArray × ByteArray × ByteArray × Int × Int × Int × Bool × Int) := (bursarref14_wrong.f a0_0 a0_1 a0_2 a0_3 a0_4 a0_5 a0_6 a1).bind fun t210 => (if t210 = 0 then ((bursarref14_Left.f a0_0 a0_1 a0_2 a0_3 a0_4 a0_5 a0_6).bind fun t211 => (if t211 < a1 then (some ((⟨#[]⟩ : ByteArray), (⟨#[]⟩ : ByteArray), (⟨#[]⟩ : ByteArray), 0, 0, 0, false, 13)) else (if a0_4 = (wrap64 (a0_3 - a1)) then (some (a0_0, a0_1, a0_2, wrap64 (a0_3 - a1), a0_4, a0_5, false, 0)) else (some (a0_0, a0_1, a0_2, wrap64 (a0_3 - a1), a0_4, a0_5, a0_6, 0))))) else (some ((⟨#[]⟩ : ByteArray), (⟨#[]⟩ : ByteArray), (⟨#[]⟩ : ByteArray), 0, 0, 0, false, t210)))
def bursarref14_Less.Z7 : Array Value := #[.string (⟨#[]⟩ : ByteArray), .string (⟨#[]⟩ : ByteArray), .string (⟨#[]⟩ : ByteArray), .int .i64 0, .int .i64 0, .int .i64 0, .bool false]
set_option maxHeartbeats 8000000 in
set_option maxRecDepth 100000 in
theorem bursarref14_Less.calls (a0_0 : ByteArray) (a0_1 : ByteArray) (a0_2 : ByteArray) (a0_3 : Int) (a0_4 : Int) (a0_5 : Int) (a0_6 : Bool) (a1 : Int) (r1 : ByteArray) (r2 : ByteArray) (r3 : ByteArray) (r4 : Int) (r5 : Int) (r6 : Int) (r7 : Bool) (r8 : Int) (w : World) (h : bursarref14_Less.f a0_0 a0_1 a0_2 a0_3 a0_4 a0_5 a0_6 a1 = some (r1, r2, r3, r4, r5, r6, r7, r8)) :
    Calls Try.prog 68 #[.agg #[.string a0_0, .string a0_1, .string a0_2, .int .i64 a0_3, .int .i64 a0_4, .int .i64 a0_5, .bool a0_6], .int .i64 a1] w fun e w' => e = .returned (.tuple #[.agg #[.string r1, .string r2, .string r3, .int .i64 r4, .int .i64 r5, .int .i64 r6, .bool r7], .int .i64 r8]) ∧ Below w.heap.size w w' := by
  have hu61 := Try.underlying61
  have HO := Aside0.mk (Ow.Own.nil w)
  have hmf : ∀ (fn : Fn) (first cap : Array Value) (w : World), (Instr.makeFunc fn first cap).run Try.prog w = .ok (.func fn first cap) w := fun _ _ _ _ => rfl
  have H : ((bursarref14_wrong.f a0_0 a0_1 a0_2 a0_3 a0_4 a0_5 a0_6 a1).bind fun t210 => (if t210 = 0 then ((bursarref14_Left.f a0_0 a0_1 a0_2 a0_3 a0_4 a0_5 a0_6).bind fun t211 => (if t211 < a1 then (some ((⟨#[]⟩ : ByteArray), (⟨#[]⟩ : ByteArray), (⟨#[]⟩ : ByteArray), 0, 0, 0, false, 13)) else (if a0_4 = (wrap64 (a0_3 - a1)) then (some (a0_0, a0_1, a0_2, wrap64 (a0_3 - a1), a0_4, a0_5, false, 0)) else (some (a0_0, a0_1, a0_2, wrap64 (a0_3 - a1), a0_4, a0_5, a0_6, 0))))) else (some ((⟨#[]⟩ : ByteArray), (⟨#[]⟩ : ByteArray), (⟨#[]⟩ : ByteArray), 0, 0, 0, false, t210)))) = some (r1, r2, r3, r4, r5, r6, r7, r8) := h
  clear h
  replace H := Option.bind_eq_some_iff.mp H
  obtain ⟨t210, A30, H⟩ := H
  replace H : (if t210 = 0 then ((bursarref14_Left.f a0_0 a0_1 a0_2 a0_3 a0_4 a0_5 a0_6).bind fun t211 => (if t211 < a1 then (some ((⟨#[]⟩ : ByteArray), (⟨#[]⟩ : ByteArray), (⟨#[]⟩ : ByteArray), 0, 0, 0, false, 13)) else (if a0_4 = (wrap64 (a0_3 - a1)) then (some (a0_0, a0_1, a0_2, wrap64 (a0_3 - a1), a0_4, a0_5, false, 0)) else (some (a0_0, a0_1, a0_2, wrap64 (a0_3 - a1), a0_4, a0_5, a0_6, 0))))) else (some ((⟨#[]⟩ : ByteArray), (⟨#[]⟩ : ByteArray), (⟨#[]⟩ : ByteArray), 0, 0, 0, false, t210))) = some (r1, r2, r3, r4, r5, r6, r7, r8) := H
  have A3 := Aside0.mk A30
  clear A30
  by_cases c4 : t210 = 0
  · rw [if_pos c4] at H
    have c4b0 : (t210 == 0) = true := beq_iff_eq.mpr c4
    have c4b1 : (t210 != 0) = false := bne_eq_false_iff_eq.mpr c4
    clear c4
    replace H := Option.bind_eq_some_iff.mp H
    obtain ⟨t211, A50, H⟩ := H
    replace H : (if t211 < a1 then (some ((⟨#[]⟩ : ByteArray), (⟨#[]⟩ : ByteArray), (⟨#[]⟩ : ByteArray), 0, 0, 0, false, 13)) else (if a0_4 = (wrap64 (a0_3 - a1)) then (some (a0_0, a0_1, a0_2, wrap64 (a0_3 - a1), a0_4, a0_5, false, 0)) else (some (a0_0, a0_1, a0_2, wrap64 (a0_3 - a1), a0_4, a0_5, a0_6, 0)))) = some (r1, r2, r3, r4, r5, r6, r7, r8) := H
    have A5 := Aside0.mk A50
    clear A50
    by_cases c6 : t211 < a1
    · rw [if_pos c6] at H
      have c6b0 : decide (t211 < a1) = true := decide_eq_true c6
      clear c6
      simp only [Option.some.injEq, Prod.mk.injEq] at H
      obtain ⟨rfl, rfl, rfl, rfl, rfl, rfl, rfl, rfl⟩ := H
      obtain ⟨Q0, hQ0_⟩ : ∃ q_ : Array Value, q_ = (#[.string a0_0, .string a0_1, .string a0_2, .int .i64 a0_3, .int .i64 a0_4, .int .i64 a0_5, .bool a0_6] : Array Value) := ⟨_, rfl⟩
      try rw [← hQ0_]
      have hQ0 := Aside0.mk hQ0_; clear hQ0_
      go_enter Try.func68, Try.ntmps68
      go_wp2_with (first | ((with_reducible refine gate_dst (N := 2) rfl ?_); refine Ow.box rfl (N := 2) rfl (cs := Q0) (t := 61) HO.out (by first | (go_simp; done) | (go_simp; rfl)) ?_; clear HO; intro gb208 w7 HO; simp only [List.cons_append, List.nil_append] at HO) | ((with_reducible refine gate_dst (N := 4) rfl ?_); refine Ow.box rfl (N := 4) rfl (cs := bursarref14_Less.Z7) (t := 61) HO.out (by first | (go_simp; done) | (go_simp; rfl)) ?_; clear HO; intro gb209 w8 HO; simp only [List.cons_append, List.nil_append] at HO) | ((with_reducible refine gate_callee (f := 81) rfl ?_); refine goesL_ (some 9) rfl rfl Try.func81 (by kernel_rfl) rfl #[.agg #[.string a0_0, .string a0_1, .string a0_2, .int .i64 a0_3, .int .i64 a0_4, .int .i64 a0_5, .bool a0_6], .int .i64 a1] rfl (by (try simp only [List.map_toArray, List.map_cons, List.map_nil]); first | done | rfl | (simp only [hQ0.out]; done) | (simp only [hQ0.out]; rfl)) ?_; refine Calls.mono (calls_of_args (by first | (simp only [hQ0.out] <;> rfl) | rfl) (bursarref14_wrong.calls a0_0 a0_1 a0_2 a0_3 a0_4 a0_5 a0_6 a1 t210 _ A3.out)) ?_; rintro e w11 ⟨he_, hb⟩; subst he_; refine ⟨_, rfl, ?_⟩; replace HO := Aside0.mk (Ow.Own.call HO.out hb); clear hb) | ((with_reducible refine gate_callee (f := 44) rfl ?_); refine goesL_ (some 15) rfl rfl Try.func44 (by kernel_rfl) rfl #[.agg #[.string a0_0, .string a0_1, .string a0_2, .int .i64 a0_3, .int .i64 a0_4, .int .i64 a0_5, .bool a0_6]] rfl (by (try simp only [List.map_toArray, List.map_cons, List.map_nil]); first | done | rfl | (simp only [hQ0.out]; done) | (simp only [hQ0.out]; rfl)) ?_; refine Calls.mono (calls_of_args (by first | (simp only [hQ0.out] <;> rfl) | rfl) (bursarref14_Left.calls a0_0 a0_1 a0_2 a0_3 a0_4 a0_5 a0_6 t211 _ A5.out)) ?_; rintro e w13 ⟨he_, hb⟩; subst he_; refine ⟨_, rfl, ?_⟩; replace HO := Aside0.mk (Ow.Own.call HO.out hb); clear hb) | ((with_reducible refine Ow.gate_build rfl ?_); (try (refine gate_guard (by rfl) ?_; dsimp only)); refine' Ow.tbuild Ot.bd rfl rfl rfl ?hf_ ?_; (case hf_ => repeat (any_goals (first | exact Ow.Fills.nil | (refine' Ow.Fills.cons ?hv_ rfl ?hn_ ?hz_ ?_; (case hv_ => first | exact Ow.ev_tmp rfl | rfl); (case hn_ => first | (simp only [hQ0.out] <;> rfl) | rfl); (case hz_ => first | (simp only [hQ0.out] <;> rfl) | rfl)))))) | ((with_reducible refine Ow.gate_load rfl ?_); (try (refine gate_guard (by rfl) ?_; dsimp only)); (first | refine Ow.tload1 Ot.ty HO.out rfl rfl rfl rfl (by with_reducible first | exact Ow.at0 | exact Ow.at1) (by first | (simp only [hQ0.out] <;> rfl) | rfl) ?_ | refine Ow.tload0 Ot.ty HO.out rfl rfl rfl rfl (by with_reducible first | exact Ow.at0 | exact Ow.at1) (by first | (simp only [hQ0.out] <;> rfl) | rfl) ?_ | refine Ow.tloadp Ot.ty HO.out rfl rfl rfl rfl (by with_reducible first | exact Ow.at0 | exact Ow.at1) (by first | (simp only [hQ0.out] <;> rfl) | rfl) ?_)) | ((with_reducible refine gate_store rfl ?_); (try (refine gate_guard (by rfl) ?_; dsimp only)); (first | refine Ow.tput0 Ot.ty HO.out rfl rfl rfl rfl rfl (by with_reducible first | exact Ow.at0 | exact Ow.at1) (by first | exact Ow.ev_tmp rfl | rfl) (by first | (simp only [hQ0.out] <;> rfl) | rfl) (by first | (simp only [hQ0.out] <;> rfl) | rfl) (by first | (simp only [hQ0.out] <;> rfl) | rfl) ?_ | refine Ow.tput Ot.ty HO.out rfl rfl rfl rfl rfl (by with_reducible first | exact Ow.at0 | exact Ow.at1) (by first | exact Ow.ev_tmp rfl | rfl) (by first | (simp only [hQ0.out] <;> rfl) | rfl) (by first | (simp only [hQ0.out] <;> rfl) | rfl) (by first | (simp only [hQ0.out] <;> rfl) | rfl) ?_); clear HO; intro wz_ HO; simp only [List.set_cons_zero, List.set_cons_succ] at HO))
      refine' bodyPost_ret (results_ct rfl _ _ gb209 61 _ (0, 0) _ rfl ?hb_ Try.underlying61 rfl ?hi_) rfl ?_
      case hb_ => refine' Ow.Own.get HO.out 1 ?hk_; (case hk_ => rfl)
      case hi_ => exact (Ot.ty.size 61 rfl).trans (congrArg some (by first | (simp only [hQ0.out] <;> rfl) | rfl))
      exact ⟨by first | rfl | (simp only [hQ0.out]; done) | (simp only [hQ0.out]; rfl) | (simp [errW_none, errW_some] <;> rfl) | (simp [*, errW_none, errW_some] <;> rfl), Ow.Own.below HO.out⟩
    · rw [if_neg c6] at H
      have c6b0 : decide (t211 < a1) = false := decide_eq_false c6
      clear c6
      by_cases c16 : a0_4 = (wrap64 (a0_3 - a1))
      · rw [if_pos c16] at H
        have c16b0 : (a0_4 == (wrap64 (a0_3 - a1))) = true := beq_iff_eq.mpr c16
        have c16b1 : (a0_4 != (wrap64 (a0_3 - a1))) = false := bne_eq_false_iff_eq.mpr c16
        clear c16
        simp only [Option.some.injEq, Prod.mk.injEq] at H
        obtain ⟨rfl, rfl, rfl, rfl, rfl, rfl, rfl, rfl⟩ := H
        obtain ⟨Q1, hQ1_⟩ : ∃ q_ : Array Value, q_ = (#[.string a0_0, .string a0_1, .string a0_2, .int .i64 a0_3, .int .i64 a0_4, .int .i64 a0_5, .bool a0_6] : Array Value) := ⟨_, rfl⟩
        try rw [← hQ1_]
        have hQ1 := Aside0.mk hQ1_; clear hQ1_
        go_enter Try.func68, Try.ntmps68
        go_wp2_with (first | ((with_reducible refine gate_dst (N := 2) rfl ?_); refine Ow.box rfl (N := 2) rfl (cs := Q1) (t := 61) HO.out (by first | (go_simp; done) | (go_simp; rfl)) ?_; clear HO; intro gb208 w17 HO; simp only [List.cons_append, List.nil_append] at HO) | ((with_reducible refine gate_dst (N := 4) rfl ?_); refine Ow.box rfl (N := 4) rfl (cs := bursarref14_Less.Z7) (t := 61) HO.out (by first | (go_simp; done) | (go_simp; rfl)) ?_; clear HO; intro gb209 w18 HO; simp only [List.cons_append, List.nil_append] at HO) | ((with_reducible refine gate_callee (f := 81) rfl ?_); refine goesL_ (some 9) rfl rfl Try.func81 (by kernel_rfl) rfl #[.agg #[.string a0_0, .string a0_1, .string a0_2, .int .i64 a0_3, .int .i64 a0_4, .int .i64 a0_5, .bool a0_6], .int .i64 a1] rfl (by (try simp only [List.map_toArray, List.map_cons, List.map_nil]); first | done | rfl | (simp only [hQ1.out]; done) | (simp only [hQ1.out]; rfl)) ?_; refine Calls.mono (calls_of_args (by first | (simp only [hQ1.out] <;> rfl) | rfl) (bursarref14_wrong.calls a0_0 a0_1 a0_2 a0_3 a0_4 a0_5 a0_6 a1 t210 _ A3.out)) ?_; rintro e w21 ⟨he_, hb⟩; subst he_; refine ⟨_, rfl, ?_⟩; replace HO := Aside0.mk (Ow.Own.call HO.out hb); clear hb) | ((with_reducible refine gate_callee (f := 44) rfl ?_); refine goesL_ (some 15) rfl rfl Try.func44 (by kernel_rfl) rfl #[.agg #[.string a0_0, .string a0_1, .string a0_2, .int .i64 a0_3, .int .i64 a0_4, .int .i64 a0_5, .bool a0_6]] rfl (by (try simp only [List.map_toArray, List.map_cons, List.map_nil]); first | done | rfl | (simp only [hQ1.out]; done) | (simp only [hQ1.out]; rfl)) ?_; refine Calls.mono (calls_of_args (by first | (simp only [hQ1.out] <;> rfl) | rfl) (bursarref14_Left.calls a0_0 a0_1 a0_2 a0_3 a0_4 a0_5 a0_6 t211 _ A5.out)) ?_; rintro e w23 ⟨he_, hb⟩; subst he_; refine ⟨_, rfl, ?_⟩; replace HO := Aside0.mk (Ow.Own.call HO.out hb); clear hb) | ((with_reducible refine Ow.gate_build rfl ?_); (try (refine gate_guard (by rfl) ?_; dsimp only)); refine' Ow.tbuild Ot.bd rfl rfl rfl ?hf_ ?_; (case hf_ => repeat (any_goals (first | exact Ow.Fills.nil | (refine' Ow.Fills.cons ?hv_ rfl ?hn_ ?hz_ ?_; (case hv_ => first | exact Ow.ev_tmp rfl | rfl); (case hn_ => first | (simp only [hQ1.out] <;> rfl) | rfl); (case hz_ => first | (simp only [hQ1.out] <;> rfl) | rfl)))))) | ((with_reducible refine Ow.gate_load rfl ?_); (try (refine gate_guard (by rfl) ?_; dsimp only)); (first | refine Ow.tload1 Ot.ty HO.out rfl rfl rfl rfl (by with_reducible first | exact Ow.at0 | exact Ow.at1) (by first | (simp only [hQ1.out] <;> rfl) | rfl) ?_ | refine Ow.tload0 Ot.ty HO.out rfl rfl rfl rfl (by with_reducible first | exact Ow.at0 | exact Ow.at1) (by first | (simp only [hQ1.out] <;> rfl) | rfl) ?_ | refine Ow.tloadp Ot.ty HO.out rfl rfl rfl rfl (by with_reducible first | exact Ow.at0 | exact Ow.at1) (by first | (simp only [hQ1.out] <;> rfl) | rfl) ?_)) | ((with_reducible refine gate_store rfl ?_); (try (refine gate_guard (by rfl) ?_; dsimp only)); (first | refine Ow.tput0 Ot.ty HO.out rfl rfl rfl rfl rfl (by with_reducible first | exact Ow.at0 | exact Ow.at1) (by first | exact Ow.ev_tmp rfl | rfl) (by first | (simp only [hQ1.out] <;> rfl) | rfl) (by first | (simp only [hQ1.out] <;> rfl) | rfl) (by first | (simp only [hQ1.out] <;> rfl) | rfl) ?_ | refine Ow.tput Ot.ty HO.out rfl rfl rfl rfl rfl (by with_reducible first | exact Ow.at0 | exact Ow.at1) (by first | exact Ow.ev_tmp rfl | rfl) (by first | (simp only [hQ1.out] <;> rfl) | rfl) (by first | (simp only [hQ1.out] <;> rfl) | rfl) (by first | (simp only [hQ1.out] <;> rfl) | rfl) ?_); clear HO; intro wz_ HO; simp only [List.set_cons_zero, List.set_cons_succ] at HO))
        refine' bodyPost_ret (results_ct rfl _ _ gb209 61 _ (0, 0) _ rfl ?hb_ Try.underlying61 rfl ?hi_) rfl ?_
        case hb_ => refine' Ow.Own.get HO.out 1 ?hk_; (case hk_ => rfl)
        case hi_ => exact (Ot.ty.size 61 rfl).trans (congrArg some (by first | (simp only [hQ1.out] <;> rfl) | rfl))
        exact ⟨by first | rfl | (simp only [hQ1.out]; done) | (simp only [hQ1.out]; rfl) | (simp [errW_none, errW_some] <;> rfl) | (simp [*, errW_none, errW_some] <;> rfl), Ow.Own.below HO.out⟩
      · rw [if_neg c16] at H
        have c16b0 : (a0_4 == (wrap64 (a0_3 - a1))) = false := beq_eq_false_iff_ne.mpr c16
        have c16b1 : (a0_4 != (wrap64 (a0_3 - a1))) = true := bne_iff_ne.mpr c16
        simp only [Option.some.injEq, Prod.mk.injEq] at H
        obtain ⟨rfl, rfl, rfl, rfl, rfl, rfl, rfl, rfl⟩ := H
        obtain ⟨Q2, hQ2_⟩ : ∃ q_ : Array Value, q_ = (#[.string a0_0, .string a0_1, .string a0_2, .int .i64 a0_3, .int .i64 a0_4, .int .i64 a0_5, .bool a0_6] : Array Value) := ⟨_, rfl⟩
        try rw [← hQ2_]
        have hQ2 := Aside0.mk hQ2_; clear hQ2_
        go_enter Try.func68, Try.ntmps68
        go_wp2_with (first | ((with_reducible refine gate_dst (N := 2) rfl ?_); refine Ow.box rfl (N := 2) rfl (cs := Q2) (t := 61) HO.out (by first | (go_simp; done) | (go_simp; rfl)) ?_; clear HO; intro gb208 w26 HO; simp only [List.cons_append, List.nil_append] at HO) | ((with_reducible refine gate_dst (N := 4) rfl ?_); refine Ow.box rfl (N := 4) rfl (cs := bursarref14_Less.Z7) (t := 61) HO.out (by first | (go_simp; done) | (go_simp; rfl)) ?_; clear HO; intro gb209 w27 HO; simp only [List.cons_append, List.nil_append] at HO) | ((with_reducible refine gate_callee (f := 81) rfl ?_); refine goesL_ (some 9) rfl rfl Try.func81 (by kernel_rfl) rfl #[.agg #[.string a0_0, .string a0_1, .string a0_2, .int .i64 a0_3, .int .i64 a0_4, .int .i64 a0_5, .bool a0_6], .int .i64 a1] rfl (by (try simp only [List.map_toArray, List.map_cons, List.map_nil]); first | done | rfl | (simp only [hQ2.out]; done) | (simp only [hQ2.out]; rfl)) ?_; refine Calls.mono (calls_of_args (by first | (simp only [hQ2.out] <;> rfl) | rfl) (bursarref14_wrong.calls a0_0 a0_1 a0_2 a0_3 a0_4 a0_5 a0_6 a1 t210 _ A3.out)) ?_; rintro e w30 ⟨he_, hb⟩; subst he_; refine ⟨_, rfl, ?_⟩; replace HO := Aside0.mk (Ow.Own.call HO.out hb); clear hb) | ((with_reducible refine gate_callee (f := 44) rfl ?_); refine goesL_ (some 15) rfl rfl Try.func44 (by kernel_rfl) rfl #[.agg #[.string a0_0, .string a0_1, .string a0_2, .int .i64 a0_3, .int .i64 a0_4, .int .i64 a0_5, .bool a0_6]] rfl (by (try simp only [List.map_toArray, List.map_cons, List.map_nil]); first | done | rfl | (simp only [hQ2.out]; done) | (simp only [hQ2.out]; rfl)) ?_; refine Calls.mono (calls_of_args (by first | (simp only [hQ2.out] <;> rfl) | rfl) (bursarref14_Left.calls a0_0 a0_1 a0_2 a0_3 a0_4 a0_5 a0_6 t211 _ A5.out)) ?_; rintro e w32 ⟨he_, hb⟩; subst he_; refine ⟨_, rfl, ?_⟩; replace HO := Aside0.mk (Ow.Own.call HO.out hb); clear hb) | ((with_reducible refine Ow.gate_build rfl ?_); (try (refine gate_guard (by rfl) ?_; dsimp only)); refine' Ow.tbuild Ot.bd rfl rfl rfl ?hf_ ?_; (case hf_ => repeat (any_goals (first | exact Ow.Fills.nil | (refine' Ow.Fills.cons ?hv_ rfl ?hn_ ?hz_ ?_; (case hv_ => first | exact Ow.ev_tmp rfl | rfl); (case hn_ => first | (simp only [hQ2.out] <;> rfl) | rfl); (case hz_ => first | (simp only [hQ2.out] <;> rfl) | rfl)))))) | ((with_reducible refine Ow.gate_load rfl ?_); (try (refine gate_guard (by rfl) ?_; dsimp only)); (first | refine Ow.tload1 Ot.ty HO.out rfl rfl rfl rfl (by with_reducible first | exact Ow.at0 | exact Ow.at1) (by first | (simp only [hQ2.out] <;> rfl) | rfl) ?_ | refine Ow.tload0 Ot.ty HO.out rfl rfl rfl rfl (by with_reducible first | exact Ow.at0 | exact Ow.at1) (by first | (simp only [hQ2.out] <;> rfl) | rfl) ?_ | refine Ow.tloadp Ot.ty HO.out rfl rfl rfl rfl (by with_reducible first | exact Ow.at0 | exact Ow.at1) (by first | (simp only [hQ2.out] <;> rfl) | rfl) ?_)) | ((with_reducible refine gate_store rfl ?_); (try (refine gate_guard (by rfl) ?_; dsimp only)); (first | refine Ow.tput0 Ot.ty HO.out rfl rfl rfl rfl rfl (by with_reducible first | exact Ow.at0 | exact Ow.at1) (by first | exact Ow.ev_tmp rfl | rfl) (by first | (simp only [hQ2.out] <;> rfl) | rfl) (by first | (simp only [hQ2.out] <;> rfl) | rfl) (by first | (simp only [hQ2.out] <;> rfl) | rfl) ?_ | refine Ow.tput Ot.ty HO.out rfl rfl rfl rfl rfl (by with_reducible first | exact Ow.at0 | exact Ow.at1) (by first | exact Ow.ev_tmp rfl | rfl) (by first | (simp only [hQ2.out] <;> rfl) | rfl) (by first | (simp only [hQ2.out] <;> rfl) | rfl) (by first | (simp only [hQ2.out] <;> rfl) | rfl) ?_); clear HO; intro wz_ HO; simp only [List.set_cons_zero, List.set_cons_succ] at HO))
        refine' bodyPost_ret (results_ct rfl _ _ gb209 61 _ (0, 0) _ rfl ?hb_ Try.underlying61 rfl ?hi_) rfl ?_
        case hb_ => refine' Ow.Own.get HO.out 1 ?hk_; (case hk_ => rfl)
        case hi_ => exact (Ot.ty.size 61 rfl).trans (congrArg some (by first | (simp only [hQ2.out] <;> rfl) | rfl))
        exact ⟨by first | rfl | (simp only [hQ2.out]; done) | (simp only [hQ2.out]; rfl) | (simp [errW_none, errW_some] <;> rfl) | (simp [*, errW_none, errW_some] <;> rfl), Ow.Own.below HO.out⟩
  · rw [if_neg c4] at H
    have c4b0 : (t210 == 0) = false := beq_eq_false_iff_ne.mpr c4
    have c4b1 : (t210 != 0) = true := bne_iff_ne.mpr c4
    simp only [Option.some.injEq, Prod.mk.injEq] at H
    obtain ⟨rfl, rfl, rfl, rfl, rfl, rfl, rfl, rfl⟩ := H
    obtain ⟨Q3, hQ3_⟩ : ∃ q_ : Array Value, q_ = (#[.string a0_0, .string a0_1, .string a0_2, .int .i64 a0_3, .int .i64 a0_4, .int .i64 a0_5, .bool a0_6] : Array Value) := ⟨_, rfl⟩
    try rw [← hQ3_]
    have hQ3 := Aside0.mk hQ3_; clear hQ3_
    go_enter Try.func68, Try.ntmps68
    go_wp2_with (first | ((with_reducible refine gate_dst (N := 2) rfl ?_); refine Ow.box rfl (N := 2) rfl (cs := Q3) (t := 61) HO.out (by first | (go_simp; done) | (go_simp; rfl)) ?_; clear HO; intro gb208 w35 HO; simp only [List.cons_append, List.nil_append] at HO) | ((with_reducible refine gate_dst (N := 4) rfl ?_); refine Ow.box rfl (N := 4) rfl (cs := bursarref14_Less.Z7) (t := 61) HO.out (by first | (go_simp; done) | (go_simp; rfl)) ?_; clear HO; intro gb209 w36 HO; simp only [List.cons_append, List.nil_append] at HO) | ((with_reducible refine gate_callee (f := 81) rfl ?_); refine goesL_ (some 9) rfl rfl Try.func81 (by kernel_rfl) rfl #[.agg #[.string a0_0, .string a0_1, .string a0_2, .int .i64 a0_3, .int .i64 a0_4, .int .i64 a0_5, .bool a0_6], .int .i64 a1] rfl (by (try simp only [List.map_toArray, List.map_cons, List.map_nil]); first | done | rfl | (simp only [hQ3.out]; done) | (simp only [hQ3.out]; rfl)) ?_; refine Calls.mono (calls_of_args (by first | (simp only [hQ3.out] <;> rfl) | rfl) (bursarref14_wrong.calls a0_0 a0_1 a0_2 a0_3 a0_4 a0_5 a0_6 a1 t210 _ A3.out)) ?_; rintro e w39 ⟨he_, hb⟩; subst he_; refine ⟨_, rfl, ?_⟩; replace HO := Aside0.mk (Ow.Own.call HO.out hb); clear hb) | ((with_reducible refine Ow.gate_build rfl ?_); (try (refine gate_guard (by rfl) ?_; dsimp only)); refine' Ow.tbuild Ot.bd rfl rfl rfl ?hf_ ?_; (case hf_ => repeat (any_goals (first | exact Ow.Fills.nil | (refine' Ow.Fills.cons ?hv_ rfl ?hn_ ?hz_ ?_; (case hv_ => first | exact Ow.ev_tmp rfl | rfl); (case hn_ => first | (simp only [hQ3.out] <;> rfl) | rfl); (case hz_ => first | (simp only [hQ3.out] <;> rfl) | rfl)))))) | ((with_reducible refine Ow.gate_load rfl ?_); (try (refine gate_guard (by rfl) ?_; dsimp only)); (first | refine Ow.tload1 Ot.ty HO.out rfl rfl rfl rfl (by with_reducible first | exact Ow.at0 | exact Ow.at1) (by first | (simp only [hQ3.out] <;> rfl) | rfl) ?_ | refine Ow.tload0 Ot.ty HO.out rfl rfl rfl rfl (by with_reducible first | exact Ow.at0 | exact Ow.at1) (by first | (simp only [hQ3.out] <;> rfl) | rfl) ?_ | refine Ow.tloadp Ot.ty HO.out rfl rfl rfl rfl (by with_reducible first | exact Ow.at0 | exact Ow.at1) (by first | (simp only [hQ3.out] <;> rfl) | rfl) ?_)) | ((with_reducible refine gate_store rfl ?_); (try (refine gate_guard (by rfl) ?_; dsimp only)); (first | refine Ow.tput0 Ot.ty HO.out rfl rfl rfl rfl rfl (by with_reducible first | exact Ow.at0 | exact Ow.at1) (by first | exact Ow.ev_tmp rfl | rfl) (by first | (simp only [hQ3.out] <;> rfl) | rfl) (by first | (simp only [hQ3.out] <;> rfl) | rfl) (by first | (simp only [hQ3.out] <;> rfl) | rfl) ?_ | refine Ow.tput Ot.ty HO.out rfl rfl rfl rfl rfl (by with_reducible first | exact Ow.at0 | exact Ow.at1) (by first | exact Ow.ev_tmp rfl | rfl) (by first | (simp only [hQ3.out] <;> rfl) | rfl) (by first | (simp only [hQ3.out] <;> rfl) | rfl) (by first | (simp only [hQ3.out] <;> rfl) | rfl) ?_); clear HO; intro wz_ HO; simp only [List.set_cons_zero, List.set_cons_succ] at HO))
    refine' bodyPost_ret (results_ct rfl _ _ gb209 61 _ (0, 0) _ rfl ?hb_ Try.underlying61 rfl ?hi_) rfl ?_
    case hb_ => refine' Ow.Own.get HO.out 1 ?hk_; (case hk_ => rfl)
    case hi_ => exact (Ot.ty.size 61 rfl).trans (congrArg some (by first | (simp only [hQ3.out] <;> rfl) | rfl))
    exact ⟨by first | rfl | (simp only [hQ3.out]; done) | (simp only [hQ3.out]; rfl) | (simp [errW_none, errW_some] <;> rfl) | (simp [*, errW_none, errW_some] <;> rfl), Ow.Own.below HO.out⟩

end Go.Proofs.Ytkbhocncfldifaa.XRV
