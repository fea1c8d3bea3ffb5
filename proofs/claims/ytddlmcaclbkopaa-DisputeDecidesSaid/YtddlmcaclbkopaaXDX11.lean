-- Written by wip/xprint.py, a session's program: printed out of the translation, with hand-written functions. Lean checks it.
import Derived.Test.YtddlmcaclbkopaaXDX0
import Derived.Test.YtddlmcaclbkopaaXDX10
namespace Go.Proofs.Ytddlmcaclbkopaa.XDX
open Go.RowKit Go.Proofs.YtddlmcaclbkopaaW.PrintWords Go.Proofs.YtddlmcaclbkopaaW.PrintLast Go.Proofs.YtddlmcaclbkopaaW.PrintMore
attribute [local go_sem] max2_int min2_int max_two min_two max_three min_three max_four min_four   -- for this text's walks alone
set_option linter.unusedVariables false
set_option linter.unusedSimpArgs false

/-! #### bursarref11_Name, refined -/
theorem ref11_Name_e (k : Int) (s : ByteArray) : bursarref11_Name_p.f 3 k s = some (Pu.nameB k s, Pu.mayB k s) := by
  simp only [bursarref11_Name_p.f, bursarref11_Name_p.j0, bursarref11_Name_p.j1, bursarref11_Name_p.j2, bursarref02_Sound.f, bursarref02_All.f, Pu.nameB]
  by_cases h1 : k = 1
  · subst h1
    rw [if_pos rfl, Pu.mayB_1]
    by_cases h : s.size = 16
    · rw [if_pos (by omega), if_pos (by omega), decide_eq_true h, Option.bind_some, Bool.true_and]
      cases Pu.soundB s with
      | true => rw [if_pos rfl, if_pos (by omega), if_pos rfl]; rfl
      | false => rw [if_neg (by simp), if_neg (by decide), if_neg (by simp), if_neg (by decide), if_neg (by simp), if_neg (by decide), if_neg (by simp)]
    · rw [if_neg (by omega), decide_eq_false h, if_neg (by simp), if_neg (by decide), if_neg (by simp), if_neg (by decide), if_neg (by simp), if_neg (by decide), if_neg (by simp)]; rfl
  rw [if_neg h1]
  rw [if_neg (by simp)]
  by_cases h2 : k = 2
  · subst h2
    rw [if_pos rfl, Pu.mayB_2]
    by_cases h : s.size = 6
    · rw [if_pos (by omega), if_pos (by omega), decide_eq_true h, Option.bind_some, Bool.true_and]
      cases Pu.allD s with
      | true => rw [if_pos rfl, if_pos (by omega), if_pos rfl]; rfl
      | false => rw [if_neg (by simp), if_neg (by decide), if_neg (by simp), if_neg (by decide), if_neg (by simp)]
    · rw [if_neg (by omega), decide_eq_false h, if_neg (by simp), if_neg (by decide), if_neg (by simp), if_neg (by decide), if_neg (by simp)]; rfl
  rw [if_neg h2, if_neg (by simp)]
  by_cases h3 : k = 3
  · subst h3
    rw [if_pos rfl, Pu.mayB_3, Pu.toList_empty]
    by_cases h : s.size = 0
    · rw [decide_eq_true h, if_pos rfl, if_pos rfl, Pu.app_nil _ h]; rfl
    · rw [decide_eq_false h, if_neg (by simp), if_neg (by decide), if_neg (by simp)]
  rw [if_neg h3, if_neg (by simp)]
  by_cases h4 : k = 4
  · subst h4
    rw [if_pos rfl, Pu.mayB_4]
    by_cases h : s.size = 0
    · rw [if_pos (Pu.toList_nil.mpr h), decide_eq_true h, if_pos rfl, Pu.app_nil _ h]; rfl
    · rw [if_neg (fun z => h (Pu.toList_nil.mp z)), decide_eq_false h, if_neg (by simp)]
  rw [if_neg h4, Pu.mayB_else s h1 h2 h3 h4, if_neg (by simp)]
def bursarref11_Name.f (a0_0 : Int) (a0_1 : ByteArray) : Option (ByteArray × Bool) := some (Pu.nameB a0_0 a0_1, Pu.mayB a0_0 a0_1)
theorem bursarref11_Name.calls (a0_0 : Int) (a0_1 : ByteArray) (r1 : ByteArray) (r2 : Bool) (w : World) (h : bursarref11_Name.f a0_0 a0_1 = some (r1, r2)) :
    Calls Try.prog 45 #[.agg #[.int .i64 a0_0, .string a0_1]] w fun e w' => e = .returned (.tuple #[.string r1, .bool r2]) ∧ Below w.heap.size w w' :=
  bursarref11_Name_p.calls 3 a0_0 a0_1 r1 r2 w ((ref11_Name_e a0_0 a0_1).trans h)


/-! ### bursarref14_Ref_p: function 46 -/
mutual
def bursarref14_Ref_p.l0 : Nat → ByteArray → Int → Option (Bool)
  | 0, _, _ => none
  | k + 1, x0, x3 => if x3 < 12 then (if 0 ≤ x3 then (if x3 < (x0.size : Int) then (if 48 ≤ (bt x0 x3) then (if ((bt x0 x3) ≤ 57) then (bursarref14_Ref_p.j1 k x0 x3 false) else (if 65 ≤ (bt x0 x3) then (bursarref14_Ref_p.j1 k x0 x3 (!(decide ((bt x0 x3) ≤ 90)))) else (bursarref14_Ref_p.j1 k x0 x3 (!false)))) else (if 65 ≤ (bt x0 x3) then (bursarref14_Ref_p.j1 k x0 x3 (!(decide ((bt x0 x3) ≤ 90)))) else (bursarref14_Ref_p.j1 k x0 x3 (!false)))) else (none)) else (none)) else (some true)
def bursarref14_Ref_p.j1 : Nat → ByteArray → Int → Bool → Option (Bool)
  | 0, _, _, _ => none
  | k + 1, x0, x3, x34 => if x34 = true then (some false) else (bursarref14_Ref_p.l0 k x0 (wrap64 (x3 + 1)))
end
def bursarref14_Ref_p.f (k : Nat) (a0 : ByteArray) : Option (Bool) := if (a0.size : Int) = 12 then (bursarref14_Ref_p.l0 k a0 0) else (some false)
theorem bursarref14_Ref_p.mono_l : ∀ k, (∀ y0 y1, LeO (bursarref14_Ref_p.l0 k y0 y1) (bursarref14_Ref_p.l0 (k + 1) y0 y1)) ∧ (∀ y0 y1 y2, LeO (bursarref14_Ref_p.j1 k y0 y1 y2) (bursarref14_Ref_p.j1 (k + 1) y0 y1 y2))
  | 0 => ⟨fun _ _ r h => by simp [bursarref14_Ref_p.l0] at h, fun _ _ _ r h => by simp [bursarref14_Ref_p.j1] at h⟩
  | k + 1 => by
    obtain ⟨ih0, ih1⟩ := bursarref14_Ref_p.mono_l k
    refine ⟨?_, ?_⟩
    all_goals
      intros
      first
      | unfold bursarref14_Ref_p.l0
      | unfold bursarref14_Ref_p.j1
      repeat' first
      | (with_reducible exact ih0 _ _)
      | (with_reducible exact ih1 _ _ _)
      | (with_reducible exact LeO.refl _)
      | (with_reducible exact LeO.none _)
      | (with_reducible refine LeO.ite ?_ ?_)
      | (with_reducible refine LeO.bind ?_ (fun _ => ?_))
      | exact ih0 _ _
      | exact ih1 _ _ _
      | exact LeO.none _
      | refine LeO.ite ?_ ?_
      | refine LeO.bind ?_ (fun _ => ?_)
theorem bursarref14_Ref_p.mono : ∀ a0 k, LeO (bursarref14_Ref_p.f k a0) (bursarref14_Ref_p.f (k + 1) a0) := by
  intro a0 k
  obtain ⟨ih0, ih1⟩ := bursarref14_Ref_p.mono_l k
  unfold bursarref14_Ref_p.f
  repeat' first
      | (with_reducible exact ih0 _ _)
      | (with_reducible exact ih1 _ _ _)
      | (with_reducible exact LeO.refl _)
      | (with_reducible exact LeO.none _)
      | (with_reducible refine LeO.ite ?_ ?_)
      | (with_reducible refine LeO.bind ?_ (fun _ => ?_))
      | exact ih0 _ _
      | exact ih1 _ _ _
      | exact LeO.none _
      | refine LeO.ite ?_ ?_
      | refine LeO.bind ?_ (fun _ => ?_)
set_option maxHeartbeats 8000000 in
set_option maxRecDepth 100000 in
theorem bursarref14_Ref_p.calls (k : Nat) (a0 : ByteArray) (r : Bool) (w : World) (h : bursarref14_Ref_p.f k a0 = some r) :
    Calls Try.prog 46 #[.string a0] w fun e w' => e = .returned (.bool r) ∧ Drawn0 w w' := by
  have H : (if (a0.size : Int) = 12 then (bursarref14_Ref_p.l0 k a0 0) else (some false)) = some r := h
  clear h
  by_cases c2 : (a0.size : Int) = 12
  · rw [if_pos c2] at H
    have c2b0 : ((a0.size : Int) == 12) = true := beq_iff_eq.mpr c2
    have c2b1 : ((a0.size : Int) != 12) = false := bne_eq_false_iff_eq.mpr c2
    clear c2
    have H' := Aside0.mk H
    clear H
    go_enter Try.func46, Try.ntmps46
    go_wp2
    go_loopg [3] k (fun kq v3 w' => ∃ (x3_1 : Int), v3 = .int .i64 x3_1 ∧ Aside0 (bursarref14_Ref_p.l0 kq a0 x3_1 = some r) ∧ Aside0 (kq ≤ k) ∧ Drawn0 w w')
    case atStart => exact ⟨(0), (by first | rfl | (simp; done) | (simp [*]; done) | (simp [Pu.bne_nil, Pu.beq_nil]; done)), H', ⟨Nat.le_refl _⟩, by repeat (first | exact Drawn0.refl _ | apply Drawn0.step)⟩
    case round =>
      clear H'
      try clear c2
      try clear c2b0
      try clear c2b1
      try clear p2
      obtain ⟨x3_1, rfl, HA, HK1, ⟨m1, rfl⟩⟩ := hrel
      cases gk with
      | zero => exact absurd HA.out (by simp [bursarref14_Ref_p.l0])
      | succ k1 =>
        have H := HA.out
        clear HA
        simp only [bursarref14_Ref_p.l0] at H
        by_cases c3 : x3_1 < 12
        · rw [if_pos c3] at H
          have c3b0 : decide (x3_1 < 12) = true := decide_eq_true c3
          clear c3
          have HC4 := Aside0.mk H
          clear H
          go_upto_region 6 with (fail)
          go_cut [34] (fun v34 wc => ∃ (kq : Nat) (x34_3 : Bool), v34 = .bool x34_3 ∧ Aside0 (bursarref14_Ref_p.j1 kq a0 x3_1 x34_3 = some r) ∧ Aside0 (kq ≤ k1) ∧ Drawn0 w wc)
          case first =>
            have H := HC4.out
            clear HC4
            by_cases c5 : 0 ≤ x3_1
            · rw [if_pos c5] at H
              have c5b0 : decide (0 ≤ x3_1) = true := decide_eq_true c5
              clear c5
              (first | rw [c5b0] | (simp only [i64_w, i32_w]; rw [c5b0]) | skip)
              by_cases c6 : x3_1 < (a0.size : Int)
              · rw [if_pos c6] at H
                have c6b0 : decide (x3_1 < (a0.size : Int)) = true := decide_eq_true c6
                clear c6
                by_cases c8 : 48 ≤ (bt a0 x3_1)
                · rw [if_pos c8] at H
                  have c8b0 : decide (48 ≤ (bt a0 x3_1)) = true := decide_eq_true c8
                  clear c8
                  by_cases c10 : ((bt a0 x3_1) ≤ 57)
                  · rw [if_pos c10] at H
                    have c10b0 : decide ((bt a0 x3_1) ≤ 57) = true := decide_eq_true c10
                    clear c10
                    have H' := Aside0.mk H
                    clear H
                    have p7 : 0 ≤ (x3_1 : Int) := of_decide_eq_true (by first | (with_reducible assumption) | assumption)
                    have q7 : x3_1 < (a0.size : Int) := of_decide_eq_true (by first | (with_reducible assumption) | assumption)
                    have hx7 := bt_at a0 x3_1
                    replace p7 := eq_true p7
                    replace q7 := eq_true q7
                    have p9 : 0 ≤ (x3_1 : Int) := of_decide_eq_true (by first | (with_reducible assumption) | assumption)
                    have q9 : x3_1 < (a0.size : Int) := of_decide_eq_true (by first | (with_reducible assumption) | assumption)
                    have hx9 := bt_at a0 x3_1
                    replace p9 := eq_true p9
                    replace q9 := eq_true q9
                    go_wp2
                    go_meet
                    case rel => exact ⟨_, (false), (by first | rfl | (simp; done) | (simp [*]; done) | (simp [Pu.bne_nil, Pu.beq_nil]; done)), H', ⟨by have := HK1.out; first | omega | exact Nat.le_refl _⟩, by repeat (first | exact Drawn0.refl _ | apply Drawn0.step)⟩
                  · rw [if_neg c10] at H
                    have c10b0 : decide ((bt a0 x3_1) ≤ 57) = false := decide_eq_false c10
                    clear c10
                    by_cases c12 : 65 ≤ (bt a0 x3_1)
                    · rw [if_pos c12] at H
                      have c12b0 : decide (65 ≤ (bt a0 x3_1)) = true := decide_eq_true c12
                      clear c12
                      have H' := Aside0.mk H
                      clear H
                      have p7 : 0 ≤ (x3_1 : Int) := of_decide_eq_true (by first | (with_reducible assumption) | assumption)
                      have q7 : x3_1 < (a0.size : Int) := of_decide_eq_true (by first | (with_reducible assumption) | assumption)
                      have hx7 := bt_at a0 x3_1
                      replace p7 := eq_true p7
                      replace q7 := eq_true q7
                      have p9 : 0 ≤ (x3_1 : Int) := of_decide_eq_true (by first | (with_reducible assumption) | assumption)
                      have q9 : x3_1 < (a0.size : Int) := of_decide_eq_true (by first | (with_reducible assumption) | assumption)
                      have hx9 := bt_at a0 x3_1
                      replace p9 := eq_true p9
                      replace q9 := eq_true q9
                      have p11 : 0 ≤ (x3_1 : Int) := of_decide_eq_true (by first | (with_reducible assumption) | assumption)
                      have q11 : x3_1 < (a0.size : Int) := of_decide_eq_true (by first | (with_reducible assumption) | assumption)
                      have hx11 := bt_at a0 x3_1
                      replace p11 := eq_true p11
                      replace q11 := eq_true q11
                      have p13 : 0 ≤ (x3_1 : Int) := of_decide_eq_true (by first | (with_reducible assumption) | assumption)
                      have q13 : x3_1 < (a0.size : Int) := of_decide_eq_true (by first | (with_reducible assumption) | assumption)
                      have hx13 := bt_at a0 x3_1
                      replace p13 := eq_true p13
                      replace q13 := eq_true q13
                      go_wp2
                      go_meet
                      case rel => exact ⟨_, (!(decide ((bt a0 x3_1) ≤ 90))), (by first | rfl | (simp; done) | (simp [*]; done) | (simp [Pu.bne_nil, Pu.beq_nil]; done)), H', ⟨by have := HK1.out; first | omega | exact Nat.le_refl _⟩, by repeat (first | exact Drawn0.refl _ | apply Drawn0.step)⟩
                    · rw [if_neg c12] at H
                      have c12b0 : decide (65 ≤ (bt a0 x3_1)) = false := decide_eq_false c12
                      clear c12
                      have H' := Aside0.mk H
                      clear H
                      have p7 : 0 ≤ (x3_1 : Int) := of_decide_eq_true (by first | (with_reducible assumption) | assumption)
                      have q7 : x3_1 < (a0.size : Int) := of_decide_eq_true (by first | (with_reducible assumption) | assumption)
                      have hx7 := bt_at a0 x3_1
                      replace p7 := eq_true p7
                      replace q7 := eq_true q7
                      have p9 : 0 ≤ (x3_1 : Int) := of_decide_eq_true (by first | (with_reducible assumption) | assumption)
                      have q9 : x3_1 < (a0.size : Int) := of_decide_eq_true (by first | (with_reducible assumption) | assumption)
                      have hx9 := bt_at a0 x3_1
                      replace p9 := eq_true p9
                      replace q9 := eq_true q9
                      have p11 : 0 ≤ (x3_1 : Int) := of_decide_eq_true (by first | (with_reducible assumption) | assumption)
                      have q11 : x3_1 < (a0.size : Int) := of_decide_eq_true (by first | (with_reducible assumption) | assumption)
                      have hx11 := bt_at a0 x3_1
                      replace p11 := eq_true p11
                      replace q11 := eq_true q11
                      go_wp2
                      go_meet
                      case rel => exact ⟨_, (!false), (by first | rfl | (simp; done) | (simp [*]; done) | (simp [Pu.bne_nil, Pu.beq_nil]; done)), H', ⟨by have := HK1.out; first | omega | exact Nat.le_refl _⟩, by repeat (first | exact Drawn0.refl _ | apply Drawn0.step)⟩
                · rw [if_neg c8] at H
                  have c8b0 : decide (48 ≤ (bt a0 x3_1)) = false := decide_eq_false c8
                  clear c8
                  by_cases c15 : 65 ≤ (bt a0 x3_1)
                  · rw [if_pos c15] at H
                    have c15b0 : decide (65 ≤ (bt a0 x3_1)) = true := decide_eq_true c15
                    clear c15
                    have H' := Aside0.mk H
                    clear H
                    have p7 : 0 ≤ (x3_1 : Int) := of_decide_eq_true (by first | (with_reducible assumption) | assumption)
                    have q7 : x3_1 < (a0.size : Int) := of_decide_eq_true (by first | (with_reducible assumption) | assumption)
                    have hx7 := bt_at a0 x3_1
                    replace p7 := eq_true p7
                    replace q7 := eq_true q7
                    have p14 : 0 ≤ (x3_1 : Int) := of_decide_eq_true (by first | (with_reducible assumption) | assumption)
                    have q14 : x3_1 < (a0.size : Int) := of_decide_eq_true (by first | (with_reducible assumption) | assumption)
                    have hx14 := bt_at a0 x3_1
                    replace p14 := eq_true p14
                    replace q14 := eq_true q14
                    have p16 : 0 ≤ (x3_1 : Int) := of_decide_eq_true (by first | (with_reducible assumption) | assumption)
                    have q16 : x3_1 < (a0.size : Int) := of_decide_eq_true (by first | (with_reducible assumption) | assumption)
                    have hx16 := bt_at a0 x3_1
                    replace p16 := eq_true p16
                    replace q16 := eq_true q16
                    go_wp2
                    go_meet
                    case rel => exact ⟨_, (!(decide ((bt a0 x3_1) ≤ 90))), (by first | rfl | (simp; done) | (simp [*]; done) | (simp [Pu.bne_nil, Pu.beq_nil]; done)), H', ⟨by have := HK1.out; first | omega | exact Nat.le_refl _⟩, by repeat (first | exact Drawn0.refl _ | apply Drawn0.step)⟩
                  · rw [if_neg c15] at H
                    have c15b0 : decide (65 ≤ (bt a0 x3_1)) = false := decide_eq_false c15
                    clear c15
                    have H' := Aside0.mk H
                    clear H
                    have p7 : 0 ≤ (x3_1 : Int) := of_decide_eq_true (by first | (with_reducible assumption) | assumption)
                    have q7 : x3_1 < (a0.size : Int) := of_decide_eq_true (by first | (with_reducible assumption) | assumption)
                    have hx7 := bt_at a0 x3_1
                    replace p7 := eq_true p7
                    replace q7 := eq_true q7
                    have p14 : 0 ≤ (x3_1 : Int) := of_decide_eq_true (by first | (with_reducible assumption) | assumption)
                    have q14 : x3_1 < (a0.size : Int) := of_decide_eq_true (by first | (with_reducible assumption) | assumption)
                    have hx14 := bt_at a0 x3_1
                    replace p14 := eq_true p14
                    replace q14 := eq_true q14
                    go_wp2
                    go_meet
                    case rel => exact ⟨_, (!false), (by first | rfl | (simp; done) | (simp [*]; done) | (simp [Pu.bne_nil, Pu.beq_nil]; done)), H', ⟨by have := HK1.out; first | omega | exact Nat.le_refl _⟩, by repeat (first | exact Drawn0.refl _ | apply Drawn0.step)⟩
              · rw [if_neg c6] at H
                exact absurd H (by simp)
            · rw [if_neg c5] at H
              exact absurd H (by simp)
          case rest =>
            clear HC4
            try clear c1
            try clear p1
            try clear q1
            try clear hx1
            try clear c2
            try clear c2b0
            try clear c2b1
            try clear p2
            try clear c3
            try clear c3b0
            try clear c4
            try clear c5
            try clear c5b0
            try clear c6
            try clear c6b0
            try clear p7
            try clear q7
            try clear hx7
            try clear c8
            try clear c8b0
            try clear p9
            try clear q9
            try clear hx9
            try clear c10
            try clear c10b0
            try clear p11
            try clear q11
            try clear hx11
            try clear c12
            try clear c12b0
            try clear p13
            try clear q13
            try clear hx13
            try clear p14
            try clear q14
            try clear hx14
            try clear c15
            try clear c15b0
            try clear p16
            try clear q16
            try clear hx16
            try clear p11
            try clear p13
            try clear p14
            try clear p16
            try clear p2
            try clear p7
            try clear p9
            try clear q11
            try clear q13
            try clear q14
            try clear q16
            try clear q7
            try clear q9
            obtain ⟨kq, x34_3, rfl, HA, HJ3, ⟨mc3, rfl⟩⟩ := hcut
            cases kq with
            | zero => exact absurd HA.out (by simp [bursarref14_Ref_p.j1])
            | succ kj3 =>
              have H := HA.out
              clear HA
              simp only [bursarref14_Ref_p.j1] at H
              by_cases c17 : x34_3 = true
              · subst c17
                have H1 : (some false) = some r := by rw [if_pos rfl] at H; exact H
                clear H
                have H := H1
                clear H1
                obtain rfl := Option.some.inj H
                go_wp2
                go_ret
                exact ⟨by first | rfl | (simp; done) | (simp [*]; done), by repeat (first | exact Drawn0.refl _ | apply Drawn0.step)⟩
              · replace c17 := Bool.eq_false_iff.mpr c17
                subst c17
                have H1 : (bursarref14_Ref_p.l0 kj3 a0 (wrap64 (x3_1 + 1))) = some r := by rw [if_neg (show ¬ (false = true) by decide)] at H; exact H
                clear H
                have H := H1
                clear H1
                have H' := Aside0.mk H
                clear H
                go_wp2
                go_roundg kj3
                case measure => have := HK1.out; have := HJ3.out; omega
                case rel => exact ⟨(wrap64 (x3_1 + 1)), (by first | rfl | (simp; done) | (simp [*]; done) | (simp [Pu.bne_nil, Pu.beq_nil]; done)), H', ⟨by have := HK1.out; have := HJ3.out; omega⟩, by repeat (first | exact Drawn0.refl _ | apply Drawn0.step)⟩
        · rw [if_neg c3] at H
          have c3b0 : decide (x3_1 < 12) = false := decide_eq_false c3
          clear c3
          obtain rfl := Option.some.inj H
          go_wp2
          go_ret
          exact ⟨by first | rfl | (simp; done) | (simp [*]; done), by repeat (first | exact Drawn0.refl _ | apply Drawn0.step)⟩
  · rw [if_neg c2] at H
    have c2b0 : ((a0.size : Int) == 12) = false := beq_eq_false_iff_ne.mpr c2
    have c2b1 : ((a0.size : Int) != 12) = true := bne_iff_ne.mpr c2
    obtain rfl := Option.some.inj H
    go_enter Try.func46, Try.ntmps46
    go_wp2
    go_ret
    exact ⟨by first | rfl | (simp; done) | (simp [*]; done), by repeat (first | exact Drawn0.refl _ | apply Drawn0.step)⟩

/-! #### bursarref14_Ref, refined -/
theorem ref14_Ref_l (s : ByteArray) (hs : s.size = 12) : ∀ (d i k : Nat), i + d = 12 → 2 * d < k → bursarref14_Ref_p.l0 k s (i : Int) = some (((Pu.bs s).drop i).all Pu.alnum) := by
  intro d
  induction d with
  | zero =>
    intro i k hi hk
    obtain ⟨k, rfl⟩ : ∃ m, k = m + 1 := ⟨k - 1, by omega⟩
    obtain rfl : i = s.size := by omega
    simp only [bursarref14_Ref_p.l0]
    rw [if_neg (by omega), Pu.bs_drop_all, List.all_nil]
  | succ d ih =>
    intro i k hi hk
    obtain ⟨k, rfl⟩ : ∃ m, k = m + 2 := ⟨k - 2, by omega⟩
    have hj : ∀ b : Bool, bursarref14_Ref_p.j1 (k + 1) s i b = if b = true then some false else some (((Pu.bs s).drop (i + 1)).all Pu.alnum) := fun b => by
      simp only [bursarref14_Ref_p.j1]
      cases b with
      | true => rfl
      | false =>
        rw [if_neg (by decide), if_neg (by decide), Pu.wrap_small (by omega) (by omega)]
        exact ih (i + 1) k (by omega) (by omega)
    simp only [bursarref14_Ref_p.l0]
    rw [if_pos (by omega), if_pos (by omega), if_pos (by omega), Pu.bs_drop s i (by omega), List.all_cons]
    simp only [hj]
    have hb := bt_range s i
    unfold Pu.alnum
    by_cases h1 : 48 ≤ bt s i
    · rw [if_pos h1, decide_eq_true h1]
      by_cases h2 : bt s i ≤ 57
      · rw [if_pos h2, if_neg (by decide), decide_eq_true h2]; rfl
      · rw [if_neg h2, decide_eq_false h2]
        by_cases h3 : 65 ≤ bt s i
        · rw [if_pos h3, decide_eq_true h3]
          by_cases h4 : bt s i ≤ 90
          · rw [decide_eq_true h4, if_neg (by decide)]; rfl
          · rw [decide_eq_false h4, if_pos (by decide)]; rfl
        · rw [if_neg h3, decide_eq_false h3, if_pos (by decide)]; rfl
    · rw [if_neg h1, decide_eq_false h1, if_neg (show ¬ 65 ≤ bt s i by omega), decide_eq_false (show ¬ 65 ≤ bt s i by omega), if_pos (by decide)]; rfl
def bursarref14_Ref.f (a0 : ByteArray) : Option Bool := some (Pu.refB a0)
theorem bursarref14_Ref.calls (a0 : ByteArray) (r : Bool) (w : World) (h : bursarref14_Ref.f a0 = some r) :
    Calls Try.prog 46 #[.string a0] w fun e w' => e = .returned (.bool r) ∧ Drawn0 w w' := by
  refine bursarref14_Ref_p.calls 25 a0 r w (Eq.trans ?_ h)
  unfold bursarref14_Ref_p.f bursarref14_Ref.f Pu.refB
  by_cases hs : a0.size = 12
  · rw [if_pos (by omega), decide_eq_true hs, Bool.true_and]
    exact ref14_Ref_l a0 hs 12 0 25 (by omega) (by omega)
  · rw [if_neg (by omega), decide_eq_false hs]; rfl


/-! ### bursarref26_acq: function 47 -/
def bursarref26_acq.f (a0 : ByteArray) : Option (Bool) := (bursarref11_Name.f 2 a0).bind fun bt301 => (some bt301.2)
set_option maxHeartbeats 8000000 in
set_option maxRecDepth 100000 in
theorem bursarref26_acq.calls (a0 : ByteArray) (r : Bool) (w : World) (h : bursarref26_acq.f a0 = some r) :
    Calls Try.prog 47 #[.string a0] w fun e w' => e = .returned (.bool r) ∧ Below w.heap.size w w' := by
  have hu73 := Try.underlying73
  have HB := Aside0.mk (Below.refl w.heap.size w)
  have H : ((bursarref11_Name.f 2 a0).bind fun bt301 => (some bt301.2)) = some r := h
  clear h
  replace H := Option.bind_eq_some_iff.mp H
  obtain ⟨⟨t301, t302⟩, A20, H⟩ := H
  replace H : (some t302) = some r := H
  have A2 := Aside0.mk A20
  clear A20
  obtain rfl := Option.some.inj H
  go_enter Try.func47, Try.ntmps47
  go_wp2_with (first | ((with_reducible refine gate_callee (f := 45) rfl ?_); refine goesL_ (some 8) rfl rfl Try.func45 (by kernel_rfl) rfl #[.agg #[.int .i64 2, .string a0]] rfl (by (try simp only [List.map_toArray, List.map_cons, List.map_nil]); first | done | rfl | (simp only [List.length_drop, List.length_take]; rfl)) ?_; (with_reducible refine (bursarref11_Name.calls 2 a0 t301 t302 _ A2.out).mono ?_); rintro e w3 ⟨rfl, hb⟩; refine ⟨_, rfl, ?_⟩; have n0_ := Aside0.mk (below_step (by repeat (first | (with_reducible first | exact HB.out | apply below_alloc | apply pw_below_drewN | apply below_drew1) | exact HB.out)) hb); clear HB; have HB := n0_; clear n0_; (try clear hb); (try clear hb2); (try clear hk); (try clear hi)))
  go_ret
  exact ⟨by first | rfl | (simp [errW_none, errW_some] <;> rfl) | (simp [*, errW_none, errW_some] <;> rfl), by repeat (first | (with_reducible first | exact HB.out | apply below_alloc | apply pw_below_drewN | apply below_drew1) | exact HB.out)⟩

/-! ### bursarref26_May: function 20 -/
def bursarref26_May.f (a0_0 : ByteArray) (a0_1 : ByteArray) (a0_2 : ByteArray) (a0_3 : Int) (a0_4 : Int) (a0_5 : Int) : Option (Bool) := (bursarref11_Name.f 1 a0_2).bind fun bt304 => ((bursarref14_Ref.f a0_0).bind fun t306 => (if t306 = true then ((bursarref26_acq.f a0_1).bind fun t307 => (if t307 = true then (if bt304.2 = true then (if 1 ≤ a0_3 then (if a0_3 ≤ 3 then (if 1 ≤ a0_4 then (if a0_4 ≤ 9999999999999 then (if 0 ≤ a0_5 then (some (decide (a0_5 ≤ 2147483647))) else (some false)) else (some false)) else (some false)) else (some false)) else (some false)) else (some false)) else (some false))) else (some false)))
set_option maxHeartbeats 8000000 in
set_option maxRecDepth 100000 in
theorem bursarref26_May.calls (a0_0 : ByteArray) (a0_1 : ByteArray) (a0_2 : ByteArray) (a0_3 : Int) (a0_4 : Int) (a0_5 : Int) (r : Bool) (w : World) (h : bursarref26_May.f a0_0 a0_1 a0_2 a0_3 a0_4 a0_5 = some r) :
    Calls Try.prog 20 #[.agg #[.string a0_0, .string a0_1, .string a0_2, .int .i64 a0_3, .int .i64 a0_4, .int .i64 a0_5]] w fun e w' => e = .returned (.bool r) ∧ Below w.heap.size w w' := by
  have hu29 := Try.underlying29
  have hu73 := Try.underlying73
  have HB := Aside0.mk (Below.refl w.heap.size w)
  have H : ((bursarref11_Name.f 1 a0_2).bind fun bt304 => ((bursarref14_Ref.f a0_0).bind fun t306 => (if t306 = true then ((bursarref26_acq.f a0_1).bind fun t307 => (if t307 = true then (if bt304.2 = true then (if 1 ≤ a0_3 then (if a0_3 ≤ 3 then (if 1 ≤ a0_4 then (if a0_4 ≤ 9999999999999 then (if 0 ≤ a0_5 then (some (decide (a0_5 ≤ 2147483647))) else (some false)) else (some false)) else (some false)) else (some false)) else (some false)) else (some false)) else (some false))) else (some false)))) = some r := h
  clear h
  replace H := Option.bind_eq_some_iff.mp H
  obtain ⟨⟨t304, t305⟩, A20, H⟩ := H
  replace H : ((bursarref14_Ref.f a0_0).bind fun t306 => (if t306 = true then ((bursarref26_acq.f a0_1).bind fun t307 => (if t307 = true then (if t305 = true then (if 1 ≤ a0_3 then (if a0_3 ≤ 3 then (if 1 ≤ a0_4 then (if a0_4 ≤ 9999999999999 then (if 0 ≤ a0_5 then (some (decide (a0_5 ≤ 2147483647))) else (some false)) else (some false)) else (some false)) else (some false)) else (some false)) else (some false)) else (some false))) else (some false))) = some r := H
  have A2 := Aside0.mk A20
  clear A20
  replace H := Option.bind_eq_some_iff.mp H
  obtain ⟨t306, A30, H⟩ := H
  replace H : (if t306 = true then ((bursarref26_acq.f a0_1).bind fun t307 => (if t307 = true then (if t305 = true then (if 1 ≤ a0_3 then (if a0_3 ≤ 3 then (if 1 ≤ a0_4 then (if a0_4 ≤ 9999999999999 then (if 0 ≤ a0_5 then (some (decide (a0_5 ≤ 2147483647))) else (some false)) else (some false)) else (some false)) else (some false)) else (some false)) else (some false)) else (some false))) else (some false)) = some r := H
  have A3 := Aside0.mk A30
  clear A30
  by_cases c4 : t306 = true
  · subst c4
    have H1 : ((bursarref26_acq.f a0_1).bind fun t307 => (if t307 = true then (if t305 = true then (if 1 ≤ a0_3 then (if a0_3 ≤ 3 then (if 1 ≤ a0_4 then (if a0_4 ≤ 9999999999999 then (if 0 ≤ a0_5 then (some (decide (a0_5 ≤ 2147483647))) else (some false)) else (some false)) else (some false)) else (some false)) else (some false)) else (some false)) else (some false))) = some r := by rw [if_pos rfl] at H; exact H
    clear H
    have H := H1
    clear H1
    replace H := Option.bind_eq_some_iff.mp H
    obtain ⟨t307, A50, H⟩ := H
    replace H : (if t307 = true then (if t305 = true then (if 1 ≤ a0_3 then (if a0_3 ≤ 3 then (if 1 ≤ a0_4 then (if a0_4 ≤ 9999999999999 then (if 0 ≤ a0_5 then (some (decide (a0_5 ≤ 2147483647))) else (some false)) else (some false)) else (some false)) else (some false)) else (some false)) else (some false)) else (some false)) = some r := H
    have A5 := Aside0.mk A50
    clear A50
    by_cases c6 : t307 = true
    · subst c6
      have H1 : (if t305 = true then (if 1 ≤ a0_3 then (if a0_3 ≤ 3 then (if 1 ≤ a0_4 then (if a0_4 ≤ 9999999999999 then (if 0 ≤ a0_5 then (some (decide (a0_5 ≤ 2147483647))) else (some false)) else (some false)) else (some false)) else (some false)) else (some false)) else (some false)) = some r := by rw [if_pos rfl] at H; exact H
      clear H
      have H := H1
      clear H1
      by_cases c7 : t305 = true
      · subst c7
        have H1 : (if 1 ≤ a0_3 then (if a0_3 ≤ 3 then (if 1 ≤ a0_4 then (if a0_4 ≤ 9999999999999 then (if 0 ≤ a0_5 then (some (decide (a0_5 ≤ 2147483647))) else (some false)) else (some false)) else (some false)) else (some false)) else (some false)) = some r := by rw [if_pos rfl] at H; exact H
        clear H
        have H := H1
        clear H1
        by_cases c8 : 1 ≤ a0_3
        · rw [if_pos c8] at H
          have c8b0 : decide (1 ≤ a0_3) = true := decide_eq_true c8
          clear c8
          by_cases c9 : a0_3 ≤ 3
          · rw [if_pos c9] at H
            have c9b0 : decide (a0_3 ≤ 3) = true := decide_eq_true c9
            clear c9
            by_cases c10 : 1 ≤ a0_4
            · rw [if_pos c10] at H
              have c10b0 : decide (1 ≤ a0_4) = true := decide_eq_true c10
              clear c10
              by_cases c11 : a0_4 ≤ 9999999999999
              · rw [if_pos c11] at H
                have c11b0 : decide (a0_4 ≤ 9999999999999) = true := decide_eq_true c11
                clear c11
                by_cases c12 : 0 ≤ a0_5
                · rw [if_pos c12] at H
                  have c12b0 : decide (0 ≤ a0_5) = true := decide_eq_true c12
                  clear c12
                  obtain rfl := Option.some.inj H
                  go_enter Try.func20, Try.ntmps20
                  go_wp2_with (first | ((with_reducible refine gate_dst (N := 1) rfl ?_); refine box_event ?hg (N := 1) ?hd (cs := #[.string a0_0, .string a0_1, .string a0_2, .int .i64 a0_3, .int .i64 a0_4, .int .i64 a0_5]) (t := 29) ?hr ?_; (case hd => rfl); (case hg => rfl); (case hr => first | (go_simp; done) | (go_simp; rfl)); intro gb303 hg w13 hbox hb; have n0_ := Aside0.mk (below_step (by repeat (first | (with_reducible first | exact HB.out | apply below_alloc | apply pw_below_drewN | apply below_drew1) | exact HB.out)) hb); have n1_ := Aside0.mk (hbox); have n2_ := Aside0.mk ((by rw [hg]; exact (below_size (by repeat (first | (with_reducible first | exact HB.out | apply below_alloc | apply pw_below_drewN | apply below_drew1) | exact HB.out))) : w.heap.size ≤ gb303)); have n3_ := Aside0.mk ((by rw [hg]; exact (below_size (by repeat (first | (with_reducible first | exact HB.out | apply below_alloc | apply pw_below_drewN | apply below_drew1) | exact HB.out))) : w.heap.size ≤ gb303)); clear HB; have HB := n0_; have BK303 := n1_; have GW303 := n2_; have GE303 := n3_; clear n0_ n1_ n2_ n3_; clear hb hbox hg; have hcz14_0 := blk_cell BK303.out; have hfz14_0 := blk_frozen BK303.out) | ((with_reducible refine gate_callee (f := 45) rfl ?_); refine goesL_ (some 9) rfl rfl Try.func45 (by kernel_rfl) rfl #[.agg #[.int .i64 1, .string a0_2]] rfl (by (try simp only [List.map_toArray, List.map_cons, List.map_nil]); first | done | rfl | (simp only [List.length_drop, List.length_take]; rfl)) ?_; (with_reducible refine (bursarref11_Name.calls 1 a0_2 t304 true _ A2.out).mono ?_); rintro e w15 ⟨rfl, hb⟩; refine ⟨_, rfl, ?_⟩; have n0_ := Aside0.mk (blk_below (g := gb303) (o := .cells #[.string a0_0, .string a0_1, .string a0_2, .int .i64 a0_3, .int .i64 a0_4, .int .i64 a0_5] 29 (0, 0)) (by (with_reducible repeat (first | refine blk_drewN ?_ _ | refine blk_drew ?_ | refine blk_alloc ?_ _)); exact BK303.out) hb); have n1_ := Aside0.mk (below_step (by repeat (first | (with_reducible first | exact HB.out | apply below_alloc | apply pw_below_drewN | apply below_drew1 | refine below_set ?_ GE303.out) | exact HB.out)) hb); clear BK303; clear HB; have BK303 := n0_; have HB := n1_; clear n0_ n1_; (try clear hb); (try clear hb2); (try clear hk); (try clear hi); have hcz16_0 := blk_cell BK303.out; have hfz16_0 := blk_frozen BK303.out) | ((with_reducible refine gate_callee (f := 46) rfl ?_); refine goesL_ (some 14) rfl rfl Try.func46 (by kernel_rfl) rfl #[.string a0_0] rfl (by (try simp only [List.map_toArray, List.map_cons, List.map_nil]); first | done | rfl | (simp only [List.length_drop, List.length_take]; rfl)) ?_; (with_reducible refine (bursarref14_Ref.calls a0_0 true _ A3.out).mono ?_); rintro e w' ⟨rfl, ⟨nd, rfl⟩⟩; refine ⟨_, rfl, ?_⟩) | (go_at_call 47; (with_reducible refine (bursarref26_acq.calls a0_1 true _ A5.out).mono ?_); rintro e w17 ⟨rfl, hb⟩; have n0_ := Aside0.mk (blk_below (g := gb303) (o := .cells #[.string a0_0, .string a0_1, .string a0_2, .int .i64 a0_3, .int .i64 a0_4, .int .i64 a0_5] 29 (0, 0)) (by (with_reducible repeat (first | refine blk_drewN ?_ _ | refine blk_drew ?_ | refine blk_alloc ?_ _)); exact BK303.out) hb); have n1_ := Aside0.mk (below_step (by repeat (first | (with_reducible first | exact HB.out | apply below_alloc | apply pw_below_drewN | apply below_drew1 | refine below_set ?_ GE303.out) | exact HB.out)) hb); clear BK303; clear HB; have BK303 := n0_; have HB := n1_; clear n0_ n1_; (try clear hb); (try clear hb2); (try clear hk); (try clear hi); have hcz18_0 := blk_cell BK303.out; have hfz18_0 := blk_frozen BK303.out))
                  go_ret
                  exact ⟨by first | rfl | (simp [errW_none, errW_some] <;> rfl) | (simp [*, errW_none, errW_some] <;> rfl), by repeat (first | (with_reducible first | exact HB.out | apply below_alloc | apply pw_below_drewN | apply below_drew1 | refine below_set ?_ GE303.out) | exact HB.out)⟩
                · rw [if_neg c12] at H
                  have c12b0 : decide (0 ≤ a0_5) = false := decide_eq_false c12
                  clear c12
                  obtain rfl := Option.some.inj H
                  go_enter Try.func20, Try.ntmps20
                  go_wp2_with (first | ((with_reducible refine gate_dst (N := 1) rfl ?_); refine box_event ?hg (N := 1) ?hd (cs := #[.string a0_0, .string a0_1, .string a0_2, .int .i64 a0_3, .int .i64 a0_4, .int .i64 a0_5]) (t := 29) ?hr ?_; (case hd => rfl); (case hg => rfl); (case hr => first | (go_simp; done) | (go_simp; rfl)); intro gb303 hg w19 hbox hb; have n0_ := Aside0.mk (below_step (by repeat (first | (with_reducible first | exact HB.out | apply below_alloc | apply pw_below_drewN | apply below_drew1) | exact HB.out)) hb); have n1_ := Aside0.mk (hbox); have n2_ := Aside0.mk ((by rw [hg]; exact (below_size (by repeat (first | (with_reducible first | exact HB.out | apply below_alloc | apply pw_below_drewN | apply below_drew1) | exact HB.out))) : w.heap.size ≤ gb303)); have n3_ := Aside0.mk ((by rw [hg]; exact (below_size (by repeat (first | (with_reducible first | exact HB.out | apply below_alloc | apply pw_below_drewN | apply below_drew1) | exact HB.out))) : w.heap.size ≤ gb303)); clear HB; have HB := n0_; have BK303 := n1_; have GW303 := n2_; have GE303 := n3_; clear n0_ n1_ n2_ n3_; clear hb hbox hg; have hcz20_0 := blk_cell BK303.out; have hfz20_0 := blk_frozen BK303.out) | ((with_reducible refine gate_callee (f := 45) rfl ?_); refine goesL_ (some 9) rfl rfl Try.func45 (by kernel_rfl) rfl #[.agg #[.int .i64 1, .string a0_2]] rfl (by (try simp only [List.map_toArray, List.map_cons, List.map_nil]); first | done | rfl | (simp only [List.length_drop, List.length_take]; rfl)) ?_; (with_reducible refine (bursarref11_Name.calls 1 a0_2 t304 true _ A2.out).mono ?_); rintro e w21 ⟨rfl, hb⟩; refine ⟨_, rfl, ?_⟩; have n0_ := Aside0.mk (blk_below (g := gb303) (o := .cells #[.string a0_0, .string a0_1, .string a0_2, .int .i64 a0_3, .int .i64 a0_4, .int .i64 a0_5] 29 (0, 0)) (by (with_reducible repeat (first | refine blk_drewN ?_ _ | refine blk_drew ?_ | refine blk_alloc ?_ _)); exact BK303.out) hb); have n1_ := Aside0.mk (below_step (by repeat (first | (with_reducible first | exact HB.out | apply below_alloc | apply pw_below_drewN | apply below_drew1 | refine below_set ?_ GE303.out) | exact HB.out)) hb); clear BK303; clear HB; have BK303 := n0_; have HB := n1_; clear n0_ n1_; (try clear hb); (try clear hb2); (try clear hk); (try clear hi); have hcz22_0 := blk_cell BK303.out; have hfz22_0 := blk_frozen BK303.out) | ((with_reducible refine gate_callee (f := 46) rfl ?_); refine goesL_ (some 14) rfl rfl Try.func46 (by kernel_rfl) rfl #[.string a0_0] rfl (by (try simp only [List.map_toArray, List.map_cons, List.map_nil]); first | done | rfl | (simp only [List.length_drop, List.length_take]; rfl)) ?_; (with_reducible refine (bursarref14_Ref.calls a0_0 true _ A3.out).mono ?_); rintro e w' ⟨rfl, ⟨nd, rfl⟩⟩; refine ⟨_, rfl, ?_⟩) | (go_at_call 47; (with_reducible refine (bursarref26_acq.calls a0_1 true _ A5.out).mono ?_); rintro e w23 ⟨rfl, hb⟩; have n0_ := Aside0.mk (blk_below (g := gb303) (o := .cells #[.string a0_0, .string a0_1, .string a0_2, .int .i64 a0_3, .int .i64 a0_4, .int .i64 a0_5] 29 (0, 0)) (by (with_reducible repeat (first | refine blk_drewN ?_ _ | refine blk_drew ?_ | refine blk_alloc ?_ _)); exact BK303.out) hb); have n1_ := Aside0.mk (below_step (by repeat (first | (with_reducible first | exact HB.out | apply below_alloc | apply pw_below_drewN | apply below_drew1 | refine below_set ?_ GE303.out) | exact HB.out)) hb); clear BK303; clear HB; have BK303 := n0_; have HB := n1_; clear n0_ n1_; (try clear hb); (try clear hb2); (try clear hk); (try clear hi); have hcz24_0 := blk_cell BK303.out; have hfz24_0 := blk_frozen BK303.out))
                  go_ret
                  exact ⟨by first | rfl | (simp [errW_none, errW_some] <;> rfl) | (simp [*, errW_none, errW_some] <;> rfl), by repeat (first | (with_reducible first | exact HB.out | apply below_alloc | apply pw_below_drewN | apply below_drew1 | refine below_set ?_ GE303.out) | exact HB.out)⟩
              · rw [if_neg c11] at H
                have c11b0 : decide (a0_4 ≤ 9999999999999) = false := decide_eq_false c11
                clear c11
                obtain rfl := Option.some.inj H
                go_enter Try.func20, Try.ntmps20
                go_wp2_with (first | ((with_reducible refine gate_dst (N := 1) rfl ?_); refine box_event ?hg (N := 1) ?hd (cs := #[.string a0_0, .string a0_1, .string a0_2, .int .i64 a0_3, .int .i64 a0_4, .int .i64 a0_5]) (t := 29) ?hr ?_; (case hd => rfl); (case hg => rfl); (case hr => first | (go_simp; done) | (go_simp; rfl)); intro gb303 hg w25 hbox hb; have n0_ := Aside0.mk (below_step (by repeat (first | (with_reducible first | exact HB.out | apply below_alloc | apply pw_below_drewN | apply below_drew1) | exact HB.out)) hb); have n1_ := Aside0.mk (hbox); have n2_ := Aside0.mk ((by rw [hg]; exact (below_size (by repeat (first | (with_reducible first | exact HB.out | apply below_alloc | apply pw_below_drewN | apply below_drew1) | exact HB.out))) : w.heap.size ≤ gb303)); have n3_ := Aside0.mk ((by rw [hg]; exact (below_size (by repeat (first | (with_reducible first | exact HB.out | apply below_alloc | apply pw_below_drewN | apply below_drew1) | exact HB.out))) : w.heap.size ≤ gb303)); clear HB; have HB := n0_; have BK303 := n1_; have GW303 := n2_; have GE303 := n3_; clear n0_ n1_ n2_ n3_; clear hb hbox hg; have hcz26_0 := blk_cell BK303.out; have hfz26_0 := blk_frozen BK303.out) | ((with_reducible refine gate_callee (f := 45) rfl ?_); refine goesL_ (some 9) rfl rfl Try.func45 (by kernel_rfl) rfl #[.agg #[.int .i64 1, .string a0_2]] rfl (by (try simp only [List.map_toArray, List.map_cons, List.map_nil]); first | done | rfl | (simp only [List.length_drop, List.length_take]; rfl)) ?_; (with_reducible refine (bursarref11_Name.calls 1 a0_2 t304 true _ A2.out).mono ?_); rintro e w27 ⟨rfl, hb⟩; refine ⟨_, rfl, ?_⟩; have n0_ := Aside0.mk (blk_below (g := gb303) (o := .cells #[.string a0_0, .string a0_1, .string a0_2, .int .i64 a0_3, .int .i64 a0_4, .int .i64 a0_5] 29 (0, 0)) (by (with_reducible repeat (first | refine blk_drewN ?_ _ | refine blk_drew ?_ | refine blk_alloc ?_ _)); exact BK303.out) hb); have n1_ := Aside0.mk (below_step (by repeat (first | (with_reducible first | exact HB.out | apply below_alloc | apply pw_below_drewN | apply below_drew1 | refine below_set ?_ GE303.out) | exact HB.out)) hb); clear BK303; clear HB; have BK303 := n0_; have HB := n1_; clear n0_ n1_; (try clear hb); (try clear hb2); (try clear hk); (try clear hi); have hcz28_0 := blk_cell BK303.out; have hfz28_0 := blk_frozen BK303.out) | ((with_reducible refine gate_callee (f := 46) rfl ?_); refine goesL_ (some 14) rfl rfl Try.func46 (by kernel_rfl) rfl #[.string a0_0] rfl (by (try simp only [List.map_toArray, List.map_cons, List.map_nil]); first | done | rfl | (simp only [List.length_drop, List.length_take]; rfl)) ?_; (with_reducible refine (bursarref14_Ref.calls a0_0 true _ A3.out).mono ?_); rintro e w' ⟨rfl, ⟨nd, rfl⟩⟩; refine ⟨_, rfl, ?_⟩) | (go_at_call 47; (with_reducible refine (bursarref26_acq.calls a0_1 true _ A5.out).mono ?_); rintro e w29 ⟨rfl, hb⟩; have n0_ := Aside0.mk (blk_below (g := gb303) (o := .cells #[.string a0_0, .string a0_1, .string a0_2, .int .i64 a0_3, .int .i64 a0_4, .int .i64 a0_5] 29 (0, 0)) (by (with_reducible repeat (first | refine blk_drewN ?_ _ | refine blk_drew ?_ | refine blk_alloc ?_ _)); exact BK303.out) hb); have n1_ := Aside0.mk (below_step (by repeat (first | (with_reducible first | exact HB.out | apply below_alloc | apply pw_below_drewN | apply below_drew1 | refine below_set ?_ GE303.out) | exact HB.out)) hb); clear BK303; clear HB; have BK303 := n0_; have HB := n1_; clear n0_ n1_; (try clear hb); (try clear hb2); (try clear hk); (try clear hi); have hcz30_0 := blk_cell BK303.out; have hfz30_0 := blk_frozen BK303.out))
                go_ret
                exact ⟨by first | rfl | (simp [errW_none, errW_some] <;> rfl) | (simp [*, errW_none, errW_some] <;> rfl), by repeat (first | (with_reducible first | exact HB.out | apply below_alloc | apply pw_below_drewN | apply below_drew1 | refine below_set ?_ GE303.out) | exact HB.out)⟩
            · rw [if_neg c10] at H
              have c10b0 : decide (1 ≤ a0_4) = false := decide_eq_false c10
              clear c10
              obtain rfl := Option.some.inj H
              go_enter Try.func20, Try.ntmps20
              go_wp2_with (first | ((with_reducible refine gate_dst (N := 1) rfl ?_); refine box_event ?hg (N := 1) ?hd (cs := #[.string a0_0, .string a0_1, .string a0_2, .int .i64 a0_3, .int .i64 a0_4, .int .i64 a0_5]) (t := 29) ?hr ?_; (case hd => rfl); (case hg => rfl); (case hr => first | (go_simp; done) | (go_simp; rfl)); intro gb303 hg w31 hbox hb; have n0_ := Aside0.mk (below_step (by repeat (first | (with_reducible first | exact HB.out | apply below_alloc | apply pw_below_drewN | apply below_drew1) | exact HB.out)) hb); have n1_ := Aside0.mk (hbox); have n2_ := Aside0.mk ((by rw [hg]; exact (below_size (by repeat (first | (with_reducible first | exact HB.out | apply below_alloc | apply pw_below_drewN | apply below_drew1) | exact HB.out))) : w.heap.size ≤ gb303)); have n3_ := Aside0.mk ((by rw [hg]; exact (below_size (by repeat (first | (with_reducible first | exact HB.out | apply below_alloc | apply pw_below_drewN | apply below_drew1) | exact HB.out))) : w.heap.size ≤ gb303)); clear HB; have HB := n0_; have BK303 := n1_; have GW303 := n2_; have GE303 := n3_; clear n0_ n1_ n2_ n3_; clear hb hbox hg; have hcz32_0 := blk_cell BK303.out; have hfz32_0 := blk_frozen BK303.out) | ((with_reducible refine gate_callee (f := 45) rfl ?_); refine goesL_ (some 9) rfl rfl Try.func45 (by kernel_rfl) rfl #[.agg #[.int .i64 1, .string a0_2]] rfl (by (try simp only [List.map_toArray, List.map_cons, List.map_nil]); first | done | rfl | (simp only [List.length_drop, List.length_take]; rfl)) ?_; (with_reducible refine (bursarref11_Name.calls 1 a0_2 t304 true _ A2.out).mono ?_); rintro e w33 ⟨rfl, hb⟩; refine ⟨_, rfl, ?_⟩; have n0_ := Aside0.mk (blk_below (g := gb303) (o := .cells #[.string a0_0, .string a0_1, .string a0_2, .int .i64 a0_3, .int .i64 a0_4, .int .i64 a0_5] 29 (0, 0)) (by (with_reducible repeat (first | refine blk_drewN ?_ _ | refine blk_drew ?_ | refine blk_alloc ?_ _)); exact BK303.out) hb); have n1_ := Aside0.mk (below_step (by repeat (first | (with_reducible first | exact HB.out | apply below_alloc | apply pw_below_drewN | apply below_drew1 | refine below_set ?_ GE303.out) | exact HB.out)) hb); clear BK303; clear HB; have BK303 := n0_; have HB := n1_; clear n0_ n1_; (try clear hb); (try clear hb2); (try clear hk); (try clear hi); have hcz34_0 := blk_cell BK303.out; have hfz34_0 := blk_frozen BK303.out) | ((with_reducible refine gate_callee (f := 46) rfl ?_); refine goesL_ (some 14) rfl rfl Try.func46 (by kernel_rfl) rfl #[.string a0_0] rfl (by (try simp only [List.map_toArray, List.map_cons, List.map_nil]); first | done | rfl | (simp only [List.length_drop, List.length_take]; rfl)) ?_; (with_reducible refine (bursarref14_Ref.calls a0_0 true _ A3.out).mono ?_); rintro e w' ⟨rfl, ⟨nd, rfl⟩⟩; refine ⟨_, rfl, ?_⟩) | (go_at_call 47; (with_reducible refine (bursarref26_acq.calls a0_1 true _ A5.out).mono ?_); rintro e w35 ⟨rfl, hb⟩; have n0_ := Aside0.mk (blk_below (g := gb303) (o := .cells #[.string a0_0, .string a0_1, .string a0_2, .int .i64 a0_3, .int .i64 a0_4, .int .i64 a0_5] 29 (0, 0)) (by (with_reducible repeat (first | refine blk_drewN ?_ _ | refine blk_drew ?_ | refine blk_alloc ?_ _)); exact BK303.out) hb); have n1_ := Aside0.mk (below_step (by repeat (first | (with_reducible first | exact HB.out | apply below_alloc | apply pw_below_drewN | apply below_drew1 | refine below_set ?_ GE303.out) | exact HB.out)) hb); clear BK303; clear HB; have BK303 := n0_; have HB := n1_; clear n0_ n1_; (try clear hb); (try clear hb2); (try clear hk); (try clear hi); have hcz36_0 := blk_cell BK303.out; have hfz36_0 := blk_frozen BK303.out))
              go_ret
              exact ⟨by first | rfl | (simp [errW_none, errW_some] <;> rfl) | (simp [*, errW_none, errW_some] <;> rfl), by repeat (first | (with_reducible first | exact HB.out | apply below_alloc | apply pw_below_drewN | apply below_drew1 | refine below_set ?_ GE303.out) | exact HB.out)⟩
          · rw [if_neg c9] at H
            have c9b0 : decide (a0_3 ≤ 3) = false := decide_eq_false c9
            clear c9
            obtain rfl := Option.some.inj H
            go_enter Try.func20, Try.ntmps20
            go_wp2_with (first | ((with_reducible refine gate_dst (N := 1) rfl ?_); refine box_event ?hg (N := 1) ?hd (cs := #[.string a0_0, .string a0_1, .string a0_2, .int .i64 a0_3, .int .i64 a0_4, .int .i64 a0_5]) (t := 29) ?hr ?_; (case hd => rfl); (case hg => rfl); (case hr => first | (go_simp; done) | (go_simp; rfl)); intro gb303 hg w37 hbox hb; have n0_ := Aside0.mk (below_step (by repeat (first | (with_reducible first | exact HB.out | apply below_alloc | apply pw_below_drewN | apply below_drew1) | exact HB.out)) hb); have n1_ := Aside0.mk (hbox); have n2_ := Aside0.mk ((by rw [hg]; exact (below_size (by repeat (first | (with_reducible first | exact HB.out | apply below_alloc | apply pw_below_drewN | apply below_drew1) | exact HB.out))) : w.heap.size ≤ gb303)); have n3_ := Aside0.mk ((by rw [hg]; exact (below_size (by repeat (first | (with_reducible first | exact HB.out | apply below_alloc | apply pw_below_drewN | apply below_drew1) | exact HB.out))) : w.heap.size ≤ gb303)); clear HB; have HB := n0_; have BK303 := n1_; have GW303 := n2_; have GE303 := n3_; clear n0_ n1_ n2_ n3_; clear hb hbox hg; have hcz38_0 := blk_cell BK303.out; have hfz38_0 := blk_frozen BK303.out) | ((with_reducible refine gate_callee (f := 45) rfl ?_); refine goesL_ (some 9) rfl rfl Try.func45 (by kernel_rfl) rfl #[.agg #[.int .i64 1, .string a0_2]] rfl (by (try simp only [List.map_toArray, List.map_cons, List.map_nil]); first | done | rfl | (simp only [List.length_drop, List.length_take]; rfl)) ?_; (with_reducible refine (bursarref11_Name.calls 1 a0_2 t304 true _ A2.out).mono ?_); rintro e w39 ⟨rfl, hb⟩; refine ⟨_, rfl, ?_⟩; have n0_ := Aside0.mk (blk_below (g := gb303) (o := .cells #[.string a0_0, .string a0_1, .string a0_2, .int .i64 a0_3, .int .i64 a0_4, .int .i64 a0_5] 29 (0, 0)) (by (with_reducible repeat (first | refine blk_drewN ?_ _ | refine blk_drew ?_ | refine blk_alloc ?_ _)); exact BK303.out) hb); have n1_ := Aside0.mk (below_step (by repeat (first | (with_reducible first | exact HB.out | apply below_alloc | apply pw_below_drewN | apply below_drew1 | refine below_set ?_ GE303.out) | exact HB.out)) hb); clear BK303; clear HB; have BK303 := n0_; have HB := n1_; clear n0_ n1_; (try clear hb); (try clear hb2); (try clear hk); (try clear hi); have hcz40_0 := blk_cell BK303.out; have hfz40_0 := blk_frozen BK303.out) | ((with_reducible refine gate_callee (f := 46) rfl ?_); refine goesL_ (some 14) rfl rfl Try.func46 (by kernel_rfl) rfl #[.string a0_0] rfl (by (try simp only [List.map_toArray, List.map_cons, List.map_nil]); first | done | rfl | (simp only [List.length_drop, List.length_take]; rfl)) ?_; (with_reducible refine (bursarref14_Ref.calls a0_0 true _ A3.out).mono ?_); rintro e w' ⟨rfl, ⟨nd, rfl⟩⟩; refine ⟨_, rfl, ?_⟩) | (go_at_call 47; (with_reducible refine (bursarref26_acq.calls a0_1 true _ A5.out).mono ?_); rintro e w41 ⟨rfl, hb⟩; have n0_ := Aside0.mk (blk_below (g := gb303) (o := .cells #[.string a0_0, .string a0_1, .string a0_2, .int .i64 a0_3, .int .i64 a0_4, .int .i64 a0_5] 29 (0, 0)) (by (with_reducible repeat (first | refine blk_drewN ?_ _ | refine blk_drew ?_ | refine blk_alloc ?_ _)); exact BK303.out) hb); have n1_ := Aside0.mk (below_step (by repeat (first | (with_reducible first | exact HB.out | apply below_alloc | apply pw_below_drewN | apply below_drew1 | refine below_set ?_ GE303.out) | exact HB.out)) hb); clear BK303; clear HB; have BK303 := n0_; have HB := n1_; clear n0_ n1_; (try clear hb); (try clear hb2); (try clear hk); (try clear hi); have hcz42_0 := blk_cell BK303.out; have hfz42_0 := blk_frozen BK303.out))
            go_ret
            exact ⟨by first | rfl | (simp [errW_none, errW_some] <;> rfl) | (simp [*, errW_none, errW_some] <;> rfl), by repeat (first | (with_reducible first | exact HB.out | apply below_alloc | apply pw_below_drewN | apply below_drew1 | refine below_set ?_ GE303.out) | exact HB.out)⟩
        · rw [if_neg c8] at H
          have c8b0 : decide (1 ≤ a0_3) = false := decide_eq_false c8
          clear c8
          obtain rfl := Option.some.inj H
          go_enter Try.func20, Try.ntmps20
          go_wp2_with (first | ((with_reducible refine gate_dst (N := 1) rfl ?_); refine box_event ?hg (N := 1) ?hd (cs := #[.string a0_0, .string a0_1, .string a0_2, .int .i64 a0_3, .int .i64 a0_4, .int .i64 a0_5]) (t := 29) ?hr ?_; (case hd => rfl); (case hg => rfl); (case hr => first | (go_simp; done) | (go_simp; rfl)); intro gb303 hg w43 hbox hb; have n0_ := Aside0.mk (below_step (by repeat (first | (with_reducible first | exact HB.out | apply below_alloc | apply pw_below_drewN | apply below_drew1) | exact HB.out)) hb); have n1_ := Aside0.mk (hbox); have n2_ := Aside0.mk ((by rw [hg]; exact (below_size (by repeat (first | (with_reducible first | exact HB.out | apply below_alloc | apply pw_below_drewN | apply below_drew1) | exact HB.out))) : w.heap.size ≤ gb303)); have n3_ := Aside0.mk ((by rw [hg]; exact (below_size (by repeat (first | (with_reducible first | exact HB.out | apply below_alloc | apply pw_below_drewN | apply below_drew1) | exact HB.out))) : w.heap.size ≤ gb303)); clear HB; have HB := n0_; have BK303 := n1_; have GW303 := n2_; have GE303 := n3_; clear n0_ n1_ n2_ n3_; clear hb hbox hg; have hcz44_0 := blk_cell BK303.out; have hfz44_0 := blk_frozen BK303.out) | ((with_reducible refine gate_callee (f := 45) rfl ?_); refine goesL_ (some 9) rfl rfl Try.func45 (by kernel_rfl) rfl #[.agg #[.int .i64 1, .string a0_2]] rfl (by (try simp only [List.map_toArray, List.map_cons, List.map_nil]); first | done | rfl | (simp only [List.length_drop, List.length_take]; rfl)) ?_; (with_reducible refine (bursarref11_Name.calls 1 a0_2 t304 true _ A2.out).mono ?_); rintro e w45 ⟨rfl, hb⟩; refine ⟨_, rfl, ?_⟩; have n0_ := Aside0.mk (blk_below (g := gb303) (o := .cells #[.string a0_0, .string a0_1, .string a0_2, .int .i64 a0_3, .int .i64 a0_4, .int .i64 a0_5] 29 (0, 0)) (by (with_reducible repeat (first | refine blk_drewN ?_ _ | refine blk_drew ?_ | refine blk_alloc ?_ _)); exact BK303.out) hb); have n1_ := Aside0.mk (below_step (by repeat (first | (with_reducible first | exact HB.out | apply below_alloc | apply pw_below_drewN | apply below_drew1 | refine below_set ?_ GE303.out) | exact HB.out)) hb); clear BK303; clear HB; have BK303 := n0_; have HB := n1_; clear n0_ n1_; (try clear hb); (try clear hb2); (try clear hk); (try clear hi); have hcz46_0 := blk_cell BK303.out; have hfz46_0 := blk_frozen BK303.out) | ((with_reducible refine gate_callee (f := 46) rfl ?_); refine goesL_ (some 14) rfl rfl Try.func46 (by kernel_rfl) rfl #[.string a0_0] rfl (by (try simp only [List.map_toArray, List.map_cons, List.map_nil]); first | done | rfl | (simp only [List.length_drop, List.length_take]; rfl)) ?_; (with_reducible refine (bursarref14_Ref.calls a0_0 true _ A3.out).mono ?_); rintro e w' ⟨rfl, ⟨nd, rfl⟩⟩; refine ⟨_, rfl, ?_⟩) | (go_at_call 47; (with_reducible refine (bursarref26_acq.calls a0_1 true _ A5.out).mono ?_); rintro e w47 ⟨rfl, hb⟩; have n0_ := Aside0.mk (blk_below (g := gb303) (o := .cells #[.string a0_0, .string a0_1, .string a0_2, .int .i64 a0_3, .int .i64 a0_4, .int .i64 a0_5] 29 (0, 0)) (by (with_reducible repeat (first | refine blk_drewN ?_ _ | refine blk_drew ?_ | refine blk_alloc ?_ _)); exact BK303.out) hb); have n1_ := Aside0.mk (below_step (by repeat (first | (with_reducible first | exact HB.out | apply below_alloc | apply pw_below_drewN | apply below_drew1 | refine below_set ?_ GE303.out) | exact HB.out)) hb); clear BK303; clear HB; have BK303 := n0_; have HB := n1_; clear n0_ n1_; (try clear hb); (try clear hb2); (try clear hk); (try clear hi); have hcz48_0 := blk_cell BK303.out; have hfz48_0 := blk_frozen BK303.out))
          go_ret
          exact ⟨by first | rfl | (simp [errW_none, errW_some] <;> rfl) | (simp [*, errW_none, errW_some] <;> rfl), by repeat (first | (with_reducible first | exact HB.out | apply below_alloc | apply pw_below_drewN | apply below_drew1 | refine below_set ?_ GE303.out) | exact HB.out)⟩
      · replace c7 := Bool.eq_false_iff.mpr c7
        subst c7
        have H1 : (some false) = some r := by rw [if_neg (show ¬ (false = true) by decide)] at H; exact H
        clear H
        have H := H1
        clear H1
        obtain rfl := Option.some.inj H
        go_enter Try.func20, Try.ntmps20
        go_wp2_with (first | ((with_reducible refine gate_dst (N := 1) rfl ?_); refine box_event ?hg (N := 1) ?hd (cs := #[.string a0_0, .string a0_1, .string a0_2, .int .i64 a0_3, .int .i64 a0_4, .int .i64 a0_5]) (t := 29) ?hr ?_; (case hd => rfl); (case hg => rfl); (case hr => first | (go_simp; done) | (go_simp; rfl)); intro gb303 hg w49 hbox hb; have n0_ := Aside0.mk (below_step (by repeat (first | (with_reducible first | exact HB.out | apply below_alloc | apply pw_below_drewN | apply below_drew1) | exact HB.out)) hb); have n1_ := Aside0.mk (hbox); have n2_ := Aside0.mk ((by rw [hg]; exact (below_size (by repeat (first | (with_reducible first | exact HB.out | apply below_alloc | apply pw_below_drewN | apply below_drew1) | exact HB.out))) : w.heap.size ≤ gb303)); have n3_ := Aside0.mk ((by rw [hg]; exact (below_size (by repeat (first | (with_reducible first | exact HB.out | apply below_alloc | apply pw_below_drewN | apply below_drew1) | exact HB.out))) : w.heap.size ≤ gb303)); clear HB; have HB := n0_; have BK303 := n1_; have GW303 := n2_; have GE303 := n3_; clear n0_ n1_ n2_ n3_; clear hb hbox hg; have hcz50_0 := blk_cell BK303.out; have hfz50_0 := blk_frozen BK303.out) | ((with_reducible refine gate_callee (f := 45) rfl ?_); refine goesL_ (some 9) rfl rfl Try.func45 (by kernel_rfl) rfl #[.agg #[.int .i64 1, .string a0_2]] rfl (by (try simp only [List.map_toArray, List.map_cons, List.map_nil]); first | done | rfl | (simp only [List.length_drop, List.length_take]; rfl)) ?_; (with_reducible refine (bursarref11_Name.calls 1 a0_2 t304 false _ A2.out).mono ?_); rintro e w51 ⟨rfl, hb⟩; refine ⟨_, rfl, ?_⟩; have n0_ := Aside0.mk (blk_below (g := gb303) (o := .cells #[.string a0_0, .string a0_1, .string a0_2, .int .i64 a0_3, .int .i64 a0_4, .int .i64 a0_5] 29 (0, 0)) (by (with_reducible repeat (first | refine blk_drewN ?_ _ | refine blk_drew ?_ | refine blk_alloc ?_ _)); exact BK303.out) hb); have n1_ := Aside0.mk (below_step (by repeat (first | (with_reducible first | exact HB.out | apply below_alloc | apply pw_below_drewN | apply below_drew1 | refine below_set ?_ GE303.out) | exact HB.out)) hb); clear BK303; clear HB; have BK303 := n0_; have HB := n1_; clear n0_ n1_; (try clear hb); (try clear hb2); (try clear hk); (try clear hi); have hcz52_0 := blk_cell BK303.out; have hfz52_0 := blk_frozen BK303.out) | ((with_reducible refine gate_callee (f := 46) rfl ?_); refine goesL_ (some 14) rfl rfl Try.func46 (by kernel_rfl) rfl #[.string a0_0] rfl (by (try simp only [List.map_toArray, List.map_cons, List.map_nil]); first | done | rfl | (simp only [List.length_drop, List.length_take]; rfl)) ?_; (with_reducible refine (bursarref14_Ref.calls a0_0 true _ A3.out).mono ?_); rintro e w' ⟨rfl, ⟨nd, rfl⟩⟩; refine ⟨_, rfl, ?_⟩) | (go_at_call 47; (with_reducible refine (bursarref26_acq.calls a0_1 true _ A5.out).mono ?_); rintro e w53 ⟨rfl, hb⟩; have n0_ := Aside0.mk (blk_below (g := gb303) (o := .cells #[.string a0_0, .string a0_1, .string a0_2, .int .i64 a0_3, .int .i64 a0_4, .int .i64 a0_5] 29 (0, 0)) (by (with_reducible repeat (first | refine blk_drewN ?_ _ | refine blk_drew ?_ | refine blk_alloc ?_ _)); exact BK303.out) hb); have n1_ := Aside0.mk (below_step (by repeat (first | (with_reducible first | exact HB.out | apply below_alloc | apply pw_below_drewN | apply below_drew1 | refine below_set ?_ GE303.out) | exact HB.out)) hb); clear BK303; clear HB; have BK303 := n0_; have HB := n1_; clear n0_ n1_; (try clear hb); (try clear hb2); (try clear hk); (try clear hi)))
        go_ret
        exact ⟨by first | rfl | (simp [errW_none, errW_some] <;> rfl) | (simp [*, errW_none, errW_some] <;> rfl), by repeat (first | (with_reducible first | exact HB.out | apply below_alloc | apply pw_below_drewN | apply below_drew1 | refine below_set ?_ GE303.out) | exact HB.out)⟩
    · replace c6 := Bool.eq_false_iff.mpr c6
      subst c6
      have H1 : (some false) = some r := by rw [if_neg (show ¬ (false = true) by decide)] at H; exact H
      clear H
      have H := H1
      clear H1
      obtain rfl := Option.some.inj H
      go_enter Try.func20, Try.ntmps20
      go_wp2_with (first | ((with_reducible refine gate_dst (N := 1) rfl ?_); refine box_event ?hg (N := 1) ?hd (cs := #[.string a0_0, .string a0_1, .string a0_2, .int .i64 a0_3, .int .i64 a0_4, .int .i64 a0_5]) (t := 29) ?hr ?_; (case hd => rfl); (case hg => rfl); (case hr => first | (go_simp; done) | (go_simp; rfl)); intro gb303 hg w54 hbox hb; have n0_ := Aside0.mk (below_step (by repeat (first | (with_reducible first | exact HB.out | apply below_alloc | apply pw_below_drewN | apply below_drew1) | exact HB.out)) hb); have n1_ := Aside0.mk (hbox); have n2_ := Aside0.mk ((by rw [hg]; exact (below_size (by repeat (first | (with_reducible first | exact HB.out | apply below_alloc | apply pw_below_drewN | apply below_drew1) | exact HB.out))) : w.heap.size ≤ gb303)); have n3_ := Aside0.mk ((by rw [hg]; exact (below_size (by repeat (first | (with_reducible first | exact HB.out | apply below_alloc | apply pw_below_drewN | apply below_drew1) | exact HB.out))) : w.heap.size ≤ gb303)); clear HB; have HB := n0_; have BK303 := n1_; have GW303 := n2_; have GE303 := n3_; clear n0_ n1_ n2_ n3_; clear hb hbox hg; have hcz55_0 := blk_cell BK303.out; have hfz55_0 := blk_frozen BK303.out) | ((with_reducible refine gate_callee (f := 45) rfl ?_); refine goesL_ (some 9) rfl rfl Try.func45 (by kernel_rfl) rfl #[.agg #[.int .i64 1, .string a0_2]] rfl (by (try simp only [List.map_toArray, List.map_cons, List.map_nil]); first | done | rfl | (simp only [List.length_drop, List.length_take]; rfl)) ?_; (with_reducible refine (bursarref11_Name.calls 1 a0_2 t304 t305 _ A2.out).mono ?_); rintro e w56 ⟨rfl, hb⟩; refine ⟨_, rfl, ?_⟩; have n0_ := Aside0.mk (blk_below (g := gb303) (o := .cells #[.string a0_0, .string a0_1, .string a0_2, .int .i64 a0_3, .int .i64 a0_4, .int .i64 a0_5] 29 (0, 0)) (by (with_reducible repeat (first | refine blk_drewN ?_ _ | refine blk_drew ?_ | refine blk_alloc ?_ _)); exact BK303.out) hb); have n1_ := Aside0.mk (below_step (by repeat (first | (with_reducible first | exact HB.out | apply below_alloc | apply pw_below_drewN | apply below_drew1 | refine below_set ?_ GE303.out) | exact HB.out)) hb); clear BK303; clear HB; have BK303 := n0_; have HB := n1_; clear n0_ n1_; (try clear hb); (try clear hb2); (try clear hk); (try clear hi); have hcz57_0 := blk_cell BK303.out; have hfz57_0 := blk_frozen BK303.out) | ((with_reducible refine gate_callee (f := 46) rfl ?_); refine goesL_ (some 14) rfl rfl Try.func46 (by kernel_rfl) rfl #[.string a0_0] rfl (by (try simp only [List.map_toArray, List.map_cons, List.map_nil]); first | done | rfl | (simp only [List.length_drop, List.length_take]; rfl)) ?_; (with_reducible refine (bursarref14_Ref.calls a0_0 true _ A3.out).mono ?_); rintro e w' ⟨rfl, ⟨nd, rfl⟩⟩; refine ⟨_, rfl, ?_⟩) | (go_at_call 47; (with_reducible refine (bursarref26_acq.calls a0_1 false _ A5.out).mono ?_); rintro e w58 ⟨rfl, hb⟩; have n0_ := Aside0.mk (blk_below (g := gb303) (o := .cells #[.string a0_0, .string a0_1, .string a0_2, .int .i64 a0_3, .int .i64 a0_4, .int .i64 a0_5] 29 (0, 0)) (by (with_reducible repeat (first | refine blk_drewN ?_ _ | refine blk_drew ?_ | refine blk_alloc ?_ _)); exact BK303.out) hb); have n1_ := Aside0.mk (below_step (by repeat (first | (with_reducible first | exact HB.out | apply below_alloc | apply pw_below_drewN | apply below_drew1 | refine below_set ?_ GE303.out) | exact HB.out)) hb); clear BK303; clear HB; have BK303 := n0_; have HB := n1_; clear n0_ n1_; (try clear hb); (try clear hb2); (try clear hk); (try clear hi)))
      go_ret
      exact ⟨by first | rfl | (simp [errW_none, errW_some] <;> rfl) | (simp [*, errW_none, errW_some] <;> rfl), by repeat (first | (with_reducible first | exact HB.out | apply below_alloc | apply pw_below_drewN | apply below_drew1 | refine below_set ?_ GE303.out) | exact HB.out)⟩
  · replace c4 := Bool.eq_false_iff.mpr c4
    subst c4
    have H1 : (some false) = some r := by rw [if_neg (show ¬ (false = true) by decide)] at H; exact H
    clear H
    have H := H1
    clear H1
    obtain rfl := Option.some.inj H
    go_enter Try.func20, Try.ntmps20
    go_wp2_with (first | ((with_reducible refine gate_dst (N := 1) rfl ?_); refine box_event ?hg (N := 1) ?hd (cs := #[.string a0_0, .string a0_1, .string a0_2, .int .i64 a0_3, .int .i64 a0_4, .int .i64 a0_5]) (t := 29) ?hr ?_; (case hd => rfl); (case hg => rfl); (case hr => first | (go_simp; done) | (go_simp; rfl)); intro gb303 hg w59 hbox hb; have n0_ := Aside0.mk (below_step (by repeat (first | (with_reducible first | exact HB.out | apply below_alloc | apply pw_below_drewN | apply below_drew1) | exact HB.out)) hb); have n1_ := Aside0.mk (hbox); have n2_ := Aside0.mk ((by rw [hg]; exact (below_size (by repeat (first | (with_reducible first | exact HB.out | apply below_alloc | apply pw_below_drewN | apply below_drew1) | exact HB.out))) : w.heap.size ≤ gb303)); have n3_ := Aside0.mk ((by rw [hg]; exact (below_size (by repeat (first | (with_reducible first | exact HB.out | apply below_alloc | apply pw_below_drewN | apply below_drew1) | exact HB.out))) : w.heap.size ≤ gb303)); clear HB; have HB := n0_; have BK303 := n1_; have GW303 := n2_; have GE303 := n3_; clear n0_ n1_ n2_ n3_; clear hb hbox hg; have hcz60_0 := blk_cell BK303.out; have hfz60_0 := blk_frozen BK303.out) | ((with_reducible refine gate_callee (f := 45) rfl ?_); refine goesL_ (some 9) rfl rfl Try.func45 (by kernel_rfl) rfl #[.agg #[.int .i64 1, .string a0_2]] rfl (by (try simp only [List.map_toArray, List.map_cons, List.map_nil]); first | done | rfl | (simp only [List.length_drop, List.length_take]; rfl)) ?_; (with_reducible refine (bursarref11_Name.calls 1 a0_2 t304 t305 _ A2.out).mono ?_); rintro e w61 ⟨rfl, hb⟩; refine ⟨_, rfl, ?_⟩; have n0_ := Aside0.mk (blk_below (g := gb303) (o := .cells #[.string a0_0, .string a0_1, .string a0_2, .int .i64 a0_3, .int .i64 a0_4, .int .i64 a0_5] 29 (0, 0)) (by (with_reducible repeat (first | refine blk_drewN ?_ _ | refine blk_drew ?_ | refine blk_alloc ?_ _)); exact BK303.out) hb); have n1_ := Aside0.mk (below_step (by repeat (first | (with_reducible first | exact HB.out | apply below_alloc | apply pw_below_drewN | apply below_drew1 | refine below_set ?_ GE303.out) | exact HB.out)) hb); clear BK303; clear HB; have BK303 := n0_; have HB := n1_; clear n0_ n1_; (try clear hb); (try clear hb2); (try clear hk); (try clear hi); have hcz62_0 := blk_cell BK303.out; have hfz62_0 := blk_frozen BK303.out) | ((with_reducible refine gate_callee (f := 46) rfl ?_); refine goesL_ (some 14) rfl rfl Try.func46 (by kernel_rfl) rfl #[.string a0_0] rfl (by (try simp only [List.map_toArray, List.map_cons, List.map_nil]); first | done | rfl | (simp only [List.length_drop, List.length_take]; rfl)) ?_; (with_reducible refine (bursarref14_Ref.calls a0_0 false _ A3.out).mono ?_); rintro e w' ⟨rfl, ⟨nd, rfl⟩⟩; refine ⟨_, rfl, ?_⟩))
    go_ret
    exact ⟨by first | rfl | (simp [errW_none, errW_some] <;> rfl) | (simp [*, errW_none, errW_some] <;> rfl), by repeat (first | (with_reducible first | exact HB.out | apply below_alloc | apply pw_below_drewN | apply below_drew1 | refine below_set ?_ GE303.out) | exact HB.out)⟩

/-! ### bursarref14_May_p: function 31 -/
def bursarref14_May_p.f (a0_0 : ByteArray) (a0_1 : ByteArray) (a0_2 : ByteArray) (a0_3 : Int) (a0_4 : Int) (a0_5 : Int) (a0_6 : Bool) : Option (Bool) := (bursarref11_Name.f 1 a0_2).bind fun bt309 => ((bursarref11_Name.f 2 a0_1).bind fun bt311 => ((bursarref14_Ref.f a0_0).bind fun t313 => (if t313 = true then (if bt309.2 = true then (if bt311.2 = true then (if 0 ≤ a0_4 then (if a0_4 ≤ a0_3 then (if 0 ≤ a0_5 then (if a0_5 ≤ 2147483647 then (if a0_6 = true then (some (decide (a0_3 > a0_4))) else (some true)) else (some false)) else (some false)) else (some false)) else (some false)) else (some false)) else (some false)) else (some false))))
set_option maxHeartbeats 8000000 in
set_option maxRecDepth 100000 in
theorem bursarref14_May_p.calls (a0_0 : ByteArray) (a0_1 : ByteArray) (a0_2 : ByteArray) (a0_3 : Int) (a0_4 : Int) (a0_5 : Int) (a0_6 : Bool) (r : Bool) (w : World) (h : bursarref14_May_p.f a0_0 a0_1 a0_2 a0_3 a0_4 a0_5 a0_6 = some r) :
    Calls Try.prog 31 #[.agg #[.string a0_0, .string a0_1, .string a0_2, .int .i64 a0_3, .int .i64 a0_4, .int .i64 a0_5, .bool a0_6]] w fun e w' => e = .returned (.bool r) ∧ Below w.heap.size w w' := by
  have hu25 := Try.underlying25
  have hu73 := Try.underlying73
  have HO := Aside0.mk (Ow.Own.nil w)
  have hmf : ∀ (fn : Fn) (first cap : Array Value) (w : World), (Instr.makeFunc fn first cap).run Try.prog w = .ok (.func fn first cap) w := fun _ _ _ _ => rfl
  have H : ((bursarref11_Name.f 1 a0_2).bind fun bt309 => ((bursarref11_Name.f 2 a0_1).bind fun bt311 => ((bursarref14_Ref.f a0_0).bind fun t313 => (if t313 = true then (if bt309.2 = true then (if bt311.2 = true then (if 0 ≤ a0_4 then (if a0_4 ≤ a0_3 then (if 0 ≤ a0_5 then (if a0_5 ≤ 2147483647 then (if a0_6 = true then (some (decide (a0_3 > a0_4))) else (some true)) else (some false)) else (some false)) else (some false)) else (some false)) else (some false)) else (some false)) else (some false))))) = some r := h
  clear h
  replace H := Option.bind_eq_some_iff.mp H
  obtain ⟨⟨t309, t310⟩, A20, H⟩ := H
  replace H : ((bursarref11_Name.f 2 a0_1).bind fun bt311 => ((bursarref14_Ref.f a0_0).bind fun t313 => (if t313 = true then (if t310 = true then (if bt311.2 = true then (if 0 ≤ a0_4 then (if a0_4 ≤ a0_3 then (if 0 ≤ a0_5 then (if a0_5 ≤ 2147483647 then (if a0_6 = true then (some (decide (a0_3 > a0_4))) else (some true)) else (some false)) else (some false)) else (some false)) else (some false)) else (some false)) else (some false)) else (some false)))) = some r := H
  have A2 := Aside0.mk A20
  clear A20
  replace H := Option.bind_eq_some_iff.mp H
  obtain ⟨⟨t311, t312⟩, A30, H⟩ := H
  replace H : ((bursarref14_Ref.f a0_0).bind fun t313 => (if t313 = true then (if t310 = true then (if t312 = true then (if 0 ≤ a0_4 then (if a0_4 ≤ a0_3 then (if 0 ≤ a0_5 then (if a0_5 ≤ 2147483647 then (if a0_6 = true then (some (decide (a0_3 > a0_4))) else (some true)) else (some false)) else (some false)) else (some false)) else (some false)) else (some false)) else (some false)) else (some false))) = some r := H
  have A3 := Aside0.mk A30
  clear A30
  replace H := Option.bind_eq_some_iff.mp H
  obtain ⟨t313, A40, H⟩ := H
  replace H : (if t313 = true then (if t310 = true then (if t312 = true then (if 0 ≤ a0_4 then (if a0_4 ≤ a0_3 then (if 0 ≤ a0_5 then (if a0_5 ≤ 2147483647 then (if a0_6 = true then (some (decide (a0_3 > a0_4))) else (some true)) else (some false)) else (some false)) else (some false)) else (some false)) else (some false)) else (some false)) else (some false)) = some r := H
  have A4 := Aside0.mk A40
  clear A40
  by_cases c5 : t313 = true
  · subst c5
    have H1 : (if t310 = true then (if t312 = true then (if 0 ≤ a0_4 then (if a0_4 ≤ a0_3 then (if 0 ≤ a0_5 then (if a0_5 ≤ 2147483647 then (if a0_6 = true then (some (decide (a0_3 > a0_4))) else (some true)) else (some false)) else (some false)) else (some false)) else (some false)) else (some false)) else (some false)) = some r := by rw [if_pos rfl] at H; exact H
    clear H
    have H := H1
    clear H1
    by_cases c6 : t310 = true
    · subst c6
      have H1 : (if t312 = true then (if 0 ≤ a0_4 then (if a0_4 ≤ a0_3 then (if 0 ≤ a0_5 then (if a0_5 ≤ 2147483647 then (if a0_6 = true then (some (decide (a0_3 > a0_4))) else (some true)) else (some false)) else (some false)) else (some false)) else (some false)) else (some false)) = some r := by rw [if_pos rfl] at H; exact H
      clear H
      have H := H1
      clear H1
      by_cases c7 : t312 = true
      · subst c7
        have H1 : (if 0 ≤ a0_4 then (if a0_4 ≤ a0_3 then (if 0 ≤ a0_5 then (if a0_5 ≤ 2147483647 then (if a0_6 = true then (some (decide (a0_3 > a0_4))) else (some true)) else (some false)) else (some false)) else (some false)) else (some false)) = some r := by rw [if_pos rfl] at H; exact H
        clear H
        have H := H1
        clear H1
        by_cases c8 : 0 ≤ a0_4
        · rw [if_pos c8] at H
          have c8b0 : decide (0 ≤ a0_4) = true := decide_eq_true c8
          clear c8
          by_cases c9 : a0_4 ≤ a0_3
          · rw [if_pos c9] at H
            have c9b0 : decide (a0_4 ≤ a0_3) = true := decide_eq_true c9
            clear c9
            by_cases c10 : 0 ≤ a0_5
            · rw [if_pos c10] at H
              have c10b0 : decide (0 ≤ a0_5) = true := decide_eq_true c10
              clear c10
              by_cases c11 : a0_5 ≤ 2147483647
              · rw [if_pos c11] at H
                have c11b0 : decide (a0_5 ≤ 2147483647) = true := decide_eq_true c11
                clear c11
                by_cases c12 : a0_6 = true
                · subst c12
                  have H1 : (some (decide (a0_3 > a0_4))) = some r := by rw [if_pos rfl] at H; exact H
                  clear H
                  have H := H1
                  clear H1
                  obtain rfl := Option.some.inj H
                  obtain ⟨Q0, hQ0_⟩ : ∃ q_ : Array Value, q_ = (#[.string a0_0, .string a0_1, .string a0_2, .int .i64 a0_3, .int .i64 a0_4, .int .i64 a0_5, .bool true] : Array Value) := ⟨_, rfl⟩
                  try rw [← hQ0_]
                  have hQ0 := Aside0.mk hQ0_; have hq := Aside0.mk hQ0_; clear hQ0_
                  go_enter Try.func31, Try.ntmps31
                  go_wp2_with (first | ((with_reducible refine gate_dst (N := 1) rfl ?_); refine Ow.box rfl (N := 1) rfl (cs := Q0) (t := 25) HO.out (by first | (go_simp; done) | (go_simp; rfl)) ?_; clear HO; intro gb308 w13 HO; simp only [List.cons_append, List.nil_append] at HO) | ((with_reducible refine gate_callee (f := 45) rfl ?_); refine goesL_ (some 11) rfl rfl Try.func45 (by kernel_rfl) rfl #[.agg #[.int .i64 1, .string a0_2]] rfl (by (try simp only [List.map_toArray, List.map_cons, List.map_nil]); first | done | rfl | (simp only [hq.1]; done) | (simp only [hq.1]; rfl)) ?_; refine Calls.mono (calls_of_args (by first | ((try simp only [hq.1]) <;> rfl) | fail) (bursarref11_Name.calls 1 a0_2 t309 true _ A2.out)) ?_; rintro e w15 ⟨he_, hb⟩; subst he_; refine ⟨_, rfl, ?_⟩; replace HO := Aside0.mk (Ow.Own.call HO.out hb); clear hb) | ((with_reducible refine gate_callee (f := 45) rfl ?_); refine goesL_ (some 18) rfl rfl Try.func45 (by kernel_rfl) rfl #[.agg #[.int .i64 2, .string a0_1]] rfl (by (try simp only [List.map_toArray, List.map_cons, List.map_nil]); first | done | rfl | (simp only [hq.1]; done) | (simp only [hq.1]; rfl)) ?_; refine Calls.mono (calls_of_args (by first | ((try simp only [hq.1]) <;> rfl) | fail) (bursarref11_Name.calls 2 a0_1 t311 true _ A3.out)) ?_; rintro e w17 ⟨he_, hb⟩; subst he_; refine ⟨_, rfl, ?_⟩; replace HO := Aside0.mk (Ow.Own.call HO.out hb); clear hb) | ((with_reducible refine gate_callee (f := 46) rfl ?_); refine goesL_ (some 23) rfl rfl Try.func46 (by kernel_rfl) rfl #[.string a0_0] rfl (by (try simp only [List.map_toArray, List.map_cons, List.map_nil]); first | done | rfl | (simp only [hq.1]; done) | (simp only [hq.1]; rfl)) ?_; refine Calls.mono (calls_of_args (by first | ((try simp only [hq.1]) <;> rfl) | fail) (bursarref14_Ref.calls a0_0 true _ A4.out)) ?_; rintro e w' ⟨he_, ⟨nd, rfl⟩⟩; subst he_; refine ⟨_, rfl, ?_⟩; replace HO := Aside0.mk (Ow.Own.drewN HO.out nd); (try simp only [World.drewN_drewN] at HO)) | ((with_reducible refine Ow.gate_build rfl ?_); (try (refine gate_guard (by rfl) ?_; dsimp only)); refine' Ow.tbuild Ot.bd rfl rfl rfl ?hf_ ?_; (case hf_ => repeat (any_goals (first | exact Ow.Fills.nil | (refine' Ow.Fills.c ?hv_ rfl ?hz_ ?_; (case hv_ => first | exact Ow.ev_tmp rfl | rfl); (case hz_ => first | (refine ⟨?_, ?_⟩ <;> (first | ((try simp only [hq.1]) <;> rfl) | fail)) | fail)))))) | ((with_reducible refine Ow.gate_load rfl ?_); (try (refine gate_guard (by rfl) ?_; dsimp only)); (first | refine Ow.l1 Ot.ty HO.out rfl rfl rfl rfl (by first | ((try simp only [hq.1]) <;> rfl) | fail) ?_)))
                  all_goals go_ret
                  all_goals exact ⟨by first | rfl | (simp only [hq.1]; done) | (simp only [hq.1]; rfl) | (simp [errW_none, errW_some] <;> rfl) | (simp [*, errW_none, errW_some] <;> rfl), Ow.Own.below HO.out⟩
                · replace c12 := Bool.eq_false_iff.mpr c12
                  subst c12
                  have H1 : (some true) = some r := by rw [if_neg (show ¬ (false = true) by decide)] at H; exact H
                  clear H
                  have H := H1
                  clear H1
                  obtain rfl := Option.some.inj H
                  obtain ⟨Q1, hQ1_⟩ : ∃ q_ : Array Value, q_ = (#[.string a0_0, .string a0_1, .string a0_2, .int .i64 a0_3, .int .i64 a0_4, .int .i64 a0_5, .bool false] : Array Value) := ⟨_, rfl⟩
                  try rw [← hQ1_]
                  have hQ1 := Aside0.mk hQ1_; have hq := Aside0.mk hQ1_; clear hQ1_
                  go_enter Try.func31, Try.ntmps31
                  go_wp2_with (first | ((with_reducible refine gate_dst (N := 1) rfl ?_); refine Ow.box rfl (N := 1) rfl (cs := Q1) (t := 25) HO.out (by first | (go_simp; done) | (go_simp; rfl)) ?_; clear HO; intro gb308 w19 HO; simp only [List.cons_append, List.nil_append] at HO) | ((with_reducible refine gate_callee (f := 45) rfl ?_); refine goesL_ (some 11) rfl rfl Try.func45 (by kernel_rfl) rfl #[.agg #[.int .i64 1, .string a0_2]] rfl (by (try simp only [List.map_toArray, List.map_cons, List.map_nil]); first | done | rfl | (simp only [hq.1]; done) | (simp only [hq.1]; rfl)) ?_; refine Calls.mono (calls_of_args (by first | ((try simp only [hq.1]) <;> rfl) | fail) (bursarref11_Name.calls 1 a0_2 t309 true _ A2.out)) ?_; rintro e w21 ⟨he_, hb⟩; subst he_; refine ⟨_, rfl, ?_⟩; replace HO := Aside0.mk (Ow.Own.call HO.out hb); clear hb) | ((with_reducible refine gate_callee (f := 45) rfl ?_); refine goesL_ (some 18) rfl rfl Try.func45 (by kernel_rfl) rfl #[.agg #[.int .i64 2, .string a0_1]] rfl (by (try simp only [List.map_toArray, List.map_cons, List.map_nil]); first | done | rfl | (simp only [hq.1]; done) | (simp only [hq.1]; rfl)) ?_; refine Calls.mono (calls_of_args (by first | ((try simp only [hq.1]) <;> rfl) | fail) (bursarref11_Name.calls 2 a0_1 t311 true _ A3.out)) ?_; rintro e w23 ⟨he_, hb⟩; subst he_; refine ⟨_, rfl, ?_⟩; replace HO := Aside0.mk (Ow.Own.call HO.out hb); clear hb) | ((with_reducible refine gate_callee (f := 46) rfl ?_); refine goesL_ (some 23) rfl rfl Try.func46 (by kernel_rfl) rfl #[.string a0_0] rfl (by (try simp only [List.map_toArray, List.map_cons, List.map_nil]); first | done | rfl | (simp only [hq.1]; done) | (simp only [hq.1]; rfl)) ?_; refine Calls.mono (calls_of_args (by first | ((try simp only [hq.1]) <;> rfl) | fail) (bursarref14_Ref.calls a0_0 true _ A4.out)) ?_; rintro e w' ⟨he_, ⟨nd, rfl⟩⟩; subst he_; refine ⟨_, rfl, ?_⟩; replace HO := Aside0.mk (Ow.Own.drewN HO.out nd); (try simp only [World.drewN_drewN] at HO)) | ((with_reducible refine Ow.gate_build rfl ?_); (try (refine gate_guard (by rfl) ?_; dsimp only)); refine' Ow.tbuild Ot.bd rfl rfl rfl ?hf_ ?_; (case hf_ => repeat (any_goals (first | exact Ow.Fills.nil | (refine' Ow.Fills.c ?hv_ rfl ?hz_ ?_; (case hv_ => first | exact Ow.ev_tmp rfl | rfl); (case hz_ => first | (refine ⟨?_, ?_⟩ <;> (first | ((try simp only [hq.1]) <;> rfl) | fail)) | fail)))))) | ((with_reducible refine Ow.gate_load rfl ?_); (try (refine gate_guard (by rfl) ?_; dsimp only)); (first | refine Ow.l1 Ot.ty HO.out rfl rfl rfl rfl (by first | ((try simp only [hq.1]) <;> rfl) | fail) ?_)))
                  all_goals go_ret
                  all_goals exact ⟨by first | rfl | (simp only [hq.1]; done) | (simp only [hq.1]; rfl) | (simp [errW_none, errW_some] <;> rfl) | (simp [*, errW_none, errW_some] <;> rfl), Ow.Own.below HO.out⟩
              · rw [if_neg c11] at H
                have c11b0 : decide (a0_5 ≤ 2147483647) = false := decide_eq_false c11
                clear c11
                obtain rfl := Option.some.inj H
                obtain ⟨Q2, hQ2_⟩ : ∃ q_ : Array Value, q_ = (#[.string a0_0, .string a0_1, .string a0_2, .int .i64 a0_3, .int .i64 a0_4, .int .i64 a0_5, .bool a0_6] : Array Value) := ⟨_, rfl⟩
                try rw [← hQ2_]
                have hQ2 := Aside0.mk hQ2_; have hq := Aside0.mk hQ2_; clear hQ2_
                go_enter Try.func31, Try.ntmps31
                go_wp2_with (first | ((with_reducible refine gate_dst (N := 1) rfl ?_); refine Ow.box rfl (N := 1) rfl (cs := Q2) (t := 25) HO.out (by first | (go_simp; done) | (go_simp; rfl)) ?_; clear HO; intro gb308 w25 HO; simp only [List.cons_append, List.nil_append] at HO) | ((with_reducible refine gate_callee (f := 45) rfl ?_); refine goesL_ (some 11) rfl rfl Try.func45 (by kernel_rfl) rfl #[.agg #[.int .i64 1, .string a0_2]] rfl (by (try simp only [List.map_toArray, List.map_cons, List.map_nil]); first | done | rfl | (simp only [hq.1]; done) | (simp only [hq.1]; rfl)) ?_; refine Calls.mono (calls_of_args (by first | ((try simp only [hq.1]) <;> rfl) | fail) (bursarref11_Name.calls 1 a0_2 t309 true _ A2.out)) ?_; rintro e w27 ⟨he_, hb⟩; subst he_; refine ⟨_, rfl, ?_⟩; replace HO := Aside0.mk (Ow.Own.call HO.out hb); clear hb) | ((with_reducible refine gate_callee (f := 45) rfl ?_); refine goesL_ (some 18) rfl rfl Try.func45 (by kernel_rfl) rfl #[.agg #[.int .i64 2, .string a0_1]] rfl (by (try simp only [List.map_toArray, List.map_cons, List.map_nil]); first | done | rfl | (simp only [hq.1]; done) | (simp only [hq.1]; rfl)) ?_; refine Calls.mono (calls_of_args (by first | ((try simp only [hq.1]) <;> rfl) | fail) (bursarref11_Name.calls 2 a0_1 t311 true _ A3.out)) ?_; rintro e w29 ⟨he_, hb⟩; subst he_; refine ⟨_, rfl, ?_⟩; replace HO := Aside0.mk (Ow.Own.call HO.out hb); clear hb) | ((with_reducible refine gate_callee (f := 46) rfl ?_); refine goesL_ (some 23) rfl rfl Try.func46 (by kernel_rfl) rfl #[.string a0_0] rfl (by (try simp only [List.map_toArray, List.map_cons, List.map_nil]); first | done | rfl | (simp only [hq.1]; done) | (simp only [hq.1]; rfl)) ?_; refine Calls.mono (calls_of_args (by first | ((try simp only [hq.1]) <;> rfl) | fail) (bursarref14_Ref.calls a0_0 true _ A4.out)) ?_; rintro e w' ⟨he_, ⟨nd, rfl⟩⟩; subst he_; refine ⟨_, rfl, ?_⟩; replace HO := Aside0.mk (Ow.Own.drewN HO.out nd); (try simp only [World.drewN_drewN] at HO)) | ((with_reducible refine Ow.gate_build rfl ?_); (try (refine gate_guard (by rfl) ?_; dsimp only)); refine' Ow.tbuild Ot.bd rfl rfl rfl ?hf_ ?_; (case hf_ => repeat (any_goals (first | exact Ow.Fills.nil | (refine' Ow.Fills.c ?hv_ rfl ?hz_ ?_; (case hv_ => first | exact Ow.ev_tmp rfl | rfl); (case hz_ => first | (refine ⟨?_, ?_⟩ <;> (first | ((try simp only [hq.1]) <;> rfl) | fail)) | fail)))))) | ((with_reducible refine Ow.gate_load rfl ?_); (try (refine gate_guard (by rfl) ?_; dsimp only)); (first | refine Ow.l1 Ot.ty HO.out rfl rfl rfl rfl (by first | ((try simp only [hq.1]) <;> rfl) | fail) ?_)))
                all_goals go_ret
                all_goals exact ⟨by first | rfl | (simp only [hq.1]; done) | (simp only [hq.1]; rfl) | (simp [errW_none, errW_some] <;> rfl) | (simp [*, errW_none, errW_some] <;> rfl), Ow.Own.below HO.out⟩
            · rw [if_neg c10] at H
              have c10b0 : decide (0 ≤ a0_5) = false := decide_eq_false c10
              clear c10
              obtain rfl := Option.some.inj H
              obtain ⟨Q3, hQ3_⟩ : ∃ q_ : Array Value, q_ = (#[.string a0_0, .string a0_1, .string a0_2, .int .i64 a0_3, .int .i64 a0_4, .int .i64 a0_5, .bool a0_6] : Array Value) := ⟨_, rfl⟩
              try rw [← hQ3_]
              have hQ3 := Aside0.mk hQ3_; have hq := Aside0.mk hQ3_; clear hQ3_
              go_enter Try.func31, Try.ntmps31
              go_wp2_with (first | ((with_reducible refine gate_dst (N := 1) rfl ?_); refine Ow.box rfl (N := 1) rfl (cs := Q3) (t := 25) HO.out (by first | (go_simp; done) | (go_simp; rfl)) ?_; clear HO; intro gb308 w31 HO; simp only [List.cons_append, List.nil_append] at HO) | ((with_reducible refine gate_callee (f := 45) rfl ?_); refine goesL_ (some 11) rfl rfl Try.func45 (by kernel_rfl) rfl #[.agg #[.int .i64 1, .string a0_2]] rfl (by (try simp only [List.map_toArray, List.map_cons, List.map_nil]); first | done | rfl | (simp only [hq.1]; done) | (simp only [hq.1]; rfl)) ?_; refine Calls.mono (calls_of_args (by first | ((try simp only [hq.1]) <;> rfl) | fail) (bursarref11_Name.calls 1 a0_2 t309 true _ A2.out)) ?_; rintro e w33 ⟨he_, hb⟩; subst he_; refine ⟨_, rfl, ?_⟩; replace HO := Aside0.mk (Ow.Own.call HO.out hb); clear hb) | ((with_reducible refine gate_callee (f := 45) rfl ?_); refine goesL_ (some 18) rfl rfl Try.func45 (by kernel_rfl) rfl #[.agg #[.int .i64 2, .string a0_1]] rfl (by (try simp only [List.map_toArray, List.map_cons, List.map_nil]); first | done | rfl | (simp only [hq.1]; done) | (simp only [hq.1]; rfl)) ?_; refine Calls.mono (calls_of_args (by first | ((try simp only [hq.1]) <;> rfl) | fail) (bursarref11_Name.calls 2 a0_1 t311 true _ A3.out)) ?_; rintro e w35 ⟨he_, hb⟩; subst he_; refine ⟨_, rfl, ?_⟩; replace HO := Aside0.mk (Ow.Own.call HO.out hb); clear hb) | ((with_reducible refine gate_callee (f := 46) rfl ?_); refine goesL_ (some 23) rfl rfl Try.func46 (by kernel_rfl) rfl #[.string a0_0] rfl (by (try simp only [List.map_toArray, List.map_cons, List.map_nil]); first | done | rfl | (simp only [hq.1]; done) | (simp only [hq.1]; rfl)) ?_; refine Calls.mono (calls_of_args (by first | ((try simp only [hq.1]) <;> rfl) | fail) (bursarref14_Ref.calls a0_0 true _ A4.out)) ?_; rintro e w' ⟨he_, ⟨nd, rfl⟩⟩; subst he_; refine ⟨_, rfl, ?_⟩; replace HO := Aside0.mk (Ow.Own.drewN HO.out nd); (try simp only [World.drewN_drewN] at HO)) | ((with_reducible refine Ow.gate_build rfl ?_); (try (refine gate_guard (by rfl) ?_; dsimp only)); refine' Ow.tbuild Ot.bd rfl rfl rfl ?hf_ ?_; (case hf_ => repeat (any_goals (first | exact Ow.Fills.nil | (refine' Ow.Fills.c ?hv_ rfl ?hz_ ?_; (case hv_ => first | exact Ow.ev_tmp rfl | rfl); (case hz_ => first | (refine ⟨?_, ?_⟩ <;> (first | ((try simp only [hq.1]) <;> rfl) | fail)) | fail)))))) | ((with_reducible refine Ow.gate_load rfl ?_); (try (refine gate_guard (by rfl) ?_; dsimp only)); (first | refine Ow.l1 Ot.ty HO.out rfl rfl rfl rfl (by first | ((try simp only [hq.1]) <;> rfl) | fail) ?_)))
              all_goals go_ret
              all_goals exact ⟨by first | rfl | (simp only [hq.1]; done) | (simp only [hq.1]; rfl) | (simp [errW_none, errW_some] <;> rfl) | (simp [*, errW_none, errW_some] <;> rfl), Ow.Own.below HO.out⟩
          · rw [if_neg c9] at H
            have c9b0 : decide (a0_4 ≤ a0_3) = false := decide_eq_false c9
            clear c9
            obtain rfl := Option.some.inj H
            obtain ⟨Q4, hQ4_⟩ : ∃ q_ : Array Value, q_ = (#[.string a0_0, .string a0_1, .string a0_2, .int .i64 a0_3, .int .i64 a0_4, .int .i64 a0_5, .bool a0_6] : Array Value) := ⟨_, rfl⟩
            try rw [← hQ4_]
            have hQ4 := Aside0.mk hQ4_; have hq := Aside0.mk hQ4_; clear hQ4_
            go_enter Try.func31, Try.ntmps31
            go_wp2_with (first | ((with_reducible refine gate_dst (N := 1) rfl ?_); refine Ow.box rfl (N := 1) rfl (cs := Q4) (t := 25) HO.out (by first | (go_simp; done) | (go_simp; rfl)) ?_; clear HO; intro gb308 w37 HO; simp only [List.cons_append, List.nil_append] at HO) | ((with_reducible refine gate_callee (f := 45) rfl ?_); refine goesL_ (some 11) rfl rfl Try.func45 (by kernel_rfl) rfl #[.agg #[.int .i64 1, .string a0_2]] rfl (by (try simp only [List.map_toArray, List.map_cons, List.map_nil]); first | done | rfl | (simp only [hq.1]; done) | (simp only [hq.1]; rfl)) ?_; refine Calls.mono (calls_of_args (by first | ((try simp only [hq.1]) <;> rfl) | fail) (bursarref11_Name.calls 1 a0_2 t309 true _ A2.out)) ?_; rintro e w39 ⟨he_, hb⟩; subst he_; refine ⟨_, rfl, ?_⟩; replace HO := Aside0.mk (Ow.Own.call HO.out hb); clear hb) | ((with_reducible refine gate_callee (f := 45) rfl ?_); refine goesL_ (some 18) rfl rfl Try.func45 (by kernel_rfl) rfl #[.agg #[.int .i64 2, .string a0_1]] rfl (by (try simp only [List.map_toArray, List.map_cons, List.map_nil]); first | done | rfl | (simp only [hq.1]; done) | (simp only [hq.1]; rfl)) ?_; refine Calls.mono (calls_of_args (by first | ((try simp only [hq.1]) <;> rfl) | fail) (bursarref11_Name.calls 2 a0_1 t311 true _ A3.out)) ?_; rintro e w41 ⟨he_, hb⟩; subst he_; refine ⟨_, rfl, ?_⟩; replace HO := Aside0.mk (Ow.Own.call HO.out hb); clear hb) | ((with_reducible refine gate_callee (f := 46) rfl ?_); refine goesL_ (some 23) rfl rfl Try.func46 (by kernel_rfl) rfl #[.string a0_0] rfl (by (try simp only [List.map_toArray, List.map_cons, List.map_nil]); first | done | rfl | (simp only [hq.1]; done) | (simp only [hq.1]; rfl)) ?_; refine Calls.mono (calls_of_args (by first | ((try simp only [hq.1]) <;> rfl) | fail) (bursarref14_Ref.calls a0_0 true _ A4.out)) ?_; rintro e w' ⟨he_, ⟨nd, rfl⟩⟩; subst he_; refine ⟨_, rfl, ?_⟩; replace HO := Aside0.mk (Ow.Own.drewN HO.out nd); (try simp only [World.drewN_drewN] at HO)) | ((with_reducible refine Ow.gate_build rfl ?_); (try (refine gate_guard (by rfl) ?_; dsimp only)); refine' Ow.tbuild Ot.bd rfl rfl rfl ?hf_ ?_; (case hf_ => repeat (any_goals (first | exact Ow.Fills.nil | (refine' Ow.Fills.c ?hv_ rfl ?hz_ ?_; (case hv_ => first | exact Ow.ev_tmp rfl | rfl); (case hz_ => first | (refine ⟨?_, ?_⟩ <;> (first | ((try simp only [hq.1]) <;> rfl) | fail)) | fail)))))) | ((with_reducible refine Ow.gate_load rfl ?_); (try (refine gate_guard (by rfl) ?_; dsimp only)); (first | refine Ow.l1 Ot.ty HO.out rfl rfl rfl rfl (by first | ((try simp only [hq.1]) <;> rfl) | fail) ?_)))
            all_goals go_ret
            all_goals exact ⟨by first | rfl | (simp only [hq.1]; done) | (simp only [hq.1]; rfl) | (simp [errW_none, errW_some] <;> rfl) | (simp [*, errW_none, errW_some] <;> rfl), Ow.Own.below HO.out⟩
        · rw [if_neg c8] at H
          have c8b0 : decide (0 ≤ a0_4) = false := decide_eq_false c8
          clear c8
          obtain rfl := Option.some.inj H
          obtain ⟨Q5, hQ5_⟩ : ∃ q_ : Array Value, q_ = (#[.string a0_0, .string a0_1, .string a0_2, .int .i64 a0_3, .int .i64 a0_4, .int .i64 a0_5, .bool a0_6] : Array Value) := ⟨_, rfl⟩
          try rw [← hQ5_]
          have hQ5 := Aside0.mk hQ5_; have hq := Aside0.mk hQ5_; clear hQ5_
          go_enter Try.func31, Try.ntmps31
          go_wp2_with (first | ((with_reducible refine gate_dst (N := 1) rfl ?_); refine Ow.box rfl (N := 1) rfl (cs := Q5) (t := 25) HO.out (by first | (go_simp; done) | (go_simp; rfl)) ?_; clear HO; intro gb308 w43 HO; simp only [List.cons_append, List.nil_append] at HO) | ((with_reducible refine gate_callee (f := 45) rfl ?_); refine goesL_ (some 11) rfl rfl Try.func45 (by kernel_rfl) rfl #[.agg #[.int .i64 1, .string a0_2]] rfl (by (try simp only [List.map_toArray, List.map_cons, List.map_nil]); first | done | rfl | (simp only [hq.1]; done) | (simp only [hq.1]; rfl)) ?_; refine Calls.mono (calls_of_args (by first | ((try simp only [hq.1]) <;> rfl) | fail) (bursarref11_Name.calls 1 a0_2 t309 true _ A2.out)) ?_; rintro e w45 ⟨he_, hb⟩; subst he_; refine ⟨_, rfl, ?_⟩; replace HO := Aside0.mk (Ow.Own.call HO.out hb); clear hb) | ((with_reducible refine gate_callee (f := 45) rfl ?_); refine goesL_ (some 18) rfl rfl Try.func45 (by kernel_rfl) rfl #[.agg #[.int .i64 2, .string a0_1]] rfl (by (try simp only [List.map_toArray, List.map_cons, List.map_nil]); first | done | rfl | (simp only [hq.1]; done) | (simp only [hq.1]; rfl)) ?_; refine Calls.mono (calls_of_args (by first | ((try simp only [hq.1]) <;> rfl) | fail) (bursarref11_Name.calls 2 a0_1 t311 true _ A3.out)) ?_; rintro e w47 ⟨he_, hb⟩; subst he_; refine ⟨_, rfl, ?_⟩; replace HO := Aside0.mk (Ow.Own.call HO.out hb); clear hb) | ((with_reducible refine gate_callee (f := 46) rfl ?_); refine goesL_ (some 23) rfl rfl Try.func46 (by kernel_rfl) rfl #[.string a0_0] rfl (by (try simp only [List.map_toArray, List.map_cons, List.map_nil]); first | done | rfl | (simp only [hq.1]; done) | (simp only [hq.1]; rfl)) ?_; refine Calls.mono (calls_of_args (by first | ((try simp only [hq.1]) <;> rfl) | fail) (bursarref14_Ref.calls a0_0 true _ A4.out)) ?_; rintro e w' ⟨he_, ⟨nd, rfl⟩⟩; subst he_; refine ⟨_, rfl, ?_⟩; replace HO := Aside0.mk (Ow.Own.drewN HO.out nd); (try simp only [World.drewN_drewN] at HO)) | ((with_reducible refine Ow.gate_build rfl ?_); (try (refine gate_guard (by rfl) ?_; dsimp only)); refine' Ow.tbuild Ot.bd rfl rfl rfl ?hf_ ?_; (case hf_ => repeat (any_goals (first | exact Ow.Fills.nil | (refine' Ow.Fills.c ?hv_ rfl ?hz_ ?_; (case hv_ => first | exact Ow.ev_tmp rfl | rfl); (case hz_ => first | (refine ⟨?_, ?_⟩ <;> (first | ((try simp only [hq.1]) <;> rfl) | fail)) | fail)))))) | ((with_reducible refine Ow.gate_load rfl ?_); (try (refine gate_guard (by rfl) ?_; dsimp only)); (first | refine Ow.l1 Ot.ty HO.out rfl rfl rfl rfl (by first | ((try simp only [hq.1]) <;> rfl) | fail) ?_)))
          all_goals go_ret
          all_goals exact ⟨by first | rfl | (simp only [hq.1]; done) | (simp only [hq.1]; rfl) | (simp [errW_none, errW_some] <;> rfl) | (simp [*, errW_none, errW_some] <;> rfl), Ow.Own.below HO.out⟩
      · replace c7 := Bool.eq_false_iff.mpr c7
        subst c7
        have H1 : (some false) = some r := by rw [if_neg (show ¬ (false = true) by decide)] at H; exact H
        clear H
        have H := H1
        clear H1
        obtain rfl := Option.some.inj H
        obtain ⟨Q6, hQ6_⟩ : ∃ q_ : Array Value, q_ = (#[.string a0_0, .string a0_1, .string a0_2, .int .i64 a0_3, .int .i64 a0_4, .int .i64 a0_5, .bool a0_6] : Array Value) := ⟨_, rfl⟩
        try rw [← hQ6_]
        have hQ6 := Aside0.mk hQ6_; have hq := Aside0.mk hQ6_; clear hQ6_
        go_enter Try.func31, Try.ntmps31
        go_wp2_with (first | ((with_reducible refine gate_dst (N := 1) rfl ?_); refine Ow.box rfl (N := 1) rfl (cs := Q6) (t := 25) HO.out (by first | (go_simp; done) | (go_simp; rfl)) ?_; clear HO; intro gb308 w49 HO; simp only [List.cons_append, List.nil_append] at HO) | ((with_reducible refine gate_callee (f := 45) rfl ?_); refine goesL_ (some 11) rfl rfl Try.func45 (by kernel_rfl) rfl #[.agg #[.int .i64 1, .string a0_2]] rfl (by (try simp only [List.map_toArray, List.map_cons, List.map_nil]); first | done | rfl | (simp only [hq.1]; done) | (simp only [hq.1]; rfl)) ?_; refine Calls.mono (calls_of_args (by first | ((try simp only [hq.1]) <;> rfl) | fail) (bursarref11_Name.calls 1 a0_2 t309 true _ A2.out)) ?_; rintro e w51 ⟨he_, hb⟩; subst he_; refine ⟨_, rfl, ?_⟩; replace HO := Aside0.mk (Ow.Own.call HO.out hb); clear hb) | ((with_reducible refine gate_callee (f := 45) rfl ?_); refine goesL_ (some 18) rfl rfl Try.func45 (by kernel_rfl) rfl #[.agg #[.int .i64 2, .string a0_1]] rfl (by (try simp only [List.map_toArray, List.map_cons, List.map_nil]); first | done | rfl | (simp only [hq.1]; done) | (simp only [hq.1]; rfl)) ?_; refine Calls.mono (calls_of_args (by first | ((try simp only [hq.1]) <;> rfl) | fail) (bursarref11_Name.calls 2 a0_1 t311 false _ A3.out)) ?_; rintro e w53 ⟨he_, hb⟩; subst he_; refine ⟨_, rfl, ?_⟩; replace HO := Aside0.mk (Ow.Own.call HO.out hb); clear hb) | ((with_reducible refine gate_callee (f := 46) rfl ?_); refine goesL_ (some 23) rfl rfl Try.func46 (by kernel_rfl) rfl #[.string a0_0] rfl (by (try simp only [List.map_toArray, List.map_cons, List.map_nil]); first | done | rfl | (simp only [hq.1]; done) | (simp only [hq.1]; rfl)) ?_; refine Calls.mono (calls_of_args (by first | ((try simp only [hq.1]) <;> rfl) | fail) (bursarref14_Ref.calls a0_0 true _ A4.out)) ?_; rintro e w' ⟨he_, ⟨nd, rfl⟩⟩; subst he_; refine ⟨_, rfl, ?_⟩; replace HO := Aside0.mk (Ow.Own.drewN HO.out nd); (try simp only [World.drewN_drewN] at HO)) | ((with_reducible refine Ow.gate_build rfl ?_); (try (refine gate_guard (by rfl) ?_; dsimp only)); refine' Ow.tbuild Ot.bd rfl rfl rfl ?hf_ ?_; (case hf_ => repeat (any_goals (first | exact Ow.Fills.nil | (refine' Ow.Fills.c ?hv_ rfl ?hz_ ?_; (case hv_ => first | exact Ow.ev_tmp rfl | rfl); (case hz_ => first | (refine ⟨?_, ?_⟩ <;> (first | ((try simp only [hq.1]) <;> rfl) | fail)) | fail)))))) | ((with_reducible refine Ow.gate_load rfl ?_); (try (refine gate_guard (by rfl) ?_; dsimp only)); (first | refine Ow.l1 Ot.ty HO.out rfl rfl rfl rfl (by first | ((try simp only [hq.1]) <;> rfl) | fail) ?_)))
        all_goals go_ret
        all_goals exact ⟨by first | rfl | (simp only [hq.1]; done) | (simp only [hq.1]; rfl) | (simp [errW_none, errW_some] <;> rfl) | (simp [*, errW_none, errW_some] <;> rfl), Ow.Own.below HO.out⟩
    · replace c6 := Bool.eq_false_iff.mpr c6
      subst c6
      have H1 : (some false) = some r := by rw [if_neg (show ¬ (false = true) by decide)] at H; exact H
      clear H
      have H := H1
      clear H1
      obtain rfl := Option.some.inj H
      obtain ⟨Q7, hQ7_⟩ : ∃ q_ : Array Value, q_ = (#[.string a0_0, .string a0_1, .string a0_2, .int .i64 a0_3, .int .i64 a0_4, .int .i64 a0_5, .bool a0_6] : Array Value) := ⟨_, rfl⟩
      try rw [← hQ7_]
      have hQ7 := Aside0.mk hQ7_; have hq := Aside0.mk hQ7_; clear hQ7_
      go_enter Try.func31, Try.ntmps31
      go_wp2_with (first | ((with_reducible refine gate_dst (N := 1) rfl ?_); refine Ow.box rfl (N := 1) rfl (cs := Q7) (t := 25) HO.out (by first | (go_simp; done) | (go_simp; rfl)) ?_; clear HO; intro gb308 w55 HO; simp only [List.cons_append, List.nil_append] at HO) | ((with_reducible refine gate_callee (f := 45) rfl ?_); refine goesL_ (some 11) rfl rfl Try.func45 (by kernel_rfl) rfl #[.agg #[.int .i64 1, .string a0_2]] rfl (by (try simp only [List.map_toArray, List.map_cons, List.map_nil]); first | done | rfl | (simp only [hq.1]; done) | (simp only [hq.1]; rfl)) ?_; refine Calls.mono (calls_of_args (by first | ((try simp only [hq.1]) <;> rfl) | fail) (bursarref11_Name.calls 1 a0_2 t309 false _ A2.out)) ?_; rintro e w57 ⟨he_, hb⟩; subst he_; refine ⟨_, rfl, ?_⟩; replace HO := Aside0.mk (Ow.Own.call HO.out hb); clear hb) | ((with_reducible refine gate_callee (f := 45) rfl ?_); refine goesL_ (some 18) rfl rfl Try.func45 (by kernel_rfl) rfl #[.agg #[.int .i64 2, .string a0_1]] rfl (by (try simp only [List.map_toArray, List.map_cons, List.map_nil]); first | done | rfl | (simp only [hq.1]; done) | (simp only [hq.1]; rfl)) ?_; refine Calls.mono (calls_of_args (by first | ((try simp only [hq.1]) <;> rfl) | fail) (bursarref11_Name.calls 2 a0_1 t311 t312 _ A3.out)) ?_; rintro e w59 ⟨he_, hb⟩; subst he_; refine ⟨_, rfl, ?_⟩; replace HO := Aside0.mk (Ow.Own.call HO.out hb); clear hb) | ((with_reducible refine gate_callee (f := 46) rfl ?_); refine goesL_ (some 23) rfl rfl Try.func46 (by kernel_rfl) rfl #[.string a0_0] rfl (by (try simp only [List.map_toArray, List.map_cons, List.map_nil]); first | done | rfl | (simp only [hq.1]; done) | (simp only [hq.1]; rfl)) ?_; refine Calls.mono (calls_of_args (by first | ((try simp only [hq.1]) <;> rfl) | fail) (bursarref14_Ref.calls a0_0 true _ A4.out)) ?_; rintro e w' ⟨he_, ⟨nd, rfl⟩⟩; subst he_; refine ⟨_, rfl, ?_⟩; replace HO := Aside0.mk (Ow.Own.drewN HO.out nd); (try simp only [World.drewN_drewN] at HO)) | ((with_reducible refine Ow.gate_build rfl ?_); (try (refine gate_guard (by rfl) ?_; dsimp only)); refine' Ow.tbuild Ot.bd rfl rfl rfl ?hf_ ?_; (case hf_ => repeat (any_goals (first | exact Ow.Fills.nil | (refine' Ow.Fills.c ?hv_ rfl ?hz_ ?_; (case hv_ => first | exact Ow.ev_tmp rfl | rfl); (case hz_ => first | (refine ⟨?_, ?_⟩ <;> (first | ((try simp only [hq.1]) <;> rfl) | fail)) | fail)))))) | ((with_reducible refine Ow.gate_load rfl ?_); (try (refine gate_guard (by rfl) ?_; dsimp only)); (first | refine Ow.l1 Ot.ty HO.out rfl rfl rfl rfl (by first | ((try simp only [hq.1]) <;> rfl) | fail) ?_)))
      all_goals go_ret
      all_goals exact ⟨by first | rfl | (simp only [hq.1]; done) | (simp only [hq.1]; rfl) | (simp [errW_none, errW_some] <;> rfl) | (simp [*, errW_none, errW_some] <;> rfl), Ow.Own.below HO.out⟩
  · replace c5 := Bool.eq_false_iff.mpr c5
    subst c5
    have H1 : (some false) = some r := by rw [if_neg (show ¬ (false = true) by decide)] at H; exact H
    clear H
    have H := H1
    clear H1
    obtain rfl := Option.some.inj H
    obtain ⟨Q8, hQ8_⟩ : ∃ q_ : Array Value, q_ = (#[.string a0_0, .string a0_1, .string a0_2, .int .i64 a0_3, .int .i64 a0_4, .int .i64 a0_5, .bool a0_6] : Array Value) := ⟨_, rfl⟩
    try rw [← hQ8_]
    have hQ8 := Aside0.mk hQ8_; have hq := Aside0.mk hQ8_; clear hQ8_
    go_enter Try.func31, Try.ntmps31
    go_wp2_with (first | ((with_reducible refine gate_dst (N := 1) rfl ?_); refine Ow.box rfl (N := 1) rfl (cs := Q8) (t := 25) HO.out (by first | (go_simp; done) | (go_simp; rfl)) ?_; clear HO; intro gb308 w61 HO; simp only [List.cons_append, List.nil_append] at HO) | ((with_reducible refine gate_callee (f := 45) rfl ?_); refine goesL_ (some 11) rfl rfl Try.func45 (by kernel_rfl) rfl #[.agg #[.int .i64 1, .string a0_2]] rfl (by (try simp only [List.map_toArray, List.map_cons, List.map_nil]); first | done | rfl | (simp only [hq.1]; done) | (simp only [hq.1]; rfl)) ?_; refine Calls.mono (calls_of_args (by first | ((try simp only [hq.1]) <;> rfl) | fail) (bursarref11_Name.calls 1 a0_2 t309 t310 _ A2.out)) ?_; rintro e w63 ⟨he_, hb⟩; subst he_; refine ⟨_, rfl, ?_⟩; replace HO := Aside0.mk (Ow.Own.call HO.out hb); clear hb) | ((with_reducible refine gate_callee (f := 45) rfl ?_); refine goesL_ (some 18) rfl rfl Try.func45 (by kernel_rfl) rfl #[.agg #[.int .i64 2, .string a0_1]] rfl (by (try simp only [List.map_toArray, List.map_cons, List.map_nil]); first | done | rfl | (simp only [hq.1]; done) | (simp only [hq.1]; rfl)) ?_; refine Calls.mono (calls_of_args (by first | ((try simp only [hq.1]) <;> rfl) | fail) (bursarref11_Name.calls 2 a0_1 t311 t312 _ A3.out)) ?_; rintro e w65 ⟨he_, hb⟩; subst he_; refine ⟨_, rfl, ?_⟩; replace HO := Aside0.mk (Ow.Own.call HO.out hb); clear hb) | ((with_reducible refine gate_callee (f := 46) rfl ?_); refine goesL_ (some 23) rfl rfl Try.func46 (by kernel_rfl) rfl #[.string a0_0] rfl (by (try simp only [List.map_toArray, List.map_cons, List.map_nil]); first | done | rfl | (simp only [hq.1]; done) | (simp only [hq.1]; rfl)) ?_; refine Calls.mono (calls_of_args (by first | ((try simp only [hq.1]) <;> rfl) | fail) (bursarref14_Ref.calls a0_0 false _ A4.out)) ?_; rintro e w' ⟨he_, ⟨nd, rfl⟩⟩; subst he_; refine ⟨_, rfl, ?_⟩; replace HO := Aside0.mk (Ow.Own.drewN HO.out nd); (try simp only [World.drewN_drewN] at HO)) | ((with_reducible refine Ow.gate_build rfl ?_); (try (refine gate_guard (by rfl) ?_; dsimp only)); refine' Ow.tbuild Ot.bd rfl rfl rfl ?hf_ ?_; (case hf_ => repeat (any_goals (first | exact Ow.Fills.nil | (refine' Ow.Fills.c ?hv_ rfl ?hz_ ?_; (case hv_ => first | exact Ow.ev_tmp rfl | rfl); (case hz_ => first | (refine ⟨?_, ?_⟩ <;> (first | ((try simp only [hq.1]) <;> rfl) | fail)) | fail)))))) | ((with_reducible refine Ow.gate_load rfl ?_); (try (refine gate_guard (by rfl) ?_; dsimp only)); (first | refine Ow.l1 Ot.ty HO.out rfl rfl rfl rfl (by first | ((try simp only [hq.1]) <;> rfl) | fail) ?_)))
    all_goals go_ret
    all_goals exact ⟨by first | rfl | (simp only [hq.1]; done) | (simp only [hq.1]; rfl) | (simp [errW_none, errW_some] <;> rfl) | (simp [*, errW_none, errW_some] <;> rfl), Ow.Own.below HO.out⟩

/-! #### bursarref14_May, refined -/
theorem ref14_May_e (rrn acq pan : ByteArray) (ap ca un : Int) (op : Bool) : bursarref14_May_p.f rrn acq pan ap ca un op = some (Pu.hmay rrn acq pan ap ca un op) := by
  unfold bursarref14_May_p.f bursarref14_Ref.f bursarref11_Name.f Pu.hmay
  simp only [Option.bind_some]
  cases Pu.refB rrn <;> cases Pu.mayB 1 pan <;> cases Pu.mayB 2 acq <;> try (simp; done)
  by_cases h1 : 0 ≤ un <;> by_cases h2 : un ≤ 2147483647 <;> by_cases h3 : 0 ≤ ca <;> by_cases h4 : ca ≤ ap <;> cases op <;> simp [h1, h2, h3, h4]
def bursarref14_May.f (a0_0 a0_1 a0_2 : ByteArray) (a0_3 a0_4 a0_5 : Int) (a0_6 : Bool) : Option Bool := some (Pu.hmay a0_0 a0_1 a0_2 a0_3 a0_4 a0_5 a0_6)
theorem bursarref14_May.calls (a0_0 a0_1 a0_2 : ByteArray) (a0_3 a0_4 a0_5 : Int) (a0_6 : Bool) (r : Bool) (w : World) (h : bursarref14_May.f a0_0 a0_1 a0_2 a0_3 a0_4 a0_5 a0_6 = some r) :
    Calls Try.prog 31 #[.agg #[.string a0_0, .string a0_1, .string a0_2, .int .i64 a0_3, .int .i64 a0_4, .int .i64 a0_5, .bool a0_6]] w fun e w' => e = .returned (.bool r) ∧ Below w.heap.size w w' :=
  bursarref14_May_p.calls a0_0 a0_1 a0_2 a0_3 a0_4 a0_5 a0_6 r w ((ref14_May_e a0_0 a0_1 a0_2 a0_3 a0_4 a0_5 a0_6).trans h)


end Go.Proofs.Ytddlmcaclbkopaa.XDX
