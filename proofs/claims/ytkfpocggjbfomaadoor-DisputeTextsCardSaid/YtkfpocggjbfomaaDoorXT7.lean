-- Written by wip/xprint.py, a session's program: printed out of the translation, with hand-written functions. Lean checks it.
import Derived.Test.YtkfpocggjbfomaaDoorXT0
import Derived.Test.YtkfpocggjbfomaaDoorXT5
import Derived.Test.YtkfpocggjbfomaaDoorXT6
namespace Go.Proofs.YtkfpocggjbfomaaDoor.XT
open Go.RowKit Go.Proofs.YtkfpocggjbfomaaDoorW.PrintWords Go.Proofs.YtkfpocggjbfomaaDoorW.PrintLast Go.Proofs.YtkfpocggjbfomaaDoorW.PrintMore
attribute [local go_sem] max2_int min2_int max_two min_two max_three min_three max_four min_four   -- for this text's walks alone
set_option linter.unusedVariables false
set_option linter.unusedSimpArgs false

/-! #### bursarref11_Name, refined -/
theorem ref11_Name_e (k : Int) (s : ByteArray) : bursarref11_Name_p.f 3 k s = some (Pu.nameB k s, Pu.mayB k s) := by
  simp only [bursarref11_Name_p.f, bursarref11_Name_p.j0, bursarref11_Name_p.j1, bursarref11_Name_p.j2, bursarref02_Sound.f, bursarref02_All.f, Pu.nameB]
  by_cases h1 : k = 1
  · subst h1
    rw [if_pos rfl, Pu.mayB_1]
    by_cases h : s.size = 16
    · rw [if_pos (by omega), if_pos (by omega), decide_eq_true h, Option.bind_some, Bool.true_and]
      cases Pu.soundB s with
      | true => rw [if_pos rfl, if_pos (by omega), if_pos rfl]; rfl
      | false => rw [if_neg (by simp), if_neg (by decide), if_neg (by simp), if_neg (by decide), if_neg (by simp), if_neg (by decide), if_neg (by simp)]
    · rw [if_neg (by omega), decide_eq_false h, if_neg (by simp), if_neg (by decide), if_neg (by simp), if_neg (by decide), if_neg (by simp), if_neg (by decide), if_neg (by simp)]; rfl
  rw [if_neg h1]
  rw [if_neg (by simp)]
  by_cases h2 : k = 2
  · subst h2
    rw [if_pos rfl, Pu.mayB_2]
    by_cases h : s.size = 6
    · rw [if_pos (by omega), if_pos (by omega), decide_eq_true h, Option.bind_some, Bool.true_and]
      cases Pu.allD s with
      | true => rw [if_pos rfl, if_pos (by omega), if_pos rfl]; rfl
      | false => rw [if_neg (by simp), if_neg (by decide), if_neg (by simp), if_neg (by decide), if_neg (by simp)]
    · rw [if_neg (by omega), decide_eq_false h, if_neg (by simp), if_neg (by decide), if_neg (by simp), if_neg (by decide), if_neg (by simp)]; rfl
  rw [if_neg h2, if_neg (by simp)]
  by_cases h3 : k = 3
  · subst h3
    rw [if_pos rfl, Pu.mayB_3, Pu.toList_empty]
    by_cases h : s.size = 0
    · rw [decide_eq_true h, if_pos rfl, if_pos rfl, Pu.app_nil _ h]; rfl
    · rw [decide_eq_false h, if_neg (by simp), if_neg (by decide), if_neg (by simp)]
  rw [if_neg h3, if_neg (by simp)]
  by_cases h4 : k = 4
  · subst h4
    rw [if_pos rfl, Pu.mayB_4]
    by_cases h : s.size = 0
    · rw [if_pos (Pu.toList_nil.mpr h), decide_eq_true h, if_pos rfl, Pu.app_nil _ h]; rfl
    · rw [if_neg (fun z => h (Pu.toList_nil.mp z)), decide_eq_false h, if_neg (by simp)]
  rw [if_neg h4, Pu.mayB_else s h1 h2 h3 h4, if_neg (by simp)]
def bursarref11_Name.f (a0_0 : Int) (a0_1 : ByteArray) : Option (ByteArray × Bool) := some (Pu.nameB a0_0 a0_1, Pu.mayB a0_0 a0_1)
theorem bursarref11_Name.calls (a0_0 : Int) (a0_1 : ByteArray) (r1 : ByteArray) (r2 : Bool) (w : World) (h : bursarref11_Name.f a0_0 a0_1 = some (r1, r2)) :
    Calls Tryd.prog 17 #[.agg #[.int .i64 a0_0, .string a0_1]] w fun e w' => e = .returned (.tuple #[.string r1, .bool r2]) ∧ Below w.heap.size w w' :=
  bursarref11_Name_p.calls 3 a0_0 a0_1 r1 r2 w ((ref11_Name_e a0_0 a0_1).trans h)


/-! ### bursarref14_Ref_p: function 18 -/
mutual
def bursarref14_Ref_p.l0 : Nat → ByteArray → Int → Option (Bool)
  | 0, _, _ => none
  | k + 1, x0, x3 => if x3 < 12 then (if 0 ≤ x3 then (if x3 < (x0.size : Int) then (if 48 ≤ (bt x0 x3) then (if ((bt x0 x3) ≤ 57) then (bursarref14_Ref_p.j1 k x0 x3 false) else (if 65 ≤ (bt x0 x3) then (bursarref14_Ref_p.j1 k x0 x3 (!(decide ((bt x0 x3) ≤ 90)))) else (bursarref14_Ref_p.j1 k x0 x3 (!false)))) else (if 65 ≤ (bt x0 x3) then (bursarref14_Ref_p.j1 k x0 x3 (!(decide ((bt x0 x3) ≤ 90)))) else (bursarref14_Ref_p.j1 k x0 x3 (!false)))) else (none)) else (none)) else (some true)
def bursarref14_Ref_p.j1 : Nat → ByteArray → Int → Bool → Option (Bool)
  | 0, _, _, _ => none
  | k + 1, x0, x3, x34 => if x34 = true then (some false) else (bursarref14_Ref_p.l0 k x0 (wrap64 (x3 + 1)))
end
def bursarref14_Ref_p.f (k : Nat) (a0 : ByteArray) : Option (Bool) := if (a0.size : Int) = 12 then (bursarref14_Ref_p.l0 k a0 0) else (some false)
theorem bursarref14_Ref_p.mono_l : ∀ k, (∀ y0 y1, LeO (bursarref14_Ref_p.l0 k y0 y1) (bursarref14_Ref_p.l0 (k + 1) y0 y1)) ∧ (∀ y0 y1 y2, LeO (bursarref14_Ref_p.j1 k y0 y1 y2) (bursarref14_Ref_p.j1 (k + 1) y0 y1 y2))
  | 0 => ⟨fun _ _ r h => by simp [bursarref14_Ref_p.l0] at h, fun _ _ _ r h => by simp [bursarref14_Ref_p.j1] at h⟩
  | k + 1 => by
    obtain ⟨ih0, ih1⟩ := bursarref14_Ref_p.mono_l k
    refine ⟨?_, ?_⟩
    all_goals
      intros
      first
      | unfold bursarref14_Ref_p.l0
      | unfold bursarref14_Ref_p.j1
      repeat' first
      | (with_reducible exact ih0 _ _)
      | (with_reducible exact ih1 _ _ _)
      | (with_reducible exact LeO.refl _)
      | (with_reducible exact LeO.none _)
      | (with_reducible refine LeO.ite ?_ ?_)
      | (with_reducible refine LeO.bind ?_ (fun _ => ?_))
      | exact ih0 _ _
      | exact ih1 _ _ _
      | exact LeO.none _
      | refine LeO.ite ?_ ?_
      | refine LeO.bind ?_ (fun _ => ?_)
theorem bursarref14_Ref_p.mono : ∀ a0 k, LeO (bursarref14_Ref_p.f k a0) (bursarref14_Ref_p.f (k + 1) a0) := by
  intro a0 k
  obtain ⟨ih0, ih1⟩ := bursarref14_Ref_p.mono_l k
  unfold bursarref14_Ref_p.f
  repeat' first
      | (with_reducible exact ih0 _ _)
      | (with_reducible exact ih1 _ _ _)
      | (with_reducible exact LeO.refl _)
      | (with_reducible exact LeO.none _)
      | (with_reducible refine LeO.ite ?_ ?_)
      | (with_reducible refine LeO.bind ?_ (fun _ => ?_))
      | exact ih0 _ _
      | exact ih1 _ _ _
      | exact LeO.none _
      | refine LeO.ite ?_ ?_
      | refine LeO.bind ?_ (fun _ => ?_)
set_option maxHeartbeats 8000000 in
set_option maxRecDepth 100000 in
theorem bursarref14_Ref_p.calls (k : Nat) (a0 : ByteArray) (r : Bool) (w : World) (h : bursarref14_Ref_p.f k a0 = some r) :
    Calls Tryd.prog 18 #[.string a0] w fun e w' => e = .returned (.bool r) ∧ Drawn0 w w' := by
  have H : (if (a0.size : Int) = 12 then (bursarref14_Ref_p.l0 k a0 0) else (some false)) = some r := h
  clear h
  by_cases c2 : (a0.size : Int) = 12
  · rw [if_pos c2] at H
    have c2b0 : ((a0.size : Int) == 12) = true := beq_iff_eq.mpr c2
    have c2b1 : ((a0.size : Int) != 12) = false := bne_eq_false_iff_eq.mpr c2
    clear c2
    have H' := Aside0.mk H
    clear H
    go_enter Tryd.func18, Tryd.ntmps18
    go_wp2
    go_loopg [3] k (fun kq v3 w' => ∃ (x3_1 : Int), v3 = .int .i64 x3_1 ∧ Aside0 (bursarref14_Ref_p.l0 kq a0 x3_1 = some r) ∧ Aside0 (kq ≤ k) ∧ Drawn0 w w')
    case atStart => exact ⟨(0), (by first | rfl | (simp; done) | (simp [*]; done) | (simp [Pu.bne_nil, Pu.beq_nil]; done)), H', ⟨Nat.le_refl _⟩, by repeat (first | exact Drawn0.refl _ | apply Drawn0.step)⟩
    case round =>
      clear H'
      try clear c1
      try clear c2
      try clear c2b0
      try clear c2b1
      try clear p2
      obtain ⟨x3_1, rfl, HA, HK1, ⟨m1, rfl⟩⟩ := hrel
      cases gk with
      | zero => exact absurd HA.out (by simp [bursarref14_Ref_p.l0])
      | succ k1 =>
        have H := HA.out
        clear HA
        simp only [bursarref14_Ref_p.l0] at H
        by_cases c3 : x3_1 < 12
        · rw [if_pos c3] at H
          have c3b0 : decide (x3_1 < 12) = true := decide_eq_true c3
          clear c3
          have HC4 := Aside0.mk H
          clear H
          go_upto_region 6 with (fail)
          go_cut [34] (fun v34 wc => ∃ (kq : Nat) (x34_3 : Bool), v34 = .bool x34_3 ∧ Aside0 (bursarref14_Ref_p.j1 kq a0 x3_1 x34_3 = some r) ∧ Aside0 (kq ≤ k1) ∧ Drawn0 w wc)
          case first => as_aux_lemma =>
            have H := HC4.out
            clear HC4
            by_cases c5 : 0 ≤ x3_1
            · rw [if_pos c5] at H
              have c5b0 : decide (0 ≤ x3_1) = true := decide_eq_true c5
              clear c5
              (first | rw [c5b0] | (simp only [i64_w, i32_w]; rw [c5b0]) | skip)
              by_cases c6 : x3_1 < (a0.size : Int)
              · rw [if_pos c6] at H
                have c6b0 : decide (x3_1 < (a0.size : Int)) = true := decide_eq_true c6
                clear c6
                by_cases c8 : 48 ≤ (bt a0 x3_1)
                · rw [if_pos c8] at H
                  have c8b0 : decide (48 ≤ (bt a0 x3_1)) = true := decide_eq_true c8
                  clear c8
                  by_cases c10 : ((bt a0 x3_1) ≤ 57)
                  · rw [if_pos c10] at H
                    have c10b0 : decide ((bt a0 x3_1) ≤ 57) = true := decide_eq_true c10
                    clear c10
                    have H' := Aside0.mk H
                    clear H
                    have p7 : 0 ≤ (x3_1 : Int) := of_decide_eq_true (by first | (with_reducible assumption) | assumption)
                    have q7 : x3_1 < (a0.size : Int) := of_decide_eq_true (by first | (with_reducible assumption) | assumption)
                    have hx7 := bt_at a0 x3_1
                    replace p7 := eq_true p7
                    replace q7 := eq_true q7
                    have p9 : 0 ≤ (x3_1 : Int) := of_decide_eq_true (by first | (with_reducible assumption) | assumption)
                    have q9 : x3_1 < (a0.size : Int) := of_decide_eq_true (by first | (with_reducible assumption) | assumption)
                    have hx9 := bt_at a0 x3_1
                    replace p9 := eq_true p9
                    replace q9 := eq_true q9
                    go_wp2
                    go_meet
                    case rel => exact ⟨_, (false), (by first | rfl | (simp; done) | (simp [*]; done) | (simp [Pu.bne_nil, Pu.beq_nil]; done)), H', ⟨by have := HK1.out; first | omega | exact Nat.le_refl _⟩, by repeat (first | exact Drawn0.refl _ | apply Drawn0.step)⟩
                  · rw [if_neg c10] at H
                    have c10b0 : decide ((bt a0 x3_1) ≤ 57) = false := decide_eq_false c10
                    clear c10
                    by_cases c12 : 65 ≤ (bt a0 x3_1)
                    · rw [if_pos c12] at H
                      have c12b0 : decide (65 ≤ (bt a0 x3_1)) = true := decide_eq_true c12
                      clear c12
                      have H' := Aside0.mk H
                      clear H
                      have p7 : 0 ≤ (x3_1 : Int) := of_decide_eq_true (by first | (with_reducible assumption) | assumption)
                      have q7 : x3_1 < (a0.size : Int) := of_decide_eq_true (by first | (with_reducible assumption) | assumption)
                      have hx7 := bt_at a0 x3_1
                      replace p7 := eq_true p7
                      replace q7 := eq_true q7
                      have p9 : 0 ≤ (x3_1 : Int) := of_decide_eq_true (by first | (with_reducible assumption) | assumption)
                      have q9 : x3_1 < (a0.size : Int) := of_decide_eq_true (by first | (with_reducible assumption) | assumption)
                      have hx9 := bt_at a0 x3_1
                      replace p9 := eq_true p9
                      replace q9 := eq_true q9
                      have p11 : 0 ≤ (x3_1 : Int) := of_decide_eq_true (by first | (with_reducible assumption) | assumption)
                      have q11 : x3_1 < (a0.size : Int) := of_decide_eq_true (by first | (with_reducible assumption) | assumption)
                      have hx11 := bt_at a0 x3_1
                      replace p11 := eq_true p11
                      replace q11 := eq_true q11
                      have p13 : 0 ≤ (x3_1 : Int) := of_decide_eq_true (by first | (with_reducible assumption) | assumption)
                      have q13 : x3_1 < (a0.size : Int) := of_decide_eq_true (by first | (with_reducible assumption) | assumption)
                      have hx13 := bt_at a0 x3_1
                      replace p13 := eq_true p13
                      replace q13 := eq_true q13
                      go_wp2
                      go_meet
                      case rel => exact ⟨_, (!(decide ((bt a0 x3_1) ≤ 90))), (by first | rfl | (simp; done) | (simp [*]; done) | (simp [Pu.bne_nil, Pu.beq_nil]; done)), H', ⟨by have := HK1.out; first | omega | exact Nat.le_refl _⟩, by repeat (first | exact Drawn0.refl _ | apply Drawn0.step)⟩
                    · rw [if_neg c12] at H
                      have c12b0 : decide (65 ≤ (bt a0 x3_1)) = false := decide_eq_false c12
                      clear c12
                      have H' := Aside0.mk H
                      clear H
                      have p7 : 0 ≤ (x3_1 : Int) := of_decide_eq_true (by first | (with_reducible assumption) | assumption)
                      have q7 : x3_1 < (a0.size : Int) := of_decide_eq_true (by first | (with_reducible assumption) | assumption)
                      have hx7 := bt_at a0 x3_1
                      replace p7 := eq_true p7
                      replace q7 := eq_true q7
                      have p9 : 0 ≤ (x3_1 : Int) := of_decide_eq_true (by first | (with_reducible assumption) | assumption)
                      have q9 : x3_1 < (a0.size : Int) := of_decide_eq_true (by first | (with_reducible assumption) | assumption)
                      have hx9 := bt_at a0 x3_1
                      replace p9 := eq_true p9
                      replace q9 := eq_true q9
                      have p11 : 0 ≤ (x3_1 : Int) := of_decide_eq_true (by first | (with_reducible assumption) | assumption)
                      have q11 : x3_1 < (a0.size : Int) := of_decide_eq_true (by first | (with_reducible assumption) | assumption)
                      have hx11 := bt_at a0 x3_1
                      replace p11 := eq_true p11
                      replace q11 := eq_true q11
                      go_wp2
                      go_meet
                      case rel => exact ⟨_, (!false), (by first | rfl | (simp; done) | (simp [*]; done) | (simp [Pu.bne_nil, Pu.beq_nil]; done)), H', ⟨by have := HK1.out; first | omega | exact Nat.le_refl _⟩, by repeat (first | exact Drawn0.refl _ | apply Drawn0.step)⟩
                · rw [if_neg c8] at H
                  have c8b0 : decide (48 ≤ (bt a0 x3_1)) = false := decide_eq_false c8
                  clear c8
                  by_cases c15 : 65 ≤ (bt a0 x3_1)
                  · rw [if_pos c15] at H
                    have c15b0 : decide (65 ≤ (bt a0 x3_1)) = true := decide_eq_true c15
                    clear c15
                    have H' := Aside0.mk H
                    clear H
                    have p7 : 0 ≤ (x3_1 : Int) := of_decide_eq_true (by first | (with_reducible assumption) | assumption)
                    have q7 : x3_1 < (a0.size : Int) := of_decide_eq_true (by first | (with_reducible assumption) | assumption)
                    have hx7 := bt_at a0 x3_1
                    replace p7 := eq_true p7
                    replace q7 := eq_true q7
                    have p14 : 0 ≤ (x3_1 : Int) := of_decide_eq_true (by first | (with_reducible assumption) | assumption)
                    have q14 : x3_1 < (a0.size : Int) := of_decide_eq_true (by first | (with_reducible assumption) | assumption)
                    have hx14 := bt_at a0 x3_1
                    replace p14 := eq_true p14
                    replace q14 := eq_true q14
                    have p16 : 0 ≤ (x3_1 : Int) := of_decide_eq_true (by first | (with_reducible assumption) | assumption)
                    have q16 : x3_1 < (a0.size : Int) := of_decide_eq_true (by first | (with_reducible assumption) | assumption)
                    have hx16 := bt_at a0 x3_1
                    replace p16 := eq_true p16
                    replace q16 := eq_true q16
                    go_wp2
                    go_meet
                    case rel => exact ⟨_, (!(decide ((bt a0 x3_1) ≤ 90))), (by first | rfl | (simp; done) | (simp [*]; done) | (simp [Pu.bne_nil, Pu.beq_nil]; done)), H', ⟨by have := HK1.out; first | omega | exact Nat.le_refl _⟩, by repeat (first | exact Drawn0.refl _ | apply Drawn0.step)⟩
                  · rw [if_neg c15] at H
                    have c15b0 : decide (65 ≤ (bt a0 x3_1)) = false := decide_eq_false c15
                    clear c15
                    have H' := Aside0.mk H
                    clear H
                    have p7 : 0 ≤ (x3_1 : Int) := of_decide_eq_true (by first | (with_reducible assumption) | assumption)
                    have q7 : x3_1 < (a0.size : Int) := of_decide_eq_true (by first | (with_reducible assumption) | assumption)
                    have hx7 := bt_at a0 x3_1
                    replace p7 := eq_true p7
                    replace q7 := eq_true q7
                    have p14 : 0 ≤ (x3_1 : Int) := of_decide_eq_true (by first | (with_reducible assumption) | assumption)
                    have q14 : x3_1 < (a0.size : Int) := of_decide_eq_true (by first | (with_reducible assumption) | assumption)
                    have hx14 := bt_at a0 x3_1
                    replace p14 := eq_true p14
                    replace q14 := eq_true q14
                    go_wp2
                    go_meet
                    case rel => exact ⟨_, (!false), (by first | rfl | (simp; done) | (simp [*]; done) | (simp [Pu.bne_nil, Pu.beq_nil]; done)), H', ⟨by have := HK1.out; first | omega | exact Nat.le_refl _⟩, by repeat (first | exact Drawn0.refl _ | apply Drawn0.step)⟩
              · rw [if_neg c6] at H
                exact absurd H (by simp)
            · rw [if_neg c5] at H
              exact absurd H (by simp)
          case rest => as_aux_lemma =>
            clear HC4
            try clear c1
            try clear p1
            try clear q1
            try clear hx1
            try clear c2
            try clear c2b0
            try clear c2b1
            try clear p2
            try clear c3
            try clear c3b0
            try clear c5
            try clear c5b0
            try clear c6
            try clear c6b0
            try clear p7
            try clear q7
            try clear hx7
            try clear c8
            try clear c8b0
            try clear p9
            try clear q9
            try clear hx9
            try clear c10
            try clear c10b0
            try clear p11
            try clear q11
            try clear hx11
            try clear c12
            try clear c12b0
            try clear p13
            try clear q13
            try clear hx13
            try clear p14
            try clear q14
            try clear hx14
            try clear c15
            try clear c15b0
            try clear p16
            try clear q16
            try clear hx16
            try clear p11
            try clear p13
            try clear p14
            try clear p16
            try clear p2
            try clear p7
            try clear p9
            try clear q11
            try clear q13
            try clear q14
            try clear q16
            try clear q7
            try clear q9
            obtain ⟨kq, x34_3, rfl, HA, HJ3, ⟨mc3, rfl⟩⟩ := hcut
            cases kq with
            | zero => exact absurd HA.out (by simp [bursarref14_Ref_p.j1])
            | succ kj3 =>
              have H := HA.out
              clear HA
              simp only [bursarref14_Ref_p.j1] at H
              by_cases c17 : x34_3 = true
              · subst c17
                have H1 : (some false) = some r := by rw [if_pos rfl] at H; exact H
                clear H
                have H := H1
                clear H1
                obtain rfl := Option.some.inj H
                go_wp2
                go_ret
                exact ⟨by first | rfl | (simp; done) | (simp [*]; done), by repeat (first | exact Drawn0.refl _ | apply Drawn0.step)⟩
              · replace c17 := Bool.eq_false_iff.mpr c17
                subst c17
                have H1 : (bursarref14_Ref_p.l0 kj3 a0 (wrap64 (x3_1 + 1))) = some r := by rw [if_neg (show ¬ (false = true) by decide)] at H; exact H
                clear H
                have H := H1
                clear H1
                have H' := Aside0.mk H
                clear H
                go_wp2
                go_roundg kj3
                case measure => have := HK1.out; have := HJ3.out; omega
                case rel => exact ⟨(wrap64 (x3_1 + 1)), (by first | rfl | (simp; done) | (simp [*]; done) | (simp [Pu.bne_nil, Pu.beq_nil]; done)), H', ⟨by have := HK1.out; have := HJ3.out; omega⟩, by repeat (first | exact Drawn0.refl _ | apply Drawn0.step)⟩
        · rw [if_neg c3] at H
          have c3b0 : decide (x3_1 < 12) = false := decide_eq_false c3
          clear c3
          obtain rfl := Option.some.inj H
          go_wp2
          go_ret
          exact ⟨by first | rfl | (simp; done) | (simp [*]; done), by repeat (first | exact Drawn0.refl _ | apply Drawn0.step)⟩
  · rw [if_neg c2] at H
    have c2b0 : ((a0.size : Int) == 12) = false := beq_eq_false_iff_ne.mpr c2
    have c2b1 : ((a0.size : Int) != 12) = true := bne_iff_ne.mpr c2
    obtain rfl := Option.some.inj H
    go_enter Tryd.func18, Tryd.ntmps18
    go_wp2
    go_ret
    exact ⟨by first | rfl | (simp; done) | (simp [*]; done), by repeat (first | exact Drawn0.refl _ | apply Drawn0.step)⟩

/-! #### bursarref14_Ref, refined -/
theorem ref14_Ref_l (s : ByteArray) (hs : s.size = 12) : ∀ (d i k : Nat), i + d = 12 → 2 * d < k → bursarref14_Ref_p.l0 k s (i : Int) = some (((Pu.bs s).drop i).all Pu.alnum) := by
  intro d
  induction d with
  | zero =>
    intro i k hi hk
    obtain ⟨k, rfl⟩ : ∃ m, k = m + 1 := ⟨k - 1, by omega⟩
    obtain rfl : i = s.size := by omega
    simp only [bursarref14_Ref_p.l0]
    rw [if_neg (by omega), Pu.bs_drop_all, List.all_nil]
  | succ d ih =>
    intro i k hi hk
    obtain ⟨k, rfl⟩ : ∃ m, k = m + 2 := ⟨k - 2, by omega⟩
    have hj : ∀ b : Bool, bursarref14_Ref_p.j1 (k + 1) s i b = if b = true then some false else some (((Pu.bs s).drop (i + 1)).all Pu.alnum) := fun b => by
      simp only [bursarref14_Ref_p.j1]
      cases b with
      | true => rfl
      | false =>
        rw [if_neg (by decide), if_neg (by decide), Pu.wrap_small (by omega) (by omega)]
        exact ih (i + 1) k (by omega) (by omega)
    simp only [bursarref14_Ref_p.l0]
    rw [if_pos (by omega), if_pos (by omega), if_pos (by omega), Pu.bs_drop s i (by omega), List.all_cons]
    simp only [hj]
    have hb := bt_range s i
    unfold Pu.alnum
    by_cases h1 : 48 ≤ bt s i
    · rw [if_pos h1, decide_eq_true h1]
      by_cases h2 : bt s i ≤ 57
      · rw [if_pos h2, if_neg (by decide), decide_eq_true h2]; rfl
      · rw [if_neg h2, decide_eq_false h2]
        by_cases h3 : 65 ≤ bt s i
        · rw [if_pos h3, decide_eq_true h3]
          by_cases h4 : bt s i ≤ 90
          · rw [decide_eq_true h4, if_neg (by decide)]; rfl
          · rw [decide_eq_false h4, if_pos (by decide)]; rfl
        · rw [if_neg h3, decide_eq_false h3, if_pos (by decide)]; rfl
    · rw [if_neg h1, decide_eq_false h1, if_neg (show ¬ 65 ≤ bt s i by omega), decide_eq_false (show ¬ 65 ≤ bt s i by omega), if_pos (by decide)]; rfl
def bursarref14_Ref.f (a0 : ByteArray) : Option Bool := some (Pu.refB a0)
theorem bursarref14_Ref.calls (a0 : ByteArray) (r : Bool) (w : World) (h : bursarref14_Ref.f a0 = some r) :
    Calls Tryd.prog 18 #[.string a0] w fun e w' => e = .returned (.bool r) ∧ Drawn0 w w' := by
  refine bursarref14_Ref_p.calls 25 a0 r w (Eq.trans ?_ h)
  unfold bursarref14_Ref_p.f bursarref14_Ref.f Pu.refB
  by_cases hs : a0.size = 12
  · rw [if_pos (by omega), decide_eq_true hs, Bool.true_and]
    exact ref14_Ref_l a0 hs 12 0 25 (by omega) (by omega)
  · rw [if_neg (by omega), decide_eq_false hs]; rfl


/-! ### bursarref26_acq: function 19 -/
def bursarref26_acq.f (a0 : ByteArray) : Option (Bool) := (bursarref11_Name.f 2 a0).bind fun bt139 => (some bt139.2)
set_option maxHeartbeats 8000000 in
set_option maxRecDepth 100000 in
theorem bursarref26_acq.calls (a0 : ByteArray) (r : Bool) (w : World) (h : bursarref26_acq.f a0 = some r) :
    Calls Tryd.prog 19 #[.string a0] w fun e w' => e = .returned (.bool r) ∧ Below w.heap.size w w' := by
  have hu47 := Tryd.underlying47
  have HB := Aside0.mk (Below.refl w.heap.size w)
  have H : ((bursarref11_Name.f 2 a0).bind fun bt139 => (some bt139.2)) = some r := h
  clear h
  replace H := Option.bind_eq_some_iff.mp H
  obtain ⟨⟨t139, t140⟩, A20, H⟩ := H
  replace H : (some t140) = some r := H
  have A2 := Aside0.mk A20
  clear A20
  obtain rfl := Option.some.inj H
  go_enter Tryd.func19, Tryd.ntmps19
  go_wp2_with (first | ((with_reducible refine gate_callee (f := 17) rfl ?_); refine goesL_ (some 8) rfl rfl Tryd.func17 (by kernel_rfl) rfl #[.agg #[.int .i64 2, .string a0]] rfl (by (try simp only [List.map_toArray, List.map_cons, List.map_nil]); first | done | rfl | (simp only [List.length_drop, List.length_take]; rfl)) ?_; (with_reducible refine (bursarref11_Name.calls 2 a0 t139 t140 _ A2.out).mono ?_); rintro e w3 ⟨rfl, hb⟩; refine ⟨_, rfl, ?_⟩; have n0_ := Aside0.mk (below_step (by repeat (first | (with_reducible first | exact HB.out | apply below_alloc | apply pw_below_drewN | apply below_drew1) | exact HB.out)) hb); clear HB; have HB := n0_; clear n0_; (try clear hb); (try clear hb2); (try clear hk); (try clear hi)))
  go_ret
  exact ⟨by first | rfl | (simp [errW_none, errW_some] <;> rfl) | (simp [*, errW_none, errW_some] <;> rfl), by repeat (first | (with_reducible first | exact HB.out | apply below_alloc | apply pw_below_drewN | apply below_drew1) | exact HB.out)⟩

end Go.Proofs.YtkfpocggjbfomaaDoor.XT
