-- Written by wip/xprint.py, a session's program: printed out of the translation, with hand-written functions. Lean checks it.
import Derived.Test.YteghpaomggajdaaDoorXG0
import Derived.Test.YteghpaomggajdaaDoorXG1
import Derived.Test.YteghpaomggajdaaDoorXG2
import Derived.Test.YteghpaomggajdaaDoorXG3
import Derived.Test.YteghpaomggajdaaDoorXG4
namespace Go.Proofs.YteghpaomggajdaaDoor.XG
open Go.RowKit Go.Proofs.YteghpaomggajdaaDoorW.PrintWords Go.Proofs.YteghpaomggajdaaDoorW.PrintLast Go.Proofs.YteghpaomggajdaaDoorW.PrintMore
attribute [local go_sem] max2_int min2_int max_two min_two max_three min_three max_four min_four   -- for this text's walks alone
set_option linter.unusedVariables false
set_option linter.unusedSimpArgs false

/-! ### bursarlaw02_DigitSounds: function 5 -/
mutual
def bursarlaw02_DigitSounds.j0 : Nat → ByteArray → ByteArray → Bool → Bool → Option (Bool)
  | 0, _, _, _, _ => none
  | k + 1, x0, x3, x6, x44 => if x44 = true then (none) else (if x6 = true then (bursarlaw02_DigitSounds.l0 k x0 x3 48) else ((bursarlaw02_awake.f).bind fun t134 => (some t134)))
def bursarlaw02_DigitSounds.l0 : Nat → ByteArray → ByteArray → Int → Option (Bool)
  | 0, _, _, _ => none
  | k + 1, x0, x3, x7 => if x7 ≤ 57 then ((some (([x7] : List Int) : List Int)).bind fun y135 => (if x0.size + (strOfNums y135).size ≤ 9223372036854775807 then ((digit_Sound.f (x0 ++ (strOfNums y135))).bind fun t138 => (if (t138 != ((x0 ++ (strOfNums y135)).toList == x3.toList)) = true then (none) else (bursarlaw02_DigitSounds.l0 k x0 x3 ((x7 + 1) % 256)))) else (none))) else ((bursarlaw02_awake.f).bind fun t139 => (some t139))
end
def bursarlaw02_DigitSounds.f (k : Nat) (a0 : ByteArray) : Option (Bool) := (bursarlaw02_few.f a0).bind fun t125 => ((digit_Sign.f t125).bind fun bt126 => ((bursarref02_Sign.f k t125).bind fun bt128 => (if bt126.1.toList = bt128.1.toList then (if ((bt126.2 == 0) != bt128.2) = true then (bursarlaw02_DigitSounds.j0 k t125 bt126.1 bt128.2 true) else (if bt128.2 = true then ((digit_Sound.f t125).bind fun t130 => ((bursarref02_Sound.f t125).bind fun t131 => (bursarlaw02_DigitSounds.j0 k t125 bt126.1 bt128.2 (t130 != t131)))) else (if bt126.2 = 4 then ((digit_Sound.f t125).bind fun t132 => ((bursarref02_Sound.f t125).bind fun t133 => (bursarlaw02_DigitSounds.j0 k t125 bt126.1 bt128.2 (t132 != t133)))) else (bursarlaw02_DigitSounds.j0 k t125 bt126.1 bt128.2 true)))) else (bursarlaw02_DigitSounds.j0 k t125 bt126.1 bt128.2 true))))
theorem bursarlaw02_DigitSounds.mono_l : ∀ k, (∀ y0 y1 y2 y3, LeO (bursarlaw02_DigitSounds.j0 k y0 y1 y2 y3) (bursarlaw02_DigitSounds.j0 (k + 1) y0 y1 y2 y3)) ∧ (∀ y0 y1 y2, LeO (bursarlaw02_DigitSounds.l0 k y0 y1 y2) (bursarlaw02_DigitSounds.l0 (k + 1) y0 y1 y2))
  | 0 => ⟨fun _ _ _ _ r h => by simp [bursarlaw02_DigitSounds.j0] at h, fun _ _ _ r h => by simp [bursarlaw02_DigitSounds.l0] at h⟩
  | k + 1 => by
    obtain ⟨ih0, ih1⟩ := bursarlaw02_DigitSounds.mono_l k
    refine ⟨?_, ?_⟩
    · intro y0 y1 y2 y3
      unfold bursarlaw02_DigitSounds.j0
      repeat' first
      | (with_reducible exact ih0 _ _ _ _)
      | (with_reducible exact ih1 _ _ _)
      | (with_reducible exact bursarref02_Sign.mono _ _)
      | (with_reducible exact LeO.refl _)
      | (with_reducible exact LeO.none _)
      | (with_reducible refine LeO.ite ?_ ?_)
      | (with_reducible refine LeO.bind ?_ (fun _ => ?_))
      | exact ih0 _ _ _ _
      | exact ih1 _ _ _
      | exact bursarref02_Sign.mono _ _
      | exact LeO.none _
      | refine LeO.ite ?_ ?_
      | refine LeO.bind ?_ (fun _ => ?_)
    · intro y0 y1 y2
      unfold bursarlaw02_DigitSounds.l0
      repeat' first
      | (with_reducible exact ih0 _ _ _ _)
      | (with_reducible exact ih1 _ _ _)
      | (with_reducible exact bursarref02_Sign.mono _ _)
      | (with_reducible exact LeO.refl _)
      | (with_reducible exact LeO.none _)
      | (with_reducible refine LeO.ite ?_ ?_)
      | (with_reducible refine LeO.bind ?_ (fun _ => ?_))
      | exact ih0 _ _ _ _
      | exact ih1 _ _ _
      | exact bursarref02_Sign.mono _ _
      | exact LeO.none _
      | refine LeO.ite ?_ ?_
      | refine LeO.bind ?_ (fun _ => ?_)
theorem bursarlaw02_DigitSounds.mono : ∀ a0 k, LeO (bursarlaw02_DigitSounds.f k a0) (bursarlaw02_DigitSounds.f (k + 1) a0) := by
  intro a0 k
  obtain ⟨ih0, ih1⟩ := bursarlaw02_DigitSounds.mono_l k
  unfold bursarlaw02_DigitSounds.f
  repeat' first
      | (with_reducible exact ih0 _ _ _ _)
      | (with_reducible exact ih1 _ _ _)
      | (with_reducible exact bursarref02_Sign.mono _ _)
      | (with_reducible exact LeO.refl _)
      | (with_reducible exact LeO.none _)
      | (with_reducible refine LeO.ite ?_ ?_)
      | (with_reducible refine LeO.bind ?_ (fun _ => ?_))
      | exact ih0 _ _ _ _
      | exact ih1 _ _ _
      | exact bursarref02_Sign.mono _ _
      | exact LeO.none _
      | refine LeO.ite ?_ ?_
      | refine LeO.bind ?_ (fun _ => ?_)
set_option maxHeartbeats 8000000 in
set_option maxRecDepth 100000 in
theorem bursarlaw02_DigitSounds.calls (k : Nat) (a0 : ByteArray) (r : Bool) (w : World) (h : bursarlaw02_DigitSounds.f k a0 = some r) :
    Calls Tryd.prog 5 #[.string a0] w fun e w' => e = .returned (.bool r) ∧ Below w.heap.size w w' := by
  have HB := Aside0.mk (Below.refl w.heap.size w)
  have H : ((bursarlaw02_few.f a0).bind fun t125 => ((digit_Sign.f t125).bind fun bt126 => ((bursarref02_Sign.f k t125).bind fun bt128 => (if bt126.1.toList = bt128.1.toList then (if ((bt126.2 == 0) != bt128.2) = true then (bursarlaw02_DigitSounds.j0 k t125 bt126.1 bt128.2 true) else (if bt128.2 = true then ((digit_Sound.f t125).bind fun t130 => ((bursarref02_Sound.f t125).bind fun t131 => (bursarlaw02_DigitSounds.j0 k t125 bt126.1 bt128.2 (t130 != t131)))) else (if bt126.2 = 4 then ((digit_Sound.f t125).bind fun t132 => ((bursarref02_Sound.f t125).bind fun t133 => (bursarlaw02_DigitSounds.j0 k t125 bt126.1 bt128.2 (t132 != t133)))) else (bursarlaw02_DigitSounds.j0 k t125 bt126.1 bt128.2 true)))) else (bursarlaw02_DigitSounds.j0 k t125 bt126.1 bt128.2 true))))) = some r := h
  clear h
  replace H := Option.bind_eq_some_iff.mp H
  obtain ⟨t125, A20, H⟩ := H
  replace H : ((digit_Sign.f t125).bind fun bt126 => ((bursarref02_Sign.f k t125).bind fun bt128 => (if bt126.1.toList = bt128.1.toList then (if ((bt126.2 == 0) != bt128.2) = true then (bursarlaw02_DigitSounds.j0 k t125 bt126.1 bt128.2 true) else (if bt128.2 = true then ((digit_Sound.f t125).bind fun t130 => ((bursarref02_Sound.f t125).bind fun t131 => (bursarlaw02_DigitSounds.j0 k t125 bt126.1 bt128.2 (t130 != t131)))) else (if bt126.2 = 4 then ((digit_Sound.f t125).bind fun t132 => ((bursarref02_Sound.f t125).bind fun t133 => (bursarlaw02_DigitSounds.j0 k t125 bt126.1 bt128.2 (t132 != t133)))) else (bursarlaw02_DigitSounds.j0 k t125 bt126.1 bt128.2 true)))) else (bursarlaw02_DigitSounds.j0 k t125 bt126.1 bt128.2 true)))) = some r := H
  have A2 := Aside0.mk A20
  clear A20
  replace H := Option.bind_eq_some_iff.mp H
  obtain ⟨⟨t126, t127⟩, A30, H⟩ := H
  replace H : ((bursarref02_Sign.f k t125).bind fun bt128 => (if t126.toList = bt128.1.toList then (if ((t127 == 0) != bt128.2) = true then (bursarlaw02_DigitSounds.j0 k t125 t126 bt128.2 true) else (if bt128.2 = true then ((digit_Sound.f t125).bind fun t130 => ((bursarref02_Sound.f t125).bind fun t131 => (bursarlaw02_DigitSounds.j0 k t125 t126 bt128.2 (t130 != t131)))) else (if t127 = 4 then ((digit_Sound.f t125).bind fun t132 => ((bursarref02_Sound.f t125).bind fun t133 => (bursarlaw02_DigitSounds.j0 k t125 t126 bt128.2 (t132 != t133)))) else (bursarlaw02_DigitSounds.j0 k t125 t126 bt128.2 true)))) else (bursarlaw02_DigitSounds.j0 k t125 t126 bt128.2 true))) = some r := H
  have A3 := Aside0.mk A30
  clear A30
  replace H := Option.bind_eq_some_iff.mp H
  obtain ⟨⟨t128, t129⟩, A40, H⟩ := H
  replace H : (if t126.toList = t128.toList then (if ((t127 == 0) != t129) = true then (bursarlaw02_DigitSounds.j0 k t125 t126 t129 true) else (if t129 = true then ((digit_Sound.f t125).bind fun t130 => ((bursarref02_Sound.f t125).bind fun t131 => (bursarlaw02_DigitSounds.j0 k t125 t126 t129 (t130 != t131)))) else (if t127 = 4 then ((digit_Sound.f t125).bind fun t132 => ((bursarref02_Sound.f t125).bind fun t133 => (bursarlaw02_DigitSounds.j0 k t125 t126 t129 (t132 != t133)))) else (bursarlaw02_DigitSounds.j0 k t125 t126 t129 true)))) else (bursarlaw02_DigitSounds.j0 k t125 t126 t129 true)) = some r := H
  have A4 := Aside0.mk A40
  clear A40
  have HC5 := Aside0.mk H
  clear H
  go_enter Tryd.func5, Tryd.ntmps5
  go_upto_region 4 with (first | ((with_reducible refine gate_callee (f := 12) rfl ?_); refine goesL_ (some 10) rfl rfl Tryd.func12 (by kernel_rfl) rfl #[.string a0] rfl (by (try simp only [List.map_toArray, List.map_cons, List.map_nil]); first | done | rfl | (simp only [List.length_drop, List.length_take]; rfl)) ?_; (with_reducible refine (bursarlaw02_few.calls a0 t125 _ A2.out).mono ?_); rintro e w' ⟨rfl, ⟨nd, rfl⟩⟩; refine ⟨_, rfl, ?_⟩) | ((with_reducible refine gate_callee (f := 16) rfl ?_); refine goesL_ (some 13) rfl rfl Tryd.func16 (by kernel_rfl) rfl #[.string t125] rfl (by (try simp only [List.map_toArray, List.map_cons, List.map_nil]); first | done | rfl | (simp only [List.length_drop, List.length_take]; rfl)) ?_; (with_reducible refine (digit_Sign.calls t125 t126 t127 _ A3.out).mono ?_); rintro e w6 ⟨rfl, hb⟩; refine ⟨_, rfl, ?_⟩; have n0_ := Aside0.mk (below_step (by repeat (first | (with_reducible first | exact HB.out | apply below_alloc | apply pw_below_drewN | apply below_drew1) | exact HB.out)) hb); clear HB; have HB := n0_; clear n0_; (try clear hb); (try clear hb2); (try clear hk); (try clear hi)) | ((with_reducible refine gate_callee (f := 17) rfl ?_); refine goesL_ (some 18) rfl rfl Tryd.func17 (by kernel_rfl) rfl #[.string t125] rfl (by (try simp only [List.map_toArray, List.map_cons, List.map_nil]); first | done | rfl | (simp only [List.length_drop, List.length_take]; rfl)) ?_; (with_reducible refine (bursarref02_Sign.calls k t125 t128 t129 _ A4.out).mono ?_); rintro e w7 ⟨rfl, hb⟩; refine ⟨_, rfl, ?_⟩; have n0_ := Aside0.mk (below_step (by repeat (first | (with_reducible first | exact HB.out | apply below_alloc | apply pw_below_drewN | apply below_drew1) | exact HB.out)) hb); clear HB; have HB := n0_; clear n0_; (try clear hb); (try clear hb2); (try clear hk); (try clear hi)))
  (try simp only [Act.put, List.setIfInBounds_toArray, List.set_cons_zero, List.set_cons_succ])
  go_cut [44] (fun v44 wc => ∃ (kq : Nat) (x44_4 : Bool), v44 = .bool x44_4 ∧ Aside0 (bursarlaw02_DigitSounds.j0 kq t125 t126 t129 x44_4 = some r) ∧ Aside0 (kq ≤ k) ∧ Aside0 (Below w.heap.size w wc))
  case first =>
    have H := HC5.out
    clear HC5
    by_cases c8 : t126.toList = t128.toList
    · rw [if_pos c8] at H
      have c8b0 : (t126.toList == t128.toList) = true := beq_iff_eq.mpr c8
      have c8b1 : (t126.toList != t128.toList) = false := bne_eq_false_iff_eq.mpr c8
      clear c8
      (first | rw [c8b0] | (simp only [i64_w, i32_w]; rw [c8b0]) | skip)
      by_cases c9 : ((t127 == 0) != t129) = true
      · rw [if_pos c9] at H
        have c9b0 : ((t127 == 0) != t129) = true := c9
        (try (have c9b1 : decide ((t127 == 0) = t129) = false := by simpa using c9))
        (try (have c9b2 : ((t127 == 0) == t129) = false := by simpa using c9))
        (try (have c9b3 : ¬ ((t127 == 0) = t129) := by simpa using c9))
        (try (have c9b4 : (((t127 = 0) = t129) = False) := eq_false (by first | (simpa using c9; done) | (intro h_; have g_ := c9; simp [h_] at g_; done) | (have g_ := c9; simp at g_; exact g_))))
        clear c9
        have H' := Aside0.mk H
        clear H
        go_wp2
        go_meet
        case rel => exact ⟨_, (true), (by first | rfl | (simp; done) | (simp [*]; done) | (simp [Pu.bne_nil, Pu.beq_nil]; done)), H', ⟨by first | omega | exact Nat.le_refl _⟩, ⟨by repeat (first | (with_reducible first | exact HB.out | apply below_alloc | apply pw_below_drewN | apply below_drew1) | exact HB.out)⟩⟩
      · rw [if_neg c9] at H
        have c9b0 : ((t127 == 0) != t129) = false := by simpa using c9
        (try (have c9b1 : decide ((t127 == 0) = t129) = true := by simpa using c9))
        (try (have c9b2 : ((t127 == 0) == t129) = true := by simpa using c9))
        (try (have c9b3 : (((t127 = 0) = t129) = True) := eq_true (by first | (simpa using c9; done) | (intro h_; have g_ := c9; simp [h_] at g_; done) | (have g_ := c9; simp at g_; exact g_))))
        (try (have c9b4 : ((t127 == 0)) = true := (by first | (have g_ := c9; simp at g_; simp [g_]; done) | (have g_ := c9; simp [Pu.beq_nil] at g_ ⊢; simp [g_]; done) | (have g_ := c9; simp [Pu.beq_nil] at g_ ⊢; exact g_))))
        clear c9
        by_cases c10 : t129 = true
        · subst c10
          have H1 : ((digit_Sound.f t125).bind fun t130 => ((bursarref02_Sound.f t125).bind fun t131 => (bursarlaw02_DigitSounds.j0 k t125 t126 true (t130 != t131)))) = some r := by rw [if_pos rfl] at H; exact H
          clear H
          have H := H1
          clear H1
          replace H := Option.bind_eq_some_iff.mp H
          obtain ⟨t130, A110, H⟩ := H
          replace H : ((bursarref02_Sound.f t125).bind fun t131 => (bursarlaw02_DigitSounds.j0 k t125 t126 true (t130 != t131))) = some r := H
          have A11 := Aside0.mk A110
          clear A110
          replace H := Option.bind_eq_some_iff.mp H
          obtain ⟨t131, A120, H⟩ := H
          replace H : (bursarlaw02_DigitSounds.j0 k t125 t126 true (t130 != t131)) = some r := H
          have A12 := Aside0.mk A120
          clear A120
          have H' := Aside0.mk H
          clear H
          go_wp2_with (first | (go_at_call 18; (with_reducible refine (digit_Sound.calls t125 t130 _ A11.out).mono ?_); rintro e w' ⟨rfl, ⟨nd, rfl⟩⟩) | (go_at_call 19; (with_reducible refine (bursarref02_Sound.calls t125 t131 _ A12.out).mono ?_); rintro e w' ⟨rfl, ⟨nd, rfl⟩⟩))
          go_meet
          case rel => exact ⟨_, ((t130 != t131)), (by first | rfl | (simp; done) | (simp [*]; done) | (simp [Pu.bne_nil, Pu.beq_nil]; done)), H', ⟨by first | omega | exact Nat.le_refl _⟩, ⟨by repeat (first | (with_reducible first | exact HB.out | apply below_alloc | apply pw_below_drewN | apply below_drew1) | exact HB.out)⟩⟩
        · replace c10 := Bool.eq_false_iff.mpr c10
          subst c10
          have H1 : (if t127 = 4 then ((digit_Sound.f t125).bind fun t132 => ((bursarref02_Sound.f t125).bind fun t133 => (bursarlaw02_DigitSounds.j0 k t125 t126 false (t132 != t133)))) else (bursarlaw02_DigitSounds.j0 k t125 t126 false true)) = some r := by rw [if_neg (show ¬ (false = true) by decide)] at H; exact H
          clear H
          have H := H1
          clear H1
          by_cases c13 : t127 = 4
          · rw [if_pos c13] at H
            have c13b0 : (t127 == 4) = true := beq_iff_eq.mpr c13
            have c13b1 : (t127 != 4) = false := bne_eq_false_iff_eq.mpr c13
            clear c13
            replace H := Option.bind_eq_some_iff.mp H
            obtain ⟨t132, A140, H⟩ := H
            replace H : ((bursarref02_Sound.f t125).bind fun t133 => (bursarlaw02_DigitSounds.j0 k t125 t126 false (t132 != t133))) = some r := H
            have A14 := Aside0.mk A140
            clear A140
            replace H := Option.bind_eq_some_iff.mp H
            obtain ⟨t133, A150, H⟩ := H
            replace H : (bursarlaw02_DigitSounds.j0 k t125 t126 false (t132 != t133)) = some r := H
            have A15 := Aside0.mk A150
            clear A150
            have H' := Aside0.mk H
            clear H
            go_wp2_with (first | (go_at_call 18; (with_reducible refine (digit_Sound.calls t125 t132 _ A14.out).mono ?_); rintro e w' ⟨rfl, ⟨nd, rfl⟩⟩) | (go_at_call 19; (with_reducible refine (bursarref02_Sound.calls t125 t133 _ A15.out).mono ?_); rintro e w' ⟨rfl, ⟨nd, rfl⟩⟩))
            go_meet
            case rel => exact ⟨_, ((t132 != t133)), (by first | rfl | (simp; done) | (simp [*]; done) | (simp [Pu.bne_nil, Pu.beq_nil]; done)), H', ⟨by first | omega | exact Nat.le_refl _⟩, ⟨by repeat (first | (with_reducible first | exact HB.out | apply below_alloc | apply pw_below_drewN | apply below_drew1) | exact HB.out)⟩⟩
          · rw [if_neg c13] at H
            have c13b0 : (t127 == 4) = false := beq_eq_false_iff_ne.mpr c13
            have c13b1 : (t127 != 4) = true := bne_iff_ne.mpr c13
            have H' := Aside0.mk H
            clear H
            go_wp2
            go_meet
            case rel => exact ⟨_, (true), (by first | rfl | (simp; done) | (simp [*]; done) | (simp [Pu.bne_nil, Pu.beq_nil]; done)), H', ⟨by first | omega | exact Nat.le_refl _⟩, ⟨by repeat (first | (with_reducible first | exact HB.out | apply below_alloc | apply pw_below_drewN | apply below_drew1) | exact HB.out)⟩⟩
    · rw [if_neg c8] at H
      have c8b0 : (t126.toList == t128.toList) = false := beq_eq_false_iff_ne.mpr c8
      have c8b1 : (t126.toList != t128.toList) = true := bne_iff_ne.mpr c8
      (first | rw [c8b0] | (simp only [i64_w, i32_w]; rw [c8b0]) | skip)
      have H' := Aside0.mk H
      clear H
      go_wp2
      go_meet
      case rel => exact ⟨_, (true), (by first | rfl | (simp; done) | (simp [*]; done) | (simp [Pu.bne_nil, Pu.beq_nil]; done)), H', ⟨by first | omega | exact Nat.le_refl _⟩, ⟨by repeat (first | (with_reducible first | exact HB.out | apply below_alloc | apply pw_below_drewN | apply below_drew1) | exact HB.out)⟩⟩
  case rest =>
    clear HC5
    try clear c1
    try clear p2
    try clear c5
    try clear c8
    try clear c8b0
    try clear c8b1
    try clear c9
    try clear c9b0
    try clear c9b1
    try clear c9b2
    try clear c10
    try clear c12
    try clear c13
    try clear c13b0
    try clear c13b1
    obtain ⟨kq, x44_4, rfl, HA, HJ4, HB⟩ := hcut
    cases kq with
    | zero => exact absurd HA.out (by simp [bursarlaw02_DigitSounds.j0])
    | succ kj4 =>
      have H := HA.out
      clear HA
      simp only [bursarlaw02_DigitSounds.j0] at H
      by_cases c16 : x44_4 = true
      · subst c16
        have H1 : (none) = some r := by rw [if_pos rfl] at H; exact H
        clear H
        have H := H1
        clear H1
        exact absurd H (by simp)
      · replace c16 := Bool.eq_false_iff.mpr c16
        subst c16
        have H1 : (if t129 = true then (bursarlaw02_DigitSounds.l0 kj4 t125 t126 48) else ((bursarlaw02_awake.f).bind fun t134 => (some t134))) = some r := by rw [if_neg (show ¬ (false = true) by decide)] at H; exact H
        clear H
        have H := H1
        clear H1
        by_cases c17 : t129 = true
        · subst c17
          have H1 : (bursarlaw02_DigitSounds.l0 kj4 t125 t126 48) = some r := by rw [if_pos rfl] at H; exact H
          clear H
          have H := H1
          clear H1
          have H' := Aside0.mk H
          clear H
          go_wp2
          go_loopg [7] kj4 (fun kq v7 w' => ∃ (x7_2 : Int), v7 = .int .u8 x7_2 ∧ Aside0 (bursarlaw02_DigitSounds.l0 kq t125 t126 x7_2 = some r) ∧ Aside0 (kq ≤ kj4) ∧ Aside0 (Below w.heap.size w w'))
          case atStart => exact ⟨(48), (by first | rfl | (simp; done) | (simp [*]; done) | (simp [Pu.bne_nil, Pu.beq_nil]; done)), H', ⟨Nat.le_refl _⟩, ⟨by repeat (first | (with_reducible first | exact HB.out | apply below_alloc | apply pw_below_drewN | apply below_drew1) | exact HB.out)⟩⟩
          case round =>
            clear H'
            try clear c1
            try clear p2
            try clear c5
            try clear c8
            try clear c8b0
            try clear c8b1
            try clear c9
            try clear c9b0
            try clear c9b1
            try clear c9b2
            try clear c10
            try clear c12
            try clear c13
            try clear c13b0
            try clear c13b1
            try clear c16
            try clear c17
            try clear p2
            obtain ⟨x7_2, rfl, HA, HK2, HB⟩ := hrel
            cases gk with
            | zero => exact absurd HA.out (by simp [bursarlaw02_DigitSounds.l0])
            | succ k2 =>
              have H := HA.out
              clear HA
              simp only [bursarlaw02_DigitSounds.l0] at H
              by_cases c18 : x7_2 ≤ 57
              · rw [if_pos c18] at H
                have c18b0 : decide (x7_2 ≤ 57) = true := decide_eq_true c18
                clear c18
                obtain ⟨y135, hy135⟩ : ∃ y_ : List Int, y_ = (([x7_2] : List Int)) := ⟨_, rfl⟩
                replace H : (if t125.size + (strOfNums y135).size ≤ 9223372036854775807 then ((digit_Sound.f (t125 ++ (strOfNums y135))).bind fun t138 => (if (t138 != ((t125 ++ (strOfNums y135)).toList == t126.toList)) = true then (none) else (bursarlaw02_DigitSounds.l0 k2 t125 t126 ((x7_2 + 1) % 256)))) else (none)) = some r := by first | (rw [hy135]; with_reducible exact H) | (have H2_ := (Option.bind_some _ _).symm.trans H; rw [hy135]; with_reducible exact H2_) | (have H2_ := (Option.bind_some _ _).symm.trans H; with_reducible exact H2_) | with_reducible exact H | (rw [hy135]; exact H) | exact H
                have Ny135 := Aside0.mk hy135
                clear hy135
                by_cases c19 : t125.size + (strOfNums y135).size ≤ 9223372036854775807
                · rw [if_pos c19] at H
                  have c19b0 := eq_true c19
                  have c19b1 : decide (t125.size + (strOfNums y135).size ≤ 9223372036854775807) = true := decide_eq_true c19
                  try have c19b2 : (9223372036854775807 < t125.size + (strOfNums y135).size) = False := eq_false (Nat.not_lt.2 c19)
                  replace H := Option.bind_eq_some_iff.mp H
                  obtain ⟨t138, A200, H⟩ := H
                  replace H : (if (t138 != ((t125 ++ (strOfNums y135)).toList == t126.toList)) = true then (none) else (bursarlaw02_DigitSounds.l0 k2 t125 t126 ((x7_2 + 1) % 256))) = some r := H
                  have A20 := Aside0.mk A200
                  clear A200
                  by_cases c21 : (t138 != ((t125 ++ (strOfNums y135)).toList == t126.toList)) = true
                  · rw [if_pos c21] at H
                    exact absurd H (by simp)
                  · rw [if_neg c21] at H
                    have c21b0 : (t138 != ((t125 ++ (strOfNums y135)).toList == t126.toList)) = false := by simpa using c21
                    (try (have c21b1 : decide (t138 = ((t125 ++ (strOfNums y135)).toList == t126.toList)) = true := by simpa using c21))
                    (try (have c21b2 : (t138 == ((t125 ++ (strOfNums y135)).toList == t126.toList)) = true := by simpa using c21))
                    (try (have c21b3 : ((t138 = ((t125 ++ (strOfNums y135)).toList = t126.toList)) = True) := eq_true (by first | (simpa using c21; done) | (intro h_; have g_ := c21; simp [h_] at g_; done) | (have g_ := c21; simp at g_; exact g_))))
                    (try (have c21b4 : ((t138 = ((t125 ++ (strOfNums y135)).toList == t126.toList))) = true := (by first | (have g_ := c21; simp at g_; simp [g_]; done) | (have g_ := c21; simp [Pu.beq_nil] at g_ ⊢; simp [g_]; done) | (have g_ := c21; simp [Pu.beq_nil] at g_ ⊢; exact g_))))
                    clear c21
                    have H' := Aside0.mk H
                    clear H
                    go_wp2_with (first | ((with_reducible refine gate_dst (N := 54) rfl ?_); refine Kd.R_lit (Kd.int .u8) _ 5 ?hg (N := 54) ?hd (xs := ([x7_2] : List Int)) (inner := [.int .u8 x7_2]) (ok := fun _ => True) (okp := fun _ => True) ?hr ?hp (fun _ hk => hk) trivial (Below.refl _ _) (Nat.le_refl _) (by simp) ?_; (case hd => rfl); (case hg => rfl); (case hr => first | (go_simp; done) | (go_simp; rfl)); (case hp => exact (Reps.one (show Kd.M (Kd.int .u8) _ _ _ x7_2 [.int .u8 x7_2] from rfl) (Reps.none _ _))); intro v136 w22 ho23 hb hg_ hnew_; clear hg_ hnew_; (first | rw [← Ny135.out] at ho23 | (simp only [Int.reduceToNat] at ho23; rw [← Ny135.out] at ho23)); have n0_ := Aside0.mk (Kd.R_lower ho23 (below_size (by repeat (first | (with_reducible first | exact HB.out | apply below_alloc | apply pw_below_drewN | apply below_drew1) | exact HB.out)))); have n1_ := Aside0.mk (below_step (by repeat (first | (with_reducible first | exact HB.out | apply below_alloc | apply pw_below_drewN | apply below_drew1) | exact HB.out)) hb); clear HB; have HO137 := n0_; have HB := n1_; clear n0_ n1_; clear hb ho23; have hcv24 := own_string (P := Tryd.prog) Tryd.underlying38 Tryd.underlying5 Tryd.underlying9 (Kd.own_of_R HO137.out)) | ((with_reducible refine gate_callee (f := 18) rfl ?_); refine goesL_ (some 58) rfl rfl Tryd.func18 (by kernel_rfl) rfl #[.string (t125 ++ (strOfNums y135))] rfl (by (try simp only [List.map_toArray, List.map_cons, List.map_nil]); first | done | rfl | (simp only [List.length_drop, List.length_take]; rfl)) ?_; (with_reducible refine (digit_Sound.calls (t125 ++ (strOfNums y135)) t138 _ A20.out).mono ?_); rintro e w' ⟨rfl, ⟨nd, rfl⟩⟩; refine ⟨_, rfl, ?_⟩))
                    go_roundg k2
                    case measure => have := HJ4.out; have := HK2.out; omega
                    case rel => exact ⟨((x7_2 + 1) % 256), (by first | rfl | (simp; done) | (simp [*]; done) | (simp [Pu.bne_nil, Pu.beq_nil]; done)), H', ⟨by have := HJ4.out; have := HK2.out; omega⟩, ⟨by repeat (first | (with_reducible first | exact HB.out | apply below_alloc | apply pw_below_drewN | apply below_drew1) | exact HB.out)⟩⟩
                · rw [if_neg c19] at H
                  exact absurd H (by simp)
              · rw [if_neg c18] at H
                have c18b0 : decide (x7_2 ≤ 57) = false := decide_eq_false c18
                clear c18
                replace H := Option.bind_eq_some_iff.mp H
                obtain ⟨t139, A250, H⟩ := H
                replace H : (some t139) = some r := H
                have A25 := Aside0.mk A250
                clear A250
                obtain rfl := Option.some.inj H
                go_wp2_with (first | ((with_reducible refine gate_callee (f := 9) rfl ?_); refine goesL_ (some 63) rfl rfl Tryd.func9 (by kernel_rfl) rfl #[] rfl (by (try simp only [List.map_toArray, List.map_cons, List.map_nil]); first | done | rfl | (simp only [List.length_drop, List.length_take]; rfl)) ?_; (with_reducible refine (bursarlaw02_awake.calls  t139 _ A25.out).mono ?_); rintro e w26 ⟨rfl, hb⟩; refine ⟨_, rfl, ?_⟩; have n0_ := Aside0.mk (below_step (by repeat (first | (with_reducible first | exact HB.out | apply below_alloc | apply pw_below_drewN | apply below_drew1) | exact HB.out)) hb); clear HB; have HB := n0_; clear n0_; (try clear hb); (try clear hb2); (try clear hk); (try clear hi)))
                go_ret
                exact ⟨by first | rfl | (simp [errW_none, errW_some] <;> rfl) | (simp [*, errW_none, errW_some] <;> rfl), by repeat (first | (with_reducible first | exact HB.out | apply below_alloc | apply pw_below_drewN | apply below_drew1) | exact HB.out)⟩
        · replace c17 := Bool.eq_false_iff.mpr c17
          subst c17
          have H1 : ((bursarlaw02_awake.f).bind fun t134 => (some t134)) = some r := by rw [if_neg (show ¬ (false = true) by decide)] at H; exact H
          clear H
          have H := H1
          clear H1
          replace H := Option.bind_eq_some_iff.mp H
          obtain ⟨t134, A270, H⟩ := H
          replace H : (some t134) = some r := H
          have A27 := Aside0.mk A270
          clear A270
          obtain rfl := Option.some.inj H
          go_wp2_with (first | ((with_reducible refine gate_callee (f := 9) rfl ?_); refine goesL_ (some 47) rfl rfl Tryd.func9 (by kernel_rfl) rfl #[] rfl (by (try simp only [List.map_toArray, List.map_cons, List.map_nil]); first | done | rfl | (simp only [List.length_drop, List.length_take]; rfl)) ?_; (with_reducible refine (bursarlaw02_awake.calls  t134 _ A27.out).mono ?_); rintro e w28 ⟨rfl, hb⟩; refine ⟨_, rfl, ?_⟩; have n0_ := Aside0.mk (below_step (by repeat (first | (with_reducible first | exact HB.out | apply below_alloc | apply pw_below_drewN | apply below_drew1) | exact HB.out)) hb); clear HB; have HB := n0_; clear n0_; (try clear hb); (try clear hb2); (try clear hk); (try clear hi)))
          go_ret
          exact ⟨by first | rfl | (simp [errW_none, errW_some] <;> rfl) | (simp [*, errW_none, errW_some] <;> rfl), by repeat (first | (with_reducible first | exact HB.out | apply below_alloc | apply pw_below_drewN | apply below_drew1) | exact HB.out)⟩

/-- THE ONE PURE STATEMENT of bursarlaw02_DigitSounds: yours. -/
def bursarlaw02_DigitSounds.Pure : Prop := ∀ (a0 : ByteArray), a0.size ≤ 140737488351232 → ∃ k, bursarlaw02_DigitSounds.f k a0 = some true
theorem bursarlaw02_DigitSounds.walk (P : bursarlaw02_DigitSounds.Pure) (a0 : ByteArray) (w : World) (w0 : a0.size ≤ 140737488351232) :
    Calls Tryd.prog 5 #[.string a0] w fun e w' => e = .returned (.bool true) ∧ Below w.heap.size w w' := by
  obtain ⟨k, h⟩ := P a0 w0
  refine (bursarlaw02_DigitSounds.calls k a0 true w h).mono ?_
  rintro e w' ⟨rfl, hd⟩
  exact ⟨rfl, hd⟩

end Go.Proofs.YteghpaomggajdaaDoor.XG
