-- Written by wip/xprint.py, a session's program: printed out of the translation, with hand-written functions. Lean checks it.
import Derived.Test.YteghpaomggajdaaDoorXP0
import Derived.Test.YteghpaomggajdaaDoorXP1
import Derived.Test.YteghpaomggajdaaDoorXP2
namespace Go.Proofs.YteghpaomggajdaaDoor.XP
open Go.RowKit Go.Proofs.YteghpaomggajdaaDoorW.PrintWords Go.Proofs.YteghpaomggajdaaDoorW.PrintLast Go.Proofs.YteghpaomggajdaaDoorW.PrintMore
attribute [local go_sem] max2_int min2_int max_two min_two max_three min_three max_four min_four   -- for this text's walks alone
set_option linter.unusedVariables false
set_option linter.unusedSimpArgs false

/-! ### bursarlaw02_DigitOrder: function 7 -/
mutual
def bursarlaw02_DigitOrder.j0 : Nat → Int → Int → ByteArray → Int → Bool → Option (Bool)
  | 0, _, _, _, _, _ => none
  | k + 1, x0, x7, x8, x9, x56 => if x56 = true then (none) else (if x9 = 0 then (bursarlaw02_DigitOrder.j1 k x0 x7 x8 (x7 == 19)) else (bursarlaw02_DigitOrder.j1 k x0 x7 x8 true))
def bursarlaw02_DigitOrder.j1 : Nat → Int → Int → ByteArray → Bool → Option (Bool)
  | 0, _, _, _, _ => none
  | k + 1, x0, x7, x8, x62 => if x62 = true then ((bursarlaw02_awake.f).bind fun t126 => (some t126)) else ((digit_Put.f x0 (wrap64 (x7 + 1))).bind fun bt127 => (if 1 + x8.size ≤ 9223372036854775807 then (if bt127.1.toList = ((⟨#[48]⟩ : ByteArray) ++ x8).toList then (if bt127.2 = 0 then ((bursarlaw02_awake.f).bind fun t129 => (some t129)) else (none)) else (none)) else (none)))
end
def bursarlaw02_DigitOrder.f (k : Nat) (a0 : Int) (a1 : Int) (a2 : Int) : Option (Bool) := (digit_Put.f a0 (wrap64 (1 + (wrap64 (Int.tmod a2 19))))).bind fun bt122 => ((digit_Put.f a1 (wrap64 (1 + (wrap64 (Int.tmod a2 19))))).bind fun bt124 => (if bt122.2 = 0 then (if bt124.2 = 0 then (if (Op.bytesLess bt122.1.toList bt124.1.toList) = true then (if a0 < a1 then (if (bt122.1.size : Int) = (wrap64 (1 + (wrap64 (Int.tmod a2 19)))) then (bursarlaw02_DigitOrder.j0 k a0 (wrap64 (1 + (wrap64 (Int.tmod a2 19)))) bt122.1 bt122.2 ((bt124.1.size : Int) != (wrap64 (1 + (wrap64 (Int.tmod a2 19)))))) else (bursarlaw02_DigitOrder.j0 k a0 (wrap64 (1 + (wrap64 (Int.tmod a2 19)))) bt122.1 bt122.2 true)) else (bursarlaw02_DigitOrder.j0 k a0 (wrap64 (1 + (wrap64 (Int.tmod a2 19)))) bt122.1 bt122.2 true)) else (if a0 < a1 then (bursarlaw02_DigitOrder.j0 k a0 (wrap64 (1 + (wrap64 (Int.tmod a2 19)))) bt122.1 bt122.2 true) else (if (bt122.1.size : Int) = (wrap64 (1 + (wrap64 (Int.tmod a2 19)))) then (bursarlaw02_DigitOrder.j0 k a0 (wrap64 (1 + (wrap64 (Int.tmod a2 19)))) bt122.1 bt122.2 ((bt124.1.size : Int) != (wrap64 (1 + (wrap64 (Int.tmod a2 19)))))) else (bursarlaw02_DigitOrder.j0 k a0 (wrap64 (1 + (wrap64 (Int.tmod a2 19)))) bt122.1 bt122.2 true)))) else (bursarlaw02_DigitOrder.j0 k a0 (wrap64 (1 + (wrap64 (Int.tmod a2 19)))) bt122.1 bt122.2 false)) else (bursarlaw02_DigitOrder.j0 k a0 (wrap64 (1 + (wrap64 (Int.tmod a2 19)))) bt122.1 bt122.2 false)))
theorem bursarlaw02_DigitOrder.mono_l : ∀ k, (∀ y0 y1 y2 y3 y4, LeO (bursarlaw02_DigitOrder.j0 k y0 y1 y2 y3 y4) (bursarlaw02_DigitOrder.j0 (k + 1) y0 y1 y2 y3 y4)) ∧ (∀ y0 y1 y2 y3, LeO (bursarlaw02_DigitOrder.j1 k y0 y1 y2 y3) (bursarlaw02_DigitOrder.j1 (k + 1) y0 y1 y2 y3))
  | 0 => ⟨fun _ _ _ _ _ r h => by simp [bursarlaw02_DigitOrder.j0] at h, fun _ _ _ _ r h => by simp [bursarlaw02_DigitOrder.j1] at h⟩
  | k + 1 => by
    obtain ⟨ih0, ih1⟩ := bursarlaw02_DigitOrder.mono_l k
    refine ⟨?_, ?_⟩
    · intro y0 y1 y2 y3 y4
      unfold bursarlaw02_DigitOrder.j0
      repeat' first
      | (with_reducible exact ih0 _ _ _ _ _)
      | (with_reducible exact ih1 _ _ _ _)
      | (with_reducible exact LeO.refl _)
      | (with_reducible exact LeO.none _)
      | (with_reducible refine LeO.ite ?_ ?_)
      | (with_reducible refine LeO.bind ?_ (fun _ => ?_))
      | exact ih0 _ _ _ _ _
      | exact ih1 _ _ _ _
      | exact LeO.none _
      | refine LeO.ite ?_ ?_
      | refine LeO.bind ?_ (fun _ => ?_)
    · intro y0 y1 y2 y3
      unfold bursarlaw02_DigitOrder.j1
      repeat' first
      | (with_reducible exact ih0 _ _ _ _ _)
      | (with_reducible exact ih1 _ _ _ _)
      | (with_reducible exact LeO.refl _)
      | (with_reducible exact LeO.none _)
      | (with_reducible refine LeO.ite ?_ ?_)
      | (with_reducible refine LeO.bind ?_ (fun _ => ?_))
      | exact ih0 _ _ _ _ _
      | exact ih1 _ _ _ _
      | exact LeO.none _
      | refine LeO.ite ?_ ?_
      | refine LeO.bind ?_ (fun _ => ?_)
theorem bursarlaw02_DigitOrder.mono : ∀ a0 a1 a2 k, LeO (bursarlaw02_DigitOrder.f k a0 a1 a2) (bursarlaw02_DigitOrder.f (k + 1) a0 a1 a2) := by
  intro a0 a1 a2 k
  obtain ⟨ih0, ih1⟩ := bursarlaw02_DigitOrder.mono_l k
  unfold bursarlaw02_DigitOrder.f
  repeat' first
      | (with_reducible exact ih0 _ _ _ _ _)
      | (with_reducible exact ih1 _ _ _ _)
      | (with_reducible exact LeO.refl _)
      | (with_reducible exact LeO.none _)
      | (with_reducible refine LeO.ite ?_ ?_)
      | (with_reducible refine LeO.bind ?_ (fun _ => ?_))
      | exact ih0 _ _ _ _ _
      | exact ih1 _ _ _ _
      | exact LeO.none _
      | refine LeO.ite ?_ ?_
      | refine LeO.bind ?_ (fun _ => ?_)
set_option maxHeartbeats 8000000 in
set_option maxRecDepth 100000 in
theorem bursarlaw02_DigitOrder.calls (k : Nat) (a0 : Int) (a1 : Int) (a2 : Int) (r : Bool) (w : World) (h : bursarlaw02_DigitOrder.f k a0 a1 a2 = some r) (HT0 : Fu.Tab w) :
    Calls Tryd.prog 7 #[.int .u64 a0, .int .u64 a1, .int .u8 a2] w fun e w' => e = .returned (.bool r) ∧ Below w.heap.size w w' := by
  have HT := Aside0.mk HT0
  clear HT0
  have HB := Aside0.mk (Below.refl w.heap.size w)
  have H : ((digit_Put.f a0 (wrap64 (1 + (wrap64 (Int.tmod a2 19))))).bind fun bt122 => ((digit_Put.f a1 (wrap64 (1 + (wrap64 (Int.tmod a2 19))))).bind fun bt124 => (if bt122.2 = 0 then (if bt124.2 = 0 then (if (Op.bytesLess bt122.1.toList bt124.1.toList) = true then (if a0 < a1 then (if (bt122.1.size : Int) = (wrap64 (1 + (wrap64 (Int.tmod a2 19)))) then (bursarlaw02_DigitOrder.j0 k a0 (wrap64 (1 + (wrap64 (Int.tmod a2 19)))) bt122.1 bt122.2 ((bt124.1.size : Int) != (wrap64 (1 + (wrap64 (Int.tmod a2 19)))))) else (bursarlaw02_DigitOrder.j0 k a0 (wrap64 (1 + (wrap64 (Int.tmod a2 19)))) bt122.1 bt122.2 true)) else (bursarlaw02_DigitOrder.j0 k a0 (wrap64 (1 + (wrap64 (Int.tmod a2 19)))) bt122.1 bt122.2 true)) else (if a0 < a1 then (bursarlaw02_DigitOrder.j0 k a0 (wrap64 (1 + (wrap64 (Int.tmod a2 19)))) bt122.1 bt122.2 true) else (if (bt122.1.size : Int) = (wrap64 (1 + (wrap64 (Int.tmod a2 19)))) then (bursarlaw02_DigitOrder.j0 k a0 (wrap64 (1 + (wrap64 (Int.tmod a2 19)))) bt122.1 bt122.2 ((bt124.1.size : Int) != (wrap64 (1 + (wrap64 (Int.tmod a2 19)))))) else (bursarlaw02_DigitOrder.j0 k a0 (wrap64 (1 + (wrap64 (Int.tmod a2 19)))) bt122.1 bt122.2 true)))) else (bursarlaw02_DigitOrder.j0 k a0 (wrap64 (1 + (wrap64 (Int.tmod a2 19)))) bt122.1 bt122.2 false)) else (bursarlaw02_DigitOrder.j0 k a0 (wrap64 (1 + (wrap64 (Int.tmod a2 19)))) bt122.1 bt122.2 false)))) = some r := h
  clear h
  replace H := Option.bind_eq_some_iff.mp H
  obtain ⟨⟨t122, t123⟩, A40, H⟩ := H
  replace H : ((digit_Put.f a1 (wrap64 (1 + (wrap64 (Int.tmod a2 19))))).bind fun bt124 => (if t123 = 0 then (if bt124.2 = 0 then (if (Op.bytesLess t122.toList bt124.1.toList) = true then (if a0 < a1 then (if (t122.size : Int) = (wrap64 (1 + (wrap64 (Int.tmod a2 19)))) then (bursarlaw02_DigitOrder.j0 k a0 (wrap64 (1 + (wrap64 (Int.tmod a2 19)))) t122 t123 ((bt124.1.size : Int) != (wrap64 (1 + (wrap64 (Int.tmod a2 19)))))) else (bursarlaw02_DigitOrder.j0 k a0 (wrap64 (1 + (wrap64 (Int.tmod a2 19)))) t122 t123 true)) else (bursarlaw02_DigitOrder.j0 k a0 (wrap64 (1 + (wrap64 (Int.tmod a2 19)))) t122 t123 true)) else (if a0 < a1 then (bursarlaw02_DigitOrder.j0 k a0 (wrap64 (1 + (wrap64 (Int.tmod a2 19)))) t122 t123 true) else (if (t122.size : Int) = (wrap64 (1 + (wrap64 (Int.tmod a2 19)))) then (bursarlaw02_DigitOrder.j0 k a0 (wrap64 (1 + (wrap64 (Int.tmod a2 19)))) t122 t123 ((bt124.1.size : Int) != (wrap64 (1 + (wrap64 (Int.tmod a2 19)))))) else (bursarlaw02_DigitOrder.j0 k a0 (wrap64 (1 + (wrap64 (Int.tmod a2 19)))) t122 t123 true)))) else (bursarlaw02_DigitOrder.j0 k a0 (wrap64 (1 + (wrap64 (Int.tmod a2 19)))) t122 t123 false)) else (bursarlaw02_DigitOrder.j0 k a0 (wrap64 (1 + (wrap64 (Int.tmod a2 19)))) t122 t123 false))) = some r := H
  have A4 := Aside0.mk A40
  clear A40
  replace H := Option.bind_eq_some_iff.mp H
  obtain ⟨⟨t124, t125⟩, A50, H⟩ := H
  replace H : (if t123 = 0 then (if t125 = 0 then (if (Op.bytesLess t122.toList t124.toList) = true then (if a0 < a1 then (if (t122.size : Int) = (wrap64 (1 + (wrap64 (Int.tmod a2 19)))) then (bursarlaw02_DigitOrder.j0 k a0 (wrap64 (1 + (wrap64 (Int.tmod a2 19)))) t122 t123 ((t124.size : Int) != (wrap64 (1 + (wrap64 (Int.tmod a2 19)))))) else (bursarlaw02_DigitOrder.j0 k a0 (wrap64 (1 + (wrap64 (Int.tmod a2 19)))) t122 t123 true)) else (bursarlaw02_DigitOrder.j0 k a0 (wrap64 (1 + (wrap64 (Int.tmod a2 19)))) t122 t123 true)) else (if a0 < a1 then (bursarlaw02_DigitOrder.j0 k a0 (wrap64 (1 + (wrap64 (Int.tmod a2 19)))) t122 t123 true) else (if (t122.size : Int) = (wrap64 (1 + (wrap64 (Int.tmod a2 19)))) then (bursarlaw02_DigitOrder.j0 k a0 (wrap64 (1 + (wrap64 (Int.tmod a2 19)))) t122 t123 ((t124.size : Int) != (wrap64 (1 + (wrap64 (Int.tmod a2 19)))))) else (bursarlaw02_DigitOrder.j0 k a0 (wrap64 (1 + (wrap64 (Int.tmod a2 19)))) t122 t123 true)))) else (bursarlaw02_DigitOrder.j0 k a0 (wrap64 (1 + (wrap64 (Int.tmod a2 19)))) t122 t123 false)) else (bursarlaw02_DigitOrder.j0 k a0 (wrap64 (1 + (wrap64 (Int.tmod a2 19)))) t122 t123 false)) = some r := H
  have A5 := Aside0.mk A50
  clear A50
  have HC6 := Aside0.mk H
  clear H
  go_enter Tryd.func7, Tryd.ntmps7
  go_upto_region 4 with (first | ((with_reducible refine gate_callee (f := 8) rfl ?_); refine goesL_ (some 21) rfl rfl Tryd.func8 (by kernel_rfl) rfl #[.int .u64 a0, .int .i64 (wrap64 (1 + (wrap64 (Int.tmod a2 19))))] rfl (by (try simp only [List.map_toArray, List.map_cons, List.map_nil]); first | done | rfl | (simp only [List.length_drop, List.length_take]; rfl)) ?_; (with_reducible refine (digit_Put.calls a0 (wrap64 (1 + (wrap64 (Int.tmod a2 19)))) t122 t123 _ A4.out (fun _ => Fu.tab_below HT.out (by repeat (first | (with_reducible first | exact HB.out | apply below_alloc | apply pw_below_drewN | apply below_drew1) | exact HB.out)))).mono ?_); rintro e w7 ⟨rfl, hb⟩; refine ⟨_, rfl, ?_⟩; have n0_ := Aside0.mk (below_step (by repeat (first | (with_reducible first | exact HB.out | apply below_alloc | apply pw_below_drewN | apply below_drew1) | exact HB.out)) hb); clear HB; have HB := n0_; clear n0_; (try clear hb); (try clear hb2); (try clear hk); (try clear hi)) | ((with_reducible refine gate_callee (f := 8) rfl ?_); refine goesL_ (some 27) rfl rfl Tryd.func8 (by kernel_rfl) rfl #[.int .u64 a1, .int .i64 (wrap64 (1 + (wrap64 (Int.tmod a2 19))))] rfl (by (try simp only [List.map_toArray, List.map_cons, List.map_nil]); first | done | rfl | (simp only [List.length_drop, List.length_take]; rfl)) ?_; (with_reducible refine (digit_Put.calls a1 (wrap64 (1 + (wrap64 (Int.tmod a2 19)))) t124 t125 _ A5.out (fun _ => Fu.tab_below HT.out (by repeat (first | (with_reducible first | exact HB.out | apply below_alloc | apply pw_below_drewN | apply below_drew1) | exact HB.out)))).mono ?_); rintro e w8 ⟨rfl, hb⟩; refine ⟨_, rfl, ?_⟩; have n0_ := Aside0.mk (below_step (by repeat (first | (with_reducible first | exact HB.out | apply below_alloc | apply pw_below_drewN | apply below_drew1) | exact HB.out)) hb); clear HB; have HB := n0_; clear n0_; (try clear hb); (try clear hb2); (try clear hk); (try clear hi)))
  (try simp only [Act.put, List.setIfInBounds_toArray, List.set_cons_zero, List.set_cons_succ])
  go_cut [56] (fun v56 wc => ∃ (kq : Nat) (x56_5 : Bool), v56 = .bool x56_5 ∧ Aside0 (bursarlaw02_DigitOrder.j0 kq a0 (wrap64 (1 + (wrap64 (Int.tmod a2 19)))) t122 t123 x56_5 = some r) ∧ Aside0 (kq ≤ k) ∧ Aside0 (Below w.heap.size w wc))
  case first =>
    have H := HC6.out
    clear HC6
    by_cases c9 : t123 = 0
    · rw [if_pos c9] at H
      have c9b0 : (t123 == 0) = true := beq_iff_eq.mpr c9
      have c9b1 : (t123 != 0) = false := bne_eq_false_iff_eq.mpr c9
      clear c9
      (first | rw [c9b0] | (simp only [i64_w, i32_w]; rw [c9b0]) | skip)
      by_cases c10 : t125 = 0
      · rw [if_pos c10] at H
        have c10b0 : (t125 == 0) = true := beq_iff_eq.mpr c10
        have c10b1 : (t125 != 0) = false := bne_eq_false_iff_eq.mpr c10
        clear c10
        by_cases c11 : (Op.bytesLess t122.toList t124.toList) = true
        · rw [if_pos c11] at H
          have c11b0 : (Op.bytesLess t122.toList t124.toList) = true := c11
          clear c11
          by_cases c12 : a0 < a1
          · rw [if_pos c12] at H
            have c12b0 : decide (a0 < a1) = true := decide_eq_true c12
            clear c12
            by_cases c13 : (t122.size : Int) = (wrap64 (1 + (wrap64 (Int.tmod a2 19))))
            · rw [if_pos c13] at H
              have c13b0 : ((t122.size : Int) == (wrap64 (1 + (wrap64 (Int.tmod a2 19))))) = true := beq_iff_eq.mpr c13
              have c13b1 : ((t122.size : Int) != (wrap64 (1 + (wrap64 (Int.tmod a2 19))))) = false := bne_eq_false_iff_eq.mpr c13
              clear c13
              have H' := Aside0.mk H
              clear H
              go_wp2
              go_meet
              case rel => exact ⟨_, (((t124.size : Int) != (wrap64 (1 + (wrap64 (Int.tmod a2 19)))))), (by first | rfl | (simp; done) | (simp [*]; done) | (simp [Pu.bne_nil, Pu.beq_nil]; done)), H', ⟨by first | omega | exact Nat.le_refl _⟩, ⟨by repeat (first | (with_reducible first | exact HB.out | apply below_alloc | apply pw_below_drewN | apply below_drew1) | exact HB.out)⟩⟩
            · rw [if_neg c13] at H
              have c13b0 : ((t122.size : Int) == (wrap64 (1 + (wrap64 (Int.tmod a2 19))))) = false := beq_eq_false_iff_ne.mpr c13
              have c13b1 : ((t122.size : Int) != (wrap64 (1 + (wrap64 (Int.tmod a2 19))))) = true := bne_iff_ne.mpr c13
              have H' := Aside0.mk H
              clear H
              go_wp2
              go_meet
              case rel => exact ⟨_, (true), (by first | rfl | (simp; done) | (simp [*]; done) | (simp [Pu.bne_nil, Pu.beq_nil]; done)), H', ⟨by first | omega | exact Nat.le_refl _⟩, ⟨by repeat (first | (with_reducible first | exact HB.out | apply below_alloc | apply pw_below_drewN | apply below_drew1) | exact HB.out)⟩⟩
          · rw [if_neg c12] at H
            have c12b0 : decide (a0 < a1) = false := decide_eq_false c12
            clear c12
            have H' := Aside0.mk H
            clear H
            go_wp2
            go_meet
            case rel => exact ⟨_, (true), (by first | rfl | (simp; done) | (simp [*]; done) | (simp [Pu.bne_nil, Pu.beq_nil]; done)), H', ⟨by first | omega | exact Nat.le_refl _⟩, ⟨by repeat (first | (with_reducible first | exact HB.out | apply below_alloc | apply pw_below_drewN | apply below_drew1) | exact HB.out)⟩⟩
        · rw [if_neg c11] at H
          have c11b0 : (Op.bytesLess t122.toList t124.toList) = false := by simpa using c11
          clear c11
          by_cases c14 : a0 < a1
          · rw [if_pos c14] at H
            have c14b0 : decide (a0 < a1) = true := decide_eq_true c14
            clear c14
            have H' := Aside0.mk H
            clear H
            go_wp2
            go_meet
            case rel => exact ⟨_, (true), (by first | rfl | (simp; done) | (simp [*]; done) | (simp [Pu.bne_nil, Pu.beq_nil]; done)), H', ⟨by first | omega | exact Nat.le_refl _⟩, ⟨by repeat (first | (with_reducible first | exact HB.out | apply below_alloc | apply pw_below_drewN | apply below_drew1) | exact HB.out)⟩⟩
          · rw [if_neg c14] at H
            have c14b0 : decide (a0 < a1) = false := decide_eq_false c14
            clear c14
            by_cases c15 : (t122.size : Int) = (wrap64 (1 + (wrap64 (Int.tmod a2 19))))
            · rw [if_pos c15] at H
              have c15b0 : ((t122.size : Int) == (wrap64 (1 + (wrap64 (Int.tmod a2 19))))) = true := beq_iff_eq.mpr c15
              have c15b1 : ((t122.size : Int) != (wrap64 (1 + (wrap64 (Int.tmod a2 19))))) = false := bne_eq_false_iff_eq.mpr c15
              clear c15
              have H' := Aside0.mk H
              clear H
              go_wp2
              go_meet
              case rel => exact ⟨_, (((t124.size : Int) != (wrap64 (1 + (wrap64 (Int.tmod a2 19)))))), (by first | rfl | (simp; done) | (simp [*]; done) | (simp [Pu.bne_nil, Pu.beq_nil]; done)), H', ⟨by first | omega | exact Nat.le_refl _⟩, ⟨by repeat (first | (with_reducible first | exact HB.out | apply below_alloc | apply pw_below_drewN | apply below_drew1) | exact HB.out)⟩⟩
            · rw [if_neg c15] at H
              have c15b0 : ((t122.size : Int) == (wrap64 (1 + (wrap64 (Int.tmod a2 19))))) = false := beq_eq_false_iff_ne.mpr c15
              have c15b1 : ((t122.size : Int) != (wrap64 (1 + (wrap64 (Int.tmod a2 19))))) = true := bne_iff_ne.mpr c15
              have H' := Aside0.mk H
              clear H
              go_wp2
              go_meet
              case rel => exact ⟨_, (true), (by first | rfl | (simp; done) | (simp [*]; done) | (simp [Pu.bne_nil, Pu.beq_nil]; done)), H', ⟨by first | omega | exact Nat.le_refl _⟩, ⟨by repeat (first | (with_reducible first | exact HB.out | apply below_alloc | apply pw_below_drewN | apply below_drew1) | exact HB.out)⟩⟩
      · rw [if_neg c10] at H
        have c10b0 : (t125 == 0) = false := beq_eq_false_iff_ne.mpr c10
        have c10b1 : (t125 != 0) = true := bne_iff_ne.mpr c10
        have H' := Aside0.mk H
        clear H
        go_wp2
        go_meet
        case rel => exact ⟨_, (false), (by first | rfl | (simp; done) | (simp [*]; done) | (simp [Pu.bne_nil, Pu.beq_nil]; done)), H', ⟨by first | omega | exact Nat.le_refl _⟩, ⟨by repeat (first | (with_reducible first | exact HB.out | apply below_alloc | apply pw_below_drewN | apply below_drew1) | exact HB.out)⟩⟩
    · rw [if_neg c9] at H
      have c9b0 : (t123 == 0) = false := beq_eq_false_iff_ne.mpr c9
      have c9b1 : (t123 != 0) = true := bne_iff_ne.mpr c9
      (first | rw [c9b0] | (simp only [i64_w, i32_w]; rw [c9b0]) | skip)
      have H' := Aside0.mk H
      clear H
      go_wp2
      go_meet
      case rel => exact ⟨_, (false), (by first | rfl | (simp; done) | (simp [*]; done) | (simp [Pu.bne_nil, Pu.beq_nil]; done)), H', ⟨by first | omega | exact Nat.le_refl _⟩, ⟨by repeat (first | (with_reducible first | exact HB.out | apply below_alloc | apply pw_below_drewN | apply below_drew1) | exact HB.out)⟩⟩
  case rest =>
    clear HC6
    try clear c1
    try clear p2
    try clear p6
    try clear c7
    try clear c8
    try clear c9
    try clear c9b0
    try clear c9b1
    try clear c10
    try clear c10b0
    try clear c10b1
    try clear c11
    try clear c11b0
    try clear c12
    try clear c12b0
    try clear c13
    try clear c13b0
    try clear c13b1
    try clear c14
    try clear c14b0
    try clear c15
    try clear c15b0
    try clear c15b1
    obtain ⟨kq, x56_5, rfl, HA, HJ5, HB⟩ := hcut
    cases kq with
    | zero => exact absurd HA.out (by simp [bursarlaw02_DigitOrder.j0])
    | succ kj5 =>
      have H := HA.out
      clear HA
      simp only [bursarlaw02_DigitOrder.j0] at H
      by_cases c16 : x56_5 = true
      · subst c16
        have H1 : (none) = some r := by rw [if_pos rfl] at H; exact H
        clear H
        have H := H1
        clear H1
        exact absurd H (by simp)
      · replace c16 := Bool.eq_false_iff.mpr c16
        subst c16
        have H1 : (if t123 = 0 then (bursarlaw02_DigitOrder.j1 kj5 a0 (wrap64 (1 + (wrap64 (Int.tmod a2 19)))) t122 ((wrap64 (1 + (wrap64 (Int.tmod a2 19)))) == 19)) else (bursarlaw02_DigitOrder.j1 kj5 a0 (wrap64 (1 + (wrap64 (Int.tmod a2 19)))) t122 true)) = some r := by rw [if_neg (show ¬ (false = true) by decide)] at H; exact H
        clear H
        have H := H1
        clear H1
        have HC17 := Aside0.mk H
        clear H
        go_upto_region 6 with (fail)
        go_cut [62] (fun v62 wc => ∃ (kq : Nat) (x62_16 : Bool), v62 = .bool x62_16 ∧ Aside0 (bursarlaw02_DigitOrder.j1 kq a0 (wrap64 (1 + (wrap64 (Int.tmod a2 19)))) t122 x62_16 = some r) ∧ Aside0 (kq ≤ kj5) ∧ Aside0 (Below w.heap.size w wc))
        case first =>
          have H := HC17.out
          clear HC17
          by_cases c18 : t123 = 0
          · rw [if_pos c18] at H
            have c18b0 : (t123 == 0) = true := beq_iff_eq.mpr c18
            have c18b1 : (t123 != 0) = false := bne_eq_false_iff_eq.mpr c18
            clear c18
            (first | rw [c18b0] | (simp only [i64_w, i32_w]; rw [c18b0]) | skip)
            have H' := Aside0.mk H
            clear H
            go_wp2
            go_meet
            case rel => exact ⟨_, (((wrap64 (1 + (wrap64 (Int.tmod a2 19)))) == 19)), (by first | rfl | (simp; done) | (simp [*]; done) | (simp [Pu.bne_nil, Pu.beq_nil]; done)), H', ⟨by have := HJ5.out; first | omega | exact Nat.le_refl _⟩, ⟨by repeat (first | (with_reducible first | exact HB.out | apply below_alloc | apply pw_below_drewN | apply below_drew1) | exact HB.out)⟩⟩
          · rw [if_neg c18] at H
            have c18b0 : (t123 == 0) = false := beq_eq_false_iff_ne.mpr c18
            have c18b1 : (t123 != 0) = true := bne_iff_ne.mpr c18
            (first | rw [c18b0] | (simp only [i64_w, i32_w]; rw [c18b0]) | skip)
            have H' := Aside0.mk H
            clear H
            go_wp2
            go_meet
            case rel => exact ⟨_, (true), (by first | rfl | (simp; done) | (simp [*]; done) | (simp [Pu.bne_nil, Pu.beq_nil]; done)), H', ⟨by have := HJ5.out; first | omega | exact Nat.le_refl _⟩, ⟨by repeat (first | (with_reducible first | exact HB.out | apply below_alloc | apply pw_below_drewN | apply below_drew1) | exact HB.out)⟩⟩
        case rest =>
          clear HC17
          try clear c1
          try clear p2
          try clear p6
          try clear c7
          try clear c8
          try clear c9
          try clear c9b0
          try clear c9b1
          try clear c10
          try clear c10b0
          try clear c10b1
          try clear c11
          try clear c11b0
          try clear c12
          try clear c12b0
          try clear c13
          try clear c13b0
          try clear c13b1
          try clear c14
          try clear c14b0
          try clear c15
          try clear c15b0
          try clear c15b1
          try clear c16
          try clear c18
          try clear c18b0
          try clear c18b1
          try clear p2
          try clear p6
          obtain ⟨kq, x62_16, rfl, HA, HJ16, HB⟩ := hcut
          cases kq with
          | zero => exact absurd HA.out (by simp [bursarlaw02_DigitOrder.j1])
          | succ kj16 =>
            have H := HA.out
            clear HA
            simp only [bursarlaw02_DigitOrder.j1] at H
            by_cases c19 : x62_16 = true
            · subst c19
              have H1 : ((bursarlaw02_awake.f).bind fun t126 => (some t126)) = some r := by rw [if_pos rfl] at H; exact H
              clear H
              have H := H1
              clear H1
              replace H := Option.bind_eq_some_iff.mp H
              obtain ⟨t126, A200, H⟩ := H
              replace H : (some t126) = some r := H
              have A20 := Aside0.mk A200
              clear A200
              obtain rfl := Option.some.inj H
              go_wp2_with (first | ((with_reducible refine gate_callee (f := 9) rfl ?_); refine goesL_ (some 63) rfl rfl Tryd.func9 (by kernel_rfl) rfl #[] rfl (by (try simp only [List.map_toArray, List.map_cons, List.map_nil]); first | done | rfl | (simp only [List.length_drop, List.length_take]; rfl)) ?_; (with_reducible refine (bursarlaw02_awake.calls  t126 _ A20.out).mono ?_); rintro e w21 ⟨rfl, hb⟩; refine ⟨_, rfl, ?_⟩; have n0_ := Aside0.mk (below_step (by repeat (first | (with_reducible first | exact HB.out | apply below_alloc | apply pw_below_drewN | apply below_drew1) | exact HB.out)) hb); clear HB; have HB := n0_; clear n0_; (try clear hb); (try clear hb2); (try clear hk); (try clear hi)))
              go_ret
              exact ⟨by first | rfl | (simp [errW_none, errW_some] <;> rfl) | (simp [*, errW_none, errW_some] <;> rfl), by repeat (first | (with_reducible first | exact HB.out | apply below_alloc | apply pw_below_drewN | apply below_drew1) | exact HB.out)⟩
            · replace c19 := Bool.eq_false_iff.mpr c19
              subst c19
              have H1 : ((digit_Put.f a0 (wrap64 ((wrap64 (1 + (wrap64 (Int.tmod a2 19)))) + 1))).bind fun bt127 => (if 1 + t122.size ≤ 9223372036854775807 then (if bt127.1.toList = ((⟨#[48]⟩ : ByteArray) ++ t122).toList then (if bt127.2 = 0 then ((bursarlaw02_awake.f).bind fun t129 => (some t129)) else (none)) else (none)) else (none))) = some r := by rw [if_neg (show ¬ (false = true) by decide)] at H; exact H
              clear H
              have H := H1
              clear H1
              replace H := Option.bind_eq_some_iff.mp H
              obtain ⟨⟨t127, t128⟩, A220, H⟩ := H
              replace H : (if 1 + t122.size ≤ 9223372036854775807 then (if t127.toList = ((⟨#[48]⟩ : ByteArray) ++ t122).toList then (if t128 = 0 then ((bursarlaw02_awake.f).bind fun t129 => (some t129)) else (none)) else (none)) else (none)) = some r := H
              have A22 := Aside0.mk A220
              clear A220
              by_cases c23 : 1 + t122.size ≤ 9223372036854775807
              · rw [if_pos c23] at H
                have c23b0 := eq_true c23
                have c23b1 : decide (1 + t122.size ≤ 9223372036854775807) = true := decide_eq_true c23
                try have c23b2 : (9223372036854775807 < 1 + t122.size) = False := eq_false (Nat.not_lt.2 c23)
                by_cases c24 : t127.toList = ((⟨#[48]⟩ : ByteArray) ++ t122).toList
                · rw [if_pos c24] at H
                  have c24b0 : (t127.toList == ((⟨#[48]⟩ : ByteArray) ++ t122).toList) = true := beq_iff_eq.mpr c24
                  have c24b1 : (t127.toList != ((⟨#[48]⟩ : ByteArray) ++ t122).toList) = false := bne_eq_false_iff_eq.mpr c24
                  clear c24
                  by_cases c25 : t128 = 0
                  · rw [if_pos c25] at H
                    have c25b0 : (t128 == 0) = true := beq_iff_eq.mpr c25
                    have c25b1 : (t128 != 0) = false := bne_eq_false_iff_eq.mpr c25
                    clear c25
                    replace H := Option.bind_eq_some_iff.mp H
                    obtain ⟨t129, A260, H⟩ := H
                    replace H : (some t129) = some r := H
                    have A26 := Aside0.mk A260
                    clear A260
                    obtain rfl := Option.some.inj H
                    go_wp2_with (first | ((with_reducible refine gate_callee (f := 8) rfl ?_); refine goesL_ (some 68) rfl rfl Tryd.func8 (by kernel_rfl) rfl #[.int .u64 a0, .int .i64 (wrap64 ((wrap64 (1 + (wrap64 (Int.tmod a2 19)))) + 1))] rfl (by (try simp only [List.map_toArray, List.map_cons, List.map_nil]); first | done | rfl | (simp only [List.length_drop, List.length_take]; rfl)) ?_; (with_reducible refine (digit_Put.calls a0 (wrap64 ((wrap64 (1 + (wrap64 (Int.tmod a2 19)))) + 1)) t127 t128 _ A22.out (fun _ => Fu.tab_below HT.out (by repeat (first | (with_reducible first | exact HB.out | apply below_alloc | apply pw_below_drewN | apply below_drew1) | exact HB.out)))).mono ?_); rintro e w27 ⟨rfl, hb⟩; refine ⟨_, rfl, ?_⟩; have n0_ := Aside0.mk (below_step (by repeat (first | (with_reducible first | exact HB.out | apply below_alloc | apply pw_below_drewN | apply below_drew1) | exact HB.out)) hb); clear HB; have HB := n0_; clear n0_; (try clear hb); (try clear hb2); (try clear hk); (try clear hi)) | (go_at_call 9; (with_reducible refine (bursarlaw02_awake.calls  t129 _ A26.out).mono ?_); rintro e w28 ⟨rfl, hb⟩; have n0_ := Aside0.mk (below_step (by repeat (first | (with_reducible first | exact HB.out | apply below_alloc | apply pw_below_drewN | apply below_drew1) | exact HB.out)) hb); clear HB; have HB := n0_; clear n0_; (try clear hb); (try clear hb2); (try clear hk); (try clear hi)))
                    go_ret
                    exact ⟨by first | rfl | (simp [errW_none, errW_some] <;> rfl) | (simp [*, errW_none, errW_some] <;> rfl), by repeat (first | (with_reducible first | exact HB.out | apply below_alloc | apply pw_below_drewN | apply below_drew1) | exact HB.out)⟩
                  · rw [if_neg c25] at H
                    exact absurd H (by simp)
                · rw [if_neg c24] at H
                  exact absurd H (by simp)
              · rw [if_neg c23] at H
                exact absurd H (by simp)

/-- THE ONE PURE STATEMENT of bursarlaw02_DigitOrder: yours. -/
def bursarlaw02_DigitOrder.Pure : Prop := ∀ (a0 : Int) (a1 : Int) (a2 : Int), (Lit.int .u64 a0).wf = true → (Lit.int .u64 a1).wf = true → (Lit.int .u8 a2).wf = true → ∃ k, bursarlaw02_DigitOrder.f k a0 a1 a2 = some true
theorem bursarlaw02_DigitOrder.walk (P : bursarlaw02_DigitOrder.Pure) (a0 : Int) (a1 : Int) (a2 : Int) (w : World) (w0 : (Lit.int .u64 a0).wf = true) (w1 : (Lit.int .u64 a1).wf = true) (w2 : (Lit.int .u8 a2).wf = true) (HT : Fu.Tab w) :
    Calls Tryd.prog 7 #[.int .u64 a0, .int .u64 a1, .int .u8 a2] w fun e w' => e = .returned (.bool true) ∧ Below w.heap.size w w' := by
  obtain ⟨k, h⟩ := P a0 a1 a2 w0 w1 w2
  refine (bursarlaw02_DigitOrder.calls k a0 a1 a2 true w h HT).mono ?_
  rintro e w' ⟨rfl, hd⟩
  exact ⟨rfl, hd⟩

end Go.Proofs.YteghpaomggajdaaDoor.XP
