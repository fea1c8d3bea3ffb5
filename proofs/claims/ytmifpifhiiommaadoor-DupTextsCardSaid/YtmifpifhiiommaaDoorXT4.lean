-- Written by wip/xprint.py, a session's program: printed out of the translation, with hand-written functions. Lean checks it.
import Derived.Test.YtmifpifhiiommaaDoorXT0
import Derived.Test.YtmifpifhiiommaaDoorXT3
namespace Go.Proofs.YtmifpifhiiommaaDoor.XT
open Go.RowKit Go.Proofs.YtmifpifhiiommaaDoorW.PrintWords Go.Proofs.YtmifpifhiiommaaDoorW.PrintLast Go.Proofs.YtmifpifhiiommaaDoorW.PrintMore
attribute [local go_sem] max2_int min2_int max_two min_two max_three min_three max_four min_four   -- for this text's walks alone
set_option linter.unusedVariables false
set_option linter.unusedSimpArgs false

/-! ### dup_may_p: function 13 -/
def dup_may_p.j0 : Nat → Bool → Int → ByteArray → ByteArray → ByteArray → Int → Option (Bool)
  | 0, _, _, _, _, _, _ => none
  | k + 1, x20, x107000, x107001, x107002, x107003, x107004 => if x20 = true then (some false) else (if (x107001.size : Int) = 35 then ((dup_letters.f x107001).bind fun t107 => (if t107 = true then (if (x107002.size : Int) = 2 then ((digit_All.f x107002).bind fun t108 => (if t108 = true then (if (x107003.size : Int) = 6 then ((digit_All.f x107003).bind fun t109 => (some t109)) else (some false)) else (some false))) else (some false)) else (some false))) else (some false))
def dup_may_p.f (k : Nat) (a0_0 : Int) (a0_1 : ByteArray) (a0_2 : ByteArray) (a0_3 : ByteArray) (a0_4 : Int) : Option (Bool) := if a0_0 < 1 then (dup_may_p.j0 k true a0_0 a0_1 a0_2 a0_3 a0_4) else (if a0_0 > 2147483647 then (dup_may_p.j0 k true a0_0 a0_1 a0_2 a0_3 a0_4) else (if a0_4 < 0 then (dup_may_p.j0 k true a0_0 a0_1 a0_2 a0_3 a0_4) else (dup_may_p.j0 k (decide (a0_4 > 2147483647)) a0_0 a0_1 a0_2 a0_3 a0_4)))
theorem dup_may_p.mono_l : ∀ k, (∀ y0 y1 y2 y3 y4 y5, LeO (dup_may_p.j0 k y0 y1 y2 y3 y4 y5) (dup_may_p.j0 (k + 1) y0 y1 y2 y3 y4 y5))
  | 0 => fun _ _ _ _ _ _ r h => by simp [dup_may_p.j0] at h
  | k + 1 => by
    have ih0 := dup_may_p.mono_l k
    · intro y0 y1 y2 y3 y4 y5
      unfold dup_may_p.j0
      repeat' first
      | (with_reducible exact ih0 _ _ _ _ _ _)
      | (with_reducible exact LeO.refl _)
      | (with_reducible exact LeO.none _)
      | (with_reducible refine LeO.ite ?_ ?_)
      | (with_reducible refine LeO.bind ?_ (fun _ => ?_))
      | exact ih0 _ _ _ _ _ _
      | exact LeO.none _
      | refine LeO.ite ?_ ?_
      | refine LeO.bind ?_ (fun _ => ?_)
theorem dup_may_p.mono : ∀ a0 a1 a2 a3 a4 k, LeO (dup_may_p.f k a0 a1 a2 a3 a4) (dup_may_p.f (k + 1) a0 a1 a2 a3 a4) := by
  intro a0 a1 a2 a3 a4 k
  have ih0 := dup_may_p.mono_l k
  unfold dup_may_p.f
  repeat' first
      | (with_reducible exact ih0 _ _ _ _ _ _)
      | (with_reducible exact LeO.refl _)
      | (with_reducible exact LeO.none _)
      | (with_reducible refine LeO.ite ?_ ?_)
      | (with_reducible refine LeO.bind ?_ (fun _ => ?_))
      | exact ih0 _ _ _ _ _ _
      | exact LeO.none _
      | refine LeO.ite ?_ ?_
      | refine LeO.bind ?_ (fun _ => ?_)
set_option maxHeartbeats 8000000 in
set_option maxRecDepth 100000 in
theorem dup_may_p.calls (k : Nat) (a0_0 : Int) (a0_1 : ByteArray) (a0_2 : ByteArray) (a0_3 : ByteArray) (a0_4 : Int) (r : Bool) (w : World) (h : dup_may_p.f k a0_0 a0_1 a0_2 a0_3 a0_4 = some r) :
    Calls Tryd.prog 13 #[.agg #[.int .i64 a0_0, .string a0_1, .string a0_2, .string a0_3, .int .i64 a0_4]] w fun e w' => e = .returned (.bool r) ∧ Below w.heap.size w w' := by
  have hu23 := Tryd.underlying23
  have HB := Aside0.mk (Below.refl w.heap.size w)
  have H : (if a0_0 < 1 then (dup_may_p.j0 k true a0_0 a0_1 a0_2 a0_3 a0_4) else (if a0_0 > 2147483647 then (dup_may_p.j0 k true a0_0 a0_1 a0_2 a0_3 a0_4) else (if a0_4 < 0 then (dup_may_p.j0 k true a0_0 a0_1 a0_2 a0_3 a0_4) else (dup_may_p.j0 k (decide (a0_4 > 2147483647)) a0_0 a0_1 a0_2 a0_3 a0_4)))) = some r := h
  clear h
  have HC2 := Aside0.mk H
  clear H
  go_enter Tryd.func13, Tryd.ntmps13
  go_upto_region 1 with (first | ((with_reducible refine gate_dst (N := 1) rfl ?_); (try (refine gate_guard (by rfl) ?_; dsimp only)); refine box_event ?hg (N := 1) ?hd (cs := #[.int .i64 a0_0, .string a0_1, .string a0_2, .string a0_3, .int .i64 a0_4]) (t := 23) ?hr ?_; (case hd => rfl); (case hg => rfl); (case hr => first | (go_simp; done) | (go_simp; rfl)); intro gb106 hg w3 hbox hb; have n0_ := Aside0.mk (below_step (by repeat (first | (with_reducible first | exact HB.out | apply below_alloc | apply pw_below_drewN | apply below_drew1) | exact HB.out)) hb); have n1_ := Aside0.mk (hbox); have n2_ := Aside0.mk ((by rw [hg]; exact (below_size (by repeat (first | (with_reducible first | exact HB.out | apply below_alloc | apply pw_below_drewN | apply below_drew1) | exact HB.out))) : w.heap.size ≤ gb106)); have n3_ := Aside0.mk ((by rw [hg]; exact (below_size (by repeat (first | (with_reducible first | exact HB.out | apply below_alloc | apply pw_below_drewN | apply below_drew1) | exact HB.out))) : w.heap.size ≤ gb106)); clear HB; have HB := n0_; have BK106 := n1_; have GW106 := n2_; have GE106 := n3_; clear n0_ n1_ n2_ n3_; clear hb hbox hg))
  (try simp only [Act.put, List.setIfInBounds_toArray, List.set_cons_zero, List.set_cons_succ])
  go_cut [20] (fun v20 wc => ∃ (kq : Nat) (x20_1 : Bool), v20 = .bool x20_1 ∧ Aside0 (dup_may_p.j0 kq x20_1 a0_0 a0_1 a0_2 a0_3 a0_4 = some r) ∧ Aside0 (kq ≤ k) ∧ Aside0 (wc.heap[gb106]? = some (.cells #[.int .i64 a0_0, .string a0_1, .string a0_2, .string a0_3, .int .i64 a0_4] 23 (0, 0))) ∧ Aside0 (Below w.heap.size w wc))
  case first =>
    have H := HC2.out
    clear HC2
    by_cases c4 : a0_0 < 1
    · rw [if_pos c4] at H
      have c4b0 : decide (a0_0 < 1) = true := decide_eq_true c4
      clear c4
      (first | rw [c4b0] | (simp only [i64_w, i32_w]; rw [c4b0]) | skip)
      have H' := Aside0.mk H
      clear H
      have hcz5_0 := blk_cell BK106.out
      have hfz5_0 := blk_frozen BK106.out
      go_wp2
      go_meet
      case rel => exact ⟨_, (true), (by first | rfl | (simp; done) | (simp [*]; done) | (simp [Pu.bne_nil, Pu.beq_nil]; done)), H', ⟨by first | omega | exact Nat.le_refl _⟩, ⟨by (with_reducible repeat (first | refine blk_drewN ?_ _ | refine blk_drew ?_ | refine blk_alloc ?_ _)); exact BK106.out⟩, ⟨by repeat (first | (with_reducible first | exact HB.out | apply below_alloc | apply pw_below_drewN | apply below_drew1 | refine below_set ?_ GE106.out) | exact HB.out)⟩⟩
    · rw [if_neg c4] at H
      have c4b0 : decide (a0_0 < 1) = false := decide_eq_false c4
      clear c4
      (first | rw [c4b0] | (simp only [i64_w, i32_w]; rw [c4b0]) | skip)
      by_cases c6 : a0_0 > 2147483647
      · rw [if_pos c6] at H
        have c6b0 : decide (2147483647 < a0_0) = true := decide_eq_true c6
        clear c6
        have H' := Aside0.mk H
        clear H
        have hcz7_0 := blk_cell BK106.out
        have hfz7_0 := blk_frozen BK106.out
        go_wp2
        go_meet
        case rel => exact ⟨_, (true), (by first | rfl | (simp; done) | (simp [*]; done) | (simp [Pu.bne_nil, Pu.beq_nil]; done)), H', ⟨by first | omega | exact Nat.le_refl _⟩, ⟨by (with_reducible repeat (first | refine blk_drewN ?_ _ | refine blk_drew ?_ | refine blk_alloc ?_ _)); exact BK106.out⟩, ⟨by repeat (first | (with_reducible first | exact HB.out | apply below_alloc | apply pw_below_drewN | apply below_drew1 | refine below_set ?_ GE106.out) | exact HB.out)⟩⟩
      · rw [if_neg c6] at H
        have c6b0 : decide (2147483647 < a0_0) = false := decide_eq_false c6
        clear c6
        by_cases c8 : a0_4 < 0
        · rw [if_pos c8] at H
          have c8b0 : decide (a0_4 < 0) = true := decide_eq_true c8
          clear c8
          have H' := Aside0.mk H
          clear H
          have hcz9_0 := blk_cell BK106.out
          have hfz9_0 := blk_frozen BK106.out
          go_wp2
          go_meet
          case rel => exact ⟨_, (true), (by first | rfl | (simp; done) | (simp [*]; done) | (simp [Pu.bne_nil, Pu.beq_nil]; done)), H', ⟨by first | omega | exact Nat.le_refl _⟩, ⟨by (with_reducible repeat (first | refine blk_drewN ?_ _ | refine blk_drew ?_ | refine blk_alloc ?_ _)); exact BK106.out⟩, ⟨by repeat (first | (with_reducible first | exact HB.out | apply below_alloc | apply pw_below_drewN | apply below_drew1 | refine below_set ?_ GE106.out) | exact HB.out)⟩⟩
        · rw [if_neg c8] at H
          have c8b0 : decide (a0_4 < 0) = false := decide_eq_false c8
          clear c8
          have H' := Aside0.mk H
          clear H
          have hcz10_0 := blk_cell BK106.out
          have hfz10_0 := blk_frozen BK106.out
          go_wp2
          go_meet
          case rel => exact ⟨_, (decide (a0_4 > 2147483647)), (by first | rfl | (simp; done) | (simp [*]; done) | (simp [Pu.bne_nil, Pu.beq_nil]; done)), H', ⟨by first | omega | exact Nat.le_refl _⟩, ⟨by (with_reducible repeat (first | refine blk_drewN ?_ _ | refine blk_drew ?_ | refine blk_alloc ?_ _)); exact BK106.out⟩, ⟨by repeat (first | (with_reducible first | exact HB.out | apply below_alloc | apply pw_below_drewN | apply below_drew1 | refine below_set ?_ GE106.out) | exact HB.out)⟩⟩
  case rest =>
    clear HC2
    try clear c1
    try clear p2
    try clear c4
    try clear c4b0
    try clear c6
    try clear c6b0
    try clear c8
    try clear c8b0
    try clear hcz10_0
    try clear hcz5_0
    try clear hcz7_0
    try clear hcz9_0
    try clear hfz10_0
    try clear hfz5_0
    try clear hfz7_0
    try clear hfz9_0
    obtain ⟨kq, x20_1, rfl, HA, HJ1, BK106, HB⟩ := hcut
    cases kq with
    | zero => exact absurd HA.out (by simp [dup_may_p.j0])
    | succ kj1 =>
      have H := HA.out
      clear HA
      simp only [dup_may_p.j0] at H
      by_cases c11 : x20_1 = true
      · subst c11
        have H1 : (some false) = some r := by rw [if_pos rfl] at H; exact H
        clear H
        have H := H1
        clear H1
        obtain rfl := Option.some.inj H
        go_wp2
        go_ret
        exact ⟨by first | rfl | (simp [errW_none, errW_some] <;> rfl) | (simp [*, errW_none, errW_some] <;> rfl), by repeat (first | (with_reducible first | exact HB.out | apply below_alloc | apply pw_below_drewN | apply below_drew1 | refine below_set ?_ GE106.out) | exact HB.out)⟩
      · replace c11 := Bool.eq_false_iff.mpr c11
        subst c11
        have H1 : (if (a0_1.size : Int) = 35 then ((dup_letters.f a0_1).bind fun t107 => (if t107 = true then (if (a0_2.size : Int) = 2 then ((digit_All.f a0_2).bind fun t108 => (if t108 = true then (if (a0_3.size : Int) = 6 then ((digit_All.f a0_3).bind fun t109 => (some t109)) else (some false)) else (some false))) else (some false)) else (some false))) else (some false)) = some r := by rw [if_neg (show ¬ (false = true) by decide)] at H; exact H
        clear H
        have H := H1
        clear H1
        by_cases c12 : (a0_1.size : Int) = 35
        · rw [if_pos c12] at H
          have c12b0 : ((a0_1.size : Int) == 35) = true := beq_iff_eq.mpr c12
          have c12b1 : ((a0_1.size : Int) != 35) = false := bne_eq_false_iff_eq.mpr c12
          clear c12
          replace H := Option.bind_eq_some_iff.mp H
          obtain ⟨t107, A130, H⟩ := H
          replace H : (if t107 = true then (if (a0_2.size : Int) = 2 then ((digit_All.f a0_2).bind fun t108 => (if t108 = true then (if (a0_3.size : Int) = 6 then ((digit_All.f a0_3).bind fun t109 => (some t109)) else (some false)) else (some false))) else (some false)) else (some false)) = some r := H
          have A13 := Aside0.mk A130
          clear A130
          by_cases c14 : t107 = true
          · subst c14
            have H1 : (if (a0_2.size : Int) = 2 then ((digit_All.f a0_2).bind fun t108 => (if t108 = true then (if (a0_3.size : Int) = 6 then ((digit_All.f a0_3).bind fun t109 => (some t109)) else (some false)) else (some false))) else (some false)) = some r := by rw [if_pos rfl] at H; exact H
            clear H
            have H := H1
            clear H1
            by_cases c15 : (a0_2.size : Int) = 2
            · rw [if_pos c15] at H
              have c15b0 : ((a0_2.size : Int) == 2) = true := beq_iff_eq.mpr c15
              have c15b1 : ((a0_2.size : Int) != 2) = false := bne_eq_false_iff_eq.mpr c15
              clear c15
              replace H := Option.bind_eq_some_iff.mp H
              obtain ⟨t108, A160, H⟩ := H
              replace H : (if t108 = true then (if (a0_3.size : Int) = 6 then ((digit_All.f a0_3).bind fun t109 => (some t109)) else (some false)) else (some false)) = some r := H
              have A16 := Aside0.mk A160
              clear A160
              by_cases c17 : t108 = true
              · subst c17
                have H1 : (if (a0_3.size : Int) = 6 then ((digit_All.f a0_3).bind fun t109 => (some t109)) else (some false)) = some r := by rw [if_pos rfl] at H; exact H
                clear H
                have H := H1
                clear H1
                by_cases c18 : (a0_3.size : Int) = 6
                · rw [if_pos c18] at H
                  have c18b0 : ((a0_3.size : Int) == 6) = true := beq_iff_eq.mpr c18
                  have c18b1 : ((a0_3.size : Int) != 6) = false := bne_eq_false_iff_eq.mpr c18
                  clear c18
                  replace H := Option.bind_eq_some_iff.mp H
                  obtain ⟨t109, A190, H⟩ := H
                  replace H : (some t109) = some r := H
                  have A19 := Aside0.mk A190
                  clear A190
                  obtain rfl := Option.some.inj H
                  have hcz20_0 := blk_cell BK106.out
                  have hfz20_0 := blk_frozen BK106.out
                  go_wp2_with (first | (go_at_call 24; (with_reducible refine (dup_letters.calls a0_1 true _ A13.out).mono ?_); rintro e w21 ⟨rfl, hb⟩; have n0_ := Aside0.mk (blk_below (g := gb106) (o := .cells #[.int .i64 a0_0, .string a0_1, .string a0_2, .string a0_3, .int .i64 a0_4] 23 (0, 0)) (by (with_reducible repeat (first | refine blk_drewN ?_ _ | refine blk_drew ?_ | refine blk_alloc ?_ _)); exact BK106.out) hb); have n1_ := Aside0.mk (below_step (by repeat (first | (with_reducible first | exact HB.out | apply below_alloc | apply pw_below_drewN | apply below_drew1 | refine below_set ?_ GE106.out) | exact HB.out)) hb); clear BK106; clear HB; have BK106 := n0_; have HB := n1_; clear n0_ n1_; (try clear hb); (try clear hb2); (try clear hk); (try clear hi); have hcz22_0 := blk_cell BK106.out; have hfz22_0 := blk_frozen BK106.out) | (go_at_call 22; (with_reducible refine (digit_All.calls a0_2 true _ A16.out).mono ?_); rintro e w' ⟨rfl, ⟨nd, rfl⟩⟩) | (go_at_call 22; (with_reducible refine (digit_All.calls a0_3 t109 _ A19.out).mono ?_); rintro e w' ⟨rfl, ⟨nd, rfl⟩⟩))
                  go_ret
                  exact ⟨by first | rfl | (simp [errW_none, errW_some] <;> rfl) | (simp [*, errW_none, errW_some] <;> rfl), by repeat (first | (with_reducible first | exact HB.out | apply below_alloc | apply pw_below_drewN | apply below_drew1 | refine below_set ?_ GE106.out) | exact HB.out)⟩
                · rw [if_neg c18] at H
                  have c18b0 : ((a0_3.size : Int) == 6) = false := beq_eq_false_iff_ne.mpr c18
                  have c18b1 : ((a0_3.size : Int) != 6) = true := bne_iff_ne.mpr c18
                  obtain rfl := Option.some.inj H
                  have hcz23_0 := blk_cell BK106.out
                  have hfz23_0 := blk_frozen BK106.out
                  go_wp2_with (first | (go_at_call 24; (with_reducible refine (dup_letters.calls a0_1 true _ A13.out).mono ?_); rintro e w24 ⟨rfl, hb⟩; have n0_ := Aside0.mk (blk_below (g := gb106) (o := .cells #[.int .i64 a0_0, .string a0_1, .string a0_2, .string a0_3, .int .i64 a0_4] 23 (0, 0)) (by (with_reducible repeat (first | refine blk_drewN ?_ _ | refine blk_drew ?_ | refine blk_alloc ?_ _)); exact BK106.out) hb); have n1_ := Aside0.mk (below_step (by repeat (first | (with_reducible first | exact HB.out | apply below_alloc | apply pw_below_drewN | apply below_drew1 | refine below_set ?_ GE106.out) | exact HB.out)) hb); clear BK106; clear HB; have BK106 := n0_; have HB := n1_; clear n0_ n1_; (try clear hb); (try clear hb2); (try clear hk); (try clear hi); have hcz25_0 := blk_cell BK106.out; have hfz25_0 := blk_frozen BK106.out) | (go_at_call 22; (with_reducible refine (digit_All.calls a0_2 true _ A16.out).mono ?_); rintro e w' ⟨rfl, ⟨nd, rfl⟩⟩))
                  go_ret
                  exact ⟨by first | rfl | (simp [errW_none, errW_some] <;> rfl) | (simp [*, errW_none, errW_some] <;> rfl), by repeat (first | (with_reducible first | exact HB.out | apply below_alloc | apply pw_below_drewN | apply below_drew1 | refine below_set ?_ GE106.out) | exact HB.out)⟩
              · replace c17 := Bool.eq_false_iff.mpr c17
                subst c17
                have H1 : (some false) = some r := by rw [if_neg (show ¬ (false = true) by decide)] at H; exact H
                clear H
                have H := H1
                clear H1
                obtain rfl := Option.some.inj H
                have hcz26_0 := blk_cell BK106.out
                have hfz26_0 := blk_frozen BK106.out
                go_wp2_with (first | (go_at_call 24; (with_reducible refine (dup_letters.calls a0_1 true _ A13.out).mono ?_); rintro e w27 ⟨rfl, hb⟩; have n0_ := Aside0.mk (blk_below (g := gb106) (o := .cells #[.int .i64 a0_0, .string a0_1, .string a0_2, .string a0_3, .int .i64 a0_4] 23 (0, 0)) (by (with_reducible repeat (first | refine blk_drewN ?_ _ | refine blk_drew ?_ | refine blk_alloc ?_ _)); exact BK106.out) hb); have n1_ := Aside0.mk (below_step (by repeat (first | (with_reducible first | exact HB.out | apply below_alloc | apply pw_below_drewN | apply below_drew1 | refine below_set ?_ GE106.out) | exact HB.out)) hb); clear BK106; clear HB; have BK106 := n0_; have HB := n1_; clear n0_ n1_; (try clear hb); (try clear hb2); (try clear hk); (try clear hi); have hcz28_0 := blk_cell BK106.out; have hfz28_0 := blk_frozen BK106.out) | (go_at_call 22; (with_reducible refine (digit_All.calls a0_2 false _ A16.out).mono ?_); rintro e w' ⟨rfl, ⟨nd, rfl⟩⟩))
                go_ret
                exact ⟨by first | rfl | (simp [errW_none, errW_some] <;> rfl) | (simp [*, errW_none, errW_some] <;> rfl), by repeat (first | (with_reducible first | exact HB.out | apply below_alloc | apply pw_below_drewN | apply below_drew1 | refine below_set ?_ GE106.out) | exact HB.out)⟩
            · rw [if_neg c15] at H
              have c15b0 : ((a0_2.size : Int) == 2) = false := beq_eq_false_iff_ne.mpr c15
              have c15b1 : ((a0_2.size : Int) != 2) = true := bne_iff_ne.mpr c15
              obtain rfl := Option.some.inj H
              have hcz29_0 := blk_cell BK106.out
              have hfz29_0 := blk_frozen BK106.out
              go_wp2_with (first | (go_at_call 24; (with_reducible refine (dup_letters.calls a0_1 true _ A13.out).mono ?_); rintro e w30 ⟨rfl, hb⟩; have n0_ := Aside0.mk (blk_below (g := gb106) (o := .cells #[.int .i64 a0_0, .string a0_1, .string a0_2, .string a0_3, .int .i64 a0_4] 23 (0, 0)) (by (with_reducible repeat (first | refine blk_drewN ?_ _ | refine blk_drew ?_ | refine blk_alloc ?_ _)); exact BK106.out) hb); have n1_ := Aside0.mk (below_step (by repeat (first | (with_reducible first | exact HB.out | apply below_alloc | apply pw_below_drewN | apply below_drew1 | refine below_set ?_ GE106.out) | exact HB.out)) hb); clear BK106; clear HB; have BK106 := n0_; have HB := n1_; clear n0_ n1_; (try clear hb); (try clear hb2); (try clear hk); (try clear hi); have hcz31_0 := blk_cell BK106.out; have hfz31_0 := blk_frozen BK106.out))
              go_ret
              exact ⟨by first | rfl | (simp [errW_none, errW_some] <;> rfl) | (simp [*, errW_none, errW_some] <;> rfl), by repeat (first | (with_reducible first | exact HB.out | apply below_alloc | apply pw_below_drewN | apply below_drew1 | refine below_set ?_ GE106.out) | exact HB.out)⟩
          · replace c14 := Bool.eq_false_iff.mpr c14
            subst c14
            have H1 : (some false) = some r := by rw [if_neg (show ¬ (false = true) by decide)] at H; exact H
            clear H
            have H := H1
            clear H1
            obtain rfl := Option.some.inj H
            have hcz32_0 := blk_cell BK106.out
            have hfz32_0 := blk_frozen BK106.out
            go_wp2_with (first | (go_at_call 24; (with_reducible refine (dup_letters.calls a0_1 false _ A13.out).mono ?_); rintro e w33 ⟨rfl, hb⟩; have n0_ := Aside0.mk (blk_below (g := gb106) (o := .cells #[.int .i64 a0_0, .string a0_1, .string a0_2, .string a0_3, .int .i64 a0_4] 23 (0, 0)) (by (with_reducible repeat (first | refine blk_drewN ?_ _ | refine blk_drew ?_ | refine blk_alloc ?_ _)); exact BK106.out) hb); have n1_ := Aside0.mk (below_step (by repeat (first | (with_reducible first | exact HB.out | apply below_alloc | apply pw_below_drewN | apply below_drew1 | refine below_set ?_ GE106.out) | exact HB.out)) hb); clear BK106; clear HB; have BK106 := n0_; have HB := n1_; clear n0_ n1_; (try clear hb); (try clear hb2); (try clear hk); (try clear hi)))
            go_ret
            exact ⟨by first | rfl | (simp [errW_none, errW_some] <;> rfl) | (simp [*, errW_none, errW_some] <;> rfl), by repeat (first | (with_reducible first | exact HB.out | apply below_alloc | apply pw_below_drewN | apply below_drew1 | refine below_set ?_ GE106.out) | exact HB.out)⟩
        · rw [if_neg c12] at H
          have c12b0 : ((a0_1.size : Int) == 35) = false := beq_eq_false_iff_ne.mpr c12
          have c12b1 : ((a0_1.size : Int) != 35) = true := bne_iff_ne.mpr c12
          obtain rfl := Option.some.inj H
          have hcz34_0 := blk_cell BK106.out
          have hfz34_0 := blk_frozen BK106.out
          go_wp2
          go_ret
          exact ⟨by first | rfl | (simp [errW_none, errW_some] <;> rfl) | (simp [*, errW_none, errW_some] <;> rfl), by repeat (first | (with_reducible first | exact HB.out | apply below_alloc | apply pw_below_drewN | apply below_drew1 | refine below_set ?_ GE106.out) | exact HB.out)⟩

/-! #### dup_may, refined -/
theorem dup_may_j (b : Bool) (n : Int) (k c a : ByteArray) (t : Int) : dup_may_p.j0 1 b n k c a t = some (!b && (decide (k.size = 35) && Dp.lettB k && decide (c.size = 2) && Pu.allD c && decide (a.size = 6) && Pu.allD a)) := by
  simp only [dup_may_p.j0, dup_letters.f, digit_All.f, Option.bind_some]
  cases b
  · by_cases h1 : k.size = 35
    · rw [if_neg (by simp), if_pos (by omega), decide_eq_true h1]
      cases hl : Dp.lettB k
      · simp
      · by_cases h2 : c.size = 2
        · rw [if_pos rfl, if_pos (by omega), if_pos (by omega), decide_eq_true h2, Option.bind_some]
          cases hc : Pu.allD c
          · simp
          · by_cases h3 : a.size = 6
            · rw [if_pos rfl, if_pos (by omega), if_pos (by omega), decide_eq_true h3, Option.bind_some]; simp
            · rw [if_pos rfl, if_neg (by omega), decide_eq_false h3]; simp
        · rw [if_pos rfl, if_neg (by omega), decide_eq_false h2]; simp
    · rw [if_neg (by simp), if_neg (by omega), decide_eq_false h1]; simp
  · rw [if_pos rfl]; rfl
theorem dup_may_e (n : Int) (k c a : ByteArray) (t : Int) : dup_may_p.f 1 n k c a t = some (Dp.oneB n k c a t) := by
  unfold dup_may_p.f Dp.oneB
  simp only [dup_may_j]
  by_cases h1 : n < 1
  · rw [if_pos h1, decide_eq_false (by omega : ¬ 1 ≤ n)]; simp
  · rw [if_neg h1, decide_eq_true (by omega : 1 ≤ n)]
    by_cases h2 : n > 2147483647
    · rw [if_pos h2, decide_eq_false (by omega : ¬ n ≤ 2147483647)]; simp
    · rw [if_neg h2, decide_eq_true (by omega : n ≤ 2147483647)]
      by_cases h3 : t < 0
      · rw [if_pos h3, decide_eq_false (by omega : ¬ 0 ≤ t)]; simp
      · rw [if_neg h3, decide_eq_true (by omega : 0 ≤ t)]
        by_cases h4 : t > 2147483647
        · rw [decide_eq_true h4, decide_eq_false (by omega : ¬ t ≤ 2147483647)]; simp
        · rw [decide_eq_false h4, decide_eq_true (by omega : t ≤ 2147483647)]; simp [Bool.and_assoc]
def dup_may.f (a0_0 : Int) (a0_1 a0_2 a0_3 : ByteArray) (a0_4 : Int) : Option Bool := some (Dp.oneB a0_0 a0_1 a0_2 a0_3 a0_4)
theorem dup_may.calls (a0_0 : Int) (a0_1 : ByteArray) (a0_2 : ByteArray) (a0_3 : ByteArray) (a0_4 : Int) (r : Bool) (w : World) (h : dup_may.f a0_0 a0_1 a0_2 a0_3 a0_4 = some r) :
    Calls Tryd.prog 13 #[.agg #[.int .i64 a0_0, .string a0_1, .string a0_2, .string a0_3, .int .i64 a0_4]] w fun e w' => e = .returned (.bool r) ∧ Below w.heap.size w w' :=
  dup_may_p.calls 1 a0_0 a0_1 a0_2 a0_3 a0_4 r w ((dup_may_e a0_0 a0_1 a0_2 a0_3 a0_4).trans h)


end Go.Proofs.YtmifpifhiiommaaDoor.XT
