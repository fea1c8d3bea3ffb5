-- Written by wip/xprint.py, a session's program: printed out of the translation, with hand-written functions. Lean checks it.
import Derived.Test.YtmifpifhiiommaaDoorXT0
import Derived.Test.YtmifpifhiiommaaDoorXT6
namespace Go.Proofs.YtmifpifhiiommaaDoor.XT
open Go.RowKit Go.Proofs.YtmifpifhiiommaaDoorW.PrintWords Go.Proofs.YtmifpifhiiommaaDoorW.PrintLast Go.Proofs.YtmifpifhiiommaaDoorW.PrintMore
attribute [local go_sem] max2_int min2_int max_two min_two max_three min_three max_four min_four   -- for this text's walks alone
set_option linter.unusedVariables false
set_option linter.unusedSimpArgs false

/-! ### bursarref21_One: function 9 -/
def bursarref21_One.l0 : Nat → Int → Int → ByteArray → ByteArray → ByteArray → Int → Option (Bool)
  | 0, _, _, _, _, _, _ => none
  | k + 1, x3, x116000, x116001, x116002, x116003, x116004 => if x3 < (x116001.size : Int) then (if 0 ≤ x3 then (if 48 ≤ (bt x116001 x3) then (if ((bt x116001 x3) ≤ 57) then (bursarref21_One.l0 k (wrap64 (x3 + 1)) x116000 x116001 x116002 x116003 x116004) else (if 65 ≤ (bt x116001 x3) then (if ((bt x116001 x3) ≤ 90) then (bursarref21_One.l0 k (wrap64 (x3 + 1)) x116000 x116001 x116002 x116003 x116004) else (some false)) else (some false))) else (if 65 ≤ (bt x116001 x3) then (if ((bt x116001 x3) ≤ 90) then (bursarref21_One.l0 k (wrap64 (x3 + 1)) x116000 x116001 x116002 x116003 x116004) else (some false)) else (some false))) else (none)) else (if 1 ≤ x116000 then (if x116000 ≤ 2147483647 then (if (x116001.size : Int) = 35 then (if (x116002.size : Int) = 2 then ((bursarref02_All.f x116002).bind fun t116 => (if t116 = true then (if (x116003.size : Int) = 6 then ((bursarref02_All.f x116003).bind fun t117 => (if t117 = true then (if 0 ≤ x116004 then (some (decide (x116004 ≤ 2147483647))) else (some false)) else (some false))) else (some false)) else (some false))) else (some false)) else (some false)) else (some false)) else (some false))
def bursarref21_One.f (k : Nat) (a0_0 : Int) (a0_1 : ByteArray) (a0_2 : ByteArray) (a0_3 : ByteArray) (a0_4 : Int) : Option (Bool) := bursarref21_One.l0 k 0 a0_0 a0_1 a0_2 a0_3 a0_4
theorem bursarref21_One.mono_l : ∀ k, (∀ y0 y1 y2 y3 y4 y5, LeO (bursarref21_One.l0 k y0 y1 y2 y3 y4 y5) (bursarref21_One.l0 (k + 1) y0 y1 y2 y3 y4 y5))
  | 0 => fun _ _ _ _ _ _ r h => by simp [bursarref21_One.l0] at h
  | k + 1 => by
    have ih0 := bursarref21_One.mono_l k
    · intro y0 y1 y2 y3 y4 y5
      unfold bursarref21_One.l0
      repeat' first
      | (with_reducible exact ih0 _ _ _ _ _ _)
      | (with_reducible exact LeO.refl _)
      | (with_reducible exact LeO.none _)
      | (with_reducible refine LeO.ite ?_ ?_)
      | (with_reducible refine LeO.bind ?_ (fun _ => ?_))
      | exact ih0 _ _ _ _ _ _
      | exact LeO.none _
      | refine LeO.ite ?_ ?_
      | refine LeO.bind ?_ (fun _ => ?_)
theorem bursarref21_One.mono : ∀ a0 a1 a2 a3 a4 k, LeO (bursarref21_One.f k a0 a1 a2 a3 a4) (bursarref21_One.f (k + 1) a0 a1 a2 a3 a4) := by
  intro a0 a1 a2 a3 a4 k
  have ih0 := bursarref21_One.mono_l k
  unfold bursarref21_One.f
  repeat' first
      | (with_reducible exact ih0 _ _ _ _ _ _)
      | (with_reducible exact LeO.refl _)
      | (with_reducible exact LeO.none _)
      | (with_reducible refine LeO.ite ?_ ?_)
      | (with_reducible refine LeO.bind ?_ (fun _ => ?_))
      | exact ih0 _ _ _ _ _ _
      | exact LeO.none _
      | refine LeO.ite ?_ ?_
      | refine LeO.bind ?_ (fun _ => ?_)
set_option maxHeartbeats 8000000 in
set_option maxRecDepth 100000 in
theorem bursarref21_One.calls (k : Nat) (a0_0 : Int) (a0_1 : ByteArray) (a0_2 : ByteArray) (a0_3 : ByteArray) (a0_4 : Int) (r : Bool) (w : World) (h : bursarref21_One.f k a0_0 a0_1 a0_2 a0_3 a0_4 = some r) :
    Calls Tryd.prog 9 #[.agg #[.int .i64 a0_0, .string a0_1, .string a0_2, .string a0_3, .int .i64 a0_4]] w fun e w' => e = .returned (.bool r) ∧ Below w.heap.size w w' := by
  have hu23 := Tryd.underlying23
  have HB := Aside0.mk (Below.refl w.heap.size w)
  have H : (bursarref21_One.l0 k 0 a0_0 a0_1 a0_2 a0_3 a0_4) = some r := h
  clear h
  have H' := Aside0.mk H
  clear H
  go_enter Tryd.func9, Tryd.ntmps9
  go_wp2_with (first | ((with_reducible refine gate_dst (N := 1) rfl ?_); (try (refine gate_guard (by rfl) ?_; dsimp only)); refine box_event ?hg (N := 1) ?hd (cs := #[.int .i64 a0_0, .string a0_1, .string a0_2, .string a0_3, .int .i64 a0_4]) (t := 23) ?hr ?_; (case hd => rfl); (case hg => rfl); (case hr => first | (go_simp; done) | (go_simp; rfl)); intro gb115 hg w2 hbox hb; have n0_ := Aside0.mk (below_step (by repeat (first | (with_reducible first | exact HB.out | apply below_alloc | apply pw_below_drewN | apply below_drew1) | exact HB.out)) hb); have n1_ := Aside0.mk (hbox); have n2_ := Aside0.mk ((by rw [hg]; exact (below_size (by repeat (first | (with_reducible first | exact HB.out | apply below_alloc | apply pw_below_drewN | apply below_drew1) | exact HB.out))) : w.heap.size ≤ gb115)); have n3_ := Aside0.mk ((by rw [hg]; exact (below_size (by repeat (first | (with_reducible first | exact HB.out | apply below_alloc | apply pw_below_drewN | apply below_drew1) | exact HB.out))) : w.heap.size ≤ gb115)); clear HB; have HB := n0_; have BK115 := n1_; have GW115 := n2_; have GE115 := n3_; clear n0_ n1_ n2_ n3_; clear hb hbox hg))
  go_loopg [3] k (fun kq v3 w' => ∃ (x3_1 : Int), v3 = .int .i64 x3_1 ∧ Aside0 (bursarref21_One.l0 kq x3_1 a0_0 a0_1 a0_2 a0_3 a0_4 = some r) ∧ Aside0 (kq ≤ k) ∧ Aside0 (w'.heap[gb115]? = some (.cells #[.int .i64 a0_0, .string a0_1, .string a0_2, .string a0_3, .int .i64 a0_4] 23 (0, 0))) ∧ Aside0 (Below w.heap.size w w'))
  case atStart => exact ⟨(0), (by first | rfl | (simp; done) | (simp [*]; done) | (simp [Pu.bne_nil, Pu.beq_nil]; done)), H', ⟨Nat.le_refl _⟩, ⟨by (with_reducible repeat (first | refine blk_drewN ?_ _ | refine blk_drew ?_ | refine blk_alloc ?_ _)); exact BK115.out⟩, ⟨by repeat (first | (with_reducible first | exact HB.out | apply below_alloc | apply pw_below_drewN | apply below_drew1 | refine below_set ?_ GE115.out) | exact HB.out)⟩⟩
  case round =>
    clear H'
    try clear p2
    obtain ⟨x3_1, rfl, HA, HK1, BK115, HB⟩ := hrel
    cases gk with
    | zero => exact absurd HA.out (by simp [bursarref21_One.l0])
    | succ k1 =>
      have H := HA.out
      clear HA
      simp only [bursarref21_One.l0] at H
      by_cases c3 : x3_1 < (a0_1.size : Int)
      · rw [if_pos c3] at H
        have c3b0 : decide (x3_1 < (a0_1.size : Int)) = true := decide_eq_true c3
        clear c3
        by_cases c4 : 0 ≤ x3_1
        · rw [if_pos c4] at H
          have c4b0 : decide (0 ≤ x3_1) = true := decide_eq_true c4
          clear c4
          by_cases c6 : 48 ≤ (bt a0_1 x3_1)
          · rw [if_pos c6] at H
            have c6b0 : decide (48 ≤ (bt a0_1 x3_1)) = true := decide_eq_true c6
            clear c6
            by_cases c7 : ((bt a0_1 x3_1) ≤ 57)
            · rw [if_pos c7] at H
              have c7b0 : decide ((bt a0_1 x3_1) ≤ 57) = true := decide_eq_true c7
              clear c7
              have H' := Aside0.mk H
              clear H
              have hcz8_0 := blk_cell BK115.out
              have hfz8_0 := blk_frozen BK115.out
              have p5 : 0 ≤ (x3_1 : Int) := of_decide_eq_true (by first | (with_reducible assumption) | assumption)
              have q5 : x3_1 < (a0_1.size : Int) := of_decide_eq_true (by first | (with_reducible assumption) | assumption)
              have hx5 := bt_at a0_1 x3_1
              replace p5 := eq_true p5
              replace q5 := eq_true q5
              go_wp2
              go_roundg k1
              case measure => have := HK1.out; omega
              case rel => exact ⟨(wrap64 (x3_1 + 1)), (by first | rfl | (simp; done) | (simp [*]; done) | (simp [Pu.bne_nil, Pu.beq_nil]; done)), H', ⟨by have := HK1.out; omega⟩, ⟨by (with_reducible repeat (first | refine blk_drewN ?_ _ | refine blk_drew ?_ | refine blk_alloc ?_ _)); exact BK115.out⟩, ⟨by repeat (first | (with_reducible first | exact HB.out | apply below_alloc | apply pw_below_drewN | apply below_drew1 | refine below_set ?_ GE115.out) | exact HB.out)⟩⟩
            · rw [if_neg c7] at H
              have c7b0 : decide ((bt a0_1 x3_1) ≤ 57) = false := decide_eq_false c7
              clear c7
              by_cases c9 : 65 ≤ (bt a0_1 x3_1)
              · rw [if_pos c9] at H
                have c9b0 : decide (65 ≤ (bt a0_1 x3_1)) = true := decide_eq_true c9
                clear c9
                by_cases c10 : ((bt a0_1 x3_1) ≤ 90)
                · rw [if_pos c10] at H
                  have c10b0 : decide ((bt a0_1 x3_1) ≤ 90) = true := decide_eq_true c10
                  clear c10
                  have H' := Aside0.mk H
                  clear H
                  have hcz11_0 := blk_cell BK115.out
                  have hfz11_0 := blk_frozen BK115.out
                  have p5 : 0 ≤ (x3_1 : Int) := of_decide_eq_true (by first | (with_reducible assumption) | assumption)
                  have q5 : x3_1 < (a0_1.size : Int) := of_decide_eq_true (by first | (with_reducible assumption) | assumption)
                  have hx5 := bt_at a0_1 x3_1
                  replace p5 := eq_true p5
                  replace q5 := eq_true q5
                  go_wp2
                  go_roundg k1
                  case measure => have := HK1.out; omega
                  case rel => exact ⟨(wrap64 (x3_1 + 1)), (by first | rfl | (simp; done) | (simp [*]; done) | (simp [Pu.bne_nil, Pu.beq_nil]; done)), H', ⟨by have := HK1.out; omega⟩, ⟨by (with_reducible repeat (first | refine blk_drewN ?_ _ | refine blk_drew ?_ | refine blk_alloc ?_ _)); exact BK115.out⟩, ⟨by repeat (first | (with_reducible first | exact HB.out | apply below_alloc | apply pw_below_drewN | apply below_drew1 | refine below_set ?_ GE115.out) | exact HB.out)⟩⟩
                · rw [if_neg c10] at H
                  have c10b0 : decide ((bt a0_1 x3_1) ≤ 90) = false := decide_eq_false c10
                  clear c10
                  obtain rfl := Option.some.inj H
                  have hcz12_0 := blk_cell BK115.out
                  have hfz12_0 := blk_frozen BK115.out
                  have p5 : 0 ≤ (x3_1 : Int) := of_decide_eq_true (by first | (with_reducible assumption) | assumption)
                  have q5 : x3_1 < (a0_1.size : Int) := of_decide_eq_true (by first | (with_reducible assumption) | assumption)
                  have hx5 := bt_at a0_1 x3_1
                  replace p5 := eq_true p5
                  replace q5 := eq_true q5
                  go_wp2
                  go_ret
                  exact ⟨by first | rfl | (simp [errW_none, errW_some] <;> rfl) | (simp [*, errW_none, errW_some] <;> rfl), by repeat (first | (with_reducible first | exact HB.out | apply below_alloc | apply pw_below_drewN | apply below_drew1 | refine below_set ?_ GE115.out) | exact HB.out)⟩
              · rw [if_neg c9] at H
                have c9b0 : decide (65 ≤ (bt a0_1 x3_1)) = false := decide_eq_false c9
                clear c9
                obtain rfl := Option.some.inj H
                have hcz13_0 := blk_cell BK115.out
                have hfz13_0 := blk_frozen BK115.out
                have p5 : 0 ≤ (x3_1 : Int) := of_decide_eq_true (by first | (with_reducible assumption) | assumption)
                have q5 : x3_1 < (a0_1.size : Int) := of_decide_eq_true (by first | (with_reducible assumption) | assumption)
                have hx5 := bt_at a0_1 x3_1
                replace p5 := eq_true p5
                replace q5 := eq_true q5
                go_wp2
                go_ret
                exact ⟨by first | rfl | (simp [errW_none, errW_some] <;> rfl) | (simp [*, errW_none, errW_some] <;> rfl), by repeat (first | (with_reducible first | exact HB.out | apply below_alloc | apply pw_below_drewN | apply below_drew1 | refine below_set ?_ GE115.out) | exact HB.out)⟩
          · rw [if_neg c6] at H
            have c6b0 : decide (48 ≤ (bt a0_1 x3_1)) = false := decide_eq_false c6
            clear c6
            by_cases c14 : 65 ≤ (bt a0_1 x3_1)
            · rw [if_pos c14] at H
              have c14b0 : decide (65 ≤ (bt a0_1 x3_1)) = true := decide_eq_true c14
              clear c14
              by_cases c15 : ((bt a0_1 x3_1) ≤ 90)
              · rw [if_pos c15] at H
                have c15b0 : decide ((bt a0_1 x3_1) ≤ 90) = true := decide_eq_true c15
                clear c15
                have H' := Aside0.mk H
                clear H
                have hcz16_0 := blk_cell BK115.out
                have hfz16_0 := blk_frozen BK115.out
                have p5 : 0 ≤ (x3_1 : Int) := of_decide_eq_true (by first | (with_reducible assumption) | assumption)
                have q5 : x3_1 < (a0_1.size : Int) := of_decide_eq_true (by first | (with_reducible assumption) | assumption)
                have hx5 := bt_at a0_1 x3_1
                replace p5 := eq_true p5
                replace q5 := eq_true q5
                go_wp2
                go_roundg k1
                case measure => have := HK1.out; omega
                case rel => exact ⟨(wrap64 (x3_1 + 1)), (by first | rfl | (simp; done) | (simp [*]; done) | (simp [Pu.bne_nil, Pu.beq_nil]; done)), H', ⟨by have := HK1.out; omega⟩, ⟨by (with_reducible repeat (first | refine blk_drewN ?_ _ | refine blk_drew ?_ | refine blk_alloc ?_ _)); exact BK115.out⟩, ⟨by repeat (first | (with_reducible first | exact HB.out | apply below_alloc | apply pw_below_drewN | apply below_drew1 | refine below_set ?_ GE115.out) | exact HB.out)⟩⟩
              · rw [if_neg c15] at H
                have c15b0 : decide ((bt a0_1 x3_1) ≤ 90) = false := decide_eq_false c15
                clear c15
                obtain rfl := Option.some.inj H
                have hcz17_0 := blk_cell BK115.out
                have hfz17_0 := blk_frozen BK115.out
                have p5 : 0 ≤ (x3_1 : Int) := of_decide_eq_true (by first | (with_reducible assumption) | assumption)
                have q5 : x3_1 < (a0_1.size : Int) := of_decide_eq_true (by first | (with_reducible assumption) | assumption)
                have hx5 := bt_at a0_1 x3_1
                replace p5 := eq_true p5
                replace q5 := eq_true q5
                go_wp2
                go_ret
                exact ⟨by first | rfl | (simp [errW_none, errW_some] <;> rfl) | (simp [*, errW_none, errW_some] <;> rfl), by repeat (first | (with_reducible first | exact HB.out | apply below_alloc | apply pw_below_drewN | apply below_drew1 | refine below_set ?_ GE115.out) | exact HB.out)⟩
            · rw [if_neg c14] at H
              have c14b0 : decide (65 ≤ (bt a0_1 x3_1)) = false := decide_eq_false c14
              clear c14
              obtain rfl := Option.some.inj H
              have hcz18_0 := blk_cell BK115.out
              have hfz18_0 := blk_frozen BK115.out
              have p5 : 0 ≤ (x3_1 : Int) := of_decide_eq_true (by first | (with_reducible assumption) | assumption)
              have q5 : x3_1 < (a0_1.size : Int) := of_decide_eq_true (by first | (with_reducible assumption) | assumption)
              have hx5 := bt_at a0_1 x3_1
              replace p5 := eq_true p5
              replace q5 := eq_true q5
              go_wp2
              go_ret
              exact ⟨by first | rfl | (simp [errW_none, errW_some] <;> rfl) | (simp [*, errW_none, errW_some] <;> rfl), by repeat (first | (with_reducible first | exact HB.out | apply below_alloc | apply pw_below_drewN | apply below_drew1 | refine below_set ?_ GE115.out) | exact HB.out)⟩
        · rw [if_neg c4] at H
          exact absurd H (by simp)
      · rw [if_neg c3] at H
        have c3b0 : decide (x3_1 < (a0_1.size : Int)) = false := decide_eq_false c3
        clear c3
        by_cases c19 : 1 ≤ a0_0
        · rw [if_pos c19] at H
          have c19b0 : decide (1 ≤ a0_0) = true := decide_eq_true c19
          clear c19
          by_cases c20 : a0_0 ≤ 2147483647
          · rw [if_pos c20] at H
            have c20b0 : decide (a0_0 ≤ 2147483647) = true := decide_eq_true c20
            clear c20
            by_cases c21 : (a0_1.size : Int) = 35
            · rw [if_pos c21] at H
              have c21b0 : ((a0_1.size : Int) == 35) = true := beq_iff_eq.mpr c21
              have c21b1 : ((a0_1.size : Int) != 35) = false := bne_eq_false_iff_eq.mpr c21
              clear c21
              by_cases c22 : (a0_2.size : Int) = 2
              · rw [if_pos c22] at H
                have c22b0 : ((a0_2.size : Int) == 2) = true := beq_iff_eq.mpr c22
                have c22b1 : ((a0_2.size : Int) != 2) = false := bne_eq_false_iff_eq.mpr c22
                clear c22
                replace H := Option.bind_eq_some_iff.mp H
                obtain ⟨t116, A230, H⟩ := H
                replace H : (if t116 = true then (if (a0_3.size : Int) = 6 then ((bursarref02_All.f a0_3).bind fun t117 => (if t117 = true then (if 0 ≤ a0_4 then (some (decide (a0_4 ≤ 2147483647))) else (some false)) else (some false))) else (some false)) else (some false)) = some r := H
                have A23 := Aside0.mk A230
                clear A230
                by_cases c24 : t116 = true
                · subst c24
                  have H1 : (if (a0_3.size : Int) = 6 then ((bursarref02_All.f a0_3).bind fun t117 => (if t117 = true then (if 0 ≤ a0_4 then (some (decide (a0_4 ≤ 2147483647))) else (some false)) else (some false))) else (some false)) = some r := by rw [if_pos rfl] at H; exact H
                  clear H
                  have H := H1
                  clear H1
                  by_cases c25 : (a0_3.size : Int) = 6
                  · rw [if_pos c25] at H
                    have c25b0 : ((a0_3.size : Int) == 6) = true := beq_iff_eq.mpr c25
                    have c25b1 : ((a0_3.size : Int) != 6) = false := bne_eq_false_iff_eq.mpr c25
                    clear c25
                    replace H := Option.bind_eq_some_iff.mp H
                    obtain ⟨t117, A260, H⟩ := H
                    replace H : (if t117 = true then (if 0 ≤ a0_4 then (some (decide (a0_4 ≤ 2147483647))) else (some false)) else (some false)) = some r := H
                    have A26 := Aside0.mk A260
                    clear A260
                    by_cases c27 : t117 = true
                    · subst c27
                      have H1 : (if 0 ≤ a0_4 then (some (decide (a0_4 ≤ 2147483647))) else (some false)) = some r := by rw [if_pos rfl] at H; exact H
                      clear H
                      have H := H1
                      clear H1
                      by_cases c28 : 0 ≤ a0_4
                      · rw [if_pos c28] at H
                        have c28b0 : decide (0 ≤ a0_4) = true := decide_eq_true c28
                        clear c28
                        obtain rfl := Option.some.inj H
                        have hcz29_0 := blk_cell BK115.out
                        have hfz29_0 := blk_frozen BK115.out
                        go_wp2_with (first | (go_at_call 16; (with_reducible refine (bursarref02_All.calls a0_2 true _ A23.out).mono ?_); rintro e w' ⟨rfl, ⟨nd, rfl⟩⟩) | (go_at_call 16; (with_reducible refine (bursarref02_All.calls a0_3 true _ A26.out).mono ?_); rintro e w' ⟨rfl, ⟨nd, rfl⟩⟩))
                        go_ret
                        exact ⟨by first | rfl | (simp [errW_none, errW_some] <;> rfl) | (simp [*, errW_none, errW_some] <;> rfl), by repeat (first | (with_reducible first | exact HB.out | apply below_alloc | apply pw_below_drewN | apply below_drew1 | refine below_set ?_ GE115.out) | exact HB.out)⟩
                      · rw [if_neg c28] at H
                        have c28b0 : decide (0 ≤ a0_4) = false := decide_eq_false c28
                        clear c28
                        obtain rfl := Option.some.inj H
                        have hcz30_0 := blk_cell BK115.out
                        have hfz30_0 := blk_frozen BK115.out
                        go_wp2_with (first | (go_at_call 16; (with_reducible refine (bursarref02_All.calls a0_2 true _ A23.out).mono ?_); rintro e w' ⟨rfl, ⟨nd, rfl⟩⟩) | (go_at_call 16; (with_reducible refine (bursarref02_All.calls a0_3 true _ A26.out).mono ?_); rintro e w' ⟨rfl, ⟨nd, rfl⟩⟩))
                        go_ret
                        exact ⟨by first | rfl | (simp [errW_none, errW_some] <;> rfl) | (simp [*, errW_none, errW_some] <;> rfl), by repeat (first | (with_reducible first | exact HB.out | apply below_alloc | apply pw_below_drewN | apply below_drew1 | refine below_set ?_ GE115.out) | exact HB.out)⟩
                    · replace c27 := Bool.eq_false_iff.mpr c27
                      subst c27
                      have H1 : (some false) = some r := by rw [if_neg (show ¬ (false = true) by decide)] at H; exact H
                      clear H
                      have H := H1
                      clear H1
                      obtain rfl := Option.some.inj H
                      have hcz31_0 := blk_cell BK115.out
                      have hfz31_0 := blk_frozen BK115.out
                      go_wp2_with (first | (go_at_call 16; (with_reducible refine (bursarref02_All.calls a0_2 true _ A23.out).mono ?_); rintro e w' ⟨rfl, ⟨nd, rfl⟩⟩) | (go_at_call 16; (with_reducible refine (bursarref02_All.calls a0_3 false _ A26.out).mono ?_); rintro e w' ⟨rfl, ⟨nd, rfl⟩⟩))
                      go_ret
                      exact ⟨by first | rfl | (simp [errW_none, errW_some] <;> rfl) | (simp [*, errW_none, errW_some] <;> rfl), by repeat (first | (with_reducible first | exact HB.out | apply below_alloc | apply pw_below_drewN | apply below_drew1 | refine below_set ?_ GE115.out) | exact HB.out)⟩
                  · rw [if_neg c25] at H
                    have c25b0 : ((a0_3.size : Int) == 6) = false := beq_eq_false_iff_ne.mpr c25
                    have c25b1 : ((a0_3.size : Int) != 6) = true := bne_iff_ne.mpr c25
                    obtain rfl := Option.some.inj H
                    have hcz32_0 := blk_cell BK115.out
                    have hfz32_0 := blk_frozen BK115.out
                    go_wp2_with (first | (go_at_call 16; (with_reducible refine (bursarref02_All.calls a0_2 true _ A23.out).mono ?_); rintro e w' ⟨rfl, ⟨nd, rfl⟩⟩))
                    go_ret
                    exact ⟨by first | rfl | (simp [errW_none, errW_some] <;> rfl) | (simp [*, errW_none, errW_some] <;> rfl), by repeat (first | (with_reducible first | exact HB.out | apply below_alloc | apply pw_below_drewN | apply below_drew1 | refine below_set ?_ GE115.out) | exact HB.out)⟩
                · replace c24 := Bool.eq_false_iff.mpr c24
                  subst c24
                  have H1 : (some false) = some r := by rw [if_neg (show ¬ (false = true) by decide)] at H; exact H
                  clear H
                  have H := H1
                  clear H1
                  obtain rfl := Option.some.inj H
                  have hcz33_0 := blk_cell BK115.out
                  have hfz33_0 := blk_frozen BK115.out
                  go_wp2_with (first | (go_at_call 16; (with_reducible refine (bursarref02_All.calls a0_2 false _ A23.out).mono ?_); rintro e w' ⟨rfl, ⟨nd, rfl⟩⟩))
                  go_ret
                  exact ⟨by first | rfl | (simp [errW_none, errW_some] <;> rfl) | (simp [*, errW_none, errW_some] <;> rfl), by repeat (first | (with_reducible first | exact HB.out | apply below_alloc | apply pw_below_drewN | apply below_drew1 | refine below_set ?_ GE115.out) | exact HB.out)⟩
              · rw [if_neg c22] at H
                have c22b0 : ((a0_2.size : Int) == 2) = false := beq_eq_false_iff_ne.mpr c22
                have c22b1 : ((a0_2.size : Int) != 2) = true := bne_iff_ne.mpr c22
                obtain rfl := Option.some.inj H
                have hcz34_0 := blk_cell BK115.out
                have hfz34_0 := blk_frozen BK115.out
                go_wp2
                go_ret
                exact ⟨by first | rfl | (simp [errW_none, errW_some] <;> rfl) | (simp [*, errW_none, errW_some] <;> rfl), by repeat (first | (with_reducible first | exact HB.out | apply below_alloc | apply pw_below_drewN | apply below_drew1 | refine below_set ?_ GE115.out) | exact HB.out)⟩
            · rw [if_neg c21] at H
              have c21b0 : ((a0_1.size : Int) == 35) = false := beq_eq_false_iff_ne.mpr c21
              have c21b1 : ((a0_1.size : Int) != 35) = true := bne_iff_ne.mpr c21
              obtain rfl := Option.some.inj H
              have hcz35_0 := blk_cell BK115.out
              have hfz35_0 := blk_frozen BK115.out
              go_wp2
              go_ret
              exact ⟨by first | rfl | (simp [errW_none, errW_some] <;> rfl) | (simp [*, errW_none, errW_some] <;> rfl), by repeat (first | (with_reducible first | exact HB.out | apply below_alloc | apply pw_below_drewN | apply below_drew1 | refine below_set ?_ GE115.out) | exact HB.out)⟩
          · rw [if_neg c20] at H
            have c20b0 : decide (a0_0 ≤ 2147483647) = false := decide_eq_false c20
            clear c20
            obtain rfl := Option.some.inj H
            have hcz36_0 := blk_cell BK115.out
            have hfz36_0 := blk_frozen BK115.out
            go_wp2
            go_ret
            exact ⟨by first | rfl | (simp [errW_none, errW_some] <;> rfl) | (simp [*, errW_none, errW_some] <;> rfl), by repeat (first | (with_reducible first | exact HB.out | apply below_alloc | apply pw_below_drewN | apply below_drew1 | refine below_set ?_ GE115.out) | exact HB.out)⟩
        · rw [if_neg c19] at H
          have c19b0 : decide (1 ≤ a0_0) = false := decide_eq_false c19
          clear c19
          obtain rfl := Option.some.inj H
          have hcz37_0 := blk_cell BK115.out
          have hfz37_0 := blk_frozen BK115.out
          go_wp2
          go_ret
          exact ⟨by first | rfl | (simp [errW_none, errW_some] <;> rfl) | (simp [*, errW_none, errW_some] <;> rfl), by repeat (first | (with_reducible first | exact HB.out | apply below_alloc | apply pw_below_drewN | apply below_drew1 | refine below_set ?_ GE115.out) | exact HB.out)⟩

end Go.Proofs.YtmifpifhiiommaaDoor.XT
