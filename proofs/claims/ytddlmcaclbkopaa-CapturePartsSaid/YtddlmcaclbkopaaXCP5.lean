-- Written by wip/xprint.py, a session's program: printed out of the translation, with hand-written functions. Lean checks it.
import Derived.Test.YtddlmcaclbkopaaXCP0
import Derived.Test.YtddlmcaclbkopaaXCP2
import Derived.Test.YtddlmcaclbkopaaXCP3
import Derived.Test.YtddlmcaclbkopaaXCP4
namespace Go.Proofs.Ytddlmcaclbkopaa.XCP
open Go.RowKit Go.Proofs.YtddlmcaclbkopaaW.PrintWords Go.Proofs.YtddlmcaclbkopaaW.PrintLast Go.Proofs.YtddlmcaclbkopaaW.PrintMore
attribute [local go_sem] max2_int min2_int max_two min_two max_three min_three max_four min_four   -- for this text's walks alone
set_option linter.unusedVariables false
set_option linter.unusedSimpArgs false

/-! ### trade_May: function 80 -/
mutual
def trade_May.j0 : Nat → Bool → Int → Int → ByteArray → ByteArray → ByteArray → Int → Option (Bool)
  | 0, _, _, _, _, _, _, _ => none
  | k + 1, x20, x125000, x125001, x125002, x125003, x125004, x125005 => if x20 = true then (some false) else (if x125000 = 1 then ((trade_pan.f x125002).bind fun t125 => (if t125 = true then (if x125003.toList = ([] : List UInt8) then (some (x125004.toList == ([] : List UInt8))) else (some false)) else (some false))) else (if x125000 = 2 then (trade_May.j1 k x125000 (x125000 == 2) x125000 x125001 x125002 x125003 x125004 x125005) else (if x125000 = 3 then (trade_May.j1 k x125000 (x125000 == 3) x125000 x125001 x125002 x125003 x125004 x125005) else (trade_May.j1 k x125000 (x125000 == 4) x125000 x125001 x125002 x125003 x125004 x125005))))
def trade_May.j1 : Nat → Int → Bool → Int → Int → ByteArray → ByteArray → ByteArray → Int → Option (Bool)
  | 0, _, _, _, _, _, _, _, _ => none
  | k + 1, x22, x38, x125000, x125001, x125002, x125003, x125004, x125005 => if x38 = true then ((trade_pan.f x125002).bind fun t126 => (if t126 = true then ((trade_acq.f x125003).bind fun t127 => (if t127 = true then ((hold_Ref.f x125004).bind fun t128 => (some t128)) else (some false))) else (some false))) else (if x22 = 5 then (if x125002.toList = ([] : List UInt8) then ((trade_acq.f x125003).bind fun t129 => (if t129 = true then (some (x125004.toList == ([] : List UInt8))) else (some false))) else (some false)) else (if x22 = 6 then (if x125002.toList = ([] : List UInt8) then ((trade_acq.f x125003).bind fun t130 => (if t130 = true then (some (x125004.toList == ([] : List UInt8))) else (some false))) else (some false)) else (some false)))
end
def trade_May.f (k : Nat) (a0_0 : Int) (a0_1 : Int) (a0_2 : ByteArray) (a0_3 : ByteArray) (a0_4 : ByteArray) (a0_5 : Int) : Option (Bool) := if a0_1 < 0 then (trade_May.j0 k true a0_0 a0_1 a0_2 a0_3 a0_4 a0_5) else (if a0_1 > 2147483647 then (trade_May.j0 k true a0_0 a0_1 a0_2 a0_3 a0_4 a0_5) else (if a0_5 < 1 then (trade_May.j0 k true a0_0 a0_1 a0_2 a0_3 a0_4 a0_5) else (trade_May.j0 k (decide (a0_5 > 9999999999999)) a0_0 a0_1 a0_2 a0_3 a0_4 a0_5)))
theorem trade_May.mono_l : ∀ k, (∀ y0 y1 y2 y3 y4 y5 y6, LeO (trade_May.j0 k y0 y1 y2 y3 y4 y5 y6) (trade_May.j0 (k + 1) y0 y1 y2 y3 y4 y5 y6)) ∧ (∀ y0 y1 y2 y3 y4 y5 y6 y7, LeO (trade_May.j1 k y0 y1 y2 y3 y4 y5 y6 y7) (trade_May.j1 (k + 1) y0 y1 y2 y3 y4 y5 y6 y7))
  | 0 => ⟨fun _ _ _ _ _ _ _ r h => by simp [trade_May.j0] at h, fun _ _ _ _ _ _ _ _ r h => by simp [trade_May.j1] at h⟩
  | k + 1 => by
    obtain ⟨ih0, ih1⟩ := trade_May.mono_l k
    refine ⟨?_, ?_⟩
    · intro y0 y1 y2 y3 y4 y5 y6
      unfold trade_May.j0
      repeat' first
      | (with_reducible exact ih0 _ _ _ _ _ _ _)
      | (with_reducible exact ih1 _ _ _ _ _ _ _ _)
      | (with_reducible exact LeO.refl _)
      | (with_reducible exact LeO.none _)
      | (with_reducible refine LeO.ite ?_ ?_)
      | (with_reducible refine LeO.bind ?_ (fun _ => ?_))
      | exact ih0 _ _ _ _ _ _ _
      | exact ih1 _ _ _ _ _ _ _ _
      | exact LeO.none _
      | refine LeO.ite ?_ ?_
      | refine LeO.bind ?_ (fun _ => ?_)
    · intro y0 y1 y2 y3 y4 y5 y6 y7
      unfold trade_May.j1
      repeat' first
      | (with_reducible exact ih0 _ _ _ _ _ _ _)
      | (with_reducible exact ih1 _ _ _ _ _ _ _ _)
      | (with_reducible exact LeO.refl _)
      | (with_reducible exact LeO.none _)
      | (with_reducible refine LeO.ite ?_ ?_)
      | (with_reducible refine LeO.bind ?_ (fun _ => ?_))
      | exact ih0 _ _ _ _ _ _ _
      | exact ih1 _ _ _ _ _ _ _ _
      | exact LeO.none _
      | refine LeO.ite ?_ ?_
      | refine LeO.bind ?_ (fun _ => ?_)
theorem trade_May.mono : ∀ a0 a1 a2 a3 a4 a5 k, LeO (trade_May.f k a0 a1 a2 a3 a4 a5) (trade_May.f (k + 1) a0 a1 a2 a3 a4 a5) := by
  intro a0 a1 a2 a3 a4 a5 k
  obtain ⟨ih0, ih1⟩ := trade_May.mono_l k
  unfold trade_May.f
  repeat' first
      | (with_reducible exact ih0 _ _ _ _ _ _ _)
      | (with_reducible exact ih1 _ _ _ _ _ _ _ _)
      | (with_reducible exact LeO.refl _)
      | (with_reducible exact LeO.none _)
      | (with_reducible refine LeO.ite ?_ ?_)
      | (with_reducible refine LeO.bind ?_ (fun _ => ?_))
      | exact ih0 _ _ _ _ _ _ _
      | exact ih1 _ _ _ _ _ _ _ _
      | exact LeO.none _
      | refine LeO.ite ?_ ?_
      | refine LeO.bind ?_ (fun _ => ?_)
set_option maxHeartbeats 8000000 in
set_option maxRecDepth 100000 in
theorem trade_May.calls (k : Nat) (a0_0 : Int) (a0_1 : Int) (a0_2 : ByteArray) (a0_3 : ByteArray) (a0_4 : ByteArray) (a0_5 : Int) (r : Bool) (w : World) (h : trade_May.f k a0_0 a0_1 a0_2 a0_3 a0_4 a0_5 = some r) :
    Calls Try.prog 80 #[.agg #[.int .i64 a0_0, .int .i64 a0_1, .string a0_2, .string a0_3, .string a0_4, .int .i64 a0_5]] w fun e w' => e = .returned (.bool r) ∧ Below w.heap.size w w' := by
  have hu36 := Try.underlying36
  have HB := Aside0.mk (Below.refl w.heap.size w)
  have H : (if a0_1 < 0 then (trade_May.j0 k true a0_0 a0_1 a0_2 a0_3 a0_4 a0_5) else (if a0_1 > 2147483647 then (trade_May.j0 k true a0_0 a0_1 a0_2 a0_3 a0_4 a0_5) else (if a0_5 < 1 then (trade_May.j0 k true a0_0 a0_1 a0_2 a0_3 a0_4 a0_5) else (trade_May.j0 k (decide (a0_5 > 9999999999999)) a0_0 a0_1 a0_2 a0_3 a0_4 a0_5)))) = some r := h
  clear h
  have HC2 := Aside0.mk H
  clear H
  go_enter Try.func80, Try.ntmps80
  go_upto_region 1 with (first | ((with_reducible refine gate_dst (N := 1) rfl ?_); refine box_event ?hg (N := 1) ?hd (cs := #[.int .i64 a0_0, .int .i64 a0_1, .string a0_2, .string a0_3, .string a0_4, .int .i64 a0_5]) (t := 36) ?hr ?_; (case hd => rfl); (case hg => rfl); (case hr => first | (go_simp; done) | (go_simp; rfl)); intro gb124 hg w3 hbox hb; have n0_ := Aside0.mk (below_step (by repeat (first | (with_reducible first | exact HB.out | apply below_alloc | apply pw_below_drewN | apply below_drew1) | exact HB.out)) hb); have n1_ := Aside0.mk (hbox); have n2_ := Aside0.mk ((by rw [hg]; exact (below_size (by repeat (first | (with_reducible first | exact HB.out | apply below_alloc | apply pw_below_drewN | apply below_drew1) | exact HB.out))) : w.heap.size ≤ gb124)); have n3_ := Aside0.mk ((by rw [hg]; exact (below_size (by repeat (first | (with_reducible first | exact HB.out | apply below_alloc | apply pw_below_drewN | apply below_drew1) | exact HB.out))) : w.heap.size ≤ gb124)); clear HB; have HB := n0_; have BK124 := n1_; have GW124 := n2_; have GE124 := n3_; clear n0_ n1_ n2_ n3_; clear hb hbox hg))
  (try simp only [Act.put, List.setIfInBounds_toArray, List.set_cons_zero, List.set_cons_succ])
  go_cut [20] (fun v20 wc => ∃ (kq : Nat) (x20_1 : Bool), v20 = .bool x20_1 ∧ Aside0 (trade_May.j0 kq x20_1 a0_0 a0_1 a0_2 a0_3 a0_4 a0_5 = some r) ∧ Aside0 (kq ≤ k) ∧ Aside0 (wc.heap[gb124]? = some (.cells #[.int .i64 a0_0, .int .i64 a0_1, .string a0_2, .string a0_3, .string a0_4, .int .i64 a0_5] 36 (0, 0))) ∧ Aside0 (Below w.heap.size w wc))
  case first =>
    have H := HC2.out
    clear HC2
    by_cases c4 : a0_1 < 0
    · rw [if_pos c4] at H
      have c4b0 : decide (a0_1 < 0) = true := decide_eq_true c4
      clear c4
      (first | rw [c4b0] | (simp only [i64_w, i32_w]; rw [c4b0]) | skip)
      have H' := Aside0.mk H
      clear H
      have hcz5_0 := blk_cell BK124.out
      have hfz5_0 := blk_frozen BK124.out
      go_wp2
      go_meet
      case rel => exact ⟨_, (true), (by first | rfl | (simp; done) | (simp [*]; done) | (simp [Pu.bne_nil, Pu.beq_nil]; done)), H', ⟨by first | omega | exact Nat.le_refl _⟩, ⟨by (with_reducible repeat (first | refine blk_drewN ?_ _ | refine blk_drew ?_ | refine blk_alloc ?_ _)); exact BK124.out⟩, ⟨by repeat (first | (with_reducible first | exact HB.out | apply below_alloc | apply pw_below_drewN | apply below_drew1 | refine below_set ?_ GE124.out) | exact HB.out)⟩⟩
    · rw [if_neg c4] at H
      have c4b0 : decide (a0_1 < 0) = false := decide_eq_false c4
      clear c4
      (first | rw [c4b0] | (simp only [i64_w, i32_w]; rw [c4b0]) | skip)
      by_cases c6 : a0_1 > 2147483647
      · rw [if_pos c6] at H
        have c6b0 : decide (2147483647 < a0_1) = true := decide_eq_true c6
        clear c6
        have H' := Aside0.mk H
        clear H
        have hcz7_0 := blk_cell BK124.out
        have hfz7_0 := blk_frozen BK124.out
        go_wp2
        go_meet
        case rel => exact ⟨_, (true), (by first | rfl | (simp; done) | (simp [*]; done) | (simp [Pu.bne_nil, Pu.beq_nil]; done)), H', ⟨by first | omega | exact Nat.le_refl _⟩, ⟨by (with_reducible repeat (first | refine blk_drewN ?_ _ | refine blk_drew ?_ | refine blk_alloc ?_ _)); exact BK124.out⟩, ⟨by repeat (first | (with_reducible first | exact HB.out | apply below_alloc | apply pw_below_drewN | apply below_drew1 | refine below_set ?_ GE124.out) | exact HB.out)⟩⟩
      · rw [if_neg c6] at H
        have c6b0 : decide (2147483647 < a0_1) = false := decide_eq_false c6
        clear c6
        by_cases c8 : a0_5 < 1
        · rw [if_pos c8] at H
          have c8b0 : decide (a0_5 < 1) = true := decide_eq_true c8
          clear c8
          have H' := Aside0.mk H
          clear H
          have hcz9_0 := blk_cell BK124.out
          have hfz9_0 := blk_frozen BK124.out
          go_wp2
          go_meet
          case rel => exact ⟨_, (true), (by first | rfl | (simp; done) | (simp [*]; done) | (simp [Pu.bne_nil, Pu.beq_nil]; done)), H', ⟨by first | omega | exact Nat.le_refl _⟩, ⟨by (with_reducible repeat (first | refine blk_drewN ?_ _ | refine blk_drew ?_ | refine blk_alloc ?_ _)); exact BK124.out⟩, ⟨by repeat (first | (with_reducible first | exact HB.out | apply below_alloc | apply pw_below_drewN | apply below_drew1 | refine below_set ?_ GE124.out) | exact HB.out)⟩⟩
        · rw [if_neg c8] at H
          have c8b0 : decide (a0_5 < 1) = false := decide_eq_false c8
          clear c8
          have H' := Aside0.mk H
          clear H
          have hcz10_0 := blk_cell BK124.out
          have hfz10_0 := blk_frozen BK124.out
          go_wp2
          go_meet
          case rel => exact ⟨_, (decide (a0_5 > 9999999999999)), (by first | rfl | (simp; done) | (simp [*]; done) | (simp [Pu.bne_nil, Pu.beq_nil]; done)), H', ⟨by first | omega | exact Nat.le_refl _⟩, ⟨by (with_reducible repeat (first | refine blk_drewN ?_ _ | refine blk_drew ?_ | refine blk_alloc ?_ _)); exact BK124.out⟩, ⟨by repeat (first | (with_reducible first | exact HB.out | apply below_alloc | apply pw_below_drewN | apply below_drew1 | refine below_set ?_ GE124.out) | exact HB.out)⟩⟩
  case rest =>
    clear HC2
    try clear p2
    try clear c4
    try clear c4b0
    try clear c6
    try clear c6b0
    try clear c8
    try clear c8b0
    try clear hcz10_0
    try clear hcz5_0
    try clear hcz7_0
    try clear hcz9_0
    try clear hfz10_0
    try clear hfz5_0
    try clear hfz7_0
    try clear hfz9_0
    obtain ⟨kq, x20_1, rfl, HA, HJ1, BK124, HB⟩ := hcut
    cases kq with
    | zero => exact absurd HA.out (by simp [trade_May.j0])
    | succ kj1 =>
      have H := HA.out
      clear HA
      simp only [trade_May.j0] at H
      by_cases c11 : x20_1 = true
      · subst c11
        have H1 : (some false) = some r := by rw [if_pos rfl] at H; exact H
        clear H
        have H := H1
        clear H1
        obtain rfl := Option.some.inj H
        go_wp2
        go_ret
        exact ⟨by first | rfl | (simp [errW_none, errW_some] <;> rfl) | (simp [*, errW_none, errW_some] <;> rfl), by repeat (first | (with_reducible first | exact HB.out | apply below_alloc | apply pw_below_drewN | apply below_drew1 | refine below_set ?_ GE124.out) | exact HB.out)⟩
      · replace c11 := Bool.eq_false_iff.mpr c11
        subst c11
        have H1 : (if a0_0 = 1 then ((trade_pan.f a0_2).bind fun t125 => (if t125 = true then (if a0_3.toList = ([] : List UInt8) then (some (a0_4.toList == ([] : List UInt8))) else (some false)) else (some false))) else (if a0_0 = 2 then (trade_May.j1 kj1 a0_0 (a0_0 == 2) a0_0 a0_1 a0_2 a0_3 a0_4 a0_5) else (if a0_0 = 3 then (trade_May.j1 kj1 a0_0 (a0_0 == 3) a0_0 a0_1 a0_2 a0_3 a0_4 a0_5) else (trade_May.j1 kj1 a0_0 (a0_0 == 4) a0_0 a0_1 a0_2 a0_3 a0_4 a0_5)))) = some r := by rw [if_neg (show ¬ (false = true) by decide)] at H; exact H
        clear H
        have H := H1
        clear H1
        by_cases c12 : a0_0 = 1
        · rw [if_pos c12] at H
          have c12b0 : (a0_0 == 1) = true := beq_iff_eq.mpr c12
          have c12b1 : (a0_0 != 1) = false := bne_eq_false_iff_eq.mpr c12
          clear c12
          replace H := Option.bind_eq_some_iff.mp H
          obtain ⟨t125, A130, H⟩ := H
          replace H : (if t125 = true then (if a0_3.toList = ([] : List UInt8) then (some (a0_4.toList == ([] : List UInt8))) else (some false)) else (some false)) = some r := H
          have A13 := Aside0.mk A130
          clear A130
          by_cases c14 : t125 = true
          · subst c14
            have H1 : (if a0_3.toList = ([] : List UInt8) then (some (a0_4.toList == ([] : List UInt8))) else (some false)) = some r := by rw [if_pos rfl] at H; exact H
            clear H
            have H := H1
            clear H1
            by_cases c15 : a0_3.toList = ([] : List UInt8)
            · rw [if_pos c15] at H
              have c15b0 : (a0_3.toList == ([] : List UInt8)) = true := beq_iff_eq.mpr c15
              have c15b1 : (a0_3.toList != ([] : List UInt8)) = false := bne_eq_false_iff_eq.mpr c15
              clear c15
              obtain rfl := Option.some.inj H
              have hcz16_0 := blk_cell BK124.out
              have hfz16_0 := blk_frozen BK124.out
              go_wp2_with (first | ((with_reducible refine gate_callee (f := 84) rfl ?_); refine goesL_ (some 27) rfl rfl Try.func84 (by kernel_rfl) rfl #[.string a0_2] rfl (by (try simp only [List.map_toArray, List.map_cons, List.map_nil]); first | done | rfl | (simp only [List.length_drop, List.length_take]; rfl)) ?_; (with_reducible refine (trade_pan.calls a0_2 true _ A13.out).mono ?_); rintro e w17 ⟨rfl, hb⟩; refine ⟨_, rfl, ?_⟩; have n0_ := Aside0.mk (blk_below (g := gb124) (o := .cells #[.int .i64 a0_0, .int .i64 a0_1, .string a0_2, .string a0_3, .string a0_4, .int .i64 a0_5] 36 (0, 0)) (by (with_reducible repeat (first | refine blk_drewN ?_ _ | refine blk_drew ?_ | refine blk_alloc ?_ _)); exact BK124.out) hb); have n1_ := Aside0.mk (below_step (by repeat (first | (with_reducible first | exact HB.out | apply below_alloc | apply pw_below_drewN | apply below_drew1 | refine below_set ?_ GE124.out) | exact HB.out)) hb); clear BK124; clear HB; have BK124 := n0_; have HB := n1_; clear n0_ n1_; (try clear hb); (try clear hb2); (try clear hk); (try clear hi); have hcz18_0 := blk_cell BK124.out; have hfz18_0 := blk_frozen BK124.out))
              go_ret
              exact ⟨by first | rfl | (simp [errW_none, errW_some] <;> rfl) | (simp [*, errW_none, errW_some] <;> rfl), by repeat (first | (with_reducible first | exact HB.out | apply below_alloc | apply pw_below_drewN | apply below_drew1 | refine below_set ?_ GE124.out) | exact HB.out)⟩
            · rw [if_neg c15] at H
              have c15b0 : (a0_3.toList == ([] : List UInt8)) = false := beq_eq_false_iff_ne.mpr c15
              have c15b1 : (a0_3.toList != ([] : List UInt8)) = true := bne_iff_ne.mpr c15
              obtain rfl := Option.some.inj H
              have hcz19_0 := blk_cell BK124.out
              have hfz19_0 := blk_frozen BK124.out
              go_wp2_with (first | ((with_reducible refine gate_callee (f := 84) rfl ?_); refine goesL_ (some 27) rfl rfl Try.func84 (by kernel_rfl) rfl #[.string a0_2] rfl (by (try simp only [List.map_toArray, List.map_cons, List.map_nil]); first | done | rfl | (simp only [List.length_drop, List.length_take]; rfl)) ?_; (with_reducible refine (trade_pan.calls a0_2 true _ A13.out).mono ?_); rintro e w20 ⟨rfl, hb⟩; refine ⟨_, rfl, ?_⟩; have n0_ := Aside0.mk (blk_below (g := gb124) (o := .cells #[.int .i64 a0_0, .int .i64 a0_1, .string a0_2, .string a0_3, .string a0_4, .int .i64 a0_5] 36 (0, 0)) (by (with_reducible repeat (first | refine blk_drewN ?_ _ | refine blk_drew ?_ | refine blk_alloc ?_ _)); exact BK124.out) hb); have n1_ := Aside0.mk (below_step (by repeat (first | (with_reducible first | exact HB.out | apply below_alloc | apply pw_below_drewN | apply below_drew1 | refine below_set ?_ GE124.out) | exact HB.out)) hb); clear BK124; clear HB; have BK124 := n0_; have HB := n1_; clear n0_ n1_; (try clear hb); (try clear hb2); (try clear hk); (try clear hi); have hcz21_0 := blk_cell BK124.out; have hfz21_0 := blk_frozen BK124.out))
              go_ret
              exact ⟨by first | rfl | (simp [errW_none, errW_some] <;> rfl) | (simp [*, errW_none, errW_some] <;> rfl), by repeat (first | (with_reducible first | exact HB.out | apply below_alloc | apply pw_below_drewN | apply below_drew1 | refine below_set ?_ GE124.out) | exact HB.out)⟩
          · replace c14 := Bool.eq_false_iff.mpr c14
            subst c14
            have H1 : (some false) = some r := by rw [if_neg (show ¬ (false = true) by decide)] at H; exact H
            clear H
            have H := H1
            clear H1
            obtain rfl := Option.some.inj H
            have hcz22_0 := blk_cell BK124.out
            have hfz22_0 := blk_frozen BK124.out
            go_wp2_with (first | ((with_reducible refine gate_callee (f := 84) rfl ?_); refine goesL_ (some 27) rfl rfl Try.func84 (by kernel_rfl) rfl #[.string a0_2] rfl (by (try simp only [List.map_toArray, List.map_cons, List.map_nil]); first | done | rfl | (simp only [List.length_drop, List.length_take]; rfl)) ?_; (with_reducible refine (trade_pan.calls a0_2 false _ A13.out).mono ?_); rintro e w23 ⟨rfl, hb⟩; refine ⟨_, rfl, ?_⟩; have n0_ := Aside0.mk (blk_below (g := gb124) (o := .cells #[.int .i64 a0_0, .int .i64 a0_1, .string a0_2, .string a0_3, .string a0_4, .int .i64 a0_5] 36 (0, 0)) (by (with_reducible repeat (first | refine blk_drewN ?_ _ | refine blk_drew ?_ | refine blk_alloc ?_ _)); exact BK124.out) hb); have n1_ := Aside0.mk (below_step (by repeat (first | (with_reducible first | exact HB.out | apply below_alloc | apply pw_below_drewN | apply below_drew1 | refine below_set ?_ GE124.out) | exact HB.out)) hb); clear BK124; clear HB; have BK124 := n0_; have HB := n1_; clear n0_ n1_; (try clear hb); (try clear hb2); (try clear hk); (try clear hi)))
            go_ret
            exact ⟨by first | rfl | (simp [errW_none, errW_some] <;> rfl) | (simp [*, errW_none, errW_some] <;> rfl), by repeat (first | (with_reducible first | exact HB.out | apply below_alloc | apply pw_below_drewN | apply below_drew1 | refine below_set ?_ GE124.out) | exact HB.out)⟩
        · rw [if_neg c12] at H
          have c12b0 : (a0_0 == 1) = false := beq_eq_false_iff_ne.mpr c12
          have c12b1 : (a0_0 != 1) = true := bne_iff_ne.mpr c12
          have HC24 := Aside0.mk H
          clear H
          have hcz25_0 := blk_cell BK124.out
          have hfz25_0 := blk_frozen BK124.out
          go_upto_if 38 with (fail)
          go_cut [38] (fun v38 wc => ∃ (kq : Nat) (x38_23 : Bool), v38 = .bool x38_23 ∧ Aside0 (trade_May.j1 kq a0_0 x38_23 a0_0 a0_1 a0_2 a0_3 a0_4 a0_5 = some r) ∧ Aside0 (kq ≤ kj1) ∧ Aside0 (wc.heap[gb124]? = some (.cells #[.int .i64 a0_0, .int .i64 a0_1, .string a0_2, .string a0_3, .string a0_4, .int .i64 a0_5] 36 (0, 0))) ∧ Aside0 (Below w.heap.size w wc))
          case first =>
            have H := HC24.out
            clear HC24
            by_cases c26 : a0_0 = 2
            · rw [if_pos c26] at H
              have c26b0 : (a0_0 == 2) = true := beq_iff_eq.mpr c26
              have c26b1 : (a0_0 != 2) = false := bne_eq_false_iff_eq.mpr c26
              clear c26
              (first | rw [c26b0] | (simp only [i64_w, i32_w]; rw [c26b0]) | skip)
              have H' := Aside0.mk H
              clear H
              go_wp2
              go_meet
              case rel => exact ⟨_, ((a0_0 == 2)), (by first | rfl | (simp; done) | (simp [*]; done) | (simp [Pu.bne_nil, Pu.beq_nil]; done)), H', ⟨by have := HJ1.out; first | omega | exact Nat.le_refl _⟩, ⟨by (with_reducible repeat (first | refine blk_drewN ?_ _ | refine blk_drew ?_ | refine blk_alloc ?_ _)); exact BK124.out⟩, ⟨by repeat (first | (with_reducible first | exact HB.out | apply below_alloc | apply pw_below_drewN | apply below_drew1 | refine below_set ?_ GE124.out) | exact HB.out)⟩⟩
            · rw [if_neg c26] at H
              have c26b0 : (a0_0 == 2) = false := beq_eq_false_iff_ne.mpr c26
              have c26b1 : (a0_0 != 2) = true := bne_iff_ne.mpr c26
              (first | rw [c26b0] | (simp only [i64_w, i32_w]; rw [c26b0]) | skip)
              by_cases c27 : a0_0 = 3
              · rw [if_pos c27] at H
                have c27b0 : (a0_0 == 3) = true := beq_iff_eq.mpr c27
                have c27b1 : (a0_0 != 3) = false := bne_eq_false_iff_eq.mpr c27
                clear c27
                have H' := Aside0.mk H
                clear H
                go_wp2
                go_meet
                case rel => exact ⟨_, ((a0_0 == 3)), (by first | rfl | (simp; done) | (simp [*]; done) | (simp [Pu.bne_nil, Pu.beq_nil]; done)), H', ⟨by have := HJ1.out; first | omega | exact Nat.le_refl _⟩, ⟨by (with_reducible repeat (first | refine blk_drewN ?_ _ | refine blk_drew ?_ | refine blk_alloc ?_ _)); exact BK124.out⟩, ⟨by repeat (first | (with_reducible first | exact HB.out | apply below_alloc | apply pw_below_drewN | apply below_drew1 | refine below_set ?_ GE124.out) | exact HB.out)⟩⟩
              · rw [if_neg c27] at H
                have c27b0 : (a0_0 == 3) = false := beq_eq_false_iff_ne.mpr c27
                have c27b1 : (a0_0 != 3) = true := bne_iff_ne.mpr c27
                have H' := Aside0.mk H
                clear H
                go_wp2
                go_meet
                case rel => exact ⟨_, ((a0_0 == 4)), (by first | rfl | (simp; done) | (simp [*]; done) | (simp [Pu.bne_nil, Pu.beq_nil]; done)), H', ⟨by have := HJ1.out; first | omega | exact Nat.le_refl _⟩, ⟨by (with_reducible repeat (first | refine blk_drewN ?_ _ | refine blk_drew ?_ | refine blk_alloc ?_ _)); exact BK124.out⟩, ⟨by repeat (first | (with_reducible first | exact HB.out | apply below_alloc | apply pw_below_drewN | apply below_drew1 | refine below_set ?_ GE124.out) | exact HB.out)⟩⟩
          case rest =>
            clear HC24
            try clear c1
            try clear c2
            try clear p2
            try clear c4
            try clear c4b0
            try clear c6
            try clear c6b0
            try clear c8
            try clear c8b0
            try clear c11
            try clear c12
            try clear c12b0
            try clear c12b1
            try clear c14
            try clear c15
            try clear c15b0
            try clear c15b1
            try clear c26
            try clear c26b0
            try clear c26b1
            try clear c27
            try clear c27b0
            try clear c27b1
            try clear hcz10_0
            try clear hcz16_0
            try clear hcz18_0
            try clear hcz19_0
            try clear hcz21_0
            try clear hcz22_0
            try clear hcz25_0
            try clear hcz5_0
            try clear hcz7_0
            try clear hcz9_0
            try clear hfz10_0
            try clear hfz16_0
            try clear hfz18_0
            try clear hfz19_0
            try clear hfz21_0
            try clear hfz22_0
            try clear hfz25_0
            try clear hfz5_0
            try clear hfz7_0
            try clear hfz9_0
            try clear p2
            obtain ⟨kq, x38_23, rfl, HA, HJ23, BK124, HB⟩ := hcut
            cases kq with
            | zero => exact absurd HA.out (by simp [trade_May.j1])
            | succ kj23 =>
              have H := HA.out
              clear HA
              simp only [trade_May.j1] at H
              by_cases c28 : x38_23 = true
              · subst c28
                have H1 : ((trade_pan.f a0_2).bind fun t126 => (if t126 = true then ((trade_acq.f a0_3).bind fun t127 => (if t127 = true then ((hold_Ref.f a0_4).bind fun t128 => (some t128)) else (some false))) else (some false))) = some r := by rw [if_pos rfl] at H; exact H
                clear H
                have H := H1
                clear H1
                replace H := Option.bind_eq_some_iff.mp H
                obtain ⟨t126, A290, H⟩ := H
                replace H : (if t126 = true then ((trade_acq.f a0_3).bind fun t127 => (if t127 = true then ((hold_Ref.f a0_4).bind fun t128 => (some t128)) else (some false))) else (some false)) = some r := H
                have A29 := Aside0.mk A290
                clear A290
                by_cases c30 : t126 = true
                · subst c30
                  have H1 : ((trade_acq.f a0_3).bind fun t127 => (if t127 = true then ((hold_Ref.f a0_4).bind fun t128 => (some t128)) else (some false))) = some r := by rw [if_pos rfl] at H; exact H
                  clear H
                  have H := H1
                  clear H1
                  replace H := Option.bind_eq_some_iff.mp H
                  obtain ⟨t127, A310, H⟩ := H
                  replace H : (if t127 = true then ((hold_Ref.f a0_4).bind fun t128 => (some t128)) else (some false)) = some r := H
                  have A31 := Aside0.mk A310
                  clear A310
                  by_cases c32 : t127 = true
                  · subst c32
                    have H1 : ((hold_Ref.f a0_4).bind fun t128 => (some t128)) = some r := by rw [if_pos rfl] at H; exact H
                    clear H
                    have H := H1
                    clear H1
                    replace H := Option.bind_eq_some_iff.mp H
                    obtain ⟨t128, A330, H⟩ := H
                    replace H : (some t128) = some r := H
                    have A33 := Aside0.mk A330
                    clear A330
                    obtain rfl := Option.some.inj H
                    have hcz34_0 := blk_cell BK124.out
                    have hfz34_0 := blk_frozen BK124.out
                    go_wp2_with (first | ((with_reducible refine gate_callee (f := 84) rfl ?_); refine goesL_ (some 44) rfl rfl Try.func84 (by kernel_rfl) rfl #[.string a0_2] rfl (by (try simp only [List.map_toArray, List.map_cons, List.map_nil]); first | done | rfl | (simp only [List.length_drop, List.length_take]; rfl)) ?_; (with_reducible refine (trade_pan.calls a0_2 true _ A29.out).mono ?_); rintro e w35 ⟨rfl, hb⟩; refine ⟨_, rfl, ?_⟩; have n0_ := Aside0.mk (blk_below (g := gb124) (o := .cells #[.int .i64 a0_0, .int .i64 a0_1, .string a0_2, .string a0_3, .string a0_4, .int .i64 a0_5] 36 (0, 0)) (by (with_reducible repeat (first | refine blk_drewN ?_ _ | refine blk_drew ?_ | refine blk_alloc ?_ _)); exact BK124.out) hb); have n1_ := Aside0.mk (below_step (by repeat (first | (with_reducible first | exact HB.out | apply below_alloc | apply pw_below_drewN | apply below_drew1 | refine below_set ?_ GE124.out) | exact HB.out)) hb); clear BK124; clear HB; have BK124 := n0_; have HB := n1_; clear n0_ n1_; (try clear hb); (try clear hb2); (try clear hk); (try clear hi); have hcz36_0 := blk_cell BK124.out; have hfz36_0 := blk_frozen BK124.out) | (go_at_call 85; (with_reducible refine (trade_acq.calls a0_3 true _ A31.out).mono ?_); rintro e w37 ⟨rfl, hb⟩; have n0_ := Aside0.mk (blk_below (g := gb124) (o := .cells #[.int .i64 a0_0, .int .i64 a0_1, .string a0_2, .string a0_3, .string a0_4, .int .i64 a0_5] 36 (0, 0)) (by (with_reducible repeat (first | refine blk_drewN ?_ _ | refine blk_drew ?_ | refine blk_alloc ?_ _)); exact BK124.out) hb); have n1_ := Aside0.mk (below_step (by repeat (first | (with_reducible first | exact HB.out | apply below_alloc | apply pw_below_drewN | apply below_drew1 | refine below_set ?_ GE124.out) | exact HB.out)) hb); clear BK124; clear HB; have BK124 := n0_; have HB := n1_; clear n0_ n1_; (try clear hb); (try clear hb2); (try clear hk); (try clear hi); have hcz38_0 := blk_cell BK124.out; have hfz38_0 := blk_frozen BK124.out) | (go_at_call 64; (with_reducible refine (hold_Ref.calls a0_4 t128 _ A33.out).mono ?_); rintro e w' ⟨rfl, ⟨nd, rfl⟩⟩))
                    go_ret
                    exact ⟨by first | rfl | (simp [errW_none, errW_some] <;> rfl) | (simp [*, errW_none, errW_some] <;> rfl), by repeat (first | (with_reducible first | exact HB.out | apply below_alloc | apply pw_below_drewN | apply below_drew1 | refine below_set ?_ GE124.out) | exact HB.out)⟩
                  · replace c32 := Bool.eq_false_iff.mpr c32
                    subst c32
                    have H1 : (some false) = some r := by rw [if_neg (show ¬ (false = true) by decide)] at H; exact H
                    clear H
                    have H := H1
                    clear H1
                    obtain rfl := Option.some.inj H
                    have hcz39_0 := blk_cell BK124.out
                    have hfz39_0 := blk_frozen BK124.out
                    go_wp2_with (first | ((with_reducible refine gate_callee (f := 84) rfl ?_); refine goesL_ (some 44) rfl rfl Try.func84 (by kernel_rfl) rfl #[.string a0_2] rfl (by (try simp only [List.map_toArray, List.map_cons, List.map_nil]); first | done | rfl | (simp only [List.length_drop, List.length_take]; rfl)) ?_; (with_reducible refine (trade_pan.calls a0_2 true _ A29.out).mono ?_); rintro e w40 ⟨rfl, hb⟩; refine ⟨_, rfl, ?_⟩; have n0_ := Aside0.mk (blk_below (g := gb124) (o := .cells #[.int .i64 a0_0, .int .i64 a0_1, .string a0_2, .string a0_3, .string a0_4, .int .i64 a0_5] 36 (0, 0)) (by (with_reducible repeat (first | refine blk_drewN ?_ _ | refine blk_drew ?_ | refine blk_alloc ?_ _)); exact BK124.out) hb); have n1_ := Aside0.mk (below_step (by repeat (first | (with_reducible first | exact HB.out | apply below_alloc | apply pw_below_drewN | apply below_drew1 | refine below_set ?_ GE124.out) | exact HB.out)) hb); clear BK124; clear HB; have BK124 := n0_; have HB := n1_; clear n0_ n1_; (try clear hb); (try clear hb2); (try clear hk); (try clear hi); have hcz41_0 := blk_cell BK124.out; have hfz41_0 := blk_frozen BK124.out) | (go_at_call 85; (with_reducible refine (trade_acq.calls a0_3 false _ A31.out).mono ?_); rintro e w42 ⟨rfl, hb⟩; have n0_ := Aside0.mk (blk_below (g := gb124) (o := .cells #[.int .i64 a0_0, .int .i64 a0_1, .string a0_2, .string a0_3, .string a0_4, .int .i64 a0_5] 36 (0, 0)) (by (with_reducible repeat (first | refine blk_drewN ?_ _ | refine blk_drew ?_ | refine blk_alloc ?_ _)); exact BK124.out) hb); have n1_ := Aside0.mk (below_step (by repeat (first | (with_reducible first | exact HB.out | apply below_alloc | apply pw_below_drewN | apply below_drew1 | refine below_set ?_ GE124.out) | exact HB.out)) hb); clear BK124; clear HB; have BK124 := n0_; have HB := n1_; clear n0_ n1_; (try clear hb); (try clear hb2); (try clear hk); (try clear hi)))
                    go_ret
                    exact ⟨by first | rfl | (simp [errW_none, errW_some] <;> rfl) | (simp [*, errW_none, errW_some] <;> rfl), by repeat (first | (with_reducible first | exact HB.out | apply below_alloc | apply pw_below_drewN | apply below_drew1 | refine below_set ?_ GE124.out) | exact HB.out)⟩
                · replace c30 := Bool.eq_false_iff.mpr c30
                  subst c30
                  have H1 : (some false) = some r := by rw [if_neg (show ¬ (false = true) by decide)] at H; exact H
                  clear H
                  have H := H1
                  clear H1
                  obtain rfl := Option.some.inj H
                  have hcz43_0 := blk_cell BK124.out
                  have hfz43_0 := blk_frozen BK124.out
                  go_wp2_with (first | ((with_reducible refine gate_callee (f := 84) rfl ?_); refine goesL_ (some 44) rfl rfl Try.func84 (by kernel_rfl) rfl #[.string a0_2] rfl (by (try simp only [List.map_toArray, List.map_cons, List.map_nil]); first | done | rfl | (simp only [List.length_drop, List.length_take]; rfl)) ?_; (with_reducible refine (trade_pan.calls a0_2 false _ A29.out).mono ?_); rintro e w44 ⟨rfl, hb⟩; refine ⟨_, rfl, ?_⟩; have n0_ := Aside0.mk (blk_below (g := gb124) (o := .cells #[.int .i64 a0_0, .int .i64 a0_1, .string a0_2, .string a0_3, .string a0_4, .int .i64 a0_5] 36 (0, 0)) (by (with_reducible repeat (first | refine blk_drewN ?_ _ | refine blk_drew ?_ | refine blk_alloc ?_ _)); exact BK124.out) hb); have n1_ := Aside0.mk (below_step (by repeat (first | (with_reducible first | exact HB.out | apply below_alloc | apply pw_below_drewN | apply below_drew1 | refine below_set ?_ GE124.out) | exact HB.out)) hb); clear BK124; clear HB; have BK124 := n0_; have HB := n1_; clear n0_ n1_; (try clear hb); (try clear hb2); (try clear hk); (try clear hi)))
                  go_ret
                  exact ⟨by first | rfl | (simp [errW_none, errW_some] <;> rfl) | (simp [*, errW_none, errW_some] <;> rfl), by repeat (first | (with_reducible first | exact HB.out | apply below_alloc | apply pw_below_drewN | apply below_drew1 | refine below_set ?_ GE124.out) | exact HB.out)⟩
              · replace c28 := Bool.eq_false_iff.mpr c28
                subst c28
                have H1 : (if a0_0 = 5 then (if a0_2.toList = ([] : List UInt8) then ((trade_acq.f a0_3).bind fun t129 => (if t129 = true then (some (a0_4.toList == ([] : List UInt8))) else (some false))) else (some false)) else (if a0_0 = 6 then (if a0_2.toList = ([] : List UInt8) then ((trade_acq.f a0_3).bind fun t130 => (if t130 = true then (some (a0_4.toList == ([] : List UInt8))) else (some false))) else (some false)) else (some false))) = some r := by rw [if_neg (show ¬ (false = true) by decide)] at H; exact H
                clear H
                have H := H1
                clear H1
                by_cases c45 : a0_0 = 5
                · rw [if_pos c45] at H
                  have c45b0 : (a0_0 == 5) = true := beq_iff_eq.mpr c45
                  have c45b1 : (a0_0 != 5) = false := bne_eq_false_iff_eq.mpr c45
                  clear c45
                  by_cases c46 : a0_2.toList = ([] : List UInt8)
                  · rw [if_pos c46] at H
                    have c46b0 : (a0_2.toList == ([] : List UInt8)) = true := beq_iff_eq.mpr c46
                    have c46b1 : (a0_2.toList != ([] : List UInt8)) = false := bne_eq_false_iff_eq.mpr c46
                    clear c46
                    replace H := Option.bind_eq_some_iff.mp H
                    obtain ⟨t129, A470, H⟩ := H
                    replace H : (if t129 = true then (some (a0_4.toList == ([] : List UInt8))) else (some false)) = some r := H
                    have A47 := Aside0.mk A470
                    clear A470
                    by_cases c48 : t129 = true
                    · subst c48
                      have H1 : (some (a0_4.toList == ([] : List UInt8))) = some r := by rw [if_pos rfl] at H; exact H
                      clear H
                      have H := H1
                      clear H1
                      obtain rfl := Option.some.inj H
                      have hcz49_0 := blk_cell BK124.out
                      have hfz49_0 := blk_frozen BK124.out
                      go_wp2_with (first | (go_at_call 85; (with_reducible refine (trade_acq.calls a0_3 true _ A47.out).mono ?_); rintro e w50 ⟨rfl, hb⟩; have n0_ := Aside0.mk (blk_below (g := gb124) (o := .cells #[.int .i64 a0_0, .int .i64 a0_1, .string a0_2, .string a0_3, .string a0_4, .int .i64 a0_5] 36 (0, 0)) (by (with_reducible repeat (first | refine blk_drewN ?_ _ | refine blk_drew ?_ | refine blk_alloc ?_ _)); exact BK124.out) hb); have n1_ := Aside0.mk (below_step (by repeat (first | (with_reducible first | exact HB.out | apply below_alloc | apply pw_below_drewN | apply below_drew1 | refine below_set ?_ GE124.out) | exact HB.out)) hb); clear BK124; clear HB; have BK124 := n0_; have HB := n1_; clear n0_ n1_; (try clear hb); (try clear hb2); (try clear hk); (try clear hi); have hcz51_0 := blk_cell BK124.out; have hfz51_0 := blk_frozen BK124.out))
                      go_ret
                      exact ⟨by first | rfl | (simp [errW_none, errW_some] <;> rfl) | (simp [*, errW_none, errW_some] <;> rfl), by repeat (first | (with_reducible first | exact HB.out | apply below_alloc | apply pw_below_drewN | apply below_drew1 | refine below_set ?_ GE124.out) | exact HB.out)⟩
                    · replace c48 := Bool.eq_false_iff.mpr c48
                      subst c48
                      have H1 : (some false) = some r := by rw [if_neg (show ¬ (false = true) by decide)] at H; exact H
                      clear H
                      have H := H1
                      clear H1
                      obtain rfl := Option.some.inj H
                      have hcz52_0 := blk_cell BK124.out
                      have hfz52_0 := blk_frozen BK124.out
                      go_wp2_with (first | (go_at_call 85; (with_reducible refine (trade_acq.calls a0_3 false _ A47.out).mono ?_); rintro e w53 ⟨rfl, hb⟩; have n0_ := Aside0.mk (blk_below (g := gb124) (o := .cells #[.int .i64 a0_0, .int .i64 a0_1, .string a0_2, .string a0_3, .string a0_4, .int .i64 a0_5] 36 (0, 0)) (by (with_reducible repeat (first | refine blk_drewN ?_ _ | refine blk_drew ?_ | refine blk_alloc ?_ _)); exact BK124.out) hb); have n1_ := Aside0.mk (below_step (by repeat (first | (with_reducible first | exact HB.out | apply below_alloc | apply pw_below_drewN | apply below_drew1 | refine below_set ?_ GE124.out) | exact HB.out)) hb); clear BK124; clear HB; have BK124 := n0_; have HB := n1_; clear n0_ n1_; (try clear hb); (try clear hb2); (try clear hk); (try clear hi)))
                      go_ret
                      exact ⟨by first | rfl | (simp [errW_none, errW_some] <;> rfl) | (simp [*, errW_none, errW_some] <;> rfl), by repeat (first | (with_reducible first | exact HB.out | apply below_alloc | apply pw_below_drewN | apply below_drew1 | refine below_set ?_ GE124.out) | exact HB.out)⟩
                  · rw [if_neg c46] at H
                    have c46b0 : (a0_2.toList == ([] : List UInt8)) = false := beq_eq_false_iff_ne.mpr c46
                    have c46b1 : (a0_2.toList != ([] : List UInt8)) = true := bne_iff_ne.mpr c46
                    obtain rfl := Option.some.inj H
                    have hcz54_0 := blk_cell BK124.out
                    have hfz54_0 := blk_frozen BK124.out
                    go_wp2
                    go_ret
                    exact ⟨by first | rfl | (simp [errW_none, errW_some] <;> rfl) | (simp [*, errW_none, errW_some] <;> rfl), by repeat (first | (with_reducible first | exact HB.out | apply below_alloc | apply pw_below_drewN | apply below_drew1 | refine below_set ?_ GE124.out) | exact HB.out)⟩
                · rw [if_neg c45] at H
                  have c45b0 : (a0_0 == 5) = false := beq_eq_false_iff_ne.mpr c45
                  have c45b1 : (a0_0 != 5) = true := bne_iff_ne.mpr c45
                  by_cases c55 : a0_0 = 6
                  · rw [if_pos c55] at H
                    have c55b0 : (a0_0 == 6) = true := beq_iff_eq.mpr c55
                    have c55b1 : (a0_0 != 6) = false := bne_eq_false_iff_eq.mpr c55
                    clear c55
                    by_cases c56 : a0_2.toList = ([] : List UInt8)
                    · rw [if_pos c56] at H
                      have c56b0 : (a0_2.toList == ([] : List UInt8)) = true := beq_iff_eq.mpr c56
                      have c56b1 : (a0_2.toList != ([] : List UInt8)) = false := bne_eq_false_iff_eq.mpr c56
                      clear c56
                      replace H := Option.bind_eq_some_iff.mp H
                      obtain ⟨t130, A570, H⟩ := H
                      replace H : (if t130 = true then (some (a0_4.toList == ([] : List UInt8))) else (some false)) = some r := H
                      have A57 := Aside0.mk A570
                      clear A570
                      by_cases c58 : t130 = true
                      · subst c58
                        have H1 : (some (a0_4.toList == ([] : List UInt8))) = some r := by rw [if_pos rfl] at H; exact H
                        clear H
                        have H := H1
                        clear H1
                        obtain rfl := Option.some.inj H
                        have hcz59_0 := blk_cell BK124.out
                        have hfz59_0 := blk_frozen BK124.out
                        go_wp2_with (first | (go_at_call 85; (with_reducible refine (trade_acq.calls a0_3 true _ A57.out).mono ?_); rintro e w60 ⟨rfl, hb⟩; have n0_ := Aside0.mk (blk_below (g := gb124) (o := .cells #[.int .i64 a0_0, .int .i64 a0_1, .string a0_2, .string a0_3, .string a0_4, .int .i64 a0_5] 36 (0, 0)) (by (with_reducible repeat (first | refine blk_drewN ?_ _ | refine blk_drew ?_ | refine blk_alloc ?_ _)); exact BK124.out) hb); have n1_ := Aside0.mk (below_step (by repeat (first | (with_reducible first | exact HB.out | apply below_alloc | apply pw_below_drewN | apply below_drew1 | refine below_set ?_ GE124.out) | exact HB.out)) hb); clear BK124; clear HB; have BK124 := n0_; have HB := n1_; clear n0_ n1_; (try clear hb); (try clear hb2); (try clear hk); (try clear hi); have hcz61_0 := blk_cell BK124.out; have hfz61_0 := blk_frozen BK124.out))
                        go_ret
                        exact ⟨by first | rfl | (simp [errW_none, errW_some] <;> rfl) | (simp [*, errW_none, errW_some] <;> rfl), by repeat (first | (with_reducible first | exact HB.out | apply below_alloc | apply pw_below_drewN | apply below_drew1 | refine below_set ?_ GE124.out) | exact HB.out)⟩
                      · replace c58 := Bool.eq_false_iff.mpr c58
                        subst c58
                        have H1 : (some false) = some r := by rw [if_neg (show ¬ (false = true) by decide)] at H; exact H
                        clear H
                        have H := H1
                        clear H1
                        obtain rfl := Option.some.inj H
                        have hcz62_0 := blk_cell BK124.out
                        have hfz62_0 := blk_frozen BK124.out
                        go_wp2_with (first | (go_at_call 85; (with_reducible refine (trade_acq.calls a0_3 false _ A57.out).mono ?_); rintro e w63 ⟨rfl, hb⟩; have n0_ := Aside0.mk (blk_below (g := gb124) (o := .cells #[.int .i64 a0_0, .int .i64 a0_1, .string a0_2, .string a0_3, .string a0_4, .int .i64 a0_5] 36 (0, 0)) (by (with_reducible repeat (first | refine blk_drewN ?_ _ | refine blk_drew ?_ | refine blk_alloc ?_ _)); exact BK124.out) hb); have n1_ := Aside0.mk (below_step (by repeat (first | (with_reducible first | exact HB.out | apply below_alloc | apply pw_below_drewN | apply below_drew1 | refine below_set ?_ GE124.out) | exact HB.out)) hb); clear BK124; clear HB; have BK124 := n0_; have HB := n1_; clear n0_ n1_; (try clear hb); (try clear hb2); (try clear hk); (try clear hi)))
                        go_ret
                        exact ⟨by first | rfl | (simp [errW_none, errW_some] <;> rfl) | (simp [*, errW_none, errW_some] <;> rfl), by repeat (first | (with_reducible first | exact HB.out | apply below_alloc | apply pw_below_drewN | apply below_drew1 | refine below_set ?_ GE124.out) | exact HB.out)⟩
                    · rw [if_neg c56] at H
                      have c56b0 : (a0_2.toList == ([] : List UInt8)) = false := beq_eq_false_iff_ne.mpr c56
                      have c56b1 : (a0_2.toList != ([] : List UInt8)) = true := bne_iff_ne.mpr c56
                      obtain rfl := Option.some.inj H
                      have hcz64_0 := blk_cell BK124.out
                      have hfz64_0 := blk_frozen BK124.out
                      go_wp2
                      go_ret
                      exact ⟨by first | rfl | (simp [errW_none, errW_some] <;> rfl) | (simp [*, errW_none, errW_some] <;> rfl), by repeat (first | (with_reducible first | exact HB.out | apply below_alloc | apply pw_below_drewN | apply below_drew1 | refine below_set ?_ GE124.out) | exact HB.out)⟩
                  · rw [if_neg c55] at H
                    have c55b0 : (a0_0 == 6) = false := beq_eq_false_iff_ne.mpr c55
                    have c55b1 : (a0_0 != 6) = true := bne_iff_ne.mpr c55
                    obtain rfl := Option.some.inj H
                    go_wp2
                    go_ret
                    exact ⟨by first | rfl | (simp [errW_none, errW_some] <;> rfl) | (simp [*, errW_none, errW_some] <;> rfl), by repeat (first | (with_reducible first | exact HB.out | apply below_alloc | apply pw_below_drewN | apply below_drew1 | refine below_set ?_ GE124.out) | exact HB.out)⟩

/-! ### capture_asked_taken: function 72 -/
def capture_asked_taken.f (k : Nat) (a0_0 : ByteArray) (a0_1 : ByteArray) (a0_2 : ByteArray) (a0_3 : Int) (a0_4 : ByteArray) (a0_5 : ByteArray) (a0_6 : ByteArray) (a0_7 : ByteArray) (a0_8 : ByteArray) (a0_9 : Int) (a0_10 : Int) (a0_11 : ByteArray) (a0_12 : Bool) (a0_13 : Int) (a0_14 : ByteArray) (a0_15 : ByteArray) (a0_16 : ByteArray) (a0_17 : Int) (a0_18 : Int) (a0_19 : Int) (a0_20 : Bool) (a0_21 : Bool) (a0_22 : Int) (a0_23 : Int) (a0_24 : Bool) (a1_0 : ByteArray) (a1_1 : ByteArray) (a1_2 : ByteArray) (a1_3 : Int) (a1_4 : Int) (a1_5 : Int) (a1_6 : Bool) (a2 : Bool) : Option (ByteArray × ByteArray × ByteArray × ByteArray × Int × Int × Int × Bool × Bool × Int × Int × ByteArray × ByteArray × ByteArray × Int) := (trade_May.f k 2 a0_23 a0_1 a0_6 a0_7 a0_3).bind fun t135 => (if t135 = true then (some ((⟨#[48, 48]⟩ : ByteArray), a1_0, a1_1, a1_2, a1_3, a1_4, a1_5, a1_6, a2, 2, a0_23, a0_1, a0_6, a0_7, a0_3)) else (some ((⟨#[51, 48]⟩ : ByteArray), (⟨#[]⟩ : ByteArray), (⟨#[]⟩ : ByteArray), (⟨#[]⟩ : ByteArray), 0, 0, 0, false, false, 0, 0, (⟨#[]⟩ : ByteArray), (⟨#[]⟩ : ByteArray), (⟨#[]⟩ : ByteArray), 0)))
theorem capture_asked_taken.mono : ∀ a0 a1 a2 a3 a4 a5 a6 a7 a8 a9 a10 a11 a12 a13 a14 a15 a16 a17 a18 a19 a20 a21 a22 a23 a24 a25 a26 a27 a28 a29 a30 a31 a32 k, LeO (capture_asked_taken.f k a0 a1 a2 a3 a4 a5 a6 a7 a8 a9 a10 a11 a12 a13 a14 a15 a16 a17 a18 a19 a20 a21 a22 a23 a24 a25 a26 a27 a28 a29 a30 a31 a32) (capture_asked_taken.f (k + 1) a0 a1 a2 a3 a4 a5 a6 a7 a8 a9 a10 a11 a12 a13 a14 a15 a16 a17 a18 a19 a20 a21 a22 a23 a24 a25 a26 a27 a28 a29 a30 a31 a32) := by
  intro a0 a1 a2 a3 a4 a5 a6 a7 a8 a9 a10 a11 a12 a13 a14 a15 a16 a17 a18 a19 a20 a21 a22 a23 a24 a25 a26 a27 a28 a29 a30 a31 a32 k
  unfold capture_asked_taken.f
  repeat' first
      | (with_reducible exact trade_May.mono _ _ _ _ _ _ _)
      | (with_reducible exact LeO.refl _)
      | (with_reducible exact LeO.none _)
      | (with_reducible refine LeO.ite ?_ ?_)
      | (with_reducible refine LeO.bind ?_ (fun _ => ?_))
      | exact trade_May.mono _ _ _ _ _ _ _
      | exact LeO.none _
      | refine LeO.ite ?_ ?_
      | refine LeO.bind ?_ (fun _ => ?_)
def capture_asked_taken.Z15 : Array Value := #[.string (⟨#[]⟩ : ByteArray), .string (⟨#[]⟩ : ByteArray), .string (⟨#[]⟩ : ByteArray), .string (⟨#[]⟩ : ByteArray), .int .i64 0, .int .i64 0, .int .i64 0, .bool false, .bool false, .int .i64 0, .int .i64 0, .string (⟨#[]⟩ : ByteArray), .string (⟨#[]⟩ : ByteArray), .string (⟨#[]⟩ : ByteArray), .int .i64 0]
def capture_asked_taken.Z6 : Array Value := #[.int .i64 0, .int .i64 0, .string (⟨#[]⟩ : ByteArray), .string (⟨#[]⟩ : ByteArray), .string (⟨#[]⟩ : ByteArray), .int .i64 0]
set_option maxHeartbeats 8000000 in
set_option maxRecDepth 100000 in
theorem capture_asked_taken.calls (k : Nat) (a0_0 : ByteArray) (a0_1 : ByteArray) (a0_2 : ByteArray) (a0_3 : Int) (a0_4 : ByteArray) (a0_5 : ByteArray) (a0_6 : ByteArray) (a0_7 : ByteArray) (a0_8 : ByteArray) (a0_9 : Int) (a0_10 : Int) (a0_11 : ByteArray) (a0_12 : Bool) (a0_13 : Int) (a0_14 : ByteArray) (a0_15 : ByteArray) (a0_16 : ByteArray) (a0_17 : Int) (a0_18 : Int) (a0_19 : Int) (a0_20 : Bool) (a0_21 : Bool) (a0_22 : Int) (a0_23 : Int) (a0_24 : Bool) (a1_0 : ByteArray) (a1_1 : ByteArray) (a1_2 : ByteArray) (a1_3 : Int) (a1_4 : Int) (a1_5 : Int) (a1_6 : Bool) (a2 : Bool) (r1 : ByteArray) (r2 : ByteArray) (r3 : ByteArray) (r4 : ByteArray) (r5 : Int) (r6 : Int) (r7 : Int) (r8 : Bool) (r9 : Bool) (r10 : Int) (r11 : Int) (r12 : ByteArray) (r13 : ByteArray) (r14 : ByteArray) (r15 : Int) (w : World) (h : capture_asked_taken.f k a0_0 a0_1 a0_2 a0_3 a0_4 a0_5 a0_6 a0_7 a0_8 a0_9 a0_10 a0_11 a0_12 a0_13 a0_14 a0_15 a0_16 a0_17 a0_18 a0_19 a0_20 a0_21 a0_22 a0_23 a0_24 a1_0 a1_1 a1_2 a1_3 a1_4 a1_5 a1_6 a2 = some (r1, r2, r3, r4, r5, r6, r7, r8, r9, r10, r11, r12, r13, r14, r15)) :
    Calls Try.prog 72 #[.agg #[.string a0_0, .string a0_1, .string a0_2, .int .i64 a0_3, .string a0_4, .string a0_5, .string a0_6, .string a0_7, .string a0_8, .int .i64 a0_9, .int .i64 a0_10, .string a0_11, .bool a0_12, .int .i64 a0_13, .string a0_14, .string a0_15, .string a0_16, .int .i64 a0_17, .int .i64 a0_18, .int .i64 a0_19, .bool a0_20, .bool a0_21, .int .i64 a0_22, .int .i64 a0_23, .bool a0_24], .agg #[.string a1_0, .string a1_1, .string a1_2, .int .i64 a1_3, .int .i64 a1_4, .int .i64 a1_5, .bool a1_6], .bool a2] w fun e w' => e = .returned (.agg #[.string r1, .string r2, .string r3, .string r4, .int .i64 r5, .int .i64 r6, .int .i64 r7, .bool r8, .bool r9, .int .i64 r10, .int .i64 r11, .string r12, .string r13, .string r14, .int .i64 r15]) ∧ Below w.heap.size w w' := by
  have hu79 := Try.underlying79
  have hu25 := Try.underlying25
  have hu53 := Try.underlying53
  have hu36 := Try.underlying36
  have HO := Aside0.mk (Ow.Own.nil w)
  have hmf : ∀ (fn : Fn) (first cap : Array Value) (w : World), (Instr.makeFunc fn first cap).run Try.prog w = .ok (.func fn first cap) w := fun _ _ _ _ => rfl
  have H : ((trade_May.f k 2 a0_23 a0_1 a0_6 a0_7 a0_3).bind fun t135 => (if t135 = true then (some ((⟨#[48, 48]⟩ : ByteArray), a1_0, a1_1, a1_2, a1_3, a1_4, a1_5, a1_6, a2, 2, a0_23, a0_1, a0_6, a0_7, a0_3)) else (some ((⟨#[51, 48]⟩ : ByteArray), (⟨#[]⟩ : ByteArray), (⟨#[]⟩ : ByteArray), (⟨#[]⟩ : ByteArray), 0, 0, 0, false, false, 0, 0, (⟨#[]⟩ : ByteArray), (⟨#[]⟩ : ByteArray), (⟨#[]⟩ : ByteArray), 0)))) = some (r1, r2, r3, r4, r5, r6, r7, r8, r9, r10, r11, r12, r13, r14, r15) := h
  clear h
  replace H := Option.bind_eq_some_iff.mp H
  obtain ⟨t135, A40, H⟩ := H
  replace H : (if t135 = true then (some ((⟨#[48, 48]⟩ : ByteArray), a1_0, a1_1, a1_2, a1_3, a1_4, a1_5, a1_6, a2, 2, a0_23, a0_1, a0_6, a0_7, a0_3)) else (some ((⟨#[51, 48]⟩ : ByteArray), (⟨#[]⟩ : ByteArray), (⟨#[]⟩ : ByteArray), (⟨#[]⟩ : ByteArray), 0, 0, 0, false, false, 0, 0, (⟨#[]⟩ : ByteArray), (⟨#[]⟩ : ByteArray), (⟨#[]⟩ : ByteArray), 0))) = some (r1, r2, r3, r4, r5, r6, r7, r8, r9, r10, r11, r12, r13, r14, r15) := H
  have A4 := Aside0.mk A40
  clear A40
  by_cases c5 : t135 = true
  · subst c5
    have H1 : (some ((⟨#[48, 48]⟩ : ByteArray), a1_0, a1_1, a1_2, a1_3, a1_4, a1_5, a1_6, a2, 2, a0_23, a0_1, a0_6, a0_7, a0_3)) = some (r1, r2, r3, r4, r5, r6, r7, r8, r9, r10, r11, r12, r13, r14, r15) := by rw [if_pos rfl] at H; exact H
    clear H
    have H := H1
    clear H1
    simp only [Option.some.injEq, Prod.mk.injEq] at H
    obtain ⟨rfl, rfl, rfl, rfl, rfl, rfl, rfl, rfl, rfl, rfl, rfl, rfl, rfl, rfl, rfl⟩ := H
    obtain ⟨Q0, hQ0_⟩ : ∃ q_ : Array Value, q_ = (#[.string a0_0, .string a0_1, .string a0_2, .int .i64 a0_3, .string a0_4, .string a0_5, .string a0_6, .string a0_7, .string a0_8, .int .i64 a0_9, .int .i64 a0_10, .string a0_11, .bool a0_12, .int .i64 a0_13, .string a0_14, .string a0_15, .string a0_16, .int .i64 a0_17, .int .i64 a0_18, .int .i64 a0_19, .bool a0_20, .bool a0_21, .int .i64 a0_22, .int .i64 a0_23, .bool a0_24] : Array Value) := ⟨_, rfl⟩
    try rw [← hQ0_]
    have hQ0 := Aside0.mk hQ0_; have hq := Aside0.mk hQ0_; clear hQ0_
    obtain ⟨Q1, hQ1_⟩ : ∃ q_ : Array Value, q_ = (#[.string a1_0, .string a1_1, .string a1_2, .int .i64 a1_3, .int .i64 a1_4, .int .i64 a1_5, .bool a1_6] : Array Value) := ⟨_, rfl⟩
    try rw [← hQ1_]
    have hQ1 := Aside0.mk hQ1_; replace hq := Aside0.mk (And.intro hQ1_ hq.1); clear hQ1_
    go_enter Try.func72, Try.ntmps72
    go_wp2_with (first | ((with_reducible refine gate_dst (N := 3) rfl ?_); refine Ow.box rfl (N := 3) rfl (cs := Q0) (t := 79) HO.out (by first | (go_simp; done) | (go_simp; rfl)) ?_; clear HO; intro gb131 w6 HO; simp only [List.cons_append, List.nil_append] at HO) | ((with_reducible refine gate_dst (N := 4) rfl ?_); refine Ow.box rfl (N := 4) rfl (cs := Q1) (t := 25) HO.out (by first | (go_simp; done) | (go_simp; rfl)) ?_; clear HO; intro gb132 w7 HO; simp only [List.cons_append, List.nil_append] at HO) | ((with_reducible refine gate_dst (N := 6) rfl ?_); refine Ow.box rfl (N := 6) rfl (cs := capture_asked_taken.Z15) (t := 53) HO.out (by first | (go_simp; done) | (go_simp; rfl)) ?_; clear HO; intro gb133 w8 HO; simp only [List.cons_append, List.nil_append] at HO) | ((with_reducible refine gate_dst (N := 7) rfl ?_); refine Ow.box rfl (N := 7) rfl (cs := capture_asked_taken.Z6) (t := 36) HO.out (by first | (go_simp; done) | (go_simp; rfl)) ?_; clear HO; intro gb134 w12 HO; simp only [List.cons_append, List.nil_append] at HO) | ((with_reducible refine gate_callee (f := 80) rfl ?_); refine goesL_ (some 29) rfl rfl Try.func80 (by kernel_rfl) rfl #[.agg #[.int .i64 2, .int .i64 a0_23, .string a0_1, .string a0_6, .string a0_7, .int .i64 a0_3]] rfl (by (try simp only [List.map_toArray, List.map_cons, List.map_nil]); first | done | rfl | (simp only [hq.1]; done) | (simp only [hq.1]; rfl)) ?_; refine Calls.mono (calls_of_args (by first | ((try simp only [hq.1]) <;> rfl) | fail) (trade_May.calls k 2 a0_23 a0_1 a0_6 a0_7 a0_3 true _ A4.out)) ?_; rintro e w19 ⟨he_, hb⟩; subst he_; refine ⟨_, rfl, ?_⟩; replace HO := Aside0.mk (Ow.Own.call HO.out hb); clear hb) | ((with_reducible refine Ow.gate_build rfl ?_); (try (refine gate_guard (by rfl) ?_; dsimp only)); refine' Ow.tbuild Ot.bd rfl rfl rfl ?hf_ ?_; (case hf_ => repeat (any_goals (first | exact Ow.Fills.nil | (refine' Ow.Fills.c ?hv_ rfl ?hz_ ?_; (case hv_ => first | exact Ow.ev_tmp rfl | rfl); (case hz_ => first | (refine ⟨?_, ?_⟩ <;> (first | ((try simp only [hq.1]) <;> rfl) | fail)) | fail)))))) | ((with_reducible refine Ow.gate_load rfl ?_); (try (refine gate_guard (by rfl) ?_; dsimp only)); (first | refine Ow.l1 Ot.ty HO.out rfl rfl rfl rfl (by first | ((try simp only [hq.1]) <;> rfl) | fail) ?_ | refine Ow.l0 Ot.ty HO.out rfl rfl rfl rfl (by first | ((try simp only [hq.1]) <;> rfl) | fail) ?_ | refine Ow.lp Ot.ty HO.out rfl rfl rfl rfl (by first | ((try simp only [hq.1]) <;> rfl) | fail) ?_)) | ((with_reducible refine gate_store rfl ?_); (try (refine gate_guard (by rfl) ?_; dsimp only)); (first | refine Ow.s0 Ot.ty HO.out rfl rfl rfl rfl rfl (by first | exact Ow.ev_tmp rfl | rfl) (by first | (refine ⟨?_, ?_, ?_⟩ <;> (first | ((try simp only [hq.1]) <;> rfl) | fail)) | fail) ?_ | refine Ow.sp Ot.ty HO.out rfl rfl rfl rfl rfl (by first | exact Ow.ev_tmp rfl | rfl) (by first | (refine ⟨?_, ?_, ?_⟩ <;> (first | ((try simp only [hq.1]) <;> rfl) | fail)) | fail) ?_); clear HO; intro wz_ HO; simp only [List.set_cons_zero, List.set_cons_succ] at HO))
    refine' bodyPost_ret (results_cell_row rfl _ _ gb133 53 _ (0, 0) _ rfl ?hb_ Try.underlying53 rfl ?hi_) rfl ?_
    case hb_ => refine' Ow.Own.get HO.out 2 ?hk_; (case hk_ => rfl)
    case hi_ => exact (Ot.ty.size 53 rfl).trans (congrArg some (by first | ((try simp only [hq.1]) <;> rfl) | fail))
    all_goals exact ⟨by first | rfl | (simp only [hq.1]; done) | (simp only [hq.1]; rfl) | (simp [errW_none, errW_some] <;> rfl) | (simp [*, errW_none, errW_some] <;> rfl), Ow.Own.below HO.out⟩
  · replace c5 := Bool.eq_false_iff.mpr c5
    subst c5
    have H1 : (some ((⟨#[51, 48]⟩ : ByteArray), (⟨#[]⟩ : ByteArray), (⟨#[]⟩ : ByteArray), (⟨#[]⟩ : ByteArray), 0, 0, 0, false, false, 0, 0, (⟨#[]⟩ : ByteArray), (⟨#[]⟩ : ByteArray), (⟨#[]⟩ : ByteArray), 0)) = some (r1, r2, r3, r4, r5, r6, r7, r8, r9, r10, r11, r12, r13, r14, r15) := by rw [if_neg (show ¬ (false = true) by decide)] at H; exact H
    clear H
    have H := H1
    clear H1
    simp only [Option.some.injEq, Prod.mk.injEq] at H
    obtain ⟨rfl, rfl, rfl, rfl, rfl, rfl, rfl, rfl, rfl, rfl, rfl, rfl, rfl, rfl, rfl⟩ := H
    obtain ⟨Q2, hQ2_⟩ : ∃ q_ : Array Value, q_ = (#[.string a0_0, .string a0_1, .string a0_2, .int .i64 a0_3, .string a0_4, .string a0_5, .string a0_6, .string a0_7, .string a0_8, .int .i64 a0_9, .int .i64 a0_10, .string a0_11, .bool a0_12, .int .i64 a0_13, .string a0_14, .string a0_15, .string a0_16, .int .i64 a0_17, .int .i64 a0_18, .int .i64 a0_19, .bool a0_20, .bool a0_21, .int .i64 a0_22, .int .i64 a0_23, .bool a0_24] : Array Value) := ⟨_, rfl⟩
    try rw [← hQ2_]
    have hQ2 := Aside0.mk hQ2_; have hq := Aside0.mk hQ2_; clear hQ2_
    obtain ⟨Q3, hQ3_⟩ : ∃ q_ : Array Value, q_ = (#[.string a1_0, .string a1_1, .string a1_2, .int .i64 a1_3, .int .i64 a1_4, .int .i64 a1_5, .bool a1_6] : Array Value) := ⟨_, rfl⟩
    try rw [← hQ3_]
    have hQ3 := Aside0.mk hQ3_; replace hq := Aside0.mk (And.intro hQ3_ hq.1); clear hQ3_
    go_enter Try.func72, Try.ntmps72
    go_wp2_with (first | ((with_reducible refine gate_dst (N := 3) rfl ?_); refine Ow.box rfl (N := 3) rfl (cs := Q2) (t := 79) HO.out (by first | (go_simp; done) | (go_simp; rfl)) ?_; clear HO; intro gb131 w25 HO; simp only [List.cons_append, List.nil_append] at HO) | ((with_reducible refine gate_dst (N := 4) rfl ?_); refine Ow.box rfl (N := 4) rfl (cs := Q3) (t := 25) HO.out (by first | (go_simp; done) | (go_simp; rfl)) ?_; clear HO; intro gb132 w26 HO; simp only [List.cons_append, List.nil_append] at HO) | ((with_reducible refine gate_dst (N := 6) rfl ?_); refine Ow.box rfl (N := 6) rfl (cs := capture_asked_taken.Z15) (t := 53) HO.out (by first | (go_simp; done) | (go_simp; rfl)) ?_; clear HO; intro gb133 w27 HO; simp only [List.cons_append, List.nil_append] at HO) | ((with_reducible refine gate_dst (N := 7) rfl ?_); refine Ow.box rfl (N := 7) rfl (cs := capture_asked_taken.Z6) (t := 36) HO.out (by first | (go_simp; done) | (go_simp; rfl)) ?_; clear HO; intro gb134 w31 HO; simp only [List.cons_append, List.nil_append] at HO) | ((with_reducible refine gate_callee (f := 80) rfl ?_); refine goesL_ (some 29) rfl rfl Try.func80 (by kernel_rfl) rfl #[.agg #[.int .i64 2, .int .i64 a0_23, .string a0_1, .string a0_6, .string a0_7, .int .i64 a0_3]] rfl (by (try simp only [List.map_toArray, List.map_cons, List.map_nil]); first | done | rfl | (simp only [hq.1]; done) | (simp only [hq.1]; rfl)) ?_; refine Calls.mono (calls_of_args (by first | ((try simp only [hq.1]) <;> rfl) | fail) (trade_May.calls k 2 a0_23 a0_1 a0_6 a0_7 a0_3 false _ A4.out)) ?_; rintro e w38 ⟨he_, hb⟩; subst he_; refine ⟨_, rfl, ?_⟩; replace HO := Aside0.mk (Ow.Own.call HO.out hb); clear hb) | ((with_reducible refine Ow.gate_build rfl ?_); (try (refine gate_guard (by rfl) ?_; dsimp only)); refine' Ow.tbuild Ot.bd rfl rfl rfl ?hf_ ?_; (case hf_ => repeat (any_goals (first | exact Ow.Fills.nil | (refine' Ow.Fills.c ?hv_ rfl ?hz_ ?_; (case hv_ => first | exact Ow.ev_tmp rfl | rfl); (case hz_ => first | (refine ⟨?_, ?_⟩ <;> (first | ((try simp only [hq.1]) <;> rfl) | fail)) | fail)))))) | ((with_reducible refine Ow.gate_load rfl ?_); (try (refine gate_guard (by rfl) ?_; dsimp only)); (first | refine Ow.l1 Ot.ty HO.out rfl rfl rfl rfl (by first | ((try simp only [hq.1]) <;> rfl) | fail) ?_ | refine Ow.l0 Ot.ty HO.out rfl rfl rfl rfl (by first | ((try simp only [hq.1]) <;> rfl) | fail) ?_ | refine Ow.lp Ot.ty HO.out rfl rfl rfl rfl (by first | ((try simp only [hq.1]) <;> rfl) | fail) ?_)) | ((with_reducible refine gate_store rfl ?_); (try (refine gate_guard (by rfl) ?_; dsimp only)); (first | refine Ow.s0 Ot.ty HO.out rfl rfl rfl rfl rfl (by first | exact Ow.ev_tmp rfl | rfl) (by first | (refine ⟨?_, ?_, ?_⟩ <;> (first | ((try simp only [hq.1]) <;> rfl) | fail)) | fail) ?_ | refine Ow.sp Ot.ty HO.out rfl rfl rfl rfl rfl (by first | exact Ow.ev_tmp rfl | rfl) (by first | (refine ⟨?_, ?_, ?_⟩ <;> (first | ((try simp only [hq.1]) <;> rfl) | fail)) | fail) ?_); clear HO; intro wz_ HO; simp only [List.set_cons_zero, List.set_cons_succ] at HO))
    refine' bodyPost_ret (results_cell_row rfl _ _ gb133 53 _ (0, 0) _ rfl ?hb_ Try.underlying53 rfl ?hi_) rfl ?_
    case hb_ => refine' Ow.Own.get HO.out 2 ?hk_; (case hk_ => rfl)
    case hi_ => exact (Ot.ty.size 53 rfl).trans (congrArg some (by first | ((try simp only [hq.1]) <;> rfl) | fail))
    all_goals exact ⟨by first | rfl | (simp only [hq.1]; done) | (simp only [hq.1]; rfl) | (simp [errW_none, errW_some] <;> rfl) | (simp [*, errW_none, errW_some] <;> rfl), Ow.Own.below HO.out⟩

/-! ### capture_asked_bare: function 54 -/
def capture_asked_bare.f (k : Nat) (a0_0 : ByteArray) (a0_1 : ByteArray) (a0_2 : ByteArray) (a0_3 : Int) (a0_4 : ByteArray) (a0_5 : ByteArray) (a0_6 : ByteArray) (a0_7 : ByteArray) (a0_8 : ByteArray) (a0_9 : Int) (a0_10 : Int) (a0_11 : ByteArray) (a0_12 : Bool) (a0_13 : Int) (a0_14 : ByteArray) (a0_15 : ByteArray) (a0_16 : ByteArray) (a0_17 : Int) (a0_18 : Int) (a0_19 : Int) (a0_20 : Bool) (a0_21 : Bool) (a0_22 : Int) (a0_23 : Int) (a0_24 : Bool) : Option (ByteArray × ByteArray × ByteArray × ByteArray × Int × Int × Int × Bool × Bool × Int × Int × ByteArray × ByteArray × ByteArray × Int) := (auth_Advice.f a0_0 a0_1 a0_2 a0_3 a0_4 a0_5 a0_6 a0_7 a0_8 a0_9 a0_10 a0_11).bind fun t138 => (if t138 = true then ((capture_asked_taken.f k a0_0 a0_1 a0_2 a0_3 a0_4 a0_5 a0_6 a0_7 a0_8 a0_9 a0_10 a0_11 a0_12 a0_13 a0_14 a0_15 a0_16 a0_17 a0_18 a0_19 a0_20 a0_21 a0_22 a0_23 a0_24 (⟨#[]⟩ : ByteArray) (⟨#[]⟩ : ByteArray) (⟨#[]⟩ : ByteArray) 0 0 0 false false).bind fun bt139 => (some (bt139.1, bt139.2.1, bt139.2.2.1, bt139.2.2.2.1, bt139.2.2.2.2.1, bt139.2.2.2.2.2.1, bt139.2.2.2.2.2.2.1, bt139.2.2.2.2.2.2.2.1, bt139.2.2.2.2.2.2.2.2.1, bt139.2.2.2.2.2.2.2.2.2.1, bt139.2.2.2.2.2.2.2.2.2.2.1, bt139.2.2.2.2.2.2.2.2.2.2.2.1, bt139.2.2.2.2.2.2.2.2.2.2.2.2.1, bt139.2.2.2.2.2.2.2.2.2.2.2.2.2.1, bt139.2.2.2.2.2.2.2.2.2.2.2.2.2.2))) else (if a0_3 > a0_13 then (some ((⟨#[53, 49]⟩ : ByteArray), (⟨#[]⟩ : ByteArray), (⟨#[]⟩ : ByteArray), (⟨#[]⟩ : ByteArray), 0, 0, 0, false, false, 0, 0, (⟨#[]⟩ : ByteArray), (⟨#[]⟩ : ByteArray), (⟨#[]⟩ : ByteArray), 0)) else ((capture_asked_taken.f k a0_0 a0_1 a0_2 a0_3 a0_4 a0_5 a0_6 a0_7 a0_8 a0_9 a0_10 a0_11 a0_12 a0_13 a0_14 a0_15 a0_16 a0_17 a0_18 a0_19 a0_20 a0_21 a0_22 a0_23 a0_24 (⟨#[]⟩ : ByteArray) (⟨#[]⟩ : ByteArray) (⟨#[]⟩ : ByteArray) 0 0 0 false false).bind fun bt154 => (some (bt154.1, bt154.2.1, bt154.2.2.1, bt154.2.2.2.1, bt154.2.2.2.2.1, bt154.2.2.2.2.2.1, bt154.2.2.2.2.2.2.1, bt154.2.2.2.2.2.2.2.1, bt154.2.2.2.2.2.2.2.2.1, bt154.2.2.2.2.2.2.2.2.2.1, bt154.2.2.2.2.2.2.2.2.2.2.1, bt154.2.2.2.2.2.2.2.2.2.2.2.1, bt154.2.2.2.2.2.2.2.2.2.2.2.2.1, bt154.2.2.2.2.2.2.2.2.2.2.2.2.2.1, bt154.2.2.2.2.2.2.2.2.2.2.2.2.2.2)))))
theorem capture_asked_bare.mono : ∀ a0 a1 a2 a3 a4 a5 a6 a7 a8 a9 a10 a11 a12 a13 a14 a15 a16 a17 a18 a19 a20 a21 a22 a23 a24 k, LeO (capture_asked_bare.f k a0 a1 a2 a3 a4 a5 a6 a7 a8 a9 a10 a11 a12 a13 a14 a15 a16 a17 a18 a19 a20 a21 a22 a23 a24) (capture_asked_bare.f (k + 1) a0 a1 a2 a3 a4 a5 a6 a7 a8 a9 a10 a11 a12 a13 a14 a15 a16 a17 a18 a19 a20 a21 a22 a23 a24) := by
  intro a0 a1 a2 a3 a4 a5 a6 a7 a8 a9 a10 a11 a12 a13 a14 a15 a16 a17 a18 a19 a20 a21 a22 a23 a24 k
  unfold capture_asked_bare.f
  repeat' first
      | (with_reducible exact capture_asked_taken.mono _ _ _ _ _ _ _ _ _ _ _ _ _ _ _ _ _ _ _ _ _ _ _ _ _ _ _ _ _ _ _ _ _ _)
      | (with_reducible exact LeO.refl _)
      | (with_reducible exact LeO.none _)
      | (with_reducible refine LeO.ite ?_ ?_)
      | (with_reducible refine LeO.bind ?_ (fun _ => ?_))
      | exact capture_asked_taken.mono _ _ _ _ _ _ _ _ _ _ _ _ _ _ _ _ _ _ _ _ _ _ _ _ _ _ _ _ _ _ _ _ _ _
      | exact LeO.none _
      | refine LeO.ite ?_ ?_
      | refine LeO.bind ?_ (fun _ => ?_)
def capture_asked_bare.Z15 : Array Value := #[.string (⟨#[]⟩ : ByteArray), .string (⟨#[]⟩ : ByteArray), .string (⟨#[]⟩ : ByteArray), .string (⟨#[]⟩ : ByteArray), .int .i64 0, .int .i64 0, .int .i64 0, .bool false, .bool false, .int .i64 0, .int .i64 0, .string (⟨#[]⟩ : ByteArray), .string (⟨#[]⟩ : ByteArray), .string (⟨#[]⟩ : ByteArray), .int .i64 0]
set_option maxHeartbeats 8000000 in
set_option maxRecDepth 100000 in
theorem capture_asked_bare.calls (k : Nat) (a0_0 : ByteArray) (a0_1 : ByteArray) (a0_2 : ByteArray) (a0_3 : Int) (a0_4 : ByteArray) (a0_5 : ByteArray) (a0_6 : ByteArray) (a0_7 : ByteArray) (a0_8 : ByteArray) (a0_9 : Int) (a0_10 : Int) (a0_11 : ByteArray) (a0_12 : Bool) (a0_13 : Int) (a0_14 : ByteArray) (a0_15 : ByteArray) (a0_16 : ByteArray) (a0_17 : Int) (a0_18 : Int) (a0_19 : Int) (a0_20 : Bool) (a0_21 : Bool) (a0_22 : Int) (a0_23 : Int) (a0_24 : Bool) (r1 : ByteArray) (r2 : ByteArray) (r3 : ByteArray) (r4 : ByteArray) (r5 : Int) (r6 : Int) (r7 : Int) (r8 : Bool) (r9 : Bool) (r10 : Int) (r11 : Int) (r12 : ByteArray) (r13 : ByteArray) (r14 : ByteArray) (r15 : Int) (w : World) (h : capture_asked_bare.f k a0_0 a0_1 a0_2 a0_3 a0_4 a0_5 a0_6 a0_7 a0_8 a0_9 a0_10 a0_11 a0_12 a0_13 a0_14 a0_15 a0_16 a0_17 a0_18 a0_19 a0_20 a0_21 a0_22 a0_23 a0_24 = some (r1, r2, r3, r4, r5, r6, r7, r8, r9, r10, r11, r12, r13, r14, r15)) :
    Calls Try.prog 54 #[.agg #[.string a0_0, .string a0_1, .string a0_2, .int .i64 a0_3, .string a0_4, .string a0_5, .string a0_6, .string a0_7, .string a0_8, .int .i64 a0_9, .int .i64 a0_10, .string a0_11, .bool a0_12, .int .i64 a0_13, .string a0_14, .string a0_15, .string a0_16, .int .i64 a0_17, .int .i64 a0_18, .int .i64 a0_19, .bool a0_20, .bool a0_21, .int .i64 a0_22, .int .i64 a0_23, .bool a0_24]] w fun e w' => e = .returned (.agg #[.string r1, .string r2, .string r3, .string r4, .int .i64 r5, .int .i64 r6, .int .i64 r7, .bool r8, .bool r9, .int .i64 r10, .int .i64 r11, .string r12, .string r13, .string r14, .int .i64 r15]) ∧ Below w.heap.size w w' := by
  have hu79 := Try.underlying79
  have hu53 := Try.underlying53
  have hu23 := Try.underlying23
  have hu25 := Try.underlying25
  have HO := Aside0.mk (Ow.Own.nil w)
  have hmf : ∀ (fn : Fn) (first cap : Array Value) (w : World), (Instr.makeFunc fn first cap).run Try.prog w = .ok (.func fn first cap) w := fun _ _ _ _ => rfl
  have H : ((auth_Advice.f a0_0 a0_1 a0_2 a0_3 a0_4 a0_5 a0_6 a0_7 a0_8 a0_9 a0_10 a0_11).bind fun t138 => (if t138 = true then ((capture_asked_taken.f k a0_0 a0_1 a0_2 a0_3 a0_4 a0_5 a0_6 a0_7 a0_8 a0_9 a0_10 a0_11 a0_12 a0_13 a0_14 a0_15 a0_16 a0_17 a0_18 a0_19 a0_20 a0_21 a0_22 a0_23 a0_24 (⟨#[]⟩ : ByteArray) (⟨#[]⟩ : ByteArray) (⟨#[]⟩ : ByteArray) 0 0 0 false false).bind fun bt139 => (some (bt139.1, bt139.2.1, bt139.2.2.1, bt139.2.2.2.1, bt139.2.2.2.2.1, bt139.2.2.2.2.2.1, bt139.2.2.2.2.2.2.1, bt139.2.2.2.2.2.2.2.1, bt139.2.2.2.2.2.2.2.2.1, bt139.2.2.2.2.2.2.2.2.2.1, bt139.2.2.2.2.2.2.2.2.2.2.1, bt139.2.2.2.2.2.2.2.2.2.2.2.1, bt139.2.2.2.2.2.2.2.2.2.2.2.2.1, bt139.2.2.2.2.2.2.2.2.2.2.2.2.2.1, bt139.2.2.2.2.2.2.2.2.2.2.2.2.2.2))) else (if a0_3 > a0_13 then (some ((⟨#[53, 49]⟩ : ByteArray), (⟨#[]⟩ : ByteArray), (⟨#[]⟩ : ByteArray), (⟨#[]⟩ : ByteArray), 0, 0, 0, false, false, 0, 0, (⟨#[]⟩ : ByteArray), (⟨#[]⟩ : ByteArray), (⟨#[]⟩ : ByteArray), 0)) else ((capture_asked_taken.f k a0_0 a0_1 a0_2 a0_3 a0_4 a0_5 a0_6 a0_7 a0_8 a0_9 a0_10 a0_11 a0_12 a0_13 a0_14 a0_15 a0_16 a0_17 a0_18 a0_19 a0_20 a0_21 a0_22 a0_23 a0_24 (⟨#[]⟩ : ByteArray) (⟨#[]⟩ : ByteArray) (⟨#[]⟩ : ByteArray) 0 0 0 false false).bind fun bt154 => (some (bt154.1, bt154.2.1, bt154.2.2.1, bt154.2.2.2.1, bt154.2.2.2.2.1, bt154.2.2.2.2.2.1, bt154.2.2.2.2.2.2.1, bt154.2.2.2.2.2.2.2.1, bt154.2.2.2.2.2.2.2.2.1, bt154.2.2.2.2.2.2.2.2.2.1, bt154.2.2.2.2.2.2.2.2.2.2.1, bt154.2.2.2.2.2.2.2.2.2.2.2.1, bt154.2.2.2.2.2.2.2.2.2.2.2.2.1, bt154.2.2.2.2.2.2.2.2.2.2.2.2.2.1, bt154.2.2.2.2.2.2.2.2.2.2.2.2.2.2)))))) = some (r1, r2, r3, r4, r5, r6, r7, r8, r9, r10, r11, r12, r13, r14, r15) := h
  clear h
  replace H := Option.bind_eq_some_iff.mp H
  obtain ⟨t138, A20, H⟩ := H
  replace H : (if t138 = true then ((capture_asked_taken.f k a0_0 a0_1 a0_2 a0_3 a0_4 a0_5 a0_6 a0_7 a0_8 a0_9 a0_10 a0_11 a0_12 a0_13 a0_14 a0_15 a0_16 a0_17 a0_18 a0_19 a0_20 a0_21 a0_22 a0_23 a0_24 (⟨#[]⟩ : ByteArray) (⟨#[]⟩ : ByteArray) (⟨#[]⟩ : ByteArray) 0 0 0 false false).bind fun bt139 => (some (bt139.1, bt139.2.1, bt139.2.2.1, bt139.2.2.2.1, bt139.2.2.2.2.1, bt139.2.2.2.2.2.1, bt139.2.2.2.2.2.2.1, bt139.2.2.2.2.2.2.2.1, bt139.2.2.2.2.2.2.2.2.1, bt139.2.2.2.2.2.2.2.2.2.1, bt139.2.2.2.2.2.2.2.2.2.2.1, bt139.2.2.2.2.2.2.2.2.2.2.2.1, bt139.2.2.2.2.2.2.2.2.2.2.2.2.1, bt139.2.2.2.2.2.2.2.2.2.2.2.2.2.1, bt139.2.2.2.2.2.2.2.2.2.2.2.2.2.2))) else (if a0_3 > a0_13 then (some ((⟨#[53, 49]⟩ : ByteArray), (⟨#[]⟩ : ByteArray), (⟨#[]⟩ : ByteArray), (⟨#[]⟩ : ByteArray), 0, 0, 0, false, false, 0, 0, (⟨#[]⟩ : ByteArray), (⟨#[]⟩ : ByteArray), (⟨#[]⟩ : ByteArray), 0)) else ((capture_asked_taken.f k a0_0 a0_1 a0_2 a0_3 a0_4 a0_5 a0_6 a0_7 a0_8 a0_9 a0_10 a0_11 a0_12 a0_13 a0_14 a0_15 a0_16 a0_17 a0_18 a0_19 a0_20 a0_21 a0_22 a0_23 a0_24 (⟨#[]⟩ : ByteArray) (⟨#[]⟩ : ByteArray) (⟨#[]⟩ : ByteArray) 0 0 0 false false).bind fun bt154 => (some (bt154.1, bt154.2.1, bt154.2.2.1, bt154.2.2.2.1, bt154.2.2.2.2.1, bt154.2.2.2.2.2.1, bt154.2.2.2.2.2.2.1, bt154.2.2.2.2.2.2.2.1, bt154.2.2.2.2.2.2.2.2.1, bt154.2.2.2.2.2.2.2.2.2.1, bt154.2.2.2.2.2.2.2.2.2.2.1, bt154.2.2.2.2.2.2.2.2.2.2.2.1, bt154.2.2.2.2.2.2.2.2.2.2.2.2.1, bt154.2.2.2.2.2.2.2.2.2.2.2.2.2.1, bt154.2.2.2.2.2.2.2.2.2.2.2.2.2.2))))) = some (r1, r2, r3, r4, r5, r6, r7, r8, r9, r10, r11, r12, r13, r14, r15) := H
  have A2 := Aside0.mk A20
  clear A20
  by_cases c3 : t138 = true
  · subst c3
    have H1 : ((capture_asked_taken.f k a0_0 a0_1 a0_2 a0_3 a0_4 a0_5 a0_6 a0_7 a0_8 a0_9 a0_10 a0_11 a0_12 a0_13 a0_14 a0_15 a0_16 a0_17 a0_18 a0_19 a0_20 a0_21 a0_22 a0_23 a0_24 (⟨#[]⟩ : ByteArray) (⟨#[]⟩ : ByteArray) (⟨#[]⟩ : ByteArray) 0 0 0 false false).bind fun bt139 => (some (bt139.1, bt139.2.1, bt139.2.2.1, bt139.2.2.2.1, bt139.2.2.2.2.1, bt139.2.2.2.2.2.1, bt139.2.2.2.2.2.2.1, bt139.2.2.2.2.2.2.2.1, bt139.2.2.2.2.2.2.2.2.1, bt139.2.2.2.2.2.2.2.2.2.1, bt139.2.2.2.2.2.2.2.2.2.2.1, bt139.2.2.2.2.2.2.2.2.2.2.2.1, bt139.2.2.2.2.2.2.2.2.2.2.2.2.1, bt139.2.2.2.2.2.2.2.2.2.2.2.2.2.1, bt139.2.2.2.2.2.2.2.2.2.2.2.2.2.2))) = some (r1, r2, r3, r4, r5, r6, r7, r8, r9, r10, r11, r12, r13, r14, r15) := by rw [if_pos rfl] at H; exact H
    clear H
    have H := H1
    clear H1
    replace H := Option.bind_eq_some_iff.mp H
    obtain ⟨⟨t139, t140, t141, t142, t143, t144, t145, t146, t147, t148, t149, t150, t151, t152, t153⟩, A40, H⟩ := H
    replace H : (some (t139, t140, t141, t142, t143, t144, t145, t146, t147, t148, t149, t150, t151, t152, t153)) = some (r1, r2, r3, r4, r5, r6, r7, r8, r9, r10, r11, r12, r13, r14, r15) := H
    have A4 := Aside0.mk A40
    clear A40
    simp only [Option.some.injEq, Prod.mk.injEq] at H
    obtain ⟨rfl, rfl, rfl, rfl, rfl, rfl, rfl, rfl, rfl, rfl, rfl, rfl, rfl, rfl, rfl⟩ := H
    obtain ⟨Q0, hQ0_⟩ : ∃ q_ : Array Value, q_ = (#[.string a0_0, .string a0_1, .string a0_2, .int .i64 a0_3, .string a0_4, .string a0_5, .string a0_6, .string a0_7, .string a0_8, .int .i64 a0_9, .int .i64 a0_10, .string a0_11, .bool a0_12, .int .i64 a0_13, .string a0_14, .string a0_15, .string a0_16, .int .i64 a0_17, .int .i64 a0_18, .int .i64 a0_19, .bool a0_20, .bool a0_21, .int .i64 a0_22, .int .i64 a0_23, .bool a0_24] : Array Value) := ⟨_, rfl⟩
    try rw [← hQ0_]
    have hQ0 := Aside0.mk hQ0_; have hq := Aside0.mk hQ0_; clear hQ0_
    go_enter Try.func54, Try.ntmps54
    obtain ⟨Q1, hQ1_⟩ : ∃ q_ : Array Value, q_ = (#[.string a0_0, .string a0_1, .string a0_2, .int .i64 a0_3, .string a0_4, .string a0_5, .string a0_6, .string a0_7, .string a0_8, .int .i64 a0_9, .int .i64 a0_10, .string a0_11] : Array Value) := ⟨_, rfl⟩
    try rw [← hQ1_]
    have hQ1 := Aside0.mk hQ1_; replace hq := Aside0.mk (And.intro hQ1_ hq.1); clear hQ1_
    obtain ⟨Q2, hQ2_⟩ : ∃ q_ : Array Value, q_ = (#[.string t139, .string t140, .string t141, .string t142, .int .i64 t143, .int .i64 t144, .int .i64 t145, .bool t146, .bool t147, .int .i64 t148, .int .i64 t149, .string t150, .string t151, .string t152, .int .i64 t153] : Array Value) := ⟨_, rfl⟩
    try rw [← hQ2_]
    have hQ2 := Aside0.mk hQ2_; replace hq := Aside0.mk (And.intro hQ2_ hq.1); clear hQ2_
    go_wp2_with (first | ((with_reducible refine gate_dst (N := 1) rfl ?_); refine Ow.box rfl (N := 1) rfl (cs := Q0) (t := 79) HO.out (by first | (go_simp; done) | (go_simp; rfl)) ?_; clear HO; intro gb136 w5 HO; simp only [List.cons_append, List.nil_append] at HO) | ((with_reducible refine gate_dst (N := 2) rfl ?_); refine Ow.box rfl (N := 2) rfl (cs := capture_asked_bare.Z15) (t := 53) HO.out (by first | (go_simp; done) | (go_simp; rfl)) ?_; clear HO; intro gb137 w6 HO; simp only [List.cons_append, List.nil_append] at HO) | ((with_reducible refine gate_callee (f := 36) rfl ?_); refine goesL_ (some 6) rfl rfl Try.func36 (by kernel_rfl) rfl #[.agg Q1] rfl (by (try simp only [List.map_toArray, List.map_cons, List.map_nil]); first | done | rfl | (simp only [hq.1]; done) | (simp only [hq.1]; rfl)) ?_; refine Calls.mono (calls_of_args (by first | ((try simp only [hq.1]) <;> rfl) | fail) (auth_Advice.calls a0_0 a0_1 a0_2 a0_3 a0_4 a0_5 a0_6 a0_7 a0_8 a0_9 a0_10 a0_11 true _ A2.out)) ?_; rintro e w9 ⟨he_, hb⟩; subst he_; refine ⟨_, rfl, ?_⟩; replace HO := Aside0.mk (Ow.Own.call HO.out hb); clear hb) | ((with_reducible refine gate_callee (f := 72) rfl ?_); refine goesL_ (some 21) rfl rfl Try.func72 (by kernel_rfl) rfl #[.agg Q0, .agg #[.string (⟨#[]⟩ : ByteArray), .string (⟨#[]⟩ : ByteArray), .string (⟨#[]⟩ : ByteArray), .int .i64 0, .int .i64 0, .int .i64 0, .bool false], .bool false] rfl (by (try simp only [List.map_toArray, List.map_cons, List.map_nil]); first | done | rfl | (simp only [hq.1]; done) | (simp only [hq.1]; rfl)) ?_; refine Calls.mono (calls_of_args (by first | ((try simp only [hq.1]) <;> rfl) | fail) (capture_asked_taken.calls k a0_0 a0_1 a0_2 a0_3 a0_4 a0_5 a0_6 a0_7 a0_8 a0_9 a0_10 a0_11 a0_12 a0_13 a0_14 a0_15 a0_16 a0_17 a0_18 a0_19 a0_20 a0_21 a0_22 a0_23 a0_24 (⟨#[]⟩ : ByteArray) (⟨#[]⟩ : ByteArray) (⟨#[]⟩ : ByteArray) 0 0 0 false false t139 t140 t141 t142 t143 t144 t145 t146 t147 t148 t149 t150 t151 t152 t153 _ A4.out)) ?_; rintro e w11 ⟨he_, hb⟩; (try rw [← hQ2.out] at he_); subst he_; refine ⟨_, rfl, ?_⟩; replace HO := Aside0.mk (Ow.Own.call HO.out hb); clear hb) | ((with_reducible refine Ow.gate_build rfl ?_); (try (refine gate_guard (by rfl) ?_; dsimp only)); refine' Ow.tbuild Ot.bd rfl rfl rfl ?hf_ ?_; (case hf_ => repeat (any_goals (first | exact Ow.Fills.nil | (refine' Ow.Fills.c ?hv_ rfl ?hz_ ?_; (case hv_ => first | exact Ow.ev_tmp rfl | rfl); (case hz_ => first | (refine ⟨?_, ?_⟩ <;> (first | ((try simp only [hq.1]) <;> rfl) | fail)) | fail)))))) | ((with_reducible refine Ow.gate_load rfl ?_); (try (refine gate_guard (by rfl) ?_; dsimp only)); (first | refine Ow.l1 Ot.ty HO.out rfl rfl rfl rfl (by first | ((try simp only [hq.1]) <;> rfl) | fail) ?_ | refine Ow.l0 Ot.ty HO.out rfl rfl rfl rfl (by first | ((try simp only [hq.1]) <;> rfl) | fail) ?_ | refine Ow.lp Ot.ty HO.out rfl rfl rfl rfl (by first | ((try simp only [hq.1]) <;> rfl) | fail) ?_)) | ((with_reducible refine gate_store rfl ?_); (try (refine gate_guard (by rfl) ?_; dsimp only)); (first | refine Ow.s0 Ot.ty HO.out rfl rfl rfl rfl rfl (by first | exact Ow.ev_tmp rfl | rfl) (by first | (refine ⟨?_, ?_, ?_⟩ <;> (first | ((try simp only [hq.1]) <;> rfl) | fail)) | fail) ?_ | refine Ow.sp Ot.ty HO.out rfl rfl rfl rfl rfl (by first | exact Ow.ev_tmp rfl | rfl) (by first | (refine ⟨?_, ?_, ?_⟩ <;> (first | ((try simp only [hq.1]) <;> rfl) | fail)) | fail) ?_); clear HO; intro wz_ HO; simp only [List.set_cons_zero, List.set_cons_succ] at HO))
    refine' bodyPost_ret (results_cell_row rfl _ _ gb137 53 _ (0, 0) _ rfl ?hb_ Try.underlying53 rfl ?hi_) rfl ?_
    case hb_ => refine' Ow.Own.get HO.out 1 ?hk_; (case hk_ => rfl)
    case hi_ => exact (Ot.ty.size 53 rfl).trans (congrArg some (by first | ((try simp only [hq.1]) <;> rfl) | fail))
    all_goals exact ⟨by first | rfl | (simp only [hq.1]; done) | (simp only [hq.1]; rfl) | (simp [errW_none, errW_some] <;> rfl) | (simp [*, errW_none, errW_some] <;> rfl), Ow.Own.below HO.out⟩
  · replace c3 := Bool.eq_false_iff.mpr c3
    subst c3
    have H1 : (if a0_3 > a0_13 then (some ((⟨#[53, 49]⟩ : ByteArray), (⟨#[]⟩ : ByteArray), (⟨#[]⟩ : ByteArray), (⟨#[]⟩ : ByteArray), 0, 0, 0, false, false, 0, 0, (⟨#[]⟩ : ByteArray), (⟨#[]⟩ : ByteArray), (⟨#[]⟩ : ByteArray), 0)) else ((capture_asked_taken.f k a0_0 a0_1 a0_2 a0_3 a0_4 a0_5 a0_6 a0_7 a0_8 a0_9 a0_10 a0_11 a0_12 a0_13 a0_14 a0_15 a0_16 a0_17 a0_18 a0_19 a0_20 a0_21 a0_22 a0_23 a0_24 (⟨#[]⟩ : ByteArray) (⟨#[]⟩ : ByteArray) (⟨#[]⟩ : ByteArray) 0 0 0 false false).bind fun bt154 => (some (bt154.1, bt154.2.1, bt154.2.2.1, bt154.2.2.2.1, bt154.2.2.2.2.1, bt154.2.2.2.2.2.1, bt154.2.2.2.2.2.2.1, bt154.2.2.2.2.2.2.2.1, bt154.2.2.2.2.2.2.2.2.1, bt154.2.2.2.2.2.2.2.2.2.1, bt154.2.2.2.2.2.2.2.2.2.2.1, bt154.2.2.2.2.2.2.2.2.2.2.2.1, bt154.2.2.2.2.2.2.2.2.2.2.2.2.1, bt154.2.2.2.2.2.2.2.2.2.2.2.2.2.1, bt154.2.2.2.2.2.2.2.2.2.2.2.2.2.2)))) = some (r1, r2, r3, r4, r5, r6, r7, r8, r9, r10, r11, r12, r13, r14, r15) := by rw [if_neg (show ¬ (false = true) by decide)] at H; exact H
    clear H
    have H := H1
    clear H1
    by_cases c14 : a0_3 > a0_13
    · rw [if_pos c14] at H
      have c14b0 : decide (a0_13 < a0_3) = true := decide_eq_true c14
      clear c14
      simp only [Option.some.injEq, Prod.mk.injEq] at H
      obtain ⟨rfl, rfl, rfl, rfl, rfl, rfl, rfl, rfl, rfl, rfl, rfl, rfl, rfl, rfl, rfl⟩ := H
      obtain ⟨Q3, hQ3_⟩ : ∃ q_ : Array Value, q_ = (#[.string a0_0, .string a0_1, .string a0_2, .int .i64 a0_3, .string a0_4, .string a0_5, .string a0_6, .string a0_7, .string a0_8, .int .i64 a0_9, .int .i64 a0_10, .string a0_11, .bool a0_12, .int .i64 a0_13, .string a0_14, .string a0_15, .string a0_16, .int .i64 a0_17, .int .i64 a0_18, .int .i64 a0_19, .bool a0_20, .bool a0_21, .int .i64 a0_22, .int .i64 a0_23, .bool a0_24] : Array Value) := ⟨_, rfl⟩
      try rw [← hQ3_]
      have hQ3 := Aside0.mk hQ3_; have hq := Aside0.mk hQ3_; clear hQ3_
      go_enter Try.func54, Try.ntmps54
      obtain ⟨Q4, hQ4_⟩ : ∃ q_ : Array Value, q_ = (#[.string a0_0, .string a0_1, .string a0_2, .int .i64 a0_3, .string a0_4, .string a0_5, .string a0_6, .string a0_7, .string a0_8, .int .i64 a0_9, .int .i64 a0_10, .string a0_11] : Array Value) := ⟨_, rfl⟩
      try rw [← hQ4_]
      have hQ4 := Aside0.mk hQ4_; replace hq := Aside0.mk (And.intro hQ4_ hq.1); clear hQ4_
      go_wp2_with (first | ((with_reducible refine gate_dst (N := 1) rfl ?_); refine Ow.box rfl (N := 1) rfl (cs := Q3) (t := 79) HO.out (by first | (go_simp; done) | (go_simp; rfl)) ?_; clear HO; intro gb136 w15 HO; simp only [List.cons_append, List.nil_append] at HO) | ((with_reducible refine gate_dst (N := 2) rfl ?_); refine Ow.box rfl (N := 2) rfl (cs := capture_asked_bare.Z15) (t := 53) HO.out (by first | (go_simp; done) | (go_simp; rfl)) ?_; clear HO; intro gb137 w16 HO; simp only [List.cons_append, List.nil_append] at HO) | ((with_reducible refine gate_callee (f := 36) rfl ?_); refine goesL_ (some 6) rfl rfl Try.func36 (by kernel_rfl) rfl #[.agg Q4] rfl (by (try simp only [List.map_toArray, List.map_cons, List.map_nil]); first | done | rfl | (simp only [hq.1]; done) | (simp only [hq.1]; rfl)) ?_; refine Calls.mono (calls_of_args (by first | ((try simp only [hq.1]) <;> rfl) | fail) (auth_Advice.calls a0_0 a0_1 a0_2 a0_3 a0_4 a0_5 a0_6 a0_7 a0_8 a0_9 a0_10 a0_11 false _ A2.out)) ?_; rintro e w19 ⟨he_, hb⟩; subst he_; refine ⟨_, rfl, ?_⟩; replace HO := Aside0.mk (Ow.Own.call HO.out hb); clear hb) | ((with_reducible refine Ow.gate_build rfl ?_); (try (refine gate_guard (by rfl) ?_; dsimp only)); refine' Ow.tbuild Ot.bd rfl rfl rfl ?hf_ ?_; (case hf_ => repeat (any_goals (first | exact Ow.Fills.nil | (refine' Ow.Fills.c ?hv_ rfl ?hz_ ?_; (case hv_ => first | exact Ow.ev_tmp rfl | rfl); (case hz_ => first | (refine ⟨?_, ?_⟩ <;> (first | ((try simp only [hq.1]) <;> rfl) | fail)) | fail)))))) | ((with_reducible refine Ow.gate_load rfl ?_); (try (refine gate_guard (by rfl) ?_; dsimp only)); (first | refine Ow.l1 Ot.ty HO.out rfl rfl rfl rfl (by first | ((try simp only [hq.1]) <;> rfl) | fail) ?_ | refine Ow.l0 Ot.ty HO.out rfl rfl rfl rfl (by first | ((try simp only [hq.1]) <;> rfl) | fail) ?_ | refine Ow.lp Ot.ty HO.out rfl rfl rfl rfl (by first | ((try simp only [hq.1]) <;> rfl) | fail) ?_)) | ((with_reducible refine gate_store rfl ?_); (try (refine gate_guard (by rfl) ?_; dsimp only)); (first | refine Ow.s0 Ot.ty HO.out rfl rfl rfl rfl rfl (by first | exact Ow.ev_tmp rfl | rfl) (by first | (refine ⟨?_, ?_, ?_⟩ <;> (first | ((try simp only [hq.1]) <;> rfl) | fail)) | fail) ?_ | refine Ow.sp Ot.ty HO.out rfl rfl rfl rfl rfl (by first | exact Ow.ev_tmp rfl | rfl) (by first | (refine ⟨?_, ?_, ?_⟩ <;> (first | ((try simp only [hq.1]) <;> rfl) | fail)) | fail) ?_); clear HO; intro wz_ HO; simp only [List.set_cons_zero, List.set_cons_succ] at HO))
      refine' bodyPost_ret (results_cell_row rfl _ _ gb137 53 _ (0, 0) _ rfl ?hb_ Try.underlying53 rfl ?hi_) rfl ?_
      case hb_ => refine' Ow.Own.get HO.out 1 ?hk_; (case hk_ => rfl)
      case hi_ => exact (Ot.ty.size 53 rfl).trans (congrArg some (by first | ((try simp only [hq.1]) <;> rfl) | fail))
      all_goals exact ⟨by first | rfl | (simp only [hq.1]; done) | (simp only [hq.1]; rfl) | (simp [errW_none, errW_some] <;> rfl) | (simp [*, errW_none, errW_some] <;> rfl), Ow.Own.below HO.out⟩
    · rw [if_neg c14] at H
      have c14b0 : decide (a0_13 < a0_3) = false := decide_eq_false c14
      clear c14
      replace H := Option.bind_eq_some_iff.mp H
      obtain ⟨⟨t154, t155, t156, t157, t158, t159, t160, t161, t162, t163, t164, t165, t166, t167, t168⟩, A230, H⟩ := H
      replace H : (some (t154, t155, t156, t157, t158, t159, t160, t161, t162, t163, t164, t165, t166, t167, t168)) = some (r1, r2, r3, r4, r5, r6, r7, r8, r9, r10, r11, r12, r13, r14, r15) := H
      have A23 := Aside0.mk A230
      clear A230
      simp only [Option.some.injEq, Prod.mk.injEq] at H
      obtain ⟨rfl, rfl, rfl, rfl, rfl, rfl, rfl, rfl, rfl, rfl, rfl, rfl, rfl, rfl, rfl⟩ := H
      obtain ⟨Q5, hQ5_⟩ : ∃ q_ : Array Value, q_ = (#[.string a0_0, .string a0_1, .string a0_2, .int .i64 a0_3, .string a0_4, .string a0_5, .string a0_6, .string a0_7, .string a0_8, .int .i64 a0_9, .int .i64 a0_10, .string a0_11, .bool a0_12, .int .i64 a0_13, .string a0_14, .string a0_15, .string a0_16, .int .i64 a0_17, .int .i64 a0_18, .int .i64 a0_19, .bool a0_20, .bool a0_21, .int .i64 a0_22, .int .i64 a0_23, .bool a0_24] : Array Value) := ⟨_, rfl⟩
      try rw [← hQ5_]
      have hQ5 := Aside0.mk hQ5_; have hq := Aside0.mk hQ5_; clear hQ5_
      go_enter Try.func54, Try.ntmps54
      obtain ⟨Q6, hQ6_⟩ : ∃ q_ : Array Value, q_ = (#[.string a0_0, .string a0_1, .string a0_2, .int .i64 a0_3, .string a0_4, .string a0_5, .string a0_6, .string a0_7, .string a0_8, .int .i64 a0_9, .int .i64 a0_10, .string a0_11] : Array Value) := ⟨_, rfl⟩
      try rw [← hQ6_]
      have hQ6 := Aside0.mk hQ6_; replace hq := Aside0.mk (And.intro hQ6_ hq.1); clear hQ6_
      obtain ⟨Q7, hQ7_⟩ : ∃ q_ : Array Value, q_ = (#[.string t154, .string t155, .string t156, .string t157, .int .i64 t158, .int .i64 t159, .int .i64 t160, .bool t161, .bool t162, .int .i64 t163, .int .i64 t164, .string t165, .string t166, .string t167, .int .i64 t168] : Array Value) := ⟨_, rfl⟩
      try rw [← hQ7_]
      have hQ7 := Aside0.mk hQ7_; replace hq := Aside0.mk (And.intro hQ7_ hq.1); clear hQ7_
      go_wp2_with (first | ((with_reducible refine gate_dst (N := 1) rfl ?_); refine Ow.box rfl (N := 1) rfl (cs := Q5) (t := 79) HO.out (by first | (go_simp; done) | (go_simp; rfl)) ?_; clear HO; intro gb136 w24 HO; simp only [List.cons_append, List.nil_append] at HO) | ((with_reducible refine gate_dst (N := 2) rfl ?_); refine Ow.box rfl (N := 2) rfl (cs := capture_asked_bare.Z15) (t := 53) HO.out (by first | (go_simp; done) | (go_simp; rfl)) ?_; clear HO; intro gb137 w25 HO; simp only [List.cons_append, List.nil_append] at HO) | ((with_reducible refine gate_callee (f := 36) rfl ?_); refine goesL_ (some 6) rfl rfl Try.func36 (by kernel_rfl) rfl #[.agg Q6] rfl (by (try simp only [List.map_toArray, List.map_cons, List.map_nil]); first | done | rfl | (simp only [hq.1]; done) | (simp only [hq.1]; rfl)) ?_; refine Calls.mono (calls_of_args (by first | ((try simp only [hq.1]) <;> rfl) | fail) (auth_Advice.calls a0_0 a0_1 a0_2 a0_3 a0_4 a0_5 a0_6 a0_7 a0_8 a0_9 a0_10 a0_11 false _ A2.out)) ?_; rintro e w28 ⟨he_, hb⟩; subst he_; refine ⟨_, rfl, ?_⟩; replace HO := Aside0.mk (Ow.Own.call HO.out hb); clear hb) | ((with_reducible refine gate_callee (f := 72) rfl ?_); refine goesL_ (some 21) rfl rfl Try.func72 (by kernel_rfl) rfl #[.agg Q5, .agg #[.string (⟨#[]⟩ : ByteArray), .string (⟨#[]⟩ : ByteArray), .string (⟨#[]⟩ : ByteArray), .int .i64 0, .int .i64 0, .int .i64 0, .bool false], .bool false] rfl (by (try simp only [List.map_toArray, List.map_cons, List.map_nil]); first | done | rfl | (simp only [hq.1]; done) | (simp only [hq.1]; rfl)) ?_; refine Calls.mono (calls_of_args (by first | ((try simp only [hq.1]) <;> rfl) | fail) (capture_asked_taken.calls k a0_0 a0_1 a0_2 a0_3 a0_4 a0_5 a0_6 a0_7 a0_8 a0_9 a0_10 a0_11 a0_12 a0_13 a0_14 a0_15 a0_16 a0_17 a0_18 a0_19 a0_20 a0_21 a0_22 a0_23 a0_24 (⟨#[]⟩ : ByteArray) (⟨#[]⟩ : ByteArray) (⟨#[]⟩ : ByteArray) 0 0 0 false false t154 t155 t156 t157 t158 t159 t160 t161 t162 t163 t164 t165 t166 t167 t168 _ A23.out)) ?_; rintro e w30 ⟨he_, hb⟩; (try rw [← hQ7.out] at he_); subst he_; refine ⟨_, rfl, ?_⟩; replace HO := Aside0.mk (Ow.Own.call HO.out hb); clear hb) | ((with_reducible refine Ow.gate_build rfl ?_); (try (refine gate_guard (by rfl) ?_; dsimp only)); refine' Ow.tbuild Ot.bd rfl rfl rfl ?hf_ ?_; (case hf_ => repeat (any_goals (first | exact Ow.Fills.nil | (refine' Ow.Fills.c ?hv_ rfl ?hz_ ?_; (case hv_ => first | exact Ow.ev_tmp rfl | rfl); (case hz_ => first | (refine ⟨?_, ?_⟩ <;> (first | ((try simp only [hq.1]) <;> rfl) | fail)) | fail)))))) | ((with_reducible refine Ow.gate_load rfl ?_); (try (refine gate_guard (by rfl) ?_; dsimp only)); (first | refine Ow.l1 Ot.ty HO.out rfl rfl rfl rfl (by first | ((try simp only [hq.1]) <;> rfl) | fail) ?_ | refine Ow.l0 Ot.ty HO.out rfl rfl rfl rfl (by first | ((try simp only [hq.1]) <;> rfl) | fail) ?_ | refine Ow.lp Ot.ty HO.out rfl rfl rfl rfl (by first | ((try simp only [hq.1]) <;> rfl) | fail) ?_)) | ((with_reducible refine gate_store rfl ?_); (try (refine gate_guard (by rfl) ?_; dsimp only)); (first | refine Ow.s0 Ot.ty HO.out rfl rfl rfl rfl rfl (by first | exact Ow.ev_tmp rfl | rfl) (by first | (refine ⟨?_, ?_, ?_⟩ <;> (first | ((try simp only [hq.1]) <;> rfl) | fail)) | fail) ?_ | refine Ow.sp Ot.ty HO.out rfl rfl rfl rfl rfl (by first | exact Ow.ev_tmp rfl | rfl) (by first | (refine ⟨?_, ?_, ?_⟩ <;> (first | ((try simp only [hq.1]) <;> rfl) | fail)) | fail) ?_); clear HO; intro wz_ HO; simp only [List.set_cons_zero, List.set_cons_succ] at HO))
      refine' bodyPost_ret (results_cell_row rfl _ _ gb137 53 _ (0, 0) _ rfl ?hb_ Try.underlying53 rfl ?hi_) rfl ?_
      case hb_ => refine' Ow.Own.get HO.out 1 ?hk_; (case hk_ => rfl)
      case hi_ => exact (Ot.ty.size 53 rfl).trans (congrArg some (by first | ((try simp only [hq.1]) <;> rfl) | fail))
      all_goals exact ⟨by first | rfl | (simp only [hq.1]; done) | (simp only [hq.1]; rfl) | (simp [errW_none, errW_some] <;> rfl) | (simp [*, errW_none, errW_some] <;> rfl), Ow.Own.below HO.out⟩

-- NOT PRINTED: function 75 (hold_open)

/-! ### hold_Take: function 73 -/
set_option maxRecDepth 100000 in
set_option maxHeartbeats 2000000 in
theorem hold_Take1_ok (rrn acq pan : ByteArray) (ap ca un : Int) (n : Int) (last : Bool) (op : Bool) (W : World) (B : Nat) (ga : Nat) (gl : Nat)
    (hB : W.heap[B]? = some (.cells #[.string rrn, .string acq, .string pan, .int .i64 ap, .int .i64 ca, .int .i64 un, .bool op] 25 (0, 0)))
    (ha : W.heap[ga]? = some (.cells #[.int .i64 n] 2 (0, 0))) (hna : B ≠ ga)
    (hl : W.heap[gl]? = some (.cells #[.bool last] 4 (0, 0))) (hnl : B ≠ gl) (h2 : n ≤ wrap64 (ap - ca)) :
    Calls Try.prog 81 #[.pointer (some ⟨B, 0, none⟩), .pointer (some ⟨ga, 0, none⟩), .pointer (some ⟨gl, 0, none⟩)] W
      (fun e W' => e = .returned (.int .i64 0) ∧ Pu.OnlyB W B #[.string rrn, .string acq, .string pan, .int .i64 ap, .int .i64 (wrap64 (ca + n)), .int .i64 un, .bool (!last)] 25 W') := by
  have hu25 := Try.underlying25
  have hcz := blk_cell hB
  have hfz := blk_frozen hB
  have hca := blk_cell ha
  have hcl := blk_cell hl
  have HB := Aside0.mk hB
  have d2 : decide (wrap64 (ap - ca) < n) = false := decide_eq_false (by omega)
  clear hB ha hl h2
  go_enter Try.func81, Try.ntmps81
  go_wp2
  go_quiet (fail)
  go_wp2
  go_region
  go_wp2
  go_ret
  exact ⟨rfl, Pu.OnlyB.set (Pu.OnlyB.set (Pu.OnlyB.drewN (Pu.OnlyB.refl HB.out) _) 4 _ rfl) 6 _ rfl⟩
set_option maxRecDepth 100000 in
set_option maxHeartbeats 2000000 in
theorem hold_Take1_no (rrn acq pan : ByteArray) (ap ca un : Int) (n : Int) (last : Bool) (op : Bool) (W : World) (B : Nat) (ga : Nat) (gl : Nat)
    (hB : W.heap[B]? = some (.cells #[.string rrn, .string acq, .string pan, .int .i64 ap, .int .i64 ca, .int .i64 un, .bool op] 25 (0, 0)))
    (ha : W.heap[ga]? = some (.cells #[.int .i64 n] 2 (0, 0))) (hna : B ≠ ga)
    (hl : W.heap[gl]? = some (.cells #[.bool last] 4 (0, 0))) (hnl : B ≠ gl) (h2 : wrap64 (ap - ca) < n) :
    Calls Try.prog 81 #[.pointer (some ⟨B, 0, none⟩), .pointer (some ⟨ga, 0, none⟩), .pointer (some ⟨gl, 0, none⟩)] W
      (fun e W' => e = .returned (.int .i64 13) ∧ Pu.OnlyB W B #[.string rrn, .string acq, .string pan, .int .i64 ap, .int .i64 ca, .int .i64 un, .bool op] 25 W') := by
  have hu25 := Try.underlying25
  have hcz := blk_cell hB
  have hfz := blk_frozen hB
  have hca := blk_cell ha
  have hcl := blk_cell hl
  have HB := Aside0.mk hB
  have d2 : decide (wrap64 (ap - ca) < n) = true := decide_eq_true h2
  clear hB ha hl h2
  go_enter Try.func81, Try.ntmps81
  go_wp2
  go_quiet (fail)
  go_wp2
  go_ret
  exact ⟨rfl, Pu.OnlyB.drewN (Pu.OnlyB.refl HB.out) _⟩
set_option maxRecDepth 100000 in
set_option maxHeartbeats 2000000 in
theorem hold_openTake_may (rrn acq pan : ByteArray) (ap ca un : Int) (n : Int) (last : Bool) (op : Bool) (ga : Nat) (gl : Nat) (w : World) (hm : hold_May.f rrn acq pan ap ca un op = some false)
    (ha : w.heap[ga]? = some (.cells #[.int .i64 n] 2 (0, 0)))
    (hl : w.heap[gl]? = some (.cells #[.bool last] 4 (0, 0))) :
    Calls Try.prog 75 #[.agg #[.string rrn, .string acq, .string pan, .int .i64 ap, .int .i64 ca, .int .i64 un, .bool op], .int .i64 n, .func (.func 81) #[] #[.pointer (some ⟨ga, 0, none⟩), .pointer (some ⟨gl, 0, none⟩)]] w fun e w' => e = .returned (.tuple #[.agg #[.string (⟨#[]⟩ : ByteArray), .string (⟨#[]⟩ : ByteArray), .string (⟨#[]⟩ : ByteArray), .int .i64 0, .int .i64 0, .int .i64 0, .bool false], .int .i64 1]) ∧ Below w.heap.size w w' := by
  have HM := Lib.hid hm
  have Ha := Lib.hid ha
  have Hl := Lib.hid hl
  have HO := Aside0.mk (Ow.Own.nil w)
  clear hm ha hl
  go_enter Try.func75, Try.ntmps75
  go_wp2_with (first | ((with_reducible refine gate_dst (N := 3) rfl ?_); refine Ow.box rfl (N := 3) rfl (cs := #[.string rrn, .string acq, .string pan, .int .i64 ap, .int .i64 ca, .int .i64 un, .bool op]) (t := 25) HO.out (by first | (go_simp; done) | (go_simp; rfl)) ?_; clear HO; intro g1 w1 HO; simp only [List.cons_append, List.nil_append] at HO) | ((with_reducible refine gate_dst (N := 6) rfl ?_); refine Ow.box rfl (N := 6) rfl (cs := #[.string (⟨#[]⟩ : ByteArray), .string (⟨#[]⟩ : ByteArray), .string (⟨#[]⟩ : ByteArray), .int .i64 0, .int .i64 0, .int .i64 0, .bool false]) (t := 25) HO.out (by first | (go_simp; done) | (go_simp; rfl)) ?_; clear HO; intro g2 w2 HO; simp only [List.cons_append, List.nil_append] at HO) | (go_at_call 51; refine Calls.mono (hold_May.calls rrn acq pan ap ca un op false _ HM.out) ?_; rintro e wx ⟨rfl, hb⟩; replace HO := Aside0.mk (Ow.Own.call HO.out hb); clear hb) | ((with_reducible refine Ow.gate_load rfl ?_); (try (refine gate_guard (by rfl) ?_; dsimp only)); (first | refine Ow.tload1 Ot.ty HO.out rfl rfl rfl rfl (by with_reducible first | exact Ow.at0 | exact Ow.at1) (by rfl) ?_ | refine Ow.tload0 Ot.ty HO.out rfl rfl rfl rfl (by with_reducible first | exact Ow.at0 | exact Ow.at1) (by rfl) ?_ | refine Ow.tloadp Ot.ty HO.out rfl rfl rfl rfl (by with_reducible first | exact Ow.at0 | exact Ow.at1) (by rfl) ?_)) | ((with_reducible refine gate_store rfl ?_); (try (refine gate_guard (by rfl) ?_; dsimp only)); (first | refine Ow.tput0 Ot.ty HO.out rfl rfl rfl rfl rfl (by with_reducible first | exact Ow.at0 | exact Ow.at1) (by first | exact Ow.ev_tmp rfl | rfl) (by rfl) (by rfl) (by rfl) ?_ | refine Ow.tput Ot.ty HO.out rfl rfl rfl rfl rfl (by with_reducible first | exact Ow.at0 | exact Ow.at1) (by first | exact Ow.ev_tmp rfl | rfl) (by rfl) (by rfl) (by rfl) ?_); clear HO; intro wz_ HO; simp only [List.set_cons_zero, List.set_cons_succ] at HO))
  refine' bodyPost_ret (results_ct rfl _ _ g2 25 _ (0, 0) _ rfl ?hb_ Try.underlying25 rfl ?hi_) rfl ?_
  case hb_ => refine' Ow.Own.get HO.out 1 ?hk_; (case hk_ => rfl)
  case hi_ => exact (Ot.ty.size 25 rfl).trans (congrArg some (by rfl))
  exact ⟨rfl, HO.out.below⟩
set_option maxRecDepth 100000 in
set_option maxHeartbeats 2000000 in
theorem hold_openTake_end (rrn acq pan : ByteArray) (ap ca un : Int) (n : Int) (last : Bool) (ga : Nat) (gl : Nat) (w : World) (hm : hold_May.f rrn acq pan ap ca un false = some true)
    (ha : w.heap[ga]? = some (.cells #[.int .i64 n] 2 (0, 0)))
    (hl : w.heap[gl]? = some (.cells #[.bool last] 4 (0, 0))) :
    Calls Try.prog 75 #[.agg #[.string rrn, .string acq, .string pan, .int .i64 ap, .int .i64 ca, .int .i64 un, .bool false], .int .i64 n, .func (.func 81) #[] #[.pointer (some ⟨ga, 0, none⟩), .pointer (some ⟨gl, 0, none⟩)]] w fun e w' => e = .returned (.tuple #[.agg #[.string (⟨#[]⟩ : ByteArray), .string (⟨#[]⟩ : ByteArray), .string (⟨#[]⟩ : ByteArray), .int .i64 0, .int .i64 0, .int .i64 0, .bool false], .int .i64 14]) ∧ Below w.heap.size w w' := by
  have HM := Lib.hid hm
  have Ha := Lib.hid ha
  have Hl := Lib.hid hl
  have HO := Aside0.mk (Ow.Own.nil w)
  clear hm ha hl
  go_enter Try.func75, Try.ntmps75
  go_wp2_with (first | ((with_reducible refine gate_dst (N := 3) rfl ?_); refine Ow.box rfl (N := 3) rfl (cs := #[.string rrn, .string acq, .string pan, .int .i64 ap, .int .i64 ca, .int .i64 un, .bool false]) (t := 25) HO.out (by first | (go_simp; done) | (go_simp; rfl)) ?_; clear HO; intro g1 w1 HO; simp only [List.cons_append, List.nil_append] at HO) | ((with_reducible refine gate_dst (N := 6) rfl ?_); refine Ow.box rfl (N := 6) rfl (cs := #[.string (⟨#[]⟩ : ByteArray), .string (⟨#[]⟩ : ByteArray), .string (⟨#[]⟩ : ByteArray), .int .i64 0, .int .i64 0, .int .i64 0, .bool false]) (t := 25) HO.out (by first | (go_simp; done) | (go_simp; rfl)) ?_; clear HO; intro g2 w2 HO; simp only [List.cons_append, List.nil_append] at HO) | (go_at_call 51; refine Calls.mono (hold_May.calls rrn acq pan ap ca un false true _ HM.out) ?_; rintro e wx ⟨rfl, hb⟩; replace HO := Aside0.mk (Ow.Own.call HO.out hb); clear hb) | ((with_reducible refine Ow.gate_load rfl ?_); (try (refine gate_guard (by rfl) ?_; dsimp only)); (first | refine Ow.tload1 Ot.ty HO.out rfl rfl rfl rfl (by with_reducible first | exact Ow.at0 | exact Ow.at1) (by rfl) ?_ | refine Ow.tload0 Ot.ty HO.out rfl rfl rfl rfl (by with_reducible first | exact Ow.at0 | exact Ow.at1) (by rfl) ?_ | refine Ow.tloadp Ot.ty HO.out rfl rfl rfl rfl (by with_reducible first | exact Ow.at0 | exact Ow.at1) (by rfl) ?_)) | ((with_reducible refine gate_store rfl ?_); (try (refine gate_guard (by rfl) ?_; dsimp only)); (first | refine Ow.tput0 Ot.ty HO.out rfl rfl rfl rfl rfl (by with_reducible first | exact Ow.at0 | exact Ow.at1) (by first | exact Ow.ev_tmp rfl | rfl) (by rfl) (by rfl) (by rfl) ?_ | refine Ow.tput Ot.ty HO.out rfl rfl rfl rfl rfl (by with_reducible first | exact Ow.at0 | exact Ow.at1) (by first | exact Ow.ev_tmp rfl | rfl) (by rfl) (by rfl) (by rfl) ?_); clear HO; intro wz_ HO; simp only [List.set_cons_zero, List.set_cons_succ] at HO))
  refine' bodyPost_ret (results_ct rfl _ _ g2 25 _ (0, 0) _ rfl ?hb_ Try.underlying25 rfl ?hi_) rfl ?_
  case hb_ => refine' Ow.Own.get HO.out 1 ?hk_; (case hk_ => rfl)
  case hi_ => exact (Ot.ty.size 25 rfl).trans (congrArg some (by rfl))
  exact ⟨rfl, HO.out.below⟩
set_option maxRecDepth 100000 in
set_option maxHeartbeats 2000000 in
theorem hold_openTake_arg (rrn acq pan : ByteArray) (ap ca un : Int) (n : Int) (last : Bool) (ga : Nat) (gl : Nat) (w : World) (hm : hold_May.f rrn acq pan ap ca un true = some true)
    (ha : w.heap[ga]? = some (.cells #[.int .i64 n] 2 (0, 0)))
    (hl : w.heap[gl]? = some (.cells #[.bool last] 4 (0, 0))) (h1 : n < 1) :
    Calls Try.prog 75 #[.agg #[.string rrn, .string acq, .string pan, .int .i64 ap, .int .i64 ca, .int .i64 un, .bool true], .int .i64 n, .func (.func 81) #[] #[.pointer (some ⟨ga, 0, none⟩), .pointer (some ⟨gl, 0, none⟩)]] w fun e w' => e = .returned (.tuple #[.agg #[.string (⟨#[]⟩ : ByteArray), .string (⟨#[]⟩ : ByteArray), .string (⟨#[]⟩ : ByteArray), .int .i64 0, .int .i64 0, .int .i64 0, .bool false], .int .i64 1]) ∧ Below w.heap.size w w' := by
  have HM := Lib.hid hm
  have Ha := Lib.hid ha
  have Hl := Lib.hid hl
  have HO := Aside0.mk (Ow.Own.nil w)
  have d1 : decide (n < 1) = true := decide_eq_true h1
  clear h1
  clear hm ha hl
  go_enter Try.func75, Try.ntmps75
  go_wp2_with (first | ((with_reducible refine gate_dst (N := 3) rfl ?_); refine Ow.box rfl (N := 3) rfl (cs := #[.string rrn, .string acq, .string pan, .int .i64 ap, .int .i64 ca, .int .i64 un, .bool true]) (t := 25) HO.out (by first | (go_simp; done) | (go_simp; rfl)) ?_; clear HO; intro g1 w1 HO; simp only [List.cons_append, List.nil_append] at HO) | ((with_reducible refine gate_dst (N := 6) rfl ?_); refine Ow.box rfl (N := 6) rfl (cs := #[.string (⟨#[]⟩ : ByteArray), .string (⟨#[]⟩ : ByteArray), .string (⟨#[]⟩ : ByteArray), .int .i64 0, .int .i64 0, .int .i64 0, .bool false]) (t := 25) HO.out (by first | (go_simp; done) | (go_simp; rfl)) ?_; clear HO; intro g2 w2 HO; simp only [List.cons_append, List.nil_append] at HO) | (go_at_call 51; refine Calls.mono (hold_May.calls rrn acq pan ap ca un true true _ HM.out) ?_; rintro e wx ⟨rfl, hb⟩; replace HO := Aside0.mk (Ow.Own.call HO.out hb); clear hb) | ((with_reducible refine Ow.gate_load rfl ?_); (try (refine gate_guard (by rfl) ?_; dsimp only)); (first | refine Ow.tload1 Ot.ty HO.out rfl rfl rfl rfl (by with_reducible first | exact Ow.at0 | exact Ow.at1) (by rfl) ?_ | refine Ow.tload0 Ot.ty HO.out rfl rfl rfl rfl (by with_reducible first | exact Ow.at0 | exact Ow.at1) (by rfl) ?_ | refine Ow.tloadp Ot.ty HO.out rfl rfl rfl rfl (by with_reducible first | exact Ow.at0 | exact Ow.at1) (by rfl) ?_)) | ((with_reducible refine gate_store rfl ?_); (try (refine gate_guard (by rfl) ?_; dsimp only)); (first | refine Ow.tput0 Ot.ty HO.out rfl rfl rfl rfl rfl (by with_reducible first | exact Ow.at0 | exact Ow.at1) (by first | exact Ow.ev_tmp rfl | rfl) (by rfl) (by rfl) (by rfl) ?_ | refine Ow.tput Ot.ty HO.out rfl rfl rfl rfl rfl (by with_reducible first | exact Ow.at0 | exact Ow.at1) (by first | exact Ow.ev_tmp rfl | rfl) (by rfl) (by rfl) (by rfl) ?_); clear HO; intro wz_ HO; simp only [List.set_cons_zero, List.set_cons_succ] at HO))
  refine' bodyPost_ret (results_ct rfl _ _ g2 25 _ (0, 0) _ rfl ?hb_ Try.underlying25 rfl ?hi_) rfl ?_
  case hb_ => refine' Ow.Own.get HO.out 1 ?hk_; (case hk_ => rfl)
  case hi_ => exact (Ot.ty.size 25 rfl).trans (congrArg some (by rfl))
  exact ⟨rfl, HO.out.below⟩
set_option maxRecDepth 100000 in
set_option maxHeartbeats 2000000 in
theorem hold_openTake_ok1 (rrn acq pan : ByteArray) (ap ca un : Int) (n : Int) (ga : Nat) (gl : Nat) (w : World) (hm : hold_May.f rrn acq pan ap ca un true = some true)
    (ha : w.heap[ga]? = some (.cells #[.int .i64 n] 2 (0, 0)))
    (hl : w.heap[gl]? = some (.cells #[.bool true] 4 (0, 0))) (h1 : 1 ≤ n) (h2 : Hid (n ≤ wrap64 (ap - ca))) :
    Calls Try.prog 75 #[.agg #[.string rrn, .string acq, .string pan, .int .i64 ap, .int .i64 ca, .int .i64 un, .bool true], .int .i64 n, .func (.func 81) #[] #[.pointer (some ⟨ga, 0, none⟩), .pointer (some ⟨gl, 0, none⟩)]] w fun e w' => e = .returned (.tuple #[.agg #[.string rrn, .string acq, .string pan, .int .i64 ap, .int .i64 (wrap64 (ca + n)), .int .i64 un, .bool false], .int .i64 0]) ∧ Below w.heap.size w w' := by
  have HM := Lib.hid hm
  have Ha := Lib.hid ha
  have Hl := Lib.hid hl
  have HO := Aside0.mk (Ow.Own.nil w)
  have d1 : decide (n < 1) = false := decide_eq_false (by omega)
  clear h1
  clear hm ha hl
  go_enter Try.func75, Try.ntmps75
  go_wp2_with (first | ((with_reducible refine gate_dst (N := 3) rfl ?_); refine Ow.box rfl (N := 3) rfl (cs := #[.string rrn, .string acq, .string pan, .int .i64 ap, .int .i64 ca, .int .i64 un, .bool true]) (t := 25) HO.out (by first | (go_simp; done) | (go_simp; rfl)) ?_; clear HO; intro g1 w1 HO; simp only [List.cons_append, List.nil_append] at HO) | ((with_reducible refine gate_dst (N := 6) rfl ?_); refine Ow.box rfl (N := 6) rfl (cs := #[.string (⟨#[]⟩ : ByteArray), .string (⟨#[]⟩ : ByteArray), .string (⟨#[]⟩ : ByteArray), .int .i64 0, .int .i64 0, .int .i64 0, .bool false]) (t := 25) HO.out (by first | (go_simp; done) | (go_simp; rfl)) ?_; clear HO; intro g2 w2 HO; simp only [List.cons_append, List.nil_append] at HO) | (go_at_call 51; refine Calls.mono (hold_May.calls rrn acq pan ap ca un true true _ HM.out) ?_; rintro e wx ⟨rfl, hb⟩; replace HO := Aside0.mk (Ow.Own.call HO.out hb); clear hb) | (go_at_call 81; refine Calls.mono (hold_Take1_ok rrn acq pan ap ca un n true true _ g1 ga gl (Ow.Own.get HO.out 0 rfl) ((Below.block HO.out.below ga (blk_lt Ha.out)).trans Ha.out) (Ne.symm (Nat.ne_of_lt (Nat.lt_of_lt_of_le (blk_lt Ha.out) (HO.out.blk 0 _ _ _ rfl).2))) ((Below.block HO.out.below gl (blk_lt Hl.out)).trans Hl.out) (Ne.symm (Nat.ne_of_lt (Nat.lt_of_lt_of_le (blk_lt Hl.out) (HO.out.blk 0 _ _ _ rfl).2))) h2.out) ?_; rintro e wx ⟨rfl, hb⟩; replace HO := Aside0.mk (Ow.Own.only HO.out 0 rfl hb); clear hb; simp only [List.set_cons_zero, List.set_cons_succ] at HO) | ((with_reducible refine Ow.gate_load rfl ?_); (try (refine gate_guard (by rfl) ?_; dsimp only)); (first | refine Ow.tload1 Ot.ty HO.out rfl rfl rfl rfl (by with_reducible first | exact Ow.at0 | exact Ow.at1) (by rfl) ?_ | refine Ow.tload0 Ot.ty HO.out rfl rfl rfl rfl (by with_reducible first | exact Ow.at0 | exact Ow.at1) (by rfl) ?_ | refine Ow.tloadp Ot.ty HO.out rfl rfl rfl rfl (by with_reducible first | exact Ow.at0 | exact Ow.at1) (by rfl) ?_)) | ((with_reducible refine gate_store rfl ?_); (try (refine gate_guard (by rfl) ?_; dsimp only)); (first | refine Ow.tput0 Ot.ty HO.out rfl rfl rfl rfl rfl (by with_reducible first | exact Ow.at0 | exact Ow.at1) (by first | exact Ow.ev_tmp rfl | rfl) (by rfl) (by rfl) (by rfl) ?_ | refine Ow.tput Ot.ty HO.out rfl rfl rfl rfl rfl (by with_reducible first | exact Ow.at0 | exact Ow.at1) (by first | exact Ow.ev_tmp rfl | rfl) (by rfl) (by rfl) (by rfl) ?_); clear HO; intro wz_ HO; simp only [List.set_cons_zero, List.set_cons_succ] at HO))
  refine' bodyPost_ret (results_ct rfl _ _ g2 25 _ (0, 0) _ rfl ?hb_ Try.underlying25 rfl ?hi_) rfl ?_
  case hb_ => refine' Ow.Own.get HO.out 1 ?hk_; (case hk_ => rfl)
  case hi_ => exact (Ot.ty.size 25 rfl).trans (congrArg some (by rfl))
  exact ⟨rfl, HO.out.below⟩
set_option maxRecDepth 100000 in
set_option maxHeartbeats 2000000 in
theorem hold_openTake_ok0 (rrn acq pan : ByteArray) (ap ca un : Int) (n : Int) (ga : Nat) (gl : Nat) (w : World) (hm : hold_May.f rrn acq pan ap ca un true = some true)
    (ha : w.heap[ga]? = some (.cells #[.int .i64 n] 2 (0, 0)))
    (hl : w.heap[gl]? = some (.cells #[.bool false] 4 (0, 0))) (h1 : 1 ≤ n) (h2 : Hid (n ≤ wrap64 (ap - ca))) :
    Calls Try.prog 75 #[.agg #[.string rrn, .string acq, .string pan, .int .i64 ap, .int .i64 ca, .int .i64 un, .bool true], .int .i64 n, .func (.func 81) #[] #[.pointer (some ⟨ga, 0, none⟩), .pointer (some ⟨gl, 0, none⟩)]] w fun e w' => e = .returned (.tuple #[.agg #[.string rrn, .string acq, .string pan, .int .i64 ap, .int .i64 (wrap64 (ca + n)), .int .i64 un, .bool (decide (wrap64 (ca + n) < ap))], .int .i64 0]) ∧ Below w.heap.size w w' := by
  have HM := Lib.hid hm
  have Ha := Lib.hid ha
  have Hl := Lib.hid hl
  have HO := Aside0.mk (Ow.Own.nil w)
  have d1 : decide (n < 1) = false := decide_eq_false (by omega)
  clear h1
  clear hm ha hl
  go_enter Try.func75, Try.ntmps75
  go_wp2_with (first | ((with_reducible refine gate_dst (N := 3) rfl ?_); refine Ow.box rfl (N := 3) rfl (cs := #[.string rrn, .string acq, .string pan, .int .i64 ap, .int .i64 ca, .int .i64 un, .bool true]) (t := 25) HO.out (by first | (go_simp; done) | (go_simp; rfl)) ?_; clear HO; intro g1 w1 HO; simp only [List.cons_append, List.nil_append] at HO) | ((with_reducible refine gate_dst (N := 6) rfl ?_); refine Ow.box rfl (N := 6) rfl (cs := #[.string (⟨#[]⟩ : ByteArray), .string (⟨#[]⟩ : ByteArray), .string (⟨#[]⟩ : ByteArray), .int .i64 0, .int .i64 0, .int .i64 0, .bool false]) (t := 25) HO.out (by first | (go_simp; done) | (go_simp; rfl)) ?_; clear HO; intro g2 w2 HO; simp only [List.cons_append, List.nil_append] at HO) | (go_at_call 51; refine Calls.mono (hold_May.calls rrn acq pan ap ca un true true _ HM.out) ?_; rintro e wx ⟨rfl, hb⟩; replace HO := Aside0.mk (Ow.Own.call HO.out hb); clear hb) | (go_at_call 81; refine Calls.mono (hold_Take1_ok rrn acq pan ap ca un n false true _ g1 ga gl (Ow.Own.get HO.out 0 rfl) ((Below.block HO.out.below ga (blk_lt Ha.out)).trans Ha.out) (Ne.symm (Nat.ne_of_lt (Nat.lt_of_lt_of_le (blk_lt Ha.out) (HO.out.blk 0 _ _ _ rfl).2))) ((Below.block HO.out.below gl (blk_lt Hl.out)).trans Hl.out) (Ne.symm (Nat.ne_of_lt (Nat.lt_of_lt_of_le (blk_lt Hl.out) (HO.out.blk 0 _ _ _ rfl).2))) h2.out) ?_; rintro e wx ⟨rfl, hb⟩; replace HO := Aside0.mk (Ow.Own.only HO.out 0 rfl hb); clear hb; simp only [List.set_cons_zero, List.set_cons_succ] at HO) | ((with_reducible refine Ow.gate_load rfl ?_); (try (refine gate_guard (by rfl) ?_; dsimp only)); (first | refine Ow.tload1 Ot.ty HO.out rfl rfl rfl rfl (by with_reducible first | exact Ow.at0 | exact Ow.at1) (by rfl) ?_ | refine Ow.tload0 Ot.ty HO.out rfl rfl rfl rfl (by with_reducible first | exact Ow.at0 | exact Ow.at1) (by rfl) ?_ | refine Ow.tloadp Ot.ty HO.out rfl rfl rfl rfl (by with_reducible first | exact Ow.at0 | exact Ow.at1) (by rfl) ?_)) | ((with_reducible refine gate_store rfl ?_); (try (refine gate_guard (by rfl) ?_; dsimp only)); (first | refine Ow.tput0 Ot.ty HO.out rfl rfl rfl rfl rfl (by with_reducible first | exact Ow.at0 | exact Ow.at1) (by first | exact Ow.ev_tmp rfl | rfl) (by rfl) (by rfl) (by rfl) ?_ | refine Ow.tput Ot.ty HO.out rfl rfl rfl rfl rfl (by with_reducible first | exact Ow.at0 | exact Ow.at1) (by first | exact Ow.ev_tmp rfl | rfl) (by rfl) (by rfl) (by rfl) ?_); clear HO; intro wz_ HO; simp only [List.set_cons_zero, List.set_cons_succ] at HO))
  refine' bodyPost_ret (results_ct rfl _ _ g2 25 _ (0, 0) _ rfl ?hb_ Try.underlying25 rfl ?hi_) rfl ?_
  case hb_ => refine' Ow.Own.get HO.out 1 ?hk_; (case hk_ => rfl)
  case hi_ => exact (Ot.ty.size 25 rfl).trans (congrArg some (by rfl))
  exact ⟨rfl, HO.out.below⟩
set_option maxRecDepth 100000 in
set_option maxHeartbeats 2000000 in
theorem hold_openTake_no (rrn acq pan : ByteArray) (ap ca un : Int) (n : Int) (last : Bool) (ga : Nat) (gl : Nat) (w : World) (hm : hold_May.f rrn acq pan ap ca un true = some true)
    (ha : w.heap[ga]? = some (.cells #[.int .i64 n] 2 (0, 0)))
    (hl : w.heap[gl]? = some (.cells #[.bool last] 4 (0, 0))) (h1 : 1 ≤ n) (h2 : Hid (wrap64 (ap - ca) < n)) :
    Calls Try.prog 75 #[.agg #[.string rrn, .string acq, .string pan, .int .i64 ap, .int .i64 ca, .int .i64 un, .bool true], .int .i64 n, .func (.func 81) #[] #[.pointer (some ⟨ga, 0, none⟩), .pointer (some ⟨gl, 0, none⟩)]] w fun e w' => e = .returned (.tuple #[.agg #[.string (⟨#[]⟩ : ByteArray), .string (⟨#[]⟩ : ByteArray), .string (⟨#[]⟩ : ByteArray), .int .i64 0, .int .i64 0, .int .i64 0, .bool false], .int .i64 13]) ∧ Below w.heap.size w w' := by
  have HM := Lib.hid hm
  have Ha := Lib.hid ha
  have Hl := Lib.hid hl
  have HO := Aside0.mk (Ow.Own.nil w)
  have d1 : decide (n < 1) = false := decide_eq_false (by omega)
  clear h1
  clear hm ha hl
  go_enter Try.func75, Try.ntmps75
  go_wp2_with (first | ((with_reducible refine gate_dst (N := 3) rfl ?_); refine Ow.box rfl (N := 3) rfl (cs := #[.string rrn, .string acq, .string pan, .int .i64 ap, .int .i64 ca, .int .i64 un, .bool true]) (t := 25) HO.out (by first | (go_simp; done) | (go_simp; rfl)) ?_; clear HO; intro g1 w1 HO; simp only [List.cons_append, List.nil_append] at HO) | ((with_reducible refine gate_dst (N := 6) rfl ?_); refine Ow.box rfl (N := 6) rfl (cs := #[.string (⟨#[]⟩ : ByteArray), .string (⟨#[]⟩ : ByteArray), .string (⟨#[]⟩ : ByteArray), .int .i64 0, .int .i64 0, .int .i64 0, .bool false]) (t := 25) HO.out (by first | (go_simp; done) | (go_simp; rfl)) ?_; clear HO; intro g2 w2 HO; simp only [List.cons_append, List.nil_append] at HO) | (go_at_call 51; refine Calls.mono (hold_May.calls rrn acq pan ap ca un true true _ HM.out) ?_; rintro e wx ⟨rfl, hb⟩; replace HO := Aside0.mk (Ow.Own.call HO.out hb); clear hb) | (go_at_call 81; refine Calls.mono (hold_Take1_no rrn acq pan ap ca un n last true _ g1 ga gl (Ow.Own.get HO.out 0 rfl) ((Below.block HO.out.below ga (blk_lt Ha.out)).trans Ha.out) (Ne.symm (Nat.ne_of_lt (Nat.lt_of_lt_of_le (blk_lt Ha.out) (HO.out.blk 0 _ _ _ rfl).2))) ((Below.block HO.out.below gl (blk_lt Hl.out)).trans Hl.out) (Ne.symm (Nat.ne_of_lt (Nat.lt_of_lt_of_le (blk_lt Hl.out) (HO.out.blk 0 _ _ _ rfl).2))) h2.out) ?_; rintro e wx ⟨rfl, hb⟩; replace HO := Aside0.mk (Ow.Own.only HO.out 0 rfl hb); clear hb; simp only [List.set_cons_zero, List.set_cons_succ] at HO) | ((with_reducible refine Ow.gate_load rfl ?_); (try (refine gate_guard (by rfl) ?_; dsimp only)); (first | refine Ow.tload1 Ot.ty HO.out rfl rfl rfl rfl (by with_reducible first | exact Ow.at0 | exact Ow.at1) (by rfl) ?_ | refine Ow.tload0 Ot.ty HO.out rfl rfl rfl rfl (by with_reducible first | exact Ow.at0 | exact Ow.at1) (by rfl) ?_ | refine Ow.tloadp Ot.ty HO.out rfl rfl rfl rfl (by with_reducible first | exact Ow.at0 | exact Ow.at1) (by rfl) ?_)) | ((with_reducible refine gate_store rfl ?_); (try (refine gate_guard (by rfl) ?_; dsimp only)); (first | refine Ow.tput0 Ot.ty HO.out rfl rfl rfl rfl rfl (by with_reducible first | exact Ow.at0 | exact Ow.at1) (by first | exact Ow.ev_tmp rfl | rfl) (by rfl) (by rfl) (by rfl) ?_ | refine Ow.tput Ot.ty HO.out rfl rfl rfl rfl rfl (by with_reducible first | exact Ow.at0 | exact Ow.at1) (by first | exact Ow.ev_tmp rfl | rfl) (by rfl) (by rfl) (by rfl) ?_); clear HO; intro wz_ HO; simp only [List.set_cons_zero, List.set_cons_succ] at HO))
  refine' bodyPost_ret (results_ct rfl _ _ g2 25 _ (0, 0) _ rfl ?hb_ Try.underlying25 rfl ?hi_) rfl ?_
  case hb_ => refine' Ow.Own.get HO.out 1 ?hk_; (case hk_ => rfl)
  case hi_ => exact (Ot.ty.size 25 rfl).trans (congrArg some (by rfl))
  exact ⟨rfl, HO.out.below⟩
set_option maxRecDepth 100000 in
set_option maxHeartbeats 2000000 in
theorem hold_Take_may (rrn acq pan : ByteArray) (ap ca un : Int) (n : Int) (last : Bool) (op : Bool) (w : World) (hm : hold_May.f rrn acq pan ap ca un op = some false) :
    Calls Try.prog 73 #[.agg #[.string rrn, .string acq, .string pan, .int .i64 ap, .int .i64 ca, .int .i64 un, .bool op], .int .i64 n, .bool last] w fun e w' => e = .returned (.tuple #[.agg #[.string (⟨#[]⟩ : ByteArray), .string (⟨#[]⟩ : ByteArray), .string (⟨#[]⟩ : ByteArray), .int .i64 0, .int .i64 0, .int .i64 0, .bool false], .int .i64 1]) ∧ Below w.heap.size w w' := by
  have hmf : ∀ (fn : Fn) (first cap : Array Value) (w : World), (Instr.makeFunc fn first cap).run Try.prog w = .ok (.func fn first cap) w := fun _ _ _ _ => rfl
  have HM := Lib.hid hm
  have HO := Aside0.mk (Ow.Own.nil w)
  clear hm
  go_enter Try.func73, Try.ntmps73
  go_wp2_with (first | ((with_reducible refine gate_dst (N := 3) rfl ?_); refine Ow.box rfl (N := 3) rfl (cs := #[.string rrn, .string acq, .string pan, .int .i64 ap, .int .i64 ca, .int .i64 un, .bool op]) (t := 25) HO.out (by first | (go_simp; done) | (go_simp; rfl)) ?_; clear HO; intro g1 w1 HO; simp only [List.cons_append, List.nil_append] at HO) | ((with_reducible refine gate_dst (N := 4) rfl ?_); refine Ow.box rfl (N := 4) rfl (cs := #[.int .i64 n]) (t := 2) HO.out (by first | (go_simp; done) | (go_simp; rfl)) ?_; clear HO; intro g2 w2 HO; simp only [List.cons_append, List.nil_append] at HO) | ((with_reducible refine gate_dst (N := 5) rfl ?_); refine Ow.box rfl (N := 5) rfl (cs := #[.bool last]) (t := 4) HO.out (by first | (go_simp; done) | (go_simp; rfl)) ?_; clear HO; intro g3 w3 HO; simp only [List.cons_append, List.nil_append] at HO) | ((with_reducible refine gate_dst (N := 6) rfl ?_); refine Ow.box rfl (N := 6) rfl (cs := #[.string (⟨#[]⟩ : ByteArray), .string (⟨#[]⟩ : ByteArray), .string (⟨#[]⟩ : ByteArray), .int .i64 0, .int .i64 0, .int .i64 0, .bool false]) (t := 25) HO.out (by first | (go_simp; done) | (go_simp; rfl)) ?_; clear HO; intro g4 w4 HO; simp only [List.cons_append, List.nil_append] at HO) | (go_at_call 75; refine Calls.mono (hold_openTake_may rrn acq pan ap ca un n last op g2 g3 _ HM.out (Ow.Own.get HO.out 1 rfl) (Ow.Own.get HO.out 2 rfl)) ?_; rintro e wx ⟨rfl, hb⟩; replace HO := Aside0.mk (Ow.Own.call HO.out hb); clear hb) | ((with_reducible refine Ow.gate_load rfl ?_); (try (refine gate_guard (by rfl) ?_; dsimp only)); (first | refine Ow.tload1 Ot.ty HO.out rfl rfl rfl rfl (by with_reducible first | exact Ow.at0 | exact Ow.at1 | exact Ow.at2 | exact Ow.at3) (by rfl) ?_ | refine Ow.tload0 Ot.ty HO.out rfl rfl rfl rfl (by with_reducible first | exact Ow.at0 | exact Ow.at1 | exact Ow.at2 | exact Ow.at3) (by rfl) ?_ | refine Ow.tloadp Ot.ty HO.out rfl rfl rfl rfl (by with_reducible first | exact Ow.at0 | exact Ow.at1 | exact Ow.at2 | exact Ow.at3) (by rfl) ?_)) | ((with_reducible refine gate_store rfl ?_); (try (refine gate_guard (by rfl) ?_; dsimp only)); (first | refine Ow.tput0 Ot.ty HO.out rfl rfl rfl rfl rfl (by with_reducible first | exact Ow.at0 | exact Ow.at1 | exact Ow.at2 | exact Ow.at3) (by first | exact Ow.ev_tmp rfl | rfl) (by rfl) (by rfl) (by rfl) ?_ | refine Ow.tput Ot.ty HO.out rfl rfl rfl rfl rfl (by with_reducible first | exact Ow.at0 | exact Ow.at1 | exact Ow.at2 | exact Ow.at3) (by first | exact Ow.ev_tmp rfl | rfl) (by rfl) (by rfl) (by rfl) ?_); clear HO; intro wz_ HO; simp only [List.set_cons_zero, List.set_cons_succ] at HO))
  refine' bodyPost_ret (results_ct rfl _ _ g4 25 _ (0, 0) _ rfl ?hb_ Try.underlying25 rfl ?hi_) rfl ?_
  case hb_ => refine' Ow.Own.get HO.out 3 ?hk_; (case hk_ => rfl)
  case hi_ => exact (Ot.ty.size 25 rfl).trans (congrArg some (by rfl))
  exact ⟨rfl, HO.out.below⟩
set_option maxRecDepth 100000 in
set_option maxHeartbeats 2000000 in
theorem hold_Take_end (rrn acq pan : ByteArray) (ap ca un : Int) (n : Int) (last : Bool) (w : World) (hm : hold_May.f rrn acq pan ap ca un false = some true) :
    Calls Try.prog 73 #[.agg #[.string rrn, .string acq, .string pan, .int .i64 ap, .int .i64 ca, .int .i64 un, .bool false], .int .i64 n, .bool last] w fun e w' => e = .returned (.tuple #[.agg #[.string (⟨#[]⟩ : ByteArray), .string (⟨#[]⟩ : ByteArray), .string (⟨#[]⟩ : ByteArray), .int .i64 0, .int .i64 0, .int .i64 0, .bool false], .int .i64 14]) ∧ Below w.heap.size w w' := by
  have hmf : ∀ (fn : Fn) (first cap : Array Value) (w : World), (Instr.makeFunc fn first cap).run Try.prog w = .ok (.func fn first cap) w := fun _ _ _ _ => rfl
  have HM := Lib.hid hm
  have HO := Aside0.mk (Ow.Own.nil w)
  clear hm
  go_enter Try.func73, Try.ntmps73
  go_wp2_with (first | ((with_reducible refine gate_dst (N := 3) rfl ?_); refine Ow.box rfl (N := 3) rfl (cs := #[.string rrn, .string acq, .string pan, .int .i64 ap, .int .i64 ca, .int .i64 un, .bool false]) (t := 25) HO.out (by first | (go_simp; done) | (go_simp; rfl)) ?_; clear HO; intro g1 w1 HO; simp only [List.cons_append, List.nil_append] at HO) | ((with_reducible refine gate_dst (N := 4) rfl ?_); refine Ow.box rfl (N := 4) rfl (cs := #[.int .i64 n]) (t := 2) HO.out (by first | (go_simp; done) | (go_simp; rfl)) ?_; clear HO; intro g2 w2 HO; simp only [List.cons_append, List.nil_append] at HO) | ((with_reducible refine gate_dst (N := 5) rfl ?_); refine Ow.box rfl (N := 5) rfl (cs := #[.bool last]) (t := 4) HO.out (by first | (go_simp; done) | (go_simp; rfl)) ?_; clear HO; intro g3 w3 HO; simp only [List.cons_append, List.nil_append] at HO) | ((with_reducible refine gate_dst (N := 6) rfl ?_); refine Ow.box rfl (N := 6) rfl (cs := #[.string (⟨#[]⟩ : ByteArray), .string (⟨#[]⟩ : ByteArray), .string (⟨#[]⟩ : ByteArray), .int .i64 0, .int .i64 0, .int .i64 0, .bool false]) (t := 25) HO.out (by first | (go_simp; done) | (go_simp; rfl)) ?_; clear HO; intro g4 w4 HO; simp only [List.cons_append, List.nil_append] at HO) | (go_at_call 75; refine Calls.mono (hold_openTake_end rrn acq pan ap ca un n last g2 g3 _ HM.out (Ow.Own.get HO.out 1 rfl) (Ow.Own.get HO.out 2 rfl)) ?_; rintro e wx ⟨rfl, hb⟩; replace HO := Aside0.mk (Ow.Own.call HO.out hb); clear hb) | ((with_reducible refine Ow.gate_load rfl ?_); (try (refine gate_guard (by rfl) ?_; dsimp only)); (first | refine Ow.tload1 Ot.ty HO.out rfl rfl rfl rfl (by with_reducible first | exact Ow.at0 | exact Ow.at1 | exact Ow.at2 | exact Ow.at3) (by rfl) ?_ | refine Ow.tload0 Ot.ty HO.out rfl rfl rfl rfl (by with_reducible first | exact Ow.at0 | exact Ow.at1 | exact Ow.at2 | exact Ow.at3) (by rfl) ?_ | refine Ow.tloadp Ot.ty HO.out rfl rfl rfl rfl (by with_reducible first | exact Ow.at0 | exact Ow.at1 | exact Ow.at2 | exact Ow.at3) (by rfl) ?_)) | ((with_reducible refine gate_store rfl ?_); (try (refine gate_guard (by rfl) ?_; dsimp only)); (first | refine Ow.tput0 Ot.ty HO.out rfl rfl rfl rfl rfl (by with_reducible first | exact Ow.at0 | exact Ow.at1 | exact Ow.at2 | exact Ow.at3) (by first | exact Ow.ev_tmp rfl | rfl) (by rfl) (by rfl) (by rfl) ?_ | refine Ow.tput Ot.ty HO.out rfl rfl rfl rfl rfl (by with_reducible first | exact Ow.at0 | exact Ow.at1 | exact Ow.at2 | exact Ow.at3) (by first | exact Ow.ev_tmp rfl | rfl) (by rfl) (by rfl) (by rfl) ?_); clear HO; intro wz_ HO; simp only [List.set_cons_zero, List.set_cons_succ] at HO))
  refine' bodyPost_ret (results_ct rfl _ _ g4 25 _ (0, 0) _ rfl ?hb_ Try.underlying25 rfl ?hi_) rfl ?_
  case hb_ => refine' Ow.Own.get HO.out 3 ?hk_; (case hk_ => rfl)
  case hi_ => exact (Ot.ty.size 25 rfl).trans (congrArg some (by rfl))
  exact ⟨rfl, HO.out.below⟩
set_option maxRecDepth 100000 in
set_option maxHeartbeats 2000000 in
theorem hold_Take_arg (rrn acq pan : ByteArray) (ap ca un : Int) (n : Int) (last : Bool) (w : World) (hm : hold_May.f rrn acq pan ap ca un true = some true) (h1 : n < 1) :
    Calls Try.prog 73 #[.agg #[.string rrn, .string acq, .string pan, .int .i64 ap, .int .i64 ca, .int .i64 un, .bool true], .int .i64 n, .bool last] w fun e w' => e = .returned (.tuple #[.agg #[.string (⟨#[]⟩ : ByteArray), .string (⟨#[]⟩ : ByteArray), .string (⟨#[]⟩ : ByteArray), .int .i64 0, .int .i64 0, .int .i64 0, .bool false], .int .i64 1]) ∧ Below w.heap.size w w' := by
  have hmf : ∀ (fn : Fn) (first cap : Array Value) (w : World), (Instr.makeFunc fn first cap).run Try.prog w = .ok (.func fn first cap) w := fun _ _ _ _ => rfl
  have HM := Lib.hid hm
  have HO := Aside0.mk (Ow.Own.nil w)
  clear hm
  go_enter Try.func73, Try.ntmps73
  go_wp2_with (first | ((with_reducible refine gate_dst (N := 3) rfl ?_); refine Ow.box rfl (N := 3) rfl (cs := #[.string rrn, .string acq, .string pan, .int .i64 ap, .int .i64 ca, .int .i64 un, .bool true]) (t := 25) HO.out (by first | (go_simp; done) | (go_simp; rfl)) ?_; clear HO; intro g1 w1 HO; simp only [List.cons_append, List.nil_append] at HO) | ((with_reducible refine gate_dst (N := 4) rfl ?_); refine Ow.box rfl (N := 4) rfl (cs := #[.int .i64 n]) (t := 2) HO.out (by first | (go_simp; done) | (go_simp; rfl)) ?_; clear HO; intro g2 w2 HO; simp only [List.cons_append, List.nil_append] at HO) | ((with_reducible refine gate_dst (N := 5) rfl ?_); refine Ow.box rfl (N := 5) rfl (cs := #[.bool last]) (t := 4) HO.out (by first | (go_simp; done) | (go_simp; rfl)) ?_; clear HO; intro g3 w3 HO; simp only [List.cons_append, List.nil_append] at HO) | ((with_reducible refine gate_dst (N := 6) rfl ?_); refine Ow.box rfl (N := 6) rfl (cs := #[.string (⟨#[]⟩ : ByteArray), .string (⟨#[]⟩ : ByteArray), .string (⟨#[]⟩ : ByteArray), .int .i64 0, .int .i64 0, .int .i64 0, .bool false]) (t := 25) HO.out (by first | (go_simp; done) | (go_simp; rfl)) ?_; clear HO; intro g4 w4 HO; simp only [List.cons_append, List.nil_append] at HO) | (go_at_call 75; refine Calls.mono (hold_openTake_arg rrn acq pan ap ca un n last g2 g3 _ HM.out (Ow.Own.get HO.out 1 rfl) (Ow.Own.get HO.out 2 rfl) h1) ?_; rintro e wx ⟨rfl, hb⟩; replace HO := Aside0.mk (Ow.Own.call HO.out hb); clear hb) | ((with_reducible refine Ow.gate_load rfl ?_); (try (refine gate_guard (by rfl) ?_; dsimp only)); (first | refine Ow.tload1 Ot.ty HO.out rfl rfl rfl rfl (by with_reducible first | exact Ow.at0 | exact Ow.at1 | exact Ow.at2 | exact Ow.at3) (by rfl) ?_ | refine Ow.tload0 Ot.ty HO.out rfl rfl rfl rfl (by with_reducible first | exact Ow.at0 | exact Ow.at1 | exact Ow.at2 | exact Ow.at3) (by rfl) ?_ | refine Ow.tloadp Ot.ty HO.out rfl rfl rfl rfl (by with_reducible first | exact Ow.at0 | exact Ow.at1 | exact Ow.at2 | exact Ow.at3) (by rfl) ?_)) | ((with_reducible refine gate_store rfl ?_); (try (refine gate_guard (by rfl) ?_; dsimp only)); (first | refine Ow.tput0 Ot.ty HO.out rfl rfl rfl rfl rfl (by with_reducible first | exact Ow.at0 | exact Ow.at1 | exact Ow.at2 | exact Ow.at3) (by first | exact Ow.ev_tmp rfl | rfl) (by rfl) (by rfl) (by rfl) ?_ | refine Ow.tput Ot.ty HO.out rfl rfl rfl rfl rfl (by with_reducible first | exact Ow.at0 | exact Ow.at1 | exact Ow.at2 | exact Ow.at3) (by first | exact Ow.ev_tmp rfl | rfl) (by rfl) (by rfl) (by rfl) ?_); clear HO; intro wz_ HO; simp only [List.set_cons_zero, List.set_cons_succ] at HO))
  refine' bodyPost_ret (results_ct rfl _ _ g4 25 _ (0, 0) _ rfl ?hb_ Try.underlying25 rfl ?hi_) rfl ?_
  case hb_ => refine' Ow.Own.get HO.out 3 ?hk_; (case hk_ => rfl)
  case hi_ => exact (Ot.ty.size 25 rfl).trans (congrArg some (by rfl))
  exact ⟨rfl, HO.out.below⟩
set_option maxRecDepth 100000 in
set_option maxHeartbeats 2000000 in
theorem hold_Take_ok1 (rrn acq pan : ByteArray) (ap ca un : Int) (n : Int) (w : World) (hm : hold_May.f rrn acq pan ap ca un true = some true) (h1 : 1 ≤ n) (h2 : Hid (n ≤ wrap64 (ap - ca))) :
    Calls Try.prog 73 #[.agg #[.string rrn, .string acq, .string pan, .int .i64 ap, .int .i64 ca, .int .i64 un, .bool true], .int .i64 n, .bool true] w fun e w' => e = .returned (.tuple #[.agg #[.string rrn, .string acq, .string pan, .int .i64 ap, .int .i64 (wrap64 (ca + n)), .int .i64 un, .bool false], .int .i64 0]) ∧ Below w.heap.size w w' := by
  have hmf : ∀ (fn : Fn) (first cap : Array Value) (w : World), (Instr.makeFunc fn first cap).run Try.prog w = .ok (.func fn first cap) w := fun _ _ _ _ => rfl
  have HM := Lib.hid hm
  have HO := Aside0.mk (Ow.Own.nil w)
  clear hm
  go_enter Try.func73, Try.ntmps73
  go_wp2_with (first | ((with_reducible refine gate_dst (N := 3) rfl ?_); refine Ow.box rfl (N := 3) rfl (cs := #[.string rrn, .string acq, .string pan, .int .i64 ap, .int .i64 ca, .int .i64 un, .bool true]) (t := 25) HO.out (by first | (go_simp; done) | (go_simp; rfl)) ?_; clear HO; intro g1 w1 HO; simp only [List.cons_append, List.nil_append] at HO) | ((with_reducible refine gate_dst (N := 4) rfl ?_); refine Ow.box rfl (N := 4) rfl (cs := #[.int .i64 n]) (t := 2) HO.out (by first | (go_simp; done) | (go_simp; rfl)) ?_; clear HO; intro g2 w2 HO; simp only [List.cons_append, List.nil_append] at HO) | ((with_reducible refine gate_dst (N := 5) rfl ?_); refine Ow.box rfl (N := 5) rfl (cs := #[.bool true]) (t := 4) HO.out (by first | (go_simp; done) | (go_simp; rfl)) ?_; clear HO; intro g3 w3 HO; simp only [List.cons_append, List.nil_append] at HO) | ((with_reducible refine gate_dst (N := 6) rfl ?_); refine Ow.box rfl (N := 6) rfl (cs := #[.string (⟨#[]⟩ : ByteArray), .string (⟨#[]⟩ : ByteArray), .string (⟨#[]⟩ : ByteArray), .int .i64 0, .int .i64 0, .int .i64 0, .bool false]) (t := 25) HO.out (by first | (go_simp; done) | (go_simp; rfl)) ?_; clear HO; intro g4 w4 HO; simp only [List.cons_append, List.nil_append] at HO) | (go_at_call 75; refine Calls.mono (hold_openTake_ok1 rrn acq pan ap ca un n g2 g3 _ HM.out (Ow.Own.get HO.out 1 rfl) (Ow.Own.get HO.out 2 rfl) h1 h2) ?_; rintro e wx ⟨rfl, hb⟩; replace HO := Aside0.mk (Ow.Own.call HO.out hb); clear hb) | ((with_reducible refine Ow.gate_load rfl ?_); (try (refine gate_guard (by rfl) ?_; dsimp only)); (first | refine Ow.tload1 Ot.ty HO.out rfl rfl rfl rfl (by with_reducible first | exact Ow.at0 | exact Ow.at1 | exact Ow.at2 | exact Ow.at3) (by rfl) ?_ | refine Ow.tload0 Ot.ty HO.out rfl rfl rfl rfl (by with_reducible first | exact Ow.at0 | exact Ow.at1 | exact Ow.at2 | exact Ow.at3) (by rfl) ?_ | refine Ow.tloadp Ot.ty HO.out rfl rfl rfl rfl (by with_reducible first | exact Ow.at0 | exact Ow.at1 | exact Ow.at2 | exact Ow.at3) (by rfl) ?_)) | ((with_reducible refine gate_store rfl ?_); (try (refine gate_guard (by rfl) ?_; dsimp only)); (first | refine Ow.tput0 Ot.ty HO.out rfl rfl rfl rfl rfl (by with_reducible first | exact Ow.at0 | exact Ow.at1 | exact Ow.at2 | exact Ow.at3) (by first | exact Ow.ev_tmp rfl | rfl) (by rfl) (by rfl) (by rfl) ?_ | refine Ow.tput Ot.ty HO.out rfl rfl rfl rfl rfl (by with_reducible first | exact Ow.at0 | exact Ow.at1 | exact Ow.at2 | exact Ow.at3) (by first | exact Ow.ev_tmp rfl | rfl) (by rfl) (by rfl) (by rfl) ?_); clear HO; intro wz_ HO; simp only [List.set_cons_zero, List.set_cons_succ] at HO))
  refine' bodyPost_ret (results_ct rfl _ _ g4 25 _ (0, 0) _ rfl ?hb_ Try.underlying25 rfl ?hi_) rfl ?_
  case hb_ => refine' Ow.Own.get HO.out 3 ?hk_; (case hk_ => rfl)
  case hi_ => exact (Ot.ty.size 25 rfl).trans (congrArg some (by rfl))
  exact ⟨rfl, HO.out.below⟩
set_option maxRecDepth 100000 in
set_option maxHeartbeats 2000000 in
theorem hold_Take_ok0 (rrn acq pan : ByteArray) (ap ca un : Int) (n : Int) (w : World) (hm : hold_May.f rrn acq pan ap ca un true = some true) (h1 : 1 ≤ n) (h2 : Hid (n ≤ wrap64 (ap - ca))) :
    Calls Try.prog 73 #[.agg #[.string rrn, .string acq, .string pan, .int .i64 ap, .int .i64 ca, .int .i64 un, .bool true], .int .i64 n, .bool false] w fun e w' => e = .returned (.tuple #[.agg #[.string rrn, .string acq, .string pan, .int .i64 ap, .int .i64 (wrap64 (ca + n)), .int .i64 un, .bool (decide (wrap64 (ca + n) < ap))], .int .i64 0]) ∧ Below w.heap.size w w' := by
  have hmf : ∀ (fn : Fn) (first cap : Array Value) (w : World), (Instr.makeFunc fn first cap).run Try.prog w = .ok (.func fn first cap) w := fun _ _ _ _ => rfl
  have HM := Lib.hid hm
  have HO := Aside0.mk (Ow.Own.nil w)
  clear hm
  go_enter Try.func73, Try.ntmps73
  go_wp2_with (first | ((with_reducible refine gate_dst (N := 3) rfl ?_); refine Ow.box rfl (N := 3) rfl (cs := #[.string rrn, .string acq, .string pan, .int .i64 ap, .int .i64 ca, .int .i64 un, .bool true]) (t := 25) HO.out (by first | (go_simp; done) | (go_simp; rfl)) ?_; clear HO; intro g1 w1 HO; simp only [List.cons_append, List.nil_append] at HO) | ((with_reducible refine gate_dst (N := 4) rfl ?_); refine Ow.box rfl (N := 4) rfl (cs := #[.int .i64 n]) (t := 2) HO.out (by first | (go_simp; done) | (go_simp; rfl)) ?_; clear HO; intro g2 w2 HO; simp only [List.cons_append, List.nil_append] at HO) | ((with_reducible refine gate_dst (N := 5) rfl ?_); refine Ow.box rfl (N := 5) rfl (cs := #[.bool false]) (t := 4) HO.out (by first | (go_simp; done) | (go_simp; rfl)) ?_; clear HO; intro g3 w3 HO; simp only [List.cons_append, List.nil_append] at HO) | ((with_reducible refine gate_dst (N := 6) rfl ?_); refine Ow.box rfl (N := 6) rfl (cs := #[.string (⟨#[]⟩ : ByteArray), .string (⟨#[]⟩ : ByteArray), .string (⟨#[]⟩ : ByteArray), .int .i64 0, .int .i64 0, .int .i64 0, .bool false]) (t := 25) HO.out (by first | (go_simp; done) | (go_simp; rfl)) ?_; clear HO; intro g4 w4 HO; simp only [List.cons_append, List.nil_append] at HO) | (go_at_call 75; refine Calls.mono (hold_openTake_ok0 rrn acq pan ap ca un n g2 g3 _ HM.out (Ow.Own.get HO.out 1 rfl) (Ow.Own.get HO.out 2 rfl) h1 h2) ?_; rintro e wx ⟨rfl, hb⟩; replace HO := Aside0.mk (Ow.Own.call HO.out hb); clear hb) | ((with_reducible refine Ow.gate_load rfl ?_); (try (refine gate_guard (by rfl) ?_; dsimp only)); (first | refine Ow.tload1 Ot.ty HO.out rfl rfl rfl rfl (by with_reducible first | exact Ow.at0 | exact Ow.at1 | exact Ow.at2 | exact Ow.at3) (by rfl) ?_ | refine Ow.tload0 Ot.ty HO.out rfl rfl rfl rfl (by with_reducible first | exact Ow.at0 | exact Ow.at1 | exact Ow.at2 | exact Ow.at3) (by rfl) ?_ | refine Ow.tloadp Ot.ty HO.out rfl rfl rfl rfl (by with_reducible first | exact Ow.at0 | exact Ow.at1 | exact Ow.at2 | exact Ow.at3) (by rfl) ?_)) | ((with_reducible refine gate_store rfl ?_); (try (refine gate_guard (by rfl) ?_; dsimp only)); (first | refine Ow.tput0 Ot.ty HO.out rfl rfl rfl rfl rfl (by with_reducible first | exact Ow.at0 | exact Ow.at1 | exact Ow.at2 | exact Ow.at3) (by first | exact Ow.ev_tmp rfl | rfl) (by rfl) (by rfl) (by rfl) ?_ | refine Ow.tput Ot.ty HO.out rfl rfl rfl rfl rfl (by with_reducible first | exact Ow.at0 | exact Ow.at1 | exact Ow.at2 | exact Ow.at3) (by first | exact Ow.ev_tmp rfl | rfl) (by rfl) (by rfl) (by rfl) ?_); clear HO; intro wz_ HO; simp only [List.set_cons_zero, List.set_cons_succ] at HO))
  refine' bodyPost_ret (results_ct rfl _ _ g4 25 _ (0, 0) _ rfl ?hb_ Try.underlying25 rfl ?hi_) rfl ?_
  case hb_ => refine' Ow.Own.get HO.out 3 ?hk_; (case hk_ => rfl)
  case hi_ => exact (Ot.ty.size 25 rfl).trans (congrArg some (by rfl))
  exact ⟨rfl, HO.out.below⟩
set_option maxRecDepth 100000 in
set_option maxHeartbeats 2000000 in
theorem hold_Take_no (rrn acq pan : ByteArray) (ap ca un : Int) (n : Int) (last : Bool) (w : World) (hm : hold_May.f rrn acq pan ap ca un true = some true) (h1 : 1 ≤ n) (h2 : Hid (wrap64 (ap - ca) < n)) :
    Calls Try.prog 73 #[.agg #[.string rrn, .string acq, .string pan, .int .i64 ap, .int .i64 ca, .int .i64 un, .bool true], .int .i64 n, .bool last] w fun e w' => e = .returned (.tuple #[.agg #[.string (⟨#[]⟩ : ByteArray), .string (⟨#[]⟩ : ByteArray), .string (⟨#[]⟩ : ByteArray), .int .i64 0, .int .i64 0, .int .i64 0, .bool false], .int .i64 13]) ∧ Below w.heap.size w w' := by
  have hmf : ∀ (fn : Fn) (first cap : Array Value) (w : World), (Instr.makeFunc fn first cap).run Try.prog w = .ok (.func fn first cap) w := fun _ _ _ _ => rfl
  have HM := Lib.hid hm
  have HO := Aside0.mk (Ow.Own.nil w)
  clear hm
  go_enter Try.func73, Try.ntmps73
  go_wp2_with (first | ((with_reducible refine gate_dst (N := 3) rfl ?_); refine Ow.box rfl (N := 3) rfl (cs := #[.string rrn, .string acq, .string pan, .int .i64 ap, .int .i64 ca, .int .i64 un, .bool true]) (t := 25) HO.out (by first | (go_simp; done) | (go_simp; rfl)) ?_; clear HO; intro g1 w1 HO; simp only [List.cons_append, List.nil_append] at HO) | ((with_reducible refine gate_dst (N := 4) rfl ?_); refine Ow.box rfl (N := 4) rfl (cs := #[.int .i64 n]) (t := 2) HO.out (by first | (go_simp; done) | (go_simp; rfl)) ?_; clear HO; intro g2 w2 HO; simp only [List.cons_append, List.nil_append] at HO) | ((with_reducible refine gate_dst (N := 5) rfl ?_); refine Ow.box rfl (N := 5) rfl (cs := #[.bool last]) (t := 4) HO.out (by first | (go_simp; done) | (go_simp; rfl)) ?_; clear HO; intro g3 w3 HO; simp only [List.cons_append, List.nil_append] at HO) | ((with_reducible refine gate_dst (N := 6) rfl ?_); refine Ow.box rfl (N := 6) rfl (cs := #[.string (⟨#[]⟩ : ByteArray), .string (⟨#[]⟩ : ByteArray), .string (⟨#[]⟩ : ByteArray), .int .i64 0, .int .i64 0, .int .i64 0, .bool false]) (t := 25) HO.out (by first | (go_simp; done) | (go_simp; rfl)) ?_; clear HO; intro g4 w4 HO; simp only [List.cons_append, List.nil_append] at HO) | (go_at_call 75; refine Calls.mono (hold_openTake_no rrn acq pan ap ca un n last g2 g3 _ HM.out (Ow.Own.get HO.out 1 rfl) (Ow.Own.get HO.out 2 rfl) h1 h2) ?_; rintro e wx ⟨rfl, hb⟩; replace HO := Aside0.mk (Ow.Own.call HO.out hb); clear hb) | ((with_reducible refine Ow.gate_load rfl ?_); (try (refine gate_guard (by rfl) ?_; dsimp only)); (first | refine Ow.tload1 Ot.ty HO.out rfl rfl rfl rfl (by with_reducible first | exact Ow.at0 | exact Ow.at1 | exact Ow.at2 | exact Ow.at3) (by rfl) ?_ | refine Ow.tload0 Ot.ty HO.out rfl rfl rfl rfl (by with_reducible first | exact Ow.at0 | exact Ow.at1 | exact Ow.at2 | exact Ow.at3) (by rfl) ?_ | refine Ow.tloadp Ot.ty HO.out rfl rfl rfl rfl (by with_reducible first | exact Ow.at0 | exact Ow.at1 | exact Ow.at2 | exact Ow.at3) (by rfl) ?_)) | ((with_reducible refine gate_store rfl ?_); (try (refine gate_guard (by rfl) ?_; dsimp only)); (first | refine Ow.tput0 Ot.ty HO.out rfl rfl rfl rfl rfl (by with_reducible first | exact Ow.at0 | exact Ow.at1 | exact Ow.at2 | exact Ow.at3) (by first | exact Ow.ev_tmp rfl | rfl) (by rfl) (by rfl) (by rfl) ?_ | refine Ow.tput Ot.ty HO.out rfl rfl rfl rfl rfl (by with_reducible first | exact Ow.at0 | exact Ow.at1 | exact Ow.at2 | exact Ow.at3) (by first | exact Ow.ev_tmp rfl | rfl) (by rfl) (by rfl) (by rfl) ?_); clear HO; intro wz_ HO; simp only [List.set_cons_zero, List.set_cons_succ] at HO))
  refine' bodyPost_ret (results_ct rfl _ _ g4 25 _ (0, 0) _ rfl ?hb_ Try.underlying25 rfl ?hi_) rfl ?_
  case hb_ => refine' Ow.Own.get HO.out 3 ?hk_; (case hk_ => rfl)
  case hi_ => exact (Ot.ty.size 25 rfl).trans (congrArg some (by rfl))
  exact ⟨rfl, HO.out.below⟩
def hold_Take.f (a0_0 : ByteArray) (a0_1 : ByteArray) (a0_2 : ByteArray) (a0_3 : Int) (a0_4 : Int) (a0_5 : Int) (a0_6 : Bool) (a1 : Int) (a2 : Bool) : Option (ByteArray × ByteArray × ByteArray × Int × Int × Int × Bool × Int) := if a0_0.size ≤ 4096 then some ((Pu.takeS a0_0 a0_1 a0_2 a0_3 a0_4 a0_5 a0_6 a1 a2).1.1, (Pu.takeS a0_0 a0_1 a0_2 a0_3 a0_4 a0_5 a0_6 a1 a2).1.2.1, (Pu.takeS a0_0 a0_1 a0_2 a0_3 a0_4 a0_5 a0_6 a1 a2).1.2.2.1, (Pu.takeS a0_0 a0_1 a0_2 a0_3 a0_4 a0_5 a0_6 a1 a2).1.2.2.2.1, (Pu.takeS a0_0 a0_1 a0_2 a0_3 a0_4 a0_5 a0_6 a1 a2).1.2.2.2.2.1, (Pu.takeS a0_0 a0_1 a0_2 a0_3 a0_4 a0_5 a0_6 a1 a2).1.2.2.2.2.2.1, (Pu.takeS a0_0 a0_1 a0_2 a0_3 a0_4 a0_5 a0_6 a1 a2).1.2.2.2.2.2.2, (Pu.takeS a0_0 a0_1 a0_2 a0_3 a0_4 a0_5 a0_6 a1 a2).2) else none
theorem hold_Take.calls (a0_0 : ByteArray) (a0_1 : ByteArray) (a0_2 : ByteArray) (a0_3 : Int) (a0_4 : Int) (a0_5 : Int) (a0_6 : Bool) (a1 : Int) (a2 : Bool) (r1 : ByteArray) (r2 : ByteArray) (r3 : ByteArray) (r4 : Int) (r5 : Int) (r6 : Int) (r7 : Bool) (r8 : Int) (w : World) (h : hold_Take.f a0_0 a0_1 a0_2 a0_3 a0_4 a0_5 a0_6 a1 a2 = some (r1, r2, r3, r4, r5, r6, r7, r8)) :
    Calls Try.prog 73 #[.agg #[.string a0_0, .string a0_1, .string a0_2, .int .i64 a0_3, .int .i64 a0_4, .int .i64 a0_5, .bool a0_6], .int .i64 a1, .bool a2] w fun e w' => e = .returned (.tuple #[.agg #[.string r1, .string r2, .string r3, .int .i64 r4, .int .i64 r5, .int .i64 r6, .bool r7], .int .i64 r8]) ∧ Below w.heap.size w w' := by
  unfold hold_Take.f at h
  split at h
  · rename_i hs
    simp only [Option.some.injEq, Prod.mk.injEq] at h
    obtain ⟨rfl, rfl, rfl, rfl, rfl, rfl, rfl, rfl⟩ := h
    by_cases hm : Pu.hmay a0_0 a0_1 a0_2 a0_3 a0_4 a0_5 a0_6 = true
    · cases a0_6 with
      | false =>
        simp only [Pu.takeS, Pu.wrongS, Pu.h0, if_pos hm, Bool.false_eq_true, if_false, ne_eq, show ¬ (14 : Int) = 0 by decide, not_false_eq_true, if_true]
        exact hold_Take_end a0_0 a0_1 a0_2 a0_3 a0_4 a0_5 a1 a2 w (show hold_May.f a0_0 a0_1 a0_2 a0_3 a0_4 a0_5 false = some true by unfold hold_May.f; rw [if_pos hs, hm])
      | true =>
        by_cases h1 : a1 < 1
        · simp only [Pu.takeS, Pu.wrongS, Pu.h0, if_pos hm, if_pos h1, ne_eq, show ¬ (1 : Int) = 0 by decide, not_false_eq_true, if_true]
          exact hold_Take_arg a0_0 a0_1 a0_2 a0_3 a0_4 a0_5 a1 a2 w (show hold_May.f a0_0 a0_1 a0_2 a0_3 a0_4 a0_5 true = some true by unfold hold_May.f; rw [if_pos hs, hm]) h1
        · by_cases h2 : wrap64 (a0_3 - a0_4) < a1
          · simp only [Pu.takeS, Pu.wrongS, Pu.h0, if_pos hm, if_neg h1, if_true, ne_eq, not_true_eq_false, if_false, gt_iff_lt, if_pos h2]
            exact hold_Take_no a0_0 a0_1 a0_2 a0_3 a0_4 a0_5 a1 a2 w (show hold_May.f a0_0 a0_1 a0_2 a0_3 a0_4 a0_5 true = some true by unfold hold_May.f; rw [if_pos hs, hm]) (by omega) (Lib.hid h2)
          · simp only [Pu.takeS, Pu.wrongS, Pu.h0, if_pos hm, if_neg h1, if_true, ne_eq, not_true_eq_false, if_false, gt_iff_lt, if_neg h2]
            cases a2 with
            | true => exact hold_Take_ok1 a0_0 a0_1 a0_2 a0_3 a0_4 a0_5 a1 w (show hold_May.f a0_0 a0_1 a0_2 a0_3 a0_4 a0_5 true = some true by unfold hold_May.f; rw [if_pos hs, hm]) (by omega) (Lib.hid (by omega))
            | false => exact hold_Take_ok0 a0_0 a0_1 a0_2 a0_3 a0_4 a0_5 a1 w (show hold_May.f a0_0 a0_1 a0_2 a0_3 a0_4 a0_5 true = some true by unfold hold_May.f; rw [if_pos hs, hm]) (by omega) (Lib.hid (by omega))
    · simp only [Pu.takeS, Pu.wrongS, Pu.h0, if_neg hm, ne_eq, show ¬ (1 : Int) = 0 by decide, not_false_eq_true, if_true]
      exact hold_Take_may a0_0 a0_1 a0_2 a0_3 a0_4 a0_5 a1 a2 a0_6 w (show hold_May.f a0_0 a0_1 a0_2 a0_3 a0_4 a0_5 a0_6 = some false by unfold hold_May.f; rw [if_pos hs, Bool.eq_false_iff.mpr hm])
  · cases h


end Go.Proofs.Ytddlmcaclbkopaa.XCP
