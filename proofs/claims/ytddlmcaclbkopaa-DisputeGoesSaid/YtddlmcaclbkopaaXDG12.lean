-- Written by wip/xprint.py, a session's program: printed out of the translation, with hand-written functions. Lean checks it.
import Derived.Test.YtddlmcaclbkopaaXDG0
import Derived.Test.YtddlmcaclbkopaaXDG10
import Derived.Test.YtddlmcaclbkopaaXDG11
namespace Go.Proofs.Ytddlmcaclbkopaa.XDG
open Go.RowKit Go.Proofs.YtddlmcaclbkopaaW.PrintWords Go.Proofs.YtddlmcaclbkopaaW.PrintLast Go.Proofs.YtddlmcaclbkopaaW.PrintMore
attribute [local go_sem] max2_int min2_int max_two min_two max_three min_three max_four min_four   -- for this text's walks alone
set_option linter.unusedVariables false
set_option linter.unusedSimpArgs false

/-! ### bursarref20_May: function 26 -/
mutual
def bursarref20_May.j0 : Nat → Bool → Int → Int → ByteArray → ByteArray → ByteArray → Int → Option (Bool)
  | 0, _, _, _, _, _, _, _ => none
  | k + 1, x20, x302000, x302001, x302002, x302003, x302004, x302005 => if x20 = true then (some false) else (if x302000 = 1 then ((bursarref20_pan.f x302002).bind fun t302 => (if t302 = true then (if x302003.toList = ([] : List UInt8) then (some (x302004.toList == ([] : List UInt8))) else (some false)) else (some false))) else (if x302000 = 5 then (bursarref20_May.j1 k true x302000 x302001 x302002 x302003 x302004 x302005) else (bursarref20_May.j1 k (x302000 == 6) x302000 x302001 x302002 x302003 x302004 x302005)))
def bursarref20_May.j1 : Nat → Bool → Int → Int → ByteArray → ByteArray → ByteArray → Int → Option (Bool)
  | 0, _, _, _, _, _, _, _ => none
  | k + 1, x44, x302000, x302001, x302002, x302003, x302004, x302005 => if x44 = true then (if x302002.toList = ([] : List UInt8) then ((bursarref20_acq.f x302003).bind fun t303 => (if t303 = true then (some (x302004.toList == ([] : List UInt8))) else (some false))) else (some false)) else (if 2 ≤ x302000 then (if x302000 ≤ 4 then ((bursarref20_pan.f x302002).bind fun t304 => (if t304 = true then ((bursarref20_acq.f x302003).bind fun t305 => (if t305 = true then ((bursarref14_Ref.f x302004).bind fun t306 => (some t306)) else (some false))) else (some false))) else (some false)) else (some false))
end
def bursarref20_May.f (k : Nat) (a0_0 : Int) (a0_1 : Int) (a0_2 : ByteArray) (a0_3 : ByteArray) (a0_4 : ByteArray) (a0_5 : Int) : Option (Bool) := if a0_1 < 0 then (bursarref20_May.j0 k true a0_0 a0_1 a0_2 a0_3 a0_4 a0_5) else (if a0_1 > 2147483647 then (bursarref20_May.j0 k true a0_0 a0_1 a0_2 a0_3 a0_4 a0_5) else (if a0_5 < 1 then (bursarref20_May.j0 k true a0_0 a0_1 a0_2 a0_3 a0_4 a0_5) else (bursarref20_May.j0 k (decide (a0_5 > 9999999999999)) a0_0 a0_1 a0_2 a0_3 a0_4 a0_5)))
theorem bursarref20_May.mono_l : ∀ k, (∀ y0 y1 y2 y3 y4 y5 y6, LeO (bursarref20_May.j0 k y0 y1 y2 y3 y4 y5 y6) (bursarref20_May.j0 (k + 1) y0 y1 y2 y3 y4 y5 y6)) ∧ (∀ y0 y1 y2 y3 y4 y5 y6, LeO (bursarref20_May.j1 k y0 y1 y2 y3 y4 y5 y6) (bursarref20_May.j1 (k + 1) y0 y1 y2 y3 y4 y5 y6))
  | 0 => ⟨fun _ _ _ _ _ _ _ r h => by simp [bursarref20_May.j0] at h, fun _ _ _ _ _ _ _ r h => by simp [bursarref20_May.j1] at h⟩
  | k + 1 => by
    obtain ⟨ih0, ih1⟩ := bursarref20_May.mono_l k
    refine ⟨?_, ?_⟩
    all_goals
      intros
      first
      | unfold bursarref20_May.j0
      | unfold bursarref20_May.j1
      repeat' first
      | (with_reducible exact ih0 _ _ _ _ _ _ _)
      | (with_reducible exact ih1 _ _ _ _ _ _ _)
      | (with_reducible exact LeO.refl _)
      | (with_reducible exact LeO.none _)
      | (with_reducible refine LeO.ite ?_ ?_)
      | (with_reducible refine LeO.bind ?_ (fun _ => ?_))
      | exact ih0 _ _ _ _ _ _ _
      | exact ih1 _ _ _ _ _ _ _
      | exact LeO.none _
      | refine LeO.ite ?_ ?_
      | refine LeO.bind ?_ (fun _ => ?_)
theorem bursarref20_May.mono : ∀ a0 a1 a2 a3 a4 a5 k, LeO (bursarref20_May.f k a0 a1 a2 a3 a4 a5) (bursarref20_May.f (k + 1) a0 a1 a2 a3 a4 a5) := by
  intro a0 a1 a2 a3 a4 a5 k
  obtain ⟨ih0, ih1⟩ := bursarref20_May.mono_l k
  unfold bursarref20_May.f
  repeat' first
      | (with_reducible exact ih0 _ _ _ _ _ _ _)
      | (with_reducible exact ih1 _ _ _ _ _ _ _)
      | (with_reducible exact LeO.refl _)
      | (with_reducible exact LeO.none _)
      | (with_reducible refine LeO.ite ?_ ?_)
      | (with_reducible refine LeO.bind ?_ (fun _ => ?_))
      | exact ih0 _ _ _ _ _ _ _
      | exact ih1 _ _ _ _ _ _ _
      | exact LeO.none _
      | refine LeO.ite ?_ ?_
      | refine LeO.bind ?_ (fun _ => ?_)
set_option maxHeartbeats 8000000 in
set_option maxRecDepth 100000 in
theorem bursarref20_May.calls (k : Nat) (a0_0 : Int) (a0_1 : Int) (a0_2 : ByteArray) (a0_3 : ByteArray) (a0_4 : ByteArray) (a0_5 : Int) (r : Bool) (w : World) (h : bursarref20_May.f k a0_0 a0_1 a0_2 a0_3 a0_4 a0_5 = some r) :
    Calls Try.prog 26 #[.agg #[.int .i64 a0_0, .int .i64 a0_1, .string a0_2, .string a0_3, .string a0_4, .int .i64 a0_5]] w fun e w' => e = .returned (.bool r) ∧ Below w.heap.size w w' := by
  have hu36 := Try.underlying36
  have HB := Aside0.mk (Below.refl w.heap.size w)
  have H : (if a0_1 < 0 then (bursarref20_May.j0 k true a0_0 a0_1 a0_2 a0_3 a0_4 a0_5) else (if a0_1 > 2147483647 then (bursarref20_May.j0 k true a0_0 a0_1 a0_2 a0_3 a0_4 a0_5) else (if a0_5 < 1 then (bursarref20_May.j0 k true a0_0 a0_1 a0_2 a0_3 a0_4 a0_5) else (bursarref20_May.j0 k (decide (a0_5 > 9999999999999)) a0_0 a0_1 a0_2 a0_3 a0_4 a0_5)))) = some r := h
  clear h
  have HC2 := Aside0.mk H
  clear H
  go_enter Try.func26, Try.ntmps26
  go_upto_region 1 with (first | ((with_reducible refine gate_dst (N := 1) rfl ?_); refine box_event ?hg (N := 1) ?hd (cs := #[.int .i64 a0_0, .int .i64 a0_1, .string a0_2, .string a0_3, .string a0_4, .int .i64 a0_5]) (t := 36) ?hr ?_; (case hd => rfl); (case hg => rfl); (case hr => first | (go_simp; done) | (go_simp; rfl)); intro gb301 hg w3 hbox hb; have n0_ := Aside0.mk (below_step (by repeat (first | (with_reducible first | exact HB.out | apply below_alloc | apply pw_below_drewN | apply below_drew1) | exact HB.out)) hb); have n1_ := Aside0.mk (hbox); have n2_ := Aside0.mk ((by rw [hg]; exact (below_size (by repeat (first | (with_reducible first | exact HB.out | apply below_alloc | apply pw_below_drewN | apply below_drew1) | exact HB.out))) : w.heap.size ≤ gb301)); have n3_ := Aside0.mk ((by rw [hg]; exact (below_size (by repeat (first | (with_reducible first | exact HB.out | apply below_alloc | apply pw_below_drewN | apply below_drew1) | exact HB.out))) : w.heap.size ≤ gb301)); clear HB; have HB := n0_; have BK301 := n1_; have GW301 := n2_; have GE301 := n3_; clear n0_ n1_ n2_ n3_; clear hb hbox hg))
  (try simp only [Act.put, List.setIfInBounds_toArray, List.set_cons_zero, List.set_cons_succ])
  go_cut [20] (fun v20 wc => ∃ (kq : Nat) (x20_1 : Bool), v20 = .bool x20_1 ∧ Aside0 (bursarref20_May.j0 kq x20_1 a0_0 a0_1 a0_2 a0_3 a0_4 a0_5 = some r) ∧ Aside0 (kq ≤ k) ∧ Aside0 (wc.heap[gb301]? = some (.cells #[.int .i64 a0_0, .int .i64 a0_1, .string a0_2, .string a0_3, .string a0_4, .int .i64 a0_5] 36 (0, 0))) ∧ Aside0 (Below w.heap.size w wc))
  case first => as_aux_lemma =>
    have H := HC2.out
    clear HC2
    by_cases c4 : a0_1 < 0
    · rw [if_pos c4] at H
      have c4b0 : decide (a0_1 < 0) = true := decide_eq_true c4
      clear c4
      (first | rw [c4b0] | (simp only [i64_w, i32_w]; rw [c4b0]) | skip)
      have H' := Aside0.mk H
      clear H
      have hcz5_0 := blk_cell BK301.out
      have hfz5_0 := blk_frozen BK301.out
      go_wp2
      go_meet
      case rel => exact ⟨_, (true), (by first | rfl | (simp; done) | (simp [*]; done) | (simp [Pu.bne_nil, Pu.beq_nil]; done)), H', ⟨by first | omega | exact Nat.le_refl _⟩, ⟨by (with_reducible repeat (first | refine blk_drewN ?_ _ | refine blk_drew ?_ | refine blk_alloc ?_ _)); exact BK301.out⟩, ⟨by repeat (first | (with_reducible first | exact HB.out | apply below_alloc | apply pw_below_drewN | apply below_drew1 | refine below_set ?_ GE301.out) | exact HB.out)⟩⟩
    · rw [if_neg c4] at H
      have c4b0 : decide (a0_1 < 0) = false := decide_eq_false c4
      clear c4
      (first | rw [c4b0] | (simp only [i64_w, i32_w]; rw [c4b0]) | skip)
      by_cases c6 : a0_1 > 2147483647
      · rw [if_pos c6] at H
        have c6b0 : decide (2147483647 < a0_1) = true := decide_eq_true c6
        clear c6
        have H' := Aside0.mk H
        clear H
        have hcz7_0 := blk_cell BK301.out
        have hfz7_0 := blk_frozen BK301.out
        go_wp2
        go_meet
        case rel => exact ⟨_, (true), (by first | rfl | (simp; done) | (simp [*]; done) | (simp [Pu.bne_nil, Pu.beq_nil]; done)), H', ⟨by first | omega | exact Nat.le_refl _⟩, ⟨by (with_reducible repeat (first | refine blk_drewN ?_ _ | refine blk_drew ?_ | refine blk_alloc ?_ _)); exact BK301.out⟩, ⟨by repeat (first | (with_reducible first | exact HB.out | apply below_alloc | apply pw_below_drewN | apply below_drew1 | refine below_set ?_ GE301.out) | exact HB.out)⟩⟩
      · rw [if_neg c6] at H
        have c6b0 : decide (2147483647 < a0_1) = false := decide_eq_false c6
        clear c6
        by_cases c8 : a0_5 < 1
        · rw [if_pos c8] at H
          have c8b0 : decide (a0_5 < 1) = true := decide_eq_true c8
          clear c8
          have H' := Aside0.mk H
          clear H
          have hcz9_0 := blk_cell BK301.out
          have hfz9_0 := blk_frozen BK301.out
          go_wp2
          go_meet
          case rel => exact ⟨_, (true), (by first | rfl | (simp; done) | (simp [*]; done) | (simp [Pu.bne_nil, Pu.beq_nil]; done)), H', ⟨by first | omega | exact Nat.le_refl _⟩, ⟨by (with_reducible repeat (first | refine blk_drewN ?_ _ | refine blk_drew ?_ | refine blk_alloc ?_ _)); exact BK301.out⟩, ⟨by repeat (first | (with_reducible first | exact HB.out | apply below_alloc | apply pw_below_drewN | apply below_drew1 | refine below_set ?_ GE301.out) | exact HB.out)⟩⟩
        · rw [if_neg c8] at H
          have c8b0 : decide (a0_5 < 1) = false := decide_eq_false c8
          clear c8
          have H' := Aside0.mk H
          clear H
          have hcz10_0 := blk_cell BK301.out
          have hfz10_0 := blk_frozen BK301.out
          go_wp2
          go_meet
          case rel => exact ⟨_, (decide (a0_5 > 9999999999999)), (by first | rfl | (simp; done) | (simp [*]; done) | (simp [Pu.bne_nil, Pu.beq_nil]; done)), H', ⟨by first | omega | exact Nat.le_refl _⟩, ⟨by (with_reducible repeat (first | refine blk_drewN ?_ _ | refine blk_drew ?_ | refine blk_alloc ?_ _)); exact BK301.out⟩, ⟨by repeat (first | (with_reducible first | exact HB.out | apply below_alloc | apply pw_below_drewN | apply below_drew1 | refine below_set ?_ GE301.out) | exact HB.out)⟩⟩
  case rest => as_aux_lemma =>
    clear HC2
    try clear c2
    try clear p2
    try clear c4
    try clear c4b0
    try clear c6
    try clear c6b0
    try clear c8
    try clear c8b0
    try clear hcz10_0
    try clear hcz5_0
    try clear hcz7_0
    try clear hcz9_0
    try clear hfz10_0
    try clear hfz5_0
    try clear hfz7_0
    try clear hfz9_0
    obtain ⟨kq, x20_1, rfl, HA, HJ1, BK301, HB⟩ := hcut
    cases kq with
    | zero => exact absurd HA.out (by simp [bursarref20_May.j0])
    | succ kj1 =>
      have H := HA.out
      clear HA
      simp only [bursarref20_May.j0] at H
      by_cases c11 : x20_1 = true
      · subst c11
        have H1 : (some false) = some r := by rw [if_pos rfl] at H; exact H
        clear H
        have H := H1
        clear H1
        obtain rfl := Option.some.inj H
        go_wp2
        go_ret
        exact ⟨by first | rfl | (simp [errW_none, errW_some] <;> rfl) | (simp [*, errW_none, errW_some] <;> rfl), by repeat (first | (with_reducible first | exact HB.out | apply below_alloc | apply pw_below_drewN | apply below_drew1 | refine below_set ?_ GE301.out) | exact HB.out)⟩
      · replace c11 := Bool.eq_false_iff.mpr c11
        subst c11
        have H1 : (if a0_0 = 1 then ((bursarref20_pan.f a0_2).bind fun t302 => (if t302 = true then (if a0_3.toList = ([] : List UInt8) then (some (a0_4.toList == ([] : List UInt8))) else (some false)) else (some false))) else (if a0_0 = 5 then (bursarref20_May.j1 kj1 true a0_0 a0_1 a0_2 a0_3 a0_4 a0_5) else (bursarref20_May.j1 kj1 (a0_0 == 6) a0_0 a0_1 a0_2 a0_3 a0_4 a0_5))) = some r := by rw [if_neg (show ¬ (false = true) by decide)] at H; exact H
        clear H
        have H := H1
        clear H1
        by_cases c12 : a0_0 = 1
        · rw [if_pos c12] at H
          have c12b0 : (a0_0 == 1) = true := beq_iff_eq.mpr c12
          have c12b1 : (a0_0 != 1) = false := bne_eq_false_iff_eq.mpr c12
          clear c12
          replace H := Option.bind_eq_some_iff.mp H
          obtain ⟨t302, A130, H⟩ := H
          replace H : (if t302 = true then (if a0_3.toList = ([] : List UInt8) then (some (a0_4.toList == ([] : List UInt8))) else (some false)) else (some false)) = some r := H
          have A13 := Aside0.mk A130
          clear A130
          by_cases c14 : t302 = true
          · subst c14
            have H1 : (if a0_3.toList = ([] : List UInt8) then (some (a0_4.toList == ([] : List UInt8))) else (some false)) = some r := by rw [if_pos rfl] at H; exact H
            clear H
            have H := H1
            clear H1
            by_cases c15 : a0_3.toList = ([] : List UInt8)
            · rw [if_pos c15] at H
              have c15b0 : (a0_3.toList == ([] : List UInt8)) = true := beq_iff_eq.mpr c15
              have c15b1 : (a0_3.toList != ([] : List UInt8)) = false := bne_eq_false_iff_eq.mpr c15
              clear c15
              obtain rfl := Option.some.inj H
              have hcz16_0 := blk_cell BK301.out
              have hfz16_0 := blk_frozen BK301.out
              go_wp2_with (first | ((with_reducible refine gate_callee (f := 52) rfl ?_); refine goesL_ (some 26) rfl rfl Try.func52 (by kernel_rfl) rfl #[.string a0_2] rfl (by (try simp only [List.map_toArray, List.map_cons, List.map_nil]); first | done | rfl | (simp only [List.length_drop, List.length_take]; rfl)) ?_; (with_reducible refine (bursarref20_pan.calls a0_2 true _ A13.out).mono ?_); rintro e w17 ⟨rfl, hb⟩; refine ⟨_, rfl, ?_⟩; have n0_ := Aside0.mk (blk_below (g := gb301) (o := .cells #[.int .i64 a0_0, .int .i64 a0_1, .string a0_2, .string a0_3, .string a0_4, .int .i64 a0_5] 36 (0, 0)) (by (with_reducible repeat (first | refine blk_drewN ?_ _ | refine blk_drew ?_ | refine blk_alloc ?_ _)); exact BK301.out) hb); have n1_ := Aside0.mk (below_step (by repeat (first | (with_reducible first | exact HB.out | apply below_alloc | apply pw_below_drewN | apply below_drew1 | refine below_set ?_ GE301.out) | exact HB.out)) hb); clear BK301; clear HB; have BK301 := n0_; have HB := n1_; clear n0_ n1_; (try clear hb); (try clear hb2); (try clear hk); (try clear hi); have hcz18_0 := blk_cell BK301.out; have hfz18_0 := blk_frozen BK301.out))
              go_ret
              exact ⟨by first | rfl | (simp [errW_none, errW_some] <;> rfl) | (simp [*, errW_none, errW_some] <;> rfl), by repeat (first | (with_reducible first | exact HB.out | apply below_alloc | apply pw_below_drewN | apply below_drew1 | refine below_set ?_ GE301.out) | exact HB.out)⟩
            · rw [if_neg c15] at H
              have c15b0 : (a0_3.toList == ([] : List UInt8)) = false := beq_eq_false_iff_ne.mpr c15
              have c15b1 : (a0_3.toList != ([] : List UInt8)) = true := bne_iff_ne.mpr c15
              obtain rfl := Option.some.inj H
              have hcz19_0 := blk_cell BK301.out
              have hfz19_0 := blk_frozen BK301.out
              go_wp2_with (first | ((with_reducible refine gate_callee (f := 52) rfl ?_); refine goesL_ (some 26) rfl rfl Try.func52 (by kernel_rfl) rfl #[.string a0_2] rfl (by (try simp only [List.map_toArray, List.map_cons, List.map_nil]); first | done | rfl | (simp only [List.length_drop, List.length_take]; rfl)) ?_; (with_reducible refine (bursarref20_pan.calls a0_2 true _ A13.out).mono ?_); rintro e w20 ⟨rfl, hb⟩; refine ⟨_, rfl, ?_⟩; have n0_ := Aside0.mk (blk_below (g := gb301) (o := .cells #[.int .i64 a0_0, .int .i64 a0_1, .string a0_2, .string a0_3, .string a0_4, .int .i64 a0_5] 36 (0, 0)) (by (with_reducible repeat (first | refine blk_drewN ?_ _ | refine blk_drew ?_ | refine blk_alloc ?_ _)); exact BK301.out) hb); have n1_ := Aside0.mk (below_step (by repeat (first | (with_reducible first | exact HB.out | apply below_alloc | apply pw_below_drewN | apply below_drew1 | refine below_set ?_ GE301.out) | exact HB.out)) hb); clear BK301; clear HB; have BK301 := n0_; have HB := n1_; clear n0_ n1_; (try clear hb); (try clear hb2); (try clear hk); (try clear hi); have hcz21_0 := blk_cell BK301.out; have hfz21_0 := blk_frozen BK301.out))
              go_ret
              exact ⟨by first | rfl | (simp [errW_none, errW_some] <;> rfl) | (simp [*, errW_none, errW_some] <;> rfl), by repeat (first | (with_reducible first | exact HB.out | apply below_alloc | apply pw_below_drewN | apply below_drew1 | refine below_set ?_ GE301.out) | exact HB.out)⟩
          · replace c14 := Bool.eq_false_iff.mpr c14
            subst c14
            have H1 : (some false) = some r := by rw [if_neg (show ¬ (false = true) by decide)] at H; exact H
            clear H
            have H := H1
            clear H1
            obtain rfl := Option.some.inj H
            have hcz22_0 := blk_cell BK301.out
            have hfz22_0 := blk_frozen BK301.out
            go_wp2_with (first | ((with_reducible refine gate_callee (f := 52) rfl ?_); refine goesL_ (some 26) rfl rfl Try.func52 (by kernel_rfl) rfl #[.string a0_2] rfl (by (try simp only [List.map_toArray, List.map_cons, List.map_nil]); first | done | rfl | (simp only [List.length_drop, List.length_take]; rfl)) ?_; (with_reducible refine (bursarref20_pan.calls a0_2 false _ A13.out).mono ?_); rintro e w23 ⟨rfl, hb⟩; refine ⟨_, rfl, ?_⟩; have n0_ := Aside0.mk (blk_below (g := gb301) (o := .cells #[.int .i64 a0_0, .int .i64 a0_1, .string a0_2, .string a0_3, .string a0_4, .int .i64 a0_5] 36 (0, 0)) (by (with_reducible repeat (first | refine blk_drewN ?_ _ | refine blk_drew ?_ | refine blk_alloc ?_ _)); exact BK301.out) hb); have n1_ := Aside0.mk (below_step (by repeat (first | (with_reducible first | exact HB.out | apply below_alloc | apply pw_below_drewN | apply below_drew1 | refine below_set ?_ GE301.out) | exact HB.out)) hb); clear BK301; clear HB; have BK301 := n0_; have HB := n1_; clear n0_ n1_; (try clear hb); (try clear hb2); (try clear hk); (try clear hi)))
            go_ret
            exact ⟨by first | rfl | (simp [errW_none, errW_some] <;> rfl) | (simp [*, errW_none, errW_some] <;> rfl), by repeat (first | (with_reducible first | exact HB.out | apply below_alloc | apply pw_below_drewN | apply below_drew1 | refine below_set ?_ GE301.out) | exact HB.out)⟩
        · rw [if_neg c12] at H
          have c12b0 : (a0_0 == 1) = false := beq_eq_false_iff_ne.mpr c12
          have c12b1 : (a0_0 != 1) = true := bne_iff_ne.mpr c12
          have HC24 := Aside0.mk H
          clear H
          have hcz25_0 := blk_cell BK301.out
          have hfz25_0 := blk_frozen BK301.out
          go_upto_region 5 with (fail)
          go_cut [44] (fun v44 wc => ∃ (kq : Nat) (x44_23 : Bool), v44 = .bool x44_23 ∧ Aside0 (bursarref20_May.j1 kq x44_23 a0_0 a0_1 a0_2 a0_3 a0_4 a0_5 = some r) ∧ Aside0 (kq ≤ kj1) ∧ Aside0 (wc.heap[gb301]? = some (.cells #[.int .i64 a0_0, .int .i64 a0_1, .string a0_2, .string a0_3, .string a0_4, .int .i64 a0_5] 36 (0, 0))) ∧ Aside0 (Below w.heap.size w wc))
          case first => as_aux_lemma =>
            have H := HC24.out
            clear HC24
            by_cases c26 : a0_0 = 5
            · rw [if_pos c26] at H
              have c26b0 : (a0_0 == 5) = true := beq_iff_eq.mpr c26
              have c26b1 : (a0_0 != 5) = false := bne_eq_false_iff_eq.mpr c26
              clear c26
              (first | rw [c26b0] | (simp only [i64_w, i32_w]; rw [c26b0]) | skip)
              have H' := Aside0.mk H
              clear H
              have hcz27_0 := blk_cell BK301.out
              have hfz27_0 := blk_frozen BK301.out
              go_wp2
              go_meet
              case rel => exact ⟨_, (true), (by first | rfl | (simp; done) | (simp [*]; done) | (simp [Pu.bne_nil, Pu.beq_nil]; done)), H', ⟨by have := HJ1.out; first | omega | exact Nat.le_refl _⟩, ⟨by (with_reducible repeat (first | refine blk_drewN ?_ _ | refine blk_drew ?_ | refine blk_alloc ?_ _)); exact BK301.out⟩, ⟨by repeat (first | (with_reducible first | exact HB.out | apply below_alloc | apply pw_below_drewN | apply below_drew1 | refine below_set ?_ GE301.out) | exact HB.out)⟩⟩
            · rw [if_neg c26] at H
              have c26b0 : (a0_0 == 5) = false := beq_eq_false_iff_ne.mpr c26
              have c26b1 : (a0_0 != 5) = true := bne_iff_ne.mpr c26
              (first | rw [c26b0] | (simp only [i64_w, i32_w]; rw [c26b0]) | skip)
              have H' := Aside0.mk H
              clear H
              have hcz28_0 := blk_cell BK301.out
              have hfz28_0 := blk_frozen BK301.out
              go_wp2
              go_meet
              case rel => exact ⟨_, ((a0_0 == 6)), (by first | rfl | (simp; done) | (simp [*]; done) | (simp [Pu.bne_nil, Pu.beq_nil]; done)), H', ⟨by have := HJ1.out; first | omega | exact Nat.le_refl _⟩, ⟨by (with_reducible repeat (first | refine blk_drewN ?_ _ | refine blk_drew ?_ | refine blk_alloc ?_ _)); exact BK301.out⟩, ⟨by repeat (first | (with_reducible first | exact HB.out | apply below_alloc | apply pw_below_drewN | apply below_drew1 | refine below_set ?_ GE301.out) | exact HB.out)⟩⟩
          case rest => as_aux_lemma =>
            clear HC24
            try clear c1
            try clear c2
            try clear p2
            try clear c4
            try clear c4b0
            try clear c5
            try clear c6
            try clear c6b0
            try clear c8
            try clear c8b0
            try clear c11
            try clear c12
            try clear c12b0
            try clear c12b1
            try clear c14
            try clear c15
            try clear c15b0
            try clear c15b1
            try clear c26
            try clear c26b0
            try clear c26b1
            try clear hcz10_0
            try clear hcz16_0
            try clear hcz18_0
            try clear hcz19_0
            try clear hcz21_0
            try clear hcz22_0
            try clear hcz25_0
            try clear hcz27_0
            try clear hcz28_0
            try clear hcz5_0
            try clear hcz7_0
            try clear hcz9_0
            try clear hfz10_0
            try clear hfz16_0
            try clear hfz18_0
            try clear hfz19_0
            try clear hfz21_0
            try clear hfz22_0
            try clear hfz25_0
            try clear hfz27_0
            try clear hfz28_0
            try clear hfz5_0
            try clear hfz7_0
            try clear hfz9_0
            try clear p2
            obtain ⟨kq, x44_23, rfl, HA, HJ23, BK301, HB⟩ := hcut
            cases kq with
            | zero => exact absurd HA.out (by simp [bursarref20_May.j1])
            | succ kj23 =>
              have H := HA.out
              clear HA
              simp only [bursarref20_May.j1] at H
              by_cases c29 : x44_23 = true
              · subst c29
                have H1 : (if a0_2.toList = ([] : List UInt8) then ((bursarref20_acq.f a0_3).bind fun t303 => (if t303 = true then (some (a0_4.toList == ([] : List UInt8))) else (some false))) else (some false)) = some r := by rw [if_pos rfl] at H; exact H
                clear H
                have H := H1
                clear H1
                by_cases c30 : a0_2.toList = ([] : List UInt8)
                · rw [if_pos c30] at H
                  have c30b0 : (a0_2.toList == ([] : List UInt8)) = true := beq_iff_eq.mpr c30
                  have c30b1 : (a0_2.toList != ([] : List UInt8)) = false := bne_eq_false_iff_eq.mpr c30
                  clear c30
                  replace H := Option.bind_eq_some_iff.mp H
                  obtain ⟨t303, A310, H⟩ := H
                  replace H : (if t303 = true then (some (a0_4.toList == ([] : List UInt8))) else (some false)) = some r := H
                  have A31 := Aside0.mk A310
                  clear A310
                  by_cases c32 : t303 = true
                  · subst c32
                    have H1 : (some (a0_4.toList == ([] : List UInt8))) = some r := by rw [if_pos rfl] at H; exact H
                    clear H
                    have H := H1
                    clear H1
                    obtain rfl := Option.some.inj H
                    have hcz33_0 := blk_cell BK301.out
                    have hfz33_0 := blk_frozen BK301.out
                    go_wp2_with (first | (go_at_call 53; (with_reducible refine (bursarref20_acq.calls a0_3 true _ A31.out).mono ?_); rintro e w' ⟨rfl, ⟨nd, rfl⟩⟩))
                    go_ret
                    exact ⟨by first | rfl | (simp [errW_none, errW_some] <;> rfl) | (simp [*, errW_none, errW_some] <;> rfl), by repeat (first | (with_reducible first | exact HB.out | apply below_alloc | apply pw_below_drewN | apply below_drew1 | refine below_set ?_ GE301.out) | exact HB.out)⟩
                  · replace c32 := Bool.eq_false_iff.mpr c32
                    subst c32
                    have H1 : (some false) = some r := by rw [if_neg (show ¬ (false = true) by decide)] at H; exact H
                    clear H
                    have H := H1
                    clear H1
                    obtain rfl := Option.some.inj H
                    have hcz34_0 := blk_cell BK301.out
                    have hfz34_0 := blk_frozen BK301.out
                    go_wp2_with (first | (go_at_call 53; (with_reducible refine (bursarref20_acq.calls a0_3 false _ A31.out).mono ?_); rintro e w' ⟨rfl, ⟨nd, rfl⟩⟩))
                    go_ret
                    exact ⟨by first | rfl | (simp [errW_none, errW_some] <;> rfl) | (simp [*, errW_none, errW_some] <;> rfl), by repeat (first | (with_reducible first | exact HB.out | apply below_alloc | apply pw_below_drewN | apply below_drew1 | refine below_set ?_ GE301.out) | exact HB.out)⟩
                · rw [if_neg c30] at H
                  have c30b0 : (a0_2.toList == ([] : List UInt8)) = false := beq_eq_false_iff_ne.mpr c30
                  have c30b1 : (a0_2.toList != ([] : List UInt8)) = true := bne_iff_ne.mpr c30
                  obtain rfl := Option.some.inj H
                  have hcz35_0 := blk_cell BK301.out
                  have hfz35_0 := blk_frozen BK301.out
                  go_wp2
                  go_ret
                  exact ⟨by first | rfl | (simp [errW_none, errW_some] <;> rfl) | (simp [*, errW_none, errW_some] <;> rfl), by repeat (first | (with_reducible first | exact HB.out | apply below_alloc | apply pw_below_drewN | apply below_drew1 | refine below_set ?_ GE301.out) | exact HB.out)⟩
              · replace c29 := Bool.eq_false_iff.mpr c29
                subst c29
                have H1 : (if 2 ≤ a0_0 then (if a0_0 ≤ 4 then ((bursarref20_pan.f a0_2).bind fun t304 => (if t304 = true then ((bursarref20_acq.f a0_3).bind fun t305 => (if t305 = true then ((bursarref14_Ref.f a0_4).bind fun t306 => (some t306)) else (some false))) else (some false))) else (some false)) else (some false)) = some r := by rw [if_neg (show ¬ (false = true) by decide)] at H; exact H
                clear H
                have H := H1
                clear H1
                by_cases c36 : 2 ≤ a0_0
                · rw [if_pos c36] at H
                  have c36b0 : decide (2 ≤ a0_0) = true := decide_eq_true c36
                  clear c36
                  by_cases c37 : a0_0 ≤ 4
                  · rw [if_pos c37] at H
                    have c37b0 : decide (a0_0 ≤ 4) = true := decide_eq_true c37
                    clear c37
                    replace H := Option.bind_eq_some_iff.mp H
                    obtain ⟨t304, A380, H⟩ := H
                    replace H : (if t304 = true then ((bursarref20_acq.f a0_3).bind fun t305 => (if t305 = true then ((bursarref14_Ref.f a0_4).bind fun t306 => (some t306)) else (some false))) else (some false)) = some r := H
                    have A38 := Aside0.mk A380
                    clear A380
                    by_cases c39 : t304 = true
                    · subst c39
                      have H1 : ((bursarref20_acq.f a0_3).bind fun t305 => (if t305 = true then ((bursarref14_Ref.f a0_4).bind fun t306 => (some t306)) else (some false))) = some r := by rw [if_pos rfl] at H; exact H
                      clear H
                      have H := H1
                      clear H1
                      replace H := Option.bind_eq_some_iff.mp H
                      obtain ⟨t305, A400, H⟩ := H
                      replace H : (if t305 = true then ((bursarref14_Ref.f a0_4).bind fun t306 => (some t306)) else (some false)) = some r := H
                      have A40 := Aside0.mk A400
                      clear A400
                      by_cases c41 : t305 = true
                      · subst c41
                        have H1 : ((bursarref14_Ref.f a0_4).bind fun t306 => (some t306)) = some r := by rw [if_pos rfl] at H; exact H
                        clear H
                        have H := H1
                        clear H1
                        replace H := Option.bind_eq_some_iff.mp H
                        obtain ⟨t306, A420, H⟩ := H
                        replace H : (some t306) = some r := H
                        have A42 := Aside0.mk A420
                        clear A420
                        obtain rfl := Option.some.inj H
                        have hcz43_0 := blk_cell BK301.out
                        have hfz43_0 := blk_frozen BK301.out
                        go_wp2_with (first | (go_at_call 52; (with_reducible refine (bursarref20_pan.calls a0_2 true _ A38.out).mono ?_); rintro e w44 ⟨rfl, hb⟩; have n0_ := Aside0.mk (blk_below (g := gb301) (o := .cells #[.int .i64 a0_0, .int .i64 a0_1, .string a0_2, .string a0_3, .string a0_4, .int .i64 a0_5] 36 (0, 0)) (by (with_reducible repeat (first | refine blk_drewN ?_ _ | refine blk_drew ?_ | refine blk_alloc ?_ _)); exact BK301.out) hb); have n1_ := Aside0.mk (below_step (by repeat (first | (with_reducible first | exact HB.out | apply below_alloc | apply pw_below_drewN | apply below_drew1 | refine below_set ?_ GE301.out) | exact HB.out)) hb); clear BK301; clear HB; have BK301 := n0_; have HB := n1_; clear n0_ n1_; (try clear hb); (try clear hb2); (try clear hk); (try clear hi); have hcz45_0 := blk_cell BK301.out; have hfz45_0 := blk_frozen BK301.out) | (go_at_call 53; (with_reducible refine (bursarref20_acq.calls a0_3 true _ A40.out).mono ?_); rintro e w' ⟨rfl, ⟨nd, rfl⟩⟩) | (go_at_call 46; (with_reducible refine (bursarref14_Ref.calls a0_4 t306 _ A42.out).mono ?_); rintro e w' ⟨rfl, ⟨nd, rfl⟩⟩))
                        go_ret
                        exact ⟨by first | rfl | (simp [errW_none, errW_some] <;> rfl) | (simp [*, errW_none, errW_some] <;> rfl), by repeat (first | (with_reducible first | exact HB.out | apply below_alloc | apply pw_below_drewN | apply below_drew1 | refine below_set ?_ GE301.out) | exact HB.out)⟩
                      · replace c41 := Bool.eq_false_iff.mpr c41
                        subst c41
                        have H1 : (some false) = some r := by rw [if_neg (show ¬ (false = true) by decide)] at H; exact H
                        clear H
                        have H := H1
                        clear H1
                        obtain rfl := Option.some.inj H
                        have hcz46_0 := blk_cell BK301.out
                        have hfz46_0 := blk_frozen BK301.out
                        go_wp2_with (first | (go_at_call 52; (with_reducible refine (bursarref20_pan.calls a0_2 true _ A38.out).mono ?_); rintro e w47 ⟨rfl, hb⟩; have n0_ := Aside0.mk (blk_below (g := gb301) (o := .cells #[.int .i64 a0_0, .int .i64 a0_1, .string a0_2, .string a0_3, .string a0_4, .int .i64 a0_5] 36 (0, 0)) (by (with_reducible repeat (first | refine blk_drewN ?_ _ | refine blk_drew ?_ | refine blk_alloc ?_ _)); exact BK301.out) hb); have n1_ := Aside0.mk (below_step (by repeat (first | (with_reducible first | exact HB.out | apply below_alloc | apply pw_below_drewN | apply below_drew1 | refine below_set ?_ GE301.out) | exact HB.out)) hb); clear BK301; clear HB; have BK301 := n0_; have HB := n1_; clear n0_ n1_; (try clear hb); (try clear hb2); (try clear hk); (try clear hi); have hcz48_0 := blk_cell BK301.out; have hfz48_0 := blk_frozen BK301.out) | (go_at_call 53; (with_reducible refine (bursarref20_acq.calls a0_3 false _ A40.out).mono ?_); rintro e w' ⟨rfl, ⟨nd, rfl⟩⟩))
                        go_ret
                        exact ⟨by first | rfl | (simp [errW_none, errW_some] <;> rfl) | (simp [*, errW_none, errW_some] <;> rfl), by repeat (first | (with_reducible first | exact HB.out | apply below_alloc | apply pw_below_drewN | apply below_drew1 | refine below_set ?_ GE301.out) | exact HB.out)⟩
                    · replace c39 := Bool.eq_false_iff.mpr c39
                      subst c39
                      have H1 : (some false) = some r := by rw [if_neg (show ¬ (false = true) by decide)] at H; exact H
                      clear H
                      have H := H1
                      clear H1
                      obtain rfl := Option.some.inj H
                      have hcz49_0 := blk_cell BK301.out
                      have hfz49_0 := blk_frozen BK301.out
                      go_wp2_with (first | (go_at_call 52; (with_reducible refine (bursarref20_pan.calls a0_2 false _ A38.out).mono ?_); rintro e w50 ⟨rfl, hb⟩; have n0_ := Aside0.mk (blk_below (g := gb301) (o := .cells #[.int .i64 a0_0, .int .i64 a0_1, .string a0_2, .string a0_3, .string a0_4, .int .i64 a0_5] 36 (0, 0)) (by (with_reducible repeat (first | refine blk_drewN ?_ _ | refine blk_drew ?_ | refine blk_alloc ?_ _)); exact BK301.out) hb); have n1_ := Aside0.mk (below_step (by repeat (first | (with_reducible first | exact HB.out | apply below_alloc | apply pw_below_drewN | apply below_drew1 | refine below_set ?_ GE301.out) | exact HB.out)) hb); clear BK301; clear HB; have BK301 := n0_; have HB := n1_; clear n0_ n1_; (try clear hb); (try clear hb2); (try clear hk); (try clear hi)))
                      go_ret
                      exact ⟨by first | rfl | (simp [errW_none, errW_some] <;> rfl) | (simp [*, errW_none, errW_some] <;> rfl), by repeat (first | (with_reducible first | exact HB.out | apply below_alloc | apply pw_below_drewN | apply below_drew1 | refine below_set ?_ GE301.out) | exact HB.out)⟩
                  · rw [if_neg c37] at H
                    have c37b0 : decide (a0_0 ≤ 4) = false := decide_eq_false c37
                    clear c37
                    obtain rfl := Option.some.inj H
                    have hcz51_0 := blk_cell BK301.out
                    have hfz51_0 := blk_frozen BK301.out
                    go_wp2
                    go_ret
                    exact ⟨by first | rfl | (simp [errW_none, errW_some] <;> rfl) | (simp [*, errW_none, errW_some] <;> rfl), by repeat (first | (with_reducible first | exact HB.out | apply below_alloc | apply pw_below_drewN | apply below_drew1 | refine below_set ?_ GE301.out) | exact HB.out)⟩
                · rw [if_neg c36] at H
                  have c36b0 : decide (2 ≤ a0_0) = false := decide_eq_false c36
                  clear c36
                  obtain rfl := Option.some.inj H
                  have hcz52_0 := blk_cell BK301.out
                  have hfz52_0 := blk_frozen BK301.out
                  go_wp2
                  go_ret
                  exact ⟨by first | rfl | (simp [errW_none, errW_some] <;> rfl) | (simp [*, errW_none, errW_some] <;> rfl), by repeat (first | (with_reducible first | exact HB.out | apply below_alloc | apply pw_below_drewN | apply below_drew1 | refine below_set ?_ GE301.out) | exact HB.out)⟩

end Go.Proofs.Ytddlmcaclbkopaa.XDG
