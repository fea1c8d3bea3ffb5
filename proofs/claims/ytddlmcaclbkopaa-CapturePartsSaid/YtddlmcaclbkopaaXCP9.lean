-- Written by wip/xprint.py, a session's program: printed out of the translation, with hand-written functions. Lean checks it.
import Derived.Test.YtddlmcaclbkopaaXCP0
import Derived.Test.YtddlmcaclbkopaaXCP8
namespace Go.Proofs.Ytddlmcaclbkopaa.XCP
open Go.RowKit Go.Proofs.YtddlmcaclbkopaaW.PrintWords Go.Proofs.YtddlmcaclbkopaaW.PrintLast Go.Proofs.YtddlmcaclbkopaaW.PrintMore
attribute [local go_sem] max2_int min2_int max_two min_two max_three min_three max_four min_four   -- for this text's walks alone
set_option linter.unusedVariables false
set_option linter.unusedSimpArgs false

/-! ### bursarref11_Name_p: function 45 -/
mutual
def bursarref11_Name_p.j0 : Nat → Bool → Int → ByteArray → Option (ByteArray × Bool)
  | 0, _, _, _ => none
  | k + 1, x17, x361000, x361001 => if x17 = true then (if 1 + x361001.size ≤ 9223372036854775807 then (some ((⟨#[67]⟩ : ByteArray) ++ x361001, true)) else (none)) else (if x361000 = 2 then (if (x361001.size : Int) = 6 then ((bursarref02_All.f x361001).bind fun t362 => (bursarref11_Name_p.j1 k t362 x361000 x361001)) else (bursarref11_Name_p.j1 k false x361000 x361001)) else (bursarref11_Name_p.j1 k false x361000 x361001))
def bursarref11_Name_p.j1 : Nat → Bool → Int → ByteArray → Option (ByteArray × Bool)
  | 0, _, _, _ => none
  | k + 1, x34, x361000, x361001 => if x34 = true then (if 1 + x361001.size ≤ 9223372036854775807 then (some ((⟨#[65]⟩ : ByteArray) ++ x361001, true)) else (none)) else (if x361000 = 3 then (bursarref11_Name_p.j2 k (x361001.toList == ([] : List UInt8)) x361000 x361001) else (bursarref11_Name_p.j2 k false x361000 x361001))
def bursarref11_Name_p.j2 : Nat → Bool → Int → ByteArray → Option (ByteArray × Bool)
  | 0, _, _, _ => none
  | k + 1, x45, x361000, x361001 => if x45 = true then (some ((⟨#[72]⟩ : ByteArray), true)) else (if x361000 = 4 then (if x361001.toList = ([] : List UInt8) then (some ((⟨#[68]⟩ : ByteArray), true)) else (some ((⟨#[]⟩ : ByteArray), false))) else (some ((⟨#[]⟩ : ByteArray), false)))
end
def bursarref11_Name_p.f (k : Nat) (a0_0 : Int) (a0_1 : ByteArray) : Option (ByteArray × Bool) := if a0_0 = 1 then (if (a0_1.size : Int) = 16 then ((bursarref02_Sound.f a0_1).bind fun t361 => (bursarref11_Name_p.j0 k t361 a0_0 a0_1)) else (bursarref11_Name_p.j0 k false a0_0 a0_1)) else (bursarref11_Name_p.j0 k false a0_0 a0_1)
theorem bursarref11_Name_p.mono_l : ∀ k, (∀ y0 y1 y2, LeO (bursarref11_Name_p.j0 k y0 y1 y2) (bursarref11_Name_p.j0 (k + 1) y0 y1 y2)) ∧ (∀ y0 y1 y2, LeO (bursarref11_Name_p.j1 k y0 y1 y2) (bursarref11_Name_p.j1 (k + 1) y0 y1 y2)) ∧ (∀ y0 y1 y2, LeO (bursarref11_Name_p.j2 k y0 y1 y2) (bursarref11_Name_p.j2 (k + 1) y0 y1 y2))
  | 0 => ⟨fun _ _ _ r h => by simp [bursarref11_Name_p.j0] at h, fun _ _ _ r h => by simp [bursarref11_Name_p.j1] at h, fun _ _ _ r h => by simp [bursarref11_Name_p.j2] at h⟩
  | k + 1 => by
    obtain ⟨ih0, ih1, ih2⟩ := bursarref11_Name_p.mono_l k
    refine ⟨?_, ?_, ?_⟩
    · intro y0 y1 y2
      unfold bursarref11_Name_p.j0
      repeat' first
      | (with_reducible exact ih0 _ _ _)
      | (with_reducible exact ih1 _ _ _)
      | (with_reducible exact ih2 _ _ _)
      | (with_reducible exact LeO.refl _)
      | (with_reducible exact LeO.none _)
      | (with_reducible refine LeO.ite ?_ ?_)
      | (with_reducible refine LeO.bind ?_ (fun _ => ?_))
      | exact ih0 _ _ _
      | exact ih1 _ _ _
      | exact ih2 _ _ _
      | exact LeO.none _
      | refine LeO.ite ?_ ?_
      | refine LeO.bind ?_ (fun _ => ?_)
    · intro y0 y1 y2
      unfold bursarref11_Name_p.j1
      repeat' first
      | (with_reducible exact ih0 _ _ _)
      | (with_reducible exact ih1 _ _ _)
      | (with_reducible exact ih2 _ _ _)
      | (with_reducible exact LeO.refl _)
      | (with_reducible exact LeO.none _)
      | (with_reducible refine LeO.ite ?_ ?_)
      | (with_reducible refine LeO.bind ?_ (fun _ => ?_))
      | exact ih0 _ _ _
      | exact ih1 _ _ _
      | exact ih2 _ _ _
      | exact LeO.none _
      | refine LeO.ite ?_ ?_
      | refine LeO.bind ?_ (fun _ => ?_)
    · intro y0 y1 y2
      unfold bursarref11_Name_p.j2
      repeat' first
      | (with_reducible exact ih0 _ _ _)
      | (with_reducible exact ih1 _ _ _)
      | (with_reducible exact ih2 _ _ _)
      | (with_reducible exact LeO.refl _)
      | (with_reducible exact LeO.none _)
      | (with_reducible refine LeO.ite ?_ ?_)
      | (with_reducible refine LeO.bind ?_ (fun _ => ?_))
      | exact ih0 _ _ _
      | exact ih1 _ _ _
      | exact ih2 _ _ _
      | exact LeO.none _
      | refine LeO.ite ?_ ?_
      | refine LeO.bind ?_ (fun _ => ?_)
theorem bursarref11_Name_p.mono : ∀ a0 a1 k, LeO (bursarref11_Name_p.f k a0 a1) (bursarref11_Name_p.f (k + 1) a0 a1) := by
  intro a0 a1 k
  obtain ⟨ih0, ih1, ih2⟩ := bursarref11_Name_p.mono_l k
  unfold bursarref11_Name_p.f
  repeat' first
      | (with_reducible exact ih0 _ _ _)
      | (with_reducible exact ih1 _ _ _)
      | (with_reducible exact ih2 _ _ _)
      | (with_reducible exact LeO.refl _)
      | (with_reducible exact LeO.none _)
      | (with_reducible refine LeO.ite ?_ ?_)
      | (with_reducible refine LeO.bind ?_ (fun _ => ?_))
      | exact ih0 _ _ _
      | exact ih1 _ _ _
      | exact ih2 _ _ _
      | exact LeO.none _
      | refine LeO.ite ?_ ?_
      | refine LeO.bind ?_ (fun _ => ?_)
set_option maxHeartbeats 8000000 in
set_option maxRecDepth 100000 in
theorem bursarref11_Name_p.calls (k : Nat) (a0_0 : Int) (a0_1 : ByteArray) (r1 : ByteArray) (r2 : Bool) (w : World) (h : bursarref11_Name_p.f k a0_0 a0_1 = some (r1, r2)) :
    Calls Try.prog 45 #[.agg #[.int .i64 a0_0, .string a0_1]] w fun e w' => e = .returned (.tuple #[.string r1, .bool r2]) ∧ Below w.heap.size w w' := by
  have hu73 := Try.underlying73
  have HB := Aside0.mk (Below.refl w.heap.size w)
  have H : (if a0_0 = 1 then (if (a0_1.size : Int) = 16 then ((bursarref02_Sound.f a0_1).bind fun t361 => (bursarref11_Name_p.j0 k t361 a0_0 a0_1)) else (bursarref11_Name_p.j0 k false a0_0 a0_1)) else (bursarref11_Name_p.j0 k false a0_0 a0_1)) = some (r1, r2) := h
  clear h
  have HC2 := Aside0.mk H
  clear H
  go_enter Try.func45, Try.ntmps45
  go_upto_region 1 with (first | ((with_reducible refine gate_dst (N := 1) rfl ?_); (try (refine gate_guard (by rfl) ?_; dsimp only)); refine box_event ?hg (N := 1) ?hd (cs := #[.int .i64 a0_0, .string a0_1]) (t := 73) ?hr ?_; (case hd => rfl); (case hg => rfl); (case hr => first | (go_simp; done) | (go_simp; rfl)); intro gb360 hg w3 hbox hb; have n0_ := Aside0.mk (below_step (by repeat (first | (with_reducible first | exact HB.out | apply below_alloc | apply pw_below_drewN | apply below_drew1) | exact HB.out)) hb); have n1_ := Aside0.mk (hbox); have n2_ := Aside0.mk ((by rw [hg]; exact (below_size (by repeat (first | (with_reducible first | exact HB.out | apply below_alloc | apply pw_below_drewN | apply below_drew1) | exact HB.out))) : w.heap.size ≤ gb360)); have n3_ := Aside0.mk ((by rw [hg]; exact (below_size (by repeat (first | (with_reducible first | exact HB.out | apply below_alloc | apply pw_below_drewN | apply below_drew1) | exact HB.out))) : w.heap.size ≤ gb360)); clear HB; have HB := n0_; have BK360 := n1_; have GW360 := n2_; have GE360 := n3_; clear n0_ n1_ n2_ n3_; clear hb hbox hg))
  (try simp only [Act.put, List.setIfInBounds_toArray, List.set_cons_zero, List.set_cons_succ])
  go_cut [17] (fun v17 wc => ∃ (kq : Nat) (x17_1 : Bool), v17 = .bool x17_1 ∧ Aside0 (bursarref11_Name_p.j0 kq x17_1 a0_0 a0_1 = some (r1, r2)) ∧ Aside0 (kq ≤ k) ∧ Aside0 (wc.heap[gb360]? = some (.cells #[.int .i64 a0_0, .string a0_1] 73 (0, 0))) ∧ Aside0 (Below w.heap.size w wc))
  case first =>
    have H := HC2.out
    clear HC2
    by_cases c4 : a0_0 = 1
    · rw [if_pos c4] at H
      have c4b0 : (a0_0 == 1) = true := beq_iff_eq.mpr c4
      have c4b1 : (a0_0 != 1) = false := bne_eq_false_iff_eq.mpr c4
      clear c4
      (first | rw [c4b0] | (simp only [i64_w, i32_w]; rw [c4b0]) | skip)
      by_cases c5 : (a0_1.size : Int) = 16
      · rw [if_pos c5] at H
        have c5b0 : ((a0_1.size : Int) == 16) = true := beq_iff_eq.mpr c5
        have c5b1 : ((a0_1.size : Int) != 16) = false := bne_eq_false_iff_eq.mpr c5
        clear c5
        replace H := Option.bind_eq_some_iff.mp H
        obtain ⟨t361, A60, H⟩ := H
        replace H : (bursarref11_Name_p.j0 k t361 a0_0 a0_1) = some (r1, r2) := H
        have A6 := Aside0.mk A60
        clear A60
        have H' := Aside0.mk H
        clear H
        have hcz7_0 := blk_cell BK360.out
        have hfz7_0 := blk_frozen BK360.out
        go_wp2_with (first | (go_at_call 67; (with_reducible refine (bursarref02_Sound.calls a0_1 t361 _ A6.out).mono ?_); rintro e w' ⟨rfl, ⟨nd, rfl⟩⟩))
        go_meet
        case rel => exact ⟨_, (t361), (by first | rfl | (simp; done) | (simp [*]; done) | (simp [Pu.bne_nil, Pu.beq_nil]; done)), H', ⟨by first | omega | exact Nat.le_refl _⟩, ⟨by (with_reducible repeat (first | refine blk_drewN ?_ _ | refine blk_drew ?_ | refine blk_alloc ?_ _)); exact BK360.out⟩, ⟨by repeat (first | (with_reducible first | exact HB.out | apply below_alloc | apply pw_below_drewN | apply below_drew1 | refine below_set ?_ GE360.out) | exact HB.out)⟩⟩
      · rw [if_neg c5] at H
        have c5b0 : ((a0_1.size : Int) == 16) = false := beq_eq_false_iff_ne.mpr c5
        have c5b1 : ((a0_1.size : Int) != 16) = true := bne_iff_ne.mpr c5
        have H' := Aside0.mk H
        clear H
        have hcz8_0 := blk_cell BK360.out
        have hfz8_0 := blk_frozen BK360.out
        go_wp2
        go_meet
        case rel => exact ⟨_, (false), (by first | rfl | (simp; done) | (simp [*]; done) | (simp [Pu.bne_nil, Pu.beq_nil]; done)), H', ⟨by first | omega | exact Nat.le_refl _⟩, ⟨by (with_reducible repeat (first | refine blk_drewN ?_ _ | refine blk_drew ?_ | refine blk_alloc ?_ _)); exact BK360.out⟩, ⟨by repeat (first | (with_reducible first | exact HB.out | apply below_alloc | apply pw_below_drewN | apply below_drew1 | refine below_set ?_ GE360.out) | exact HB.out)⟩⟩
    · rw [if_neg c4] at H
      have c4b0 : (a0_0 == 1) = false := beq_eq_false_iff_ne.mpr c4
      have c4b1 : (a0_0 != 1) = true := bne_iff_ne.mpr c4
      (first | rw [c4b0] | (simp only [i64_w, i32_w]; rw [c4b0]) | skip)
      have H' := Aside0.mk H
      clear H
      have hcz9_0 := blk_cell BK360.out
      have hfz9_0 := blk_frozen BK360.out
      go_wp2
      go_meet
      case rel => exact ⟨_, (false), (by first | rfl | (simp; done) | (simp [*]; done) | (simp [Pu.bne_nil, Pu.beq_nil]; done)), H', ⟨by first | omega | exact Nat.le_refl _⟩, ⟨by (with_reducible repeat (first | refine blk_drewN ?_ _ | refine blk_drew ?_ | refine blk_alloc ?_ _)); exact BK360.out⟩, ⟨by repeat (first | (with_reducible first | exact HB.out | apply below_alloc | apply pw_below_drewN | apply below_drew1 | refine below_set ?_ GE360.out) | exact HB.out)⟩⟩
  case rest =>
    clear HC2
    try clear p2
    try clear c4
    try clear c4b0
    try clear c4b1
    try clear c5
    try clear c5b0
    try clear c5b1
    try clear hcz7_0
    try clear hcz8_0
    try clear hcz9_0
    try clear hfz7_0
    try clear hfz8_0
    try clear hfz9_0
    obtain ⟨kq, x17_1, rfl, HA, HJ1, BK360, HB⟩ := hcut
    cases kq with
    | zero => exact absurd HA.out (by simp [bursarref11_Name_p.j0])
    | succ kj1 =>
      have H := HA.out
      clear HA
      simp only [bursarref11_Name_p.j0] at H
      by_cases c10 : x17_1 = true
      · subst c10
        have H1 : (if 1 + a0_1.size ≤ 9223372036854775807 then (some ((⟨#[67]⟩ : ByteArray) ++ a0_1, true)) else (none)) = some (r1, r2) := by rw [if_pos rfl] at H; exact H
        clear H
        have H := H1
        clear H1
        by_cases c11 : 1 + a0_1.size ≤ 9223372036854775807
        · rw [if_pos c11] at H
          have c11b0 := eq_true c11
          have c11b1 : decide (1 + a0_1.size ≤ 9223372036854775807) = true := decide_eq_true c11
          try have c11b2 : (9223372036854775807 < 1 + a0_1.size) = False := eq_false (Nat.not_lt.2 c11)
          simp only [Option.some.injEq, Prod.mk.injEq] at H
          obtain ⟨rfl, rfl⟩ := H
          have hcz12_0 := blk_cell BK360.out
          have hfz12_0 := blk_frozen BK360.out
          go_wp2
          go_ret2
          exact ⟨by first | rfl | (simp [errW_none, errW_some] <;> rfl) | (simp [*, errW_none, errW_some] <;> rfl), by repeat (first | (with_reducible first | exact HB.out | apply below_alloc | apply pw_below_drewN | apply below_drew1 | refine below_set ?_ GE360.out) | exact HB.out)⟩
        · rw [if_neg c11] at H
          exact absurd H (by simp)
      · replace c10 := Bool.eq_false_iff.mpr c10
        subst c10
        have H1 : (if a0_0 = 2 then (if (a0_1.size : Int) = 6 then ((bursarref02_All.f a0_1).bind fun t362 => (bursarref11_Name_p.j1 kj1 t362 a0_0 a0_1)) else (bursarref11_Name_p.j1 kj1 false a0_0 a0_1)) else (bursarref11_Name_p.j1 kj1 false a0_0 a0_1)) = some (r1, r2) := by rw [if_neg (show ¬ (false = true) by decide)] at H; exact H
        clear H
        have H := H1
        clear H1
        have HC13 := Aside0.mk H
        clear H
        go_upto_region 3 with (fail)
        go_cut [34] (fun v34 wc => ∃ (kq : Nat) (x34_12 : Bool), v34 = .bool x34_12 ∧ Aside0 (bursarref11_Name_p.j1 kq x34_12 a0_0 a0_1 = some (r1, r2)) ∧ Aside0 (kq ≤ kj1) ∧ Aside0 (wc.heap[gb360]? = some (.cells #[.int .i64 a0_0, .string a0_1] 73 (0, 0))) ∧ Aside0 (Below w.heap.size w wc))
        case first =>
          have H := HC13.out
          clear HC13
          by_cases c14 : a0_0 = 2
          · rw [if_pos c14] at H
            have c14b0 : (a0_0 == 2) = true := beq_iff_eq.mpr c14
            have c14b1 : (a0_0 != 2) = false := bne_eq_false_iff_eq.mpr c14
            clear c14
            (first | rw [c14b0] | (simp only [i64_w, i32_w]; rw [c14b0]) | skip)
            by_cases c15 : (a0_1.size : Int) = 6
            · rw [if_pos c15] at H
              have c15b0 : ((a0_1.size : Int) == 6) = true := beq_iff_eq.mpr c15
              have c15b1 : ((a0_1.size : Int) != 6) = false := bne_eq_false_iff_eq.mpr c15
              clear c15
              replace H := Option.bind_eq_some_iff.mp H
              obtain ⟨t362, A160, H⟩ := H
              replace H : (bursarref11_Name_p.j1 kj1 t362 a0_0 a0_1) = some (r1, r2) := H
              have A16 := Aside0.mk A160
              clear A160
              have H' := Aside0.mk H
              clear H
              have hcz17_0 := blk_cell BK360.out
              have hfz17_0 := blk_frozen BK360.out
              go_wp2_with (first | (go_at_call 68; (with_reducible refine (bursarref02_All.calls a0_1 t362 _ A16.out).mono ?_); rintro e w' ⟨rfl, ⟨nd, rfl⟩⟩))
              go_meet
              case rel => exact ⟨_, (t362), (by first | rfl | (simp; done) | (simp [*]; done) | (simp [Pu.bne_nil, Pu.beq_nil]; done)), H', ⟨by have := HJ1.out; first | omega | exact Nat.le_refl _⟩, ⟨by (with_reducible repeat (first | refine blk_drewN ?_ _ | refine blk_drew ?_ | refine blk_alloc ?_ _)); exact BK360.out⟩, ⟨by repeat (first | (with_reducible first | exact HB.out | apply below_alloc | apply pw_below_drewN | apply below_drew1 | refine below_set ?_ GE360.out) | exact HB.out)⟩⟩
            · rw [if_neg c15] at H
              have c15b0 : ((a0_1.size : Int) == 6) = false := beq_eq_false_iff_ne.mpr c15
              have c15b1 : ((a0_1.size : Int) != 6) = true := bne_iff_ne.mpr c15
              have H' := Aside0.mk H
              clear H
              have hcz18_0 := blk_cell BK360.out
              have hfz18_0 := blk_frozen BK360.out
              go_wp2
              go_meet
              case rel => exact ⟨_, (false), (by first | rfl | (simp; done) | (simp [*]; done) | (simp [Pu.bne_nil, Pu.beq_nil]; done)), H', ⟨by have := HJ1.out; first | omega | exact Nat.le_refl _⟩, ⟨by (with_reducible repeat (first | refine blk_drewN ?_ _ | refine blk_drew ?_ | refine blk_alloc ?_ _)); exact BK360.out⟩, ⟨by repeat (first | (with_reducible first | exact HB.out | apply below_alloc | apply pw_below_drewN | apply below_drew1 | refine below_set ?_ GE360.out) | exact HB.out)⟩⟩
          · rw [if_neg c14] at H
            have c14b0 : (a0_0 == 2) = false := beq_eq_false_iff_ne.mpr c14
            have c14b1 : (a0_0 != 2) = true := bne_iff_ne.mpr c14
            (first | rw [c14b0] | (simp only [i64_w, i32_w]; rw [c14b0]) | skip)
            have H' := Aside0.mk H
            clear H
            have hcz19_0 := blk_cell BK360.out
            have hfz19_0 := blk_frozen BK360.out
            go_wp2
            go_meet
            case rel => exact ⟨_, (false), (by first | rfl | (simp; done) | (simp [*]; done) | (simp [Pu.bne_nil, Pu.beq_nil]; done)), H', ⟨by have := HJ1.out; first | omega | exact Nat.le_refl _⟩, ⟨by (with_reducible repeat (first | refine blk_drewN ?_ _ | refine blk_drew ?_ | refine blk_alloc ?_ _)); exact BK360.out⟩, ⟨by repeat (first | (with_reducible first | exact HB.out | apply below_alloc | apply pw_below_drewN | apply below_drew1 | refine below_set ?_ GE360.out) | exact HB.out)⟩⟩
        case rest =>
          clear HC13
          try clear c1
          try clear p2
          try clear c4
          try clear c4b0
          try clear c4b1
          try clear c5
          try clear c5b0
          try clear c5b1
          try clear c10
          try clear c11
          try clear c11b0
          try clear c11b1
          try clear c11b2
          try clear c14
          try clear c14b0
          try clear c14b1
          try clear c15
          try clear c15b0
          try clear c15b1
          try clear hcz12_0
          try clear hcz17_0
          try clear hcz18_0
          try clear hcz19_0
          try clear hcz7_0
          try clear hcz8_0
          try clear hcz9_0
          try clear hfz12_0
          try clear hfz17_0
          try clear hfz18_0
          try clear hfz19_0
          try clear hfz7_0
          try clear hfz8_0
          try clear hfz9_0
          try clear p2
          obtain ⟨kq, x34_12, rfl, HA, HJ12, BK360, HB⟩ := hcut
          cases kq with
          | zero => exact absurd HA.out (by simp [bursarref11_Name_p.j1])
          | succ kj12 =>
            have H := HA.out
            clear HA
            simp only [bursarref11_Name_p.j1] at H
            by_cases c20 : x34_12 = true
            · subst c20
              have H1 : (if 1 + a0_1.size ≤ 9223372036854775807 then (some ((⟨#[65]⟩ : ByteArray) ++ a0_1, true)) else (none)) = some (r1, r2) := by rw [if_pos rfl] at H; exact H
              clear H
              have H := H1
              clear H1
              by_cases c21 : 1 + a0_1.size ≤ 9223372036854775807
              · rw [if_pos c21] at H
                have c21b0 := eq_true c21
                have c21b1 : decide (1 + a0_1.size ≤ 9223372036854775807) = true := decide_eq_true c21
                try have c21b2 : (9223372036854775807 < 1 + a0_1.size) = False := eq_false (Nat.not_lt.2 c21)
                simp only [Option.some.injEq, Prod.mk.injEq] at H
                obtain ⟨rfl, rfl⟩ := H
                have hcz22_0 := blk_cell BK360.out
                have hfz22_0 := blk_frozen BK360.out
                go_wp2
                go_ret2
                exact ⟨by first | rfl | (simp [errW_none, errW_some] <;> rfl) | (simp [*, errW_none, errW_some] <;> rfl), by repeat (first | (with_reducible first | exact HB.out | apply below_alloc | apply pw_below_drewN | apply below_drew1 | refine below_set ?_ GE360.out) | exact HB.out)⟩
              · rw [if_neg c21] at H
                exact absurd H (by simp)
            · replace c20 := Bool.eq_false_iff.mpr c20
              subst c20
              have H1 : (if a0_0 = 3 then (bursarref11_Name_p.j2 kj12 (a0_1.toList == ([] : List UInt8)) a0_0 a0_1) else (bursarref11_Name_p.j2 kj12 false a0_0 a0_1)) = some (r1, r2) := by rw [if_neg (show ¬ (false = true) by decide)] at H; exact H
              clear H
              have H := H1
              clear H1
              have HC23 := Aside0.mk H
              clear H
              go_upto_region 5 with (fail)
              go_cut [45] (fun v45 wc => ∃ (kq : Nat) (x45_22 : Bool), v45 = .bool x45_22 ∧ Aside0 (bursarref11_Name_p.j2 kq x45_22 a0_0 a0_1 = some (r1, r2)) ∧ Aside0 (kq ≤ kj12) ∧ Aside0 (wc.heap[gb360]? = some (.cells #[.int .i64 a0_0, .string a0_1] 73 (0, 0))) ∧ Aside0 (Below w.heap.size w wc))
              case first =>
                have H := HC23.out
                clear HC23
                by_cases c24 : a0_0 = 3
                · rw [if_pos c24] at H
                  have c24b0 : (a0_0 == 3) = true := beq_iff_eq.mpr c24
                  have c24b1 : (a0_0 != 3) = false := bne_eq_false_iff_eq.mpr c24
                  clear c24
                  (first | rw [c24b0] | (simp only [i64_w, i32_w]; rw [c24b0]) | skip)
                  have H' := Aside0.mk H
                  clear H
                  have hcz25_0 := blk_cell BK360.out
                  have hfz25_0 := blk_frozen BK360.out
                  go_wp2
                  go_meet
                  case rel => exact ⟨_, ((a0_1.toList == ([] : List UInt8))), (by first | rfl | (simp; done) | (simp [*]; done) | (simp [Pu.bne_nil, Pu.beq_nil]; done)), H', ⟨by have := HJ1.out; have := HJ12.out; first | omega | exact Nat.le_refl _⟩, ⟨by (with_reducible repeat (first | refine blk_drewN ?_ _ | refine blk_drew ?_ | refine blk_alloc ?_ _)); exact BK360.out⟩, ⟨by repeat (first | (with_reducible first | exact HB.out | apply below_alloc | apply pw_below_drewN | apply below_drew1 | refine below_set ?_ GE360.out) | exact HB.out)⟩⟩
                · rw [if_neg c24] at H
                  have c24b0 : (a0_0 == 3) = false := beq_eq_false_iff_ne.mpr c24
                  have c24b1 : (a0_0 != 3) = true := bne_iff_ne.mpr c24
                  (first | rw [c24b0] | (simp only [i64_w, i32_w]; rw [c24b0]) | skip)
                  have H' := Aside0.mk H
                  clear H
                  have hcz26_0 := blk_cell BK360.out
                  have hfz26_0 := blk_frozen BK360.out
                  go_wp2
                  go_meet
                  case rel => exact ⟨_, (false), (by first | rfl | (simp; done) | (simp [*]; done) | (simp [Pu.bne_nil, Pu.beq_nil]; done)), H', ⟨by have := HJ1.out; have := HJ12.out; first | omega | exact Nat.le_refl _⟩, ⟨by (with_reducible repeat (first | refine blk_drewN ?_ _ | refine blk_drew ?_ | refine blk_alloc ?_ _)); exact BK360.out⟩, ⟨by repeat (first | (with_reducible first | exact HB.out | apply below_alloc | apply pw_below_drewN | apply below_drew1 | refine below_set ?_ GE360.out) | exact HB.out)⟩⟩
              case rest =>
                clear HC23
                try clear c1
                try clear c2
                try clear p2
                try clear c4
                try clear c4b0
                try clear c4b1
                try clear c5
                try clear c5b0
                try clear c5b1
                try clear c10
                try clear c11
                try clear c11b0
                try clear c11b1
                try clear c11b2
                try clear c14
                try clear c14b0
                try clear c14b1
                try clear c15
                try clear c15b0
                try clear c15b1
                try clear c20
                try clear c21
                try clear c21b0
                try clear c21b1
                try clear c21b2
                try clear c24
                try clear c24b0
                try clear c24b1
                try clear hcz12_0
                try clear hcz17_0
                try clear hcz18_0
                try clear hcz19_0
                try clear hcz22_0
                try clear hcz25_0
                try clear hcz26_0
                try clear hcz7_0
                try clear hcz8_0
                try clear hcz9_0
                try clear hfz12_0
                try clear hfz17_0
                try clear hfz18_0
                try clear hfz19_0
                try clear hfz22_0
                try clear hfz25_0
                try clear hfz26_0
                try clear hfz7_0
                try clear hfz8_0
                try clear hfz9_0
                try clear p2
                obtain ⟨kq, x45_22, rfl, HA, HJ22, BK360, HB⟩ := hcut
                cases kq with
                | zero => exact absurd HA.out (by simp [bursarref11_Name_p.j2])
                | succ kj22 =>
                  have H := HA.out
                  clear HA
                  simp only [bursarref11_Name_p.j2] at H
                  by_cases c27 : x45_22 = true
                  · subst c27
                    have H1 : (some ((⟨#[72]⟩ : ByteArray), true)) = some (r1, r2) := by rw [if_pos rfl] at H; exact H
                    clear H
                    have H := H1
                    clear H1
                    simp only [Option.some.injEq, Prod.mk.injEq] at H
                    obtain ⟨rfl, rfl⟩ := H
                    go_wp2
                    go_ret2
                    exact ⟨by first | rfl | (simp [errW_none, errW_some] <;> rfl) | (simp [*, errW_none, errW_some] <;> rfl), by repeat (first | (with_reducible first | exact HB.out | apply below_alloc | apply pw_below_drewN | apply below_drew1 | refine below_set ?_ GE360.out) | exact HB.out)⟩
                  · replace c27 := Bool.eq_false_iff.mpr c27
                    subst c27
                    have H1 : (if a0_0 = 4 then (if a0_1.toList = ([] : List UInt8) then (some ((⟨#[68]⟩ : ByteArray), true)) else (some ((⟨#[]⟩ : ByteArray), false))) else (some ((⟨#[]⟩ : ByteArray), false))) = some (r1, r2) := by rw [if_neg (show ¬ (false = true) by decide)] at H; exact H
                    clear H
                    have H := H1
                    clear H1
                    by_cases c28 : a0_0 = 4
                    · rw [if_pos c28] at H
                      have c28b0 : (a0_0 == 4) = true := beq_iff_eq.mpr c28
                      have c28b1 : (a0_0 != 4) = false := bne_eq_false_iff_eq.mpr c28
                      clear c28
                      by_cases c29 : a0_1.toList = ([] : List UInt8)
                      · rw [if_pos c29] at H
                        have c29b0 : (a0_1.toList == ([] : List UInt8)) = true := beq_iff_eq.mpr c29
                        have c29b1 : (a0_1.toList != ([] : List UInt8)) = false := bne_eq_false_iff_eq.mpr c29
                        clear c29
                        simp only [Option.some.injEq, Prod.mk.injEq] at H
                        obtain ⟨rfl, rfl⟩ := H
                        have hcz30_0 := blk_cell BK360.out
                        have hfz30_0 := blk_frozen BK360.out
                        go_wp2
                        go_ret2
                        exact ⟨by first | rfl | (simp [errW_none, errW_some] <;> rfl) | (simp [*, errW_none, errW_some] <;> rfl), by repeat (first | (with_reducible first | exact HB.out | apply below_alloc | apply pw_below_drewN | apply below_drew1 | refine below_set ?_ GE360.out) | exact HB.out)⟩
                      · rw [if_neg c29] at H
                        have c29b0 : (a0_1.toList == ([] : List UInt8)) = false := beq_eq_false_iff_ne.mpr c29
                        have c29b1 : (a0_1.toList != ([] : List UInt8)) = true := bne_iff_ne.mpr c29
                        simp only [Option.some.injEq, Prod.mk.injEq] at H
                        obtain ⟨rfl, rfl⟩ := H
                        have hcz31_0 := blk_cell BK360.out
                        have hfz31_0 := blk_frozen BK360.out
                        go_wp2
                        go_ret2
                        exact ⟨by first | rfl | (simp [errW_none, errW_some] <;> rfl) | (simp [*, errW_none, errW_some] <;> rfl), by repeat (first | (with_reducible first | exact HB.out | apply below_alloc | apply pw_below_drewN | apply below_drew1 | refine below_set ?_ GE360.out) | exact HB.out)⟩
                    · rw [if_neg c28] at H
                      have c28b0 : (a0_0 == 4) = false := beq_eq_false_iff_ne.mpr c28
                      have c28b1 : (a0_0 != 4) = true := bne_iff_ne.mpr c28
                      simp only [Option.some.injEq, Prod.mk.injEq] at H
                      obtain ⟨rfl, rfl⟩ := H
                      have hcz32_0 := blk_cell BK360.out
                      have hfz32_0 := blk_frozen BK360.out
                      go_wp2
                      go_ret2
                      exact ⟨by first | rfl | (simp [errW_none, errW_some] <;> rfl) | (simp [*, errW_none, errW_some] <;> rfl), by repeat (first | (with_reducible first | exact HB.out | apply below_alloc | apply pw_below_drewN | apply below_drew1 | refine below_set ?_ GE360.out) | exact HB.out)⟩

/-! #### bursarref11_Name, refined -/
theorem ref11_Name_e (k : Int) (s : ByteArray) : bursarref11_Name_p.f 3 k s = some (Pu.nameB k s, Pu.mayB k s) := by
  simp only [bursarref11_Name_p.f, bursarref11_Name_p.j0, bursarref11_Name_p.j1, bursarref11_Name_p.j2, bursarref02_Sound.f, bursarref02_All.f, Pu.nameB]
  by_cases h1 : k = 1
  · subst h1
    rw [if_pos rfl, Pu.mayB_1]
    by_cases h : s.size = 16
    · rw [if_pos (by omega), if_pos (by omega), decide_eq_true h, Option.bind_some, Bool.true_and]
      cases Pu.soundB s with
      | true => rw [if_pos rfl, if_pos (by omega), if_pos rfl]; rfl
      | false => rw [if_neg (by simp), if_neg (by decide), if_neg (by simp), if_neg (by decide), if_neg (by simp), if_neg (by decide), if_neg (by simp)]
    · rw [if_neg (by omega), decide_eq_false h, if_neg (by simp), if_neg (by decide), if_neg (by simp), if_neg (by decide), if_neg (by simp), if_neg (by decide), if_neg (by simp)]; rfl
  rw [if_neg h1]
  rw [if_neg (by simp)]
  by_cases h2 : k = 2
  · subst h2
    rw [if_pos rfl, Pu.mayB_2]
    by_cases h : s.size = 6
    · rw [if_pos (by omega), if_pos (by omega), decide_eq_true h, Option.bind_some, Bool.true_and]
      cases Pu.allD s with
      | true => rw [if_pos rfl, if_pos (by omega), if_pos rfl]; rfl
      | false => rw [if_neg (by simp), if_neg (by decide), if_neg (by simp), if_neg (by decide), if_neg (by simp)]
    · rw [if_neg (by omega), decide_eq_false h, if_neg (by simp), if_neg (by decide), if_neg (by simp), if_neg (by decide), if_neg (by simp)]; rfl
  rw [if_neg h2, if_neg (by simp)]
  by_cases h3 : k = 3
  · subst h3
    rw [if_pos rfl, Pu.mayB_3, Pu.toList_empty]
    by_cases h : s.size = 0
    · rw [decide_eq_true h, if_pos rfl, if_pos rfl, Pu.app_nil _ h]; rfl
    · rw [decide_eq_false h, if_neg (by simp), if_neg (by decide), if_neg (by simp)]
  rw [if_neg h3, if_neg (by simp)]
  by_cases h4 : k = 4
  · subst h4
    rw [if_pos rfl, Pu.mayB_4]
    by_cases h : s.size = 0
    · rw [if_pos (Pu.toList_nil.mpr h), decide_eq_true h, if_pos rfl, Pu.app_nil _ h]; rfl
    · rw [if_neg (fun z => h (Pu.toList_nil.mp z)), decide_eq_false h, if_neg (by simp)]
  rw [if_neg h4, Pu.mayB_else s h1 h2 h3 h4, if_neg (by simp)]
def bursarref11_Name.f (a0_0 : Int) (a0_1 : ByteArray) : Option (ByteArray × Bool) := some (Pu.nameB a0_0 a0_1, Pu.mayB a0_0 a0_1)
theorem bursarref11_Name.calls (a0_0 : Int) (a0_1 : ByteArray) (r1 : ByteArray) (r2 : Bool) (w : World) (h : bursarref11_Name.f a0_0 a0_1 = some (r1, r2)) :
    Calls Try.prog 45 #[.agg #[.int .i64 a0_0, .string a0_1]] w fun e w' => e = .returned (.tuple #[.string r1, .bool r2]) ∧ Below w.heap.size w w' :=
  bursarref11_Name_p.calls 3 a0_0 a0_1 r1 r2 w ((ref11_Name_e a0_0 a0_1).trans h)


/-! ### bursarref14_Ref_p: function 46 -/
mutual
def bursarref14_Ref_p.l0 : Nat → ByteArray → Int → Option (Bool)
  | 0, _, _ => none
  | k + 1, x0, x3 => if x3 < 12 then (if 0 ≤ x3 then (if x3 < (x0.size : Int) then (if 48 ≤ (bt x0 x3) then (if ((bt x0 x3) ≤ 57) then (bursarref14_Ref_p.j1 k x0 x3 false) else (if 65 ≤ (bt x0 x3) then (bursarref14_Ref_p.j1 k x0 x3 (!(decide ((bt x0 x3) ≤ 90)))) else (bursarref14_Ref_p.j1 k x0 x3 (!false)))) else (if 65 ≤ (bt x0 x3) then (bursarref14_Ref_p.j1 k x0 x3 (!(decide ((bt x0 x3) ≤ 90)))) else (bursarref14_Ref_p.j1 k x0 x3 (!false)))) else (none)) else (none)) else (some true)
def bursarref14_Ref_p.j1 : Nat → ByteArray → Int → Bool → Option (Bool)
  | 0, _, _, _ => none
  | k + 1, x0, x3, x34 => if x34 = true then (some false) else (bursarref14_Ref_p.l0 k x0 (wrap64 (x3 + 1)))
end
def bursarref14_Ref_p.f (k : Nat) (a0 : ByteArray) : Option (Bool) := if (a0.size : Int) = 12 then (bursarref14_Ref_p.l0 k a0 0) else (some false)
theorem bursarref14_Ref_p.mono_l : ∀ k, (∀ y0 y1, LeO (bursarref14_Ref_p.l0 k y0 y1) (bursarref14_Ref_p.l0 (k + 1) y0 y1)) ∧ (∀ y0 y1 y2, LeO (bursarref14_Ref_p.j1 k y0 y1 y2) (bursarref14_Ref_p.j1 (k + 1) y0 y1 y2))
  | 0 => ⟨fun _ _ r h => by simp [bursarref14_Ref_p.l0] at h, fun _ _ _ r h => by simp [bursarref14_Ref_p.j1] at h⟩
  | k + 1 => by
    obtain ⟨ih0, ih1⟩ := bursarref14_Ref_p.mono_l k
    refine ⟨?_, ?_⟩
    · intro y0 y1
      unfold bursarref14_Ref_p.l0
      repeat' first
      | (with_reducible exact ih0 _ _)
      | (with_reducible exact ih1 _ _ _)
      | (with_reducible exact LeO.refl _)
      | (with_reducible exact LeO.none _)
      | (with_reducible refine LeO.ite ?_ ?_)
      | (with_reducible refine LeO.bind ?_ (fun _ => ?_))
      | exact ih0 _ _
      | exact ih1 _ _ _
      | exact LeO.none _
      | refine LeO.ite ?_ ?_
      | refine LeO.bind ?_ (fun _ => ?_)
    · intro y0 y1 y2
      unfold bursarref14_Ref_p.j1
      repeat' first
      | (with_reducible exact ih0 _ _)
      | (with_reducible exact ih1 _ _ _)
      | (with_reducible exact LeO.refl _)
      | (with_reducible exact LeO.none _)
      | (with_reducible refine LeO.ite ?_ ?_)
      | (with_reducible refine LeO.bind ?_ (fun _ => ?_))
      | exact ih0 _ _
      | exact ih1 _ _ _
      | exact LeO.none _
      | refine LeO.ite ?_ ?_
      | refine LeO.bind ?_ (fun _ => ?_)
theorem bursarref14_Ref_p.mono : ∀ a0 k, LeO (bursarref14_Ref_p.f k a0) (bursarref14_Ref_p.f (k + 1) a0) := by
  intro a0 k
  obtain ⟨ih0, ih1⟩ := bursarref14_Ref_p.mono_l k
  unfold bursarref14_Ref_p.f
  repeat' first
      | (with_reducible exact ih0 _ _)
      | (with_reducible exact ih1 _ _ _)
      | (with_reducible exact LeO.refl _)
      | (with_reducible exact LeO.none _)
      | (with_reducible refine LeO.ite ?_ ?_)
      | (with_reducible refine LeO.bind ?_ (fun _ => ?_))
      | exact ih0 _ _
      | exact ih1 _ _ _
      | exact LeO.none _
      | refine LeO.ite ?_ ?_
      | refine LeO.bind ?_ (fun _ => ?_)
set_option maxHeartbeats 8000000 in
set_option maxRecDepth 100000 in
theorem bursarref14_Ref_p.calls (k : Nat) (a0 : ByteArray) (r : Bool) (w : World) (h : bursarref14_Ref_p.f k a0 = some r) :
    Calls Try.prog 46 #[.string a0] w fun e w' => e = .returned (.bool r) ∧ Drawn0 w w' := by
  have H : (if (a0.size : Int) = 12 then (bursarref14_Ref_p.l0 k a0 0) else (some false)) = some r := h
  clear h
  by_cases c2 : (a0.size : Int) = 12
  · rw [if_pos c2] at H
    have c2b0 : ((a0.size : Int) == 12) = true := beq_iff_eq.mpr c2
    have c2b1 : ((a0.size : Int) != 12) = false := bne_eq_false_iff_eq.mpr c2
    clear c2
    have H' := Aside0.mk H
    clear H
    go_enter Try.func46, Try.ntmps46
    go_wp2
    go_loopg [3] k (fun kq v3 w' => ∃ (x3_1 : Int), v3 = .int .i64 x3_1 ∧ Aside0 (bursarref14_Ref_p.l0 kq a0 x3_1 = some r) ∧ Aside0 (kq ≤ k) ∧ Drawn0 w w')
    case atStart => exact ⟨(0), (by first | rfl | (simp; done) | (simp [*]; done) | (simp [Pu.bne_nil, Pu.beq_nil]; done)), H', ⟨Nat.le_refl _⟩, by repeat (first | exact Drawn0.refl _ | apply Drawn0.step)⟩
    case round =>
      clear H'
      try clear c2
      try clear c2b0
      try clear c2b1
      try clear p2
      obtain ⟨x3_1, rfl, HA, HK1, ⟨m1, rfl⟩⟩ := hrel
      cases gk with
      | zero => exact absurd HA.out (by simp [bursarref14_Ref_p.l0])
      | succ k1 =>
        have H := HA.out
        clear HA
        simp only [bursarref14_Ref_p.l0] at H
        by_cases c3 : x3_1 < 12
        · rw [if_pos c3] at H
          have c3b0 : decide (x3_1 < 12) = true := decide_eq_true c3
          clear c3
          have HC4 := Aside0.mk H
          clear H
          go_upto_region 6 with (fail)
          go_cut [34] (fun v34 wc => ∃ (kq : Nat) (x34_3 : Bool), v34 = .bool x34_3 ∧ Aside0 (bursarref14_Ref_p.j1 kq a0 x3_1 x34_3 = some r) ∧ Aside0 (kq ≤ k1) ∧ Drawn0 w wc)
          case first =>
            have H := HC4.out
            clear HC4
            by_cases c5 : 0 ≤ x3_1
            · rw [if_pos c5] at H
              have c5b0 : decide (0 ≤ x3_1) = true := decide_eq_true c5
              clear c5
              (first | rw [c5b0] | (simp only [i64_w, i32_w]; rw [c5b0]) | skip)
              by_cases c6 : x3_1 < (a0.size : Int)
              · rw [if_pos c6] at H
                have c6b0 : decide (x3_1 < (a0.size : Int)) = true := decide_eq_true c6
                clear c6
                by_cases c8 : 48 ≤ (bt a0 x3_1)
                · rw [if_pos c8] at H
                  have c8b0 : decide (48 ≤ (bt a0 x3_1)) = true := decide_eq_true c8
                  clear c8
                  by_cases c10 : ((bt a0 x3_1) ≤ 57)
                  · rw [if_pos c10] at H
                    have c10b0 : decide ((bt a0 x3_1) ≤ 57) = true := decide_eq_true c10
                    clear c10
                    have H' := Aside0.mk H
                    clear H
                    have p7 : 0 ≤ (x3_1 : Int) := of_decide_eq_true (by first | (with_reducible assumption) | assumption)
                    have q7 : x3_1 < (a0.size : Int) := of_decide_eq_true (by first | (with_reducible assumption) | assumption)
                    have hx7 := bt_at a0 x3_1
                    replace p7 := eq_true p7
                    replace q7 := eq_true q7
                    have p9 : 0 ≤ (x3_1 : Int) := of_decide_eq_true (by first | (with_reducible assumption) | assumption)
                    have q9 : x3_1 < (a0.size : Int) := of_decide_eq_true (by first | (with_reducible assumption) | assumption)
                    have hx9 := bt_at a0 x3_1
                    replace p9 := eq_true p9
                    replace q9 := eq_true q9
                    go_wp2
                    go_meet
                    case rel => exact ⟨_, (false), (by first | rfl | (simp; done) | (simp [*]; done) | (simp [Pu.bne_nil, Pu.beq_nil]; done)), H', ⟨by have := HK1.out; first | omega | exact Nat.le_refl _⟩, by repeat (first | exact Drawn0.refl _ | apply Drawn0.step)⟩
                  · rw [if_neg c10] at H
                    have c10b0 : decide ((bt a0 x3_1) ≤ 57) = false := decide_eq_false c10
                    clear c10
                    by_cases c12 : 65 ≤ (bt a0 x3_1)
                    · rw [if_pos c12] at H
                      have c12b0 : decide (65 ≤ (bt a0 x3_1)) = true := decide_eq_true c12
                      clear c12
                      have H' := Aside0.mk H
                      clear H
                      have p7 : 0 ≤ (x3_1 : Int) := of_decide_eq_true (by first | (with_reducible assumption) | assumption)
                      have q7 : x3_1 < (a0.size : Int) := of_decide_eq_true (by first | (with_reducible assumption) | assumption)
                      have hx7 := bt_at a0 x3_1
                      replace p7 := eq_true p7
                      replace q7 := eq_true q7
                      have p9 : 0 ≤ (x3_1 : Int) := of_decide_eq_true (by first | (with_reducible assumption) | assumption)
                      have q9 : x3_1 < (a0.size : Int) := of_decide_eq_true (by first | (with_reducible assumption) | assumption)
                      have hx9 := bt_at a0 x3_1
                      replace p9 := eq_true p9
                      replace q9 := eq_true q9
                      have p11 : 0 ≤ (x3_1 : Int) := of_decide_eq_true (by first | (with_reducible assumption) | assumption)
                      have q11 : x3_1 < (a0.size : Int) := of_decide_eq_true (by first | (with_reducible assumption) | assumption)
                      have hx11 := bt_at a0 x3_1
                      replace p11 := eq_true p11
                      replace q11 := eq_true q11
                      have p13 : 0 ≤ (x3_1 : Int) := of_decide_eq_true (by first | (with_reducible assumption) | assumption)
                      have q13 : x3_1 < (a0.size : Int) := of_decide_eq_true (by first | (with_reducible assumption) | assumption)
                      have hx13 := bt_at a0 x3_1
                      replace p13 := eq_true p13
                      replace q13 := eq_true q13
                      go_wp2
                      go_meet
                      case rel => exact ⟨_, (!(decide ((bt a0 x3_1) ≤ 90))), (by first | rfl | (simp; done) | (simp [*]; done) | (simp [Pu.bne_nil, Pu.beq_nil]; done)), H', ⟨by have := HK1.out; first | omega | exact Nat.le_refl _⟩, by repeat (first | exact Drawn0.refl _ | apply Drawn0.step)⟩
                    · rw [if_neg c12] at H
                      have c12b0 : decide (65 ≤ (bt a0 x3_1)) = false := decide_eq_false c12
                      clear c12
                      have H' := Aside0.mk H
                      clear H
                      have p7 : 0 ≤ (x3_1 : Int) := of_decide_eq_true (by first | (with_reducible assumption) | assumption)
                      have q7 : x3_1 < (a0.size : Int) := of_decide_eq_true (by first | (with_reducible assumption) | assumption)
                      have hx7 := bt_at a0 x3_1
                      replace p7 := eq_true p7
                      replace q7 := eq_true q7
                      have p9 : 0 ≤ (x3_1 : Int) := of_decide_eq_true (by first | (with_reducible assumption) | assumption)
                      have q9 : x3_1 < (a0.size : Int) := of_decide_eq_true (by first | (with_reducible assumption) | assumption)
                      have hx9 := bt_at a0 x3_1
                      replace p9 := eq_true p9
                      replace q9 := eq_true q9
                      have p11 : 0 ≤ (x3_1 : Int) := of_decide_eq_true (by first | (with_reducible assumption) | assumption)
                      have q11 : x3_1 < (a0.size : Int) := of_decide_eq_true (by first | (with_reducible assumption) | assumption)
                      have hx11 := bt_at a0 x3_1
                      replace p11 := eq_true p11
                      replace q11 := eq_true q11
                      go_wp2
                      go_meet
                      case rel => exact ⟨_, (!false), (by first | rfl | (simp; done) | (simp [*]; done) | (simp [Pu.bne_nil, Pu.beq_nil]; done)), H', ⟨by have := HK1.out; first | omega | exact Nat.le_refl _⟩, by repeat (first | exact Drawn0.refl _ | apply Drawn0.step)⟩
                · rw [if_neg c8] at H
                  have c8b0 : decide (48 ≤ (bt a0 x3_1)) = false := decide_eq_false c8
                  clear c8
                  by_cases c15 : 65 ≤ (bt a0 x3_1)
                  · rw [if_pos c15] at H
                    have c15b0 : decide (65 ≤ (bt a0 x3_1)) = true := decide_eq_true c15
                    clear c15
                    have H' := Aside0.mk H
                    clear H
                    have p7 : 0 ≤ (x3_1 : Int) := of_decide_eq_true (by first | (with_reducible assumption) | assumption)
                    have q7 : x3_1 < (a0.size : Int) := of_decide_eq_true (by first | (with_reducible assumption) | assumption)
                    have hx7 := bt_at a0 x3_1
                    replace p7 := eq_true p7
                    replace q7 := eq_true q7
                    have p14 : 0 ≤ (x3_1 : Int) := of_decide_eq_true (by first | (with_reducible assumption) | assumption)
                    have q14 : x3_1 < (a0.size : Int) := of_decide_eq_true (by first | (with_reducible assumption) | assumption)
                    have hx14 := bt_at a0 x3_1
                    replace p14 := eq_true p14
                    replace q14 := eq_true q14
                    have p16 : 0 ≤ (x3_1 : Int) := of_decide_eq_true (by first | (with_reducible assumption) | assumption)
                    have q16 : x3_1 < (a0.size : Int) := of_decide_eq_true (by first | (with_reducible assumption) | assumption)
                    have hx16 := bt_at a0 x3_1
                    replace p16 := eq_true p16
                    replace q16 := eq_true q16
                    go_wp2
                    go_meet
                    case rel => exact ⟨_, (!(decide ((bt a0 x3_1) ≤ 90))), (by first | rfl | (simp; done) | (simp [*]; done) | (simp [Pu.bne_nil, Pu.beq_nil]; done)), H', ⟨by have := HK1.out; first | omega | exact Nat.le_refl _⟩, by repeat (first | exact Drawn0.refl _ | apply Drawn0.step)⟩
                  · rw [if_neg c15] at H
                    have c15b0 : decide (65 ≤ (bt a0 x3_1)) = false := decide_eq_false c15
                    clear c15
                    have H' := Aside0.mk H
                    clear H
                    have p7 : 0 ≤ (x3_1 : Int) := of_decide_eq_true (by first | (with_reducible assumption) | assumption)
                    have q7 : x3_1 < (a0.size : Int) := of_decide_eq_true (by first | (with_reducible assumption) | assumption)
                    have hx7 := bt_at a0 x3_1
                    replace p7 := eq_true p7
                    replace q7 := eq_true q7
                    have p14 : 0 ≤ (x3_1 : Int) := of_decide_eq_true (by first | (with_reducible assumption) | assumption)
                    have q14 : x3_1 < (a0.size : Int) := of_decide_eq_true (by first | (with_reducible assumption) | assumption)
                    have hx14 := bt_at a0 x3_1
                    replace p14 := eq_true p14
                    replace q14 := eq_true q14
                    go_wp2
                    go_meet
                    case rel => exact ⟨_, (!false), (by first | rfl | (simp; done) | (simp [*]; done) | (simp [Pu.bne_nil, Pu.beq_nil]; done)), H', ⟨by have := HK1.out; first | omega | exact Nat.le_refl _⟩, by repeat (first | exact Drawn0.refl _ | apply Drawn0.step)⟩
              · rw [if_neg c6] at H
                exact absurd H (by simp)
            · rw [if_neg c5] at H
              exact absurd H (by simp)
          case rest =>
            clear HC4
            try clear c1
            try clear p1
            try clear q1
            try clear hx1
            try clear c2
            try clear c2b0
            try clear c2b1
            try clear p2
            try clear c3
            try clear c3b0
            try clear c4
            try clear c5
            try clear c5b0
            try clear c6
            try clear c6b0
            try clear p7
            try clear q7
            try clear hx7
            try clear c8
            try clear c8b0
            try clear p9
            try clear q9
            try clear hx9
            try clear c10
            try clear c10b0
            try clear p11
            try clear q11
            try clear hx11
            try clear c12
            try clear c12b0
            try clear p13
            try clear q13
            try clear hx13
            try clear p14
            try clear q14
            try clear hx14
            try clear c15
            try clear c15b0
            try clear p16
            try clear q16
            try clear hx16
            try clear p11
            try clear p13
            try clear p14
            try clear p16
            try clear p2
            try clear p7
            try clear p9
            try clear q11
            try clear q13
            try clear q14
            try clear q16
            try clear q7
            try clear q9
            obtain ⟨kq, x34_3, rfl, HA, HJ3, ⟨mc3, rfl⟩⟩ := hcut
            cases kq with
            | zero => exact absurd HA.out (by simp [bursarref14_Ref_p.j1])
            | succ kj3 =>
              have H := HA.out
              clear HA
              simp only [bursarref14_Ref_p.j1] at H
              by_cases c17 : x34_3 = true
              · subst c17
                have H1 : (some false) = some r := by rw [if_pos rfl] at H; exact H
                clear H
                have H := H1
                clear H1
                obtain rfl := Option.some.inj H
                go_wp2
                go_ret
                exact ⟨by first | rfl | (simp; done) | (simp [*]; done), by repeat (first | exact Drawn0.refl _ | apply Drawn0.step)⟩
              · replace c17 := Bool.eq_false_iff.mpr c17
                subst c17
                have H1 : (bursarref14_Ref_p.l0 kj3 a0 (wrap64 (x3_1 + 1))) = some r := by rw [if_neg (show ¬ (false = true) by decide)] at H; exact H
                clear H
                have H := H1
                clear H1
                have H' := Aside0.mk H
                clear H
                go_wp2
                go_roundg kj3
                case measure => have := HK1.out; have := HJ3.out; omega
                case rel => exact ⟨(wrap64 (x3_1 + 1)), (by first | rfl | (simp; done) | (simp [*]; done) | (simp [Pu.bne_nil, Pu.beq_nil]; done)), H', ⟨by have := HK1.out; have := HJ3.out; omega⟩, by repeat (first | exact Drawn0.refl _ | apply Drawn0.step)⟩
        · rw [if_neg c3] at H
          have c3b0 : decide (x3_1 < 12) = false := decide_eq_false c3
          clear c3
          obtain rfl := Option.some.inj H
          go_wp2
          go_ret
          exact ⟨by first | rfl | (simp; done) | (simp [*]; done), by repeat (first | exact Drawn0.refl _ | apply Drawn0.step)⟩
  · rw [if_neg c2] at H
    have c2b0 : ((a0.size : Int) == 12) = false := beq_eq_false_iff_ne.mpr c2
    have c2b1 : ((a0.size : Int) != 12) = true := bne_iff_ne.mpr c2
    obtain rfl := Option.some.inj H
    go_enter Try.func46, Try.ntmps46
    go_wp2
    go_ret
    exact ⟨by first | rfl | (simp; done) | (simp [*]; done), by repeat (first | exact Drawn0.refl _ | apply Drawn0.step)⟩

/-! #### bursarref14_Ref, refined -/
theorem ref14_Ref_l (s : ByteArray) (hs : s.size = 12) : ∀ (d i k : Nat), i + d = 12 → 2 * d < k → bursarref14_Ref_p.l0 k s (i : Int) = some (((Pu.bs s).drop i).all Pu.alnum) := by
  intro d
  induction d with
  | zero =>
    intro i k hi hk
    obtain ⟨k, rfl⟩ : ∃ m, k = m + 1 := ⟨k - 1, by omega⟩
    obtain rfl : i = s.size := by omega
    simp only [bursarref14_Ref_p.l0]
    rw [if_neg (by omega), Pu.bs_drop_all, List.all_nil]
  | succ d ih =>
    intro i k hi hk
    obtain ⟨k, rfl⟩ : ∃ m, k = m + 2 := ⟨k - 2, by omega⟩
    have hj : ∀ b : Bool, bursarref14_Ref_p.j1 (k + 1) s i b = if b = true then some false else some (((Pu.bs s).drop (i + 1)).all Pu.alnum) := fun b => by
      simp only [bursarref14_Ref_p.j1]
      cases b with
      | true => rfl
      | false =>
        rw [if_neg (by decide), if_neg (by decide), Pu.wrap_small (by omega) (by omega)]
        exact ih (i + 1) k (by omega) (by omega)
    simp only [bursarref14_Ref_p.l0]
    rw [if_pos (by omega), if_pos (by omega), if_pos (by omega), Pu.bs_drop s i (by omega), List.all_cons]
    simp only [hj]
    have hb := bt_range s i
    unfold Pu.alnum
    by_cases h1 : 48 ≤ bt s i
    · rw [if_pos h1, decide_eq_true h1]
      by_cases h2 : bt s i ≤ 57
      · rw [if_pos h2, if_neg (by decide), decide_eq_true h2]; rfl
      · rw [if_neg h2, decide_eq_false h2]
        by_cases h3 : 65 ≤ bt s i
        · rw [if_pos h3, decide_eq_true h3]
          by_cases h4 : bt s i ≤ 90
          · rw [decide_eq_true h4, if_neg (by decide)]; rfl
          · rw [decide_eq_false h4, if_pos (by decide)]; rfl
        · rw [if_neg h3, decide_eq_false h3, if_pos (by decide)]; rfl
    · rw [if_neg h1, decide_eq_false h1, if_neg (show ¬ 65 ≤ bt s i by omega), decide_eq_false (show ¬ 65 ≤ bt s i by omega), if_pos (by decide)]; rfl
def bursarref14_Ref.f (a0 : ByteArray) : Option Bool := some (Pu.refB a0)
theorem bursarref14_Ref.calls (a0 : ByteArray) (r : Bool) (w : World) (h : bursarref14_Ref.f a0 = some r) :
    Calls Try.prog 46 #[.string a0] w fun e w' => e = .returned (.bool r) ∧ Drawn0 w w' := by
  refine bursarref14_Ref_p.calls 25 a0 r w (Eq.trans ?_ h)
  unfold bursarref14_Ref_p.f bursarref14_Ref.f Pu.refB
  by_cases hs : a0.size = 12
  · rw [if_pos (by omega), decide_eq_true hs, Bool.true_and]
    exact ref14_Ref_l a0 hs 12 0 25 (by omega) (by omega)
  · rw [if_neg (by omega), decide_eq_false hs]; rfl


end Go.Proofs.Ytddlmcaclbkopaa.XCP
