-- Written by wip/xprint.py, a session's program: printed out of the translation, with hand-written functions. Lean checks it.
import Derived.Test.YtmmkiihmdidkpaaXU0
import Derived.Test.YtmmkiihmdidkpaaXU1
import Derived.Test.YtmmkiihmdidkpaaXU2
import Derived.Test.YtmmkiihmdidkpaaXU7
import Derived.Test.YtmmkiihmdidkpaaXU9
import Derived.Test.YtmmkiihmdidkpaaXU14
import Derived.Test.YtmmkiihmdidkpaaXU16
namespace Go.Proofs.Ytmmkiihmdidkpaa.XU
open Go.RowKit Go.Proofs.YtmmkiihmdidkpaaW.PrintWords Go.Proofs.YtmmkiihmdidkpaaW.PrintLast Go.Proofs.YtmmkiihmdidkpaaW.PrintMore
attribute [local go_sem] max2_int min2_int max_two min_two max_three min_three max_four min_four   -- for this text's walks alone
set_option linter.unusedVariables false
set_option linter.unusedSimpArgs false

attribute [local go_sem high] eqA24
/-! ### bursarlaw21_DupLists: function 6 -/
mutual
def bursarlaw21_DupLists.l0 : Nat → List (S24) → List (S24) → Int → Option (Bool)
  | 0, _, _, _ => none
  | k + 1, x0, x3, x4 => if x4 < (x0.length : Int) then (bursarlaw21_DupLists.j1 k x0 x3 x4 (decide (x4 < 30))) else (bursarlaw21_DupLists.j1 k x0 x3 x4 false)
def bursarlaw21_DupLists.j1 : Nat → List (S24) → List (S24) → Int → Bool → Option (Bool)
  | 0, _, _, _, _ => none
  | k + 1, x0, x3, x4, x16 => if x16 = true then (if 0 ≤ x4 then (if x4 < (x0.length : Int) then ((bursarlaw21_one.f ((rd_T24 x0 x4).f0) ((rd_T24 x0 x4).f1) ((rd_T24 x0 x4).f2) ((rd_T24 x0 x4).f3) ((rd_T24 x0 x4).f4)).bind fun bt334 => ((dup_Keep.f k x3 bt334.1 bt334.2.1 bt334.2.2.1 bt334.2.2.2.1 bt334.2.2.2.2).bind fun bt340 => (if bt340.2 = 0 then (if (bt340.1.length : Int) = (wrap64 ((x3.length : Int) + 1)) then (if 0 ≤ (x3.length : Int) then (if (x3.length : Int) < (bt340.1.length : Int) then (if (!(((rd_T24 bt340.1 (x3.length : Int)).f0) == bt334.1) || (!((((rd_T24 bt340.1 (x3.length : Int)).f1).toList) == bt334.2.1.toList) || (!((((rd_T24 bt340.1 (x3.length : Int)).f2).toList) == bt334.2.2.1.toList) || (!((((rd_T24 bt340.1 (x3.length : Int)).f3).toList) == bt334.2.2.2.1.toList) || (!(((rd_T24 bt340.1 (x3.length : Int)).f4) == bt334.2.2.2.2)))))) = true then (none) else ((dup_May.f bt340.1).bind fun t345 => (if t345 = true then (if (x3.length : Int) ≤ (bt340.1.length : Int) then ((bursarref21_Same.f k (bt340.1.take ((x3.length : Int) : Int).toNat) x3).bind fun t350 => (if t350 = true then (bursarlaw21_DupLists.l0 k x0 bt340.1 (wrap64 (x4 + 1))) else (none))) else (none)) else (none)))) else (none)) else (none)) else (none)) else (if (bt340.1.length : Int) = 0 then (bursarlaw21_DupLists.l0 k x0 x3 (wrap64 (x4 + 1))) else (none))))) else (none)) else (none)) else (bursarlaw21_DupLists.l1 k x3 1)
def bursarlaw21_DupLists.l1 : Nat → List (S24) → Int → Option (Bool)
  | 0, _, _ => none
  | k + 1, x3, x8 => if x8 < (x3.length : Int) then (if 0 ≤ (wrap64 (x8 - 1)) then (if (wrap64 (x8 - 1)) < (x3.length : Int) then (if 0 ≤ x8 then (if ((rd_T24 x3 (wrap64 (x8 - 1))).f0) ≥ ((rd_T24 x3 x8).f0) then (none) else (bursarlaw21_DupLists.l1 k x3 (wrap64 (x8 + 1)))) else (none)) else (none)) else (none)) else ((bursarlaw21_awake.f k).bind fun t353 => (some t353))
end
def bursarlaw21_DupLists.f (k : Nat) (l0 : List (S24)) : Option (Bool) := bursarlaw21_DupLists.l0 k l0 ([] : List (S24)) 0
theorem bursarlaw21_DupLists.mono_l : ∀ k, (∀ y0 y1 y2, LeO (bursarlaw21_DupLists.l0 k y0 y1 y2) (bursarlaw21_DupLists.l0 (k + 1) y0 y1 y2)) ∧ (∀ y0 y1 y2 y3, LeO (bursarlaw21_DupLists.j1 k y0 y1 y2 y3) (bursarlaw21_DupLists.j1 (k + 1) y0 y1 y2 y3)) ∧ (∀ y0 y1, LeO (bursarlaw21_DupLists.l1 k y0 y1) (bursarlaw21_DupLists.l1 (k + 1) y0 y1))
  | 0 => ⟨fun _ _ _ r h => by simp [bursarlaw21_DupLists.l0] at h, fun _ _ _ _ r h => by simp [bursarlaw21_DupLists.j1] at h, fun _ _ r h => by simp [bursarlaw21_DupLists.l1] at h⟩
  | k + 1 => by
    obtain ⟨ih0, ih1, ih2⟩ := bursarlaw21_DupLists.mono_l k
    refine ⟨?_, ?_, ?_⟩
    · intro y0 y1 y2
      unfold bursarlaw21_DupLists.l0
      repeat' first
      | (with_reducible exact ih0 _ _ _)
      | (with_reducible exact ih1 _ _ _ _)
      | (with_reducible exact ih2 _ _)
      | (with_reducible exact bursarlaw21_awake.mono _)
      | (with_reducible exact bursarref21_Same.mono _ _ _)
      | (with_reducible exact dup_Keep.mono _ _ _ _ _ _ _)
      | (with_reducible exact LeO.refl _)
      | (with_reducible exact LeO.none _)
      | (with_reducible refine LeO.ite ?_ ?_)
      | (with_reducible refine LeO.bind ?_ (fun _ => ?_))
      | exact ih0 _ _ _
      | exact ih1 _ _ _ _
      | exact ih2 _ _
      | exact bursarlaw21_awake.mono _
      | exact bursarref21_Same.mono _ _ _
      | exact dup_Keep.mono _ _ _ _ _ _ _
      | exact LeO.none _
      | refine LeO.ite ?_ ?_
      | refine LeO.bind ?_ (fun _ => ?_)
    · intro y0 y1 y2 y3
      unfold bursarlaw21_DupLists.j1
      repeat' first
      | (with_reducible exact ih0 _ _ _)
      | (with_reducible exact ih1 _ _ _ _)
      | (with_reducible exact ih2 _ _)
      | (with_reducible exact bursarlaw21_awake.mono _)
      | (with_reducible exact bursarref21_Same.mono _ _ _)
      | (with_reducible exact dup_Keep.mono _ _ _ _ _ _ _)
      | (with_reducible exact LeO.refl _)
      | (with_reducible exact LeO.none _)
      | (with_reducible refine LeO.ite ?_ ?_)
      | (with_reducible refine LeO.bind ?_ (fun _ => ?_))
      | exact ih0 _ _ _
      | exact ih1 _ _ _ _
      | exact ih2 _ _
      | exact bursarlaw21_awake.mono _
      | exact bursarref21_Same.mono _ _ _
      | exact dup_Keep.mono _ _ _ _ _ _ _
      | exact LeO.none _
      | refine LeO.ite ?_ ?_
      | refine LeO.bind ?_ (fun _ => ?_)
    · intro y0 y1
      unfold bursarlaw21_DupLists.l1
      repeat' first
      | (with_reducible exact ih0 _ _ _)
      | (with_reducible exact ih1 _ _ _ _)
      | (with_reducible exact ih2 _ _)
      | (with_reducible exact bursarlaw21_awake.mono _)
      | (with_reducible exact bursarref21_Same.mono _ _ _)
      | (with_reducible exact dup_Keep.mono _ _ _ _ _ _ _)
      | (with_reducible exact LeO.refl _)
      | (with_reducible exact LeO.none _)
      | (with_reducible refine LeO.ite ?_ ?_)
      | (with_reducible refine LeO.bind ?_ (fun _ => ?_))
      | exact ih0 _ _ _
      | exact ih1 _ _ _ _
      | exact ih2 _ _
      | exact bursarlaw21_awake.mono _
      | exact bursarref21_Same.mono _ _ _
      | exact dup_Keep.mono _ _ _ _ _ _ _
      | exact LeO.none _
      | refine LeO.ite ?_ ?_
      | refine LeO.bind ?_ (fun _ => ?_)
theorem bursarlaw21_DupLists.mono : ∀ a0 k, LeO (bursarlaw21_DupLists.f k a0) (bursarlaw21_DupLists.f (k + 1) a0) := by
  intro a0 k
  obtain ⟨ih0, ih1, ih2⟩ := bursarlaw21_DupLists.mono_l k
  unfold bursarlaw21_DupLists.f
  repeat' first
      | (with_reducible exact ih0 _ _ _)
      | (with_reducible exact ih1 _ _ _ _)
      | (with_reducible exact ih2 _ _)
      | (with_reducible exact bursarlaw21_awake.mono _)
      | (with_reducible exact bursarref21_Same.mono _ _ _)
      | (with_reducible exact dup_Keep.mono _ _ _ _ _ _ _)
      | (with_reducible exact LeO.refl _)
      | (with_reducible exact LeO.none _)
      | (with_reducible refine LeO.ite ?_ ?_)
      | (with_reducible refine LeO.bind ?_ (fun _ => ?_))
      | exact ih0 _ _ _
      | exact ih1 _ _ _ _
      | exact ih2 _ _
      | exact bursarlaw21_awake.mono _
      | exact bursarref21_Same.mono _ _ _
      | exact dup_Keep.mono _ _ _ _ _ _ _
      | exact LeO.none _
      | refine LeO.ite ?_ ?_
      | refine LeO.bind ?_ (fun _ => ?_)
def bursarlaw21_DupLists.T10 : Bool × List (List Nat × List Nat) := (true, [([], []), ([0], [0]), ([], []), ([2], [2]), ([3], [3]), ([1, 4], [1, 4]), ([5], [5]), ([6], [6]), ([6], [6]), ([8, 6], [6, 8]), ([7, 9, 6], [6, 7, 9]), ([10, 6], [6, 10]), ([6], [6]), ([11, 12, 6], [6, 11, 12]), ([6, 13], [6, 13]), ([14, 6], [14]), ([15], [15]), ([16, 15, 15], [15, 16]), ([17, 15], [15, 17]), ([15, 18], [15, 18]), ([19, 17], [19]), ([20], [20]), ([20], [20]), ([22, 20], [20, 22]), ([21, 23, 20], [20, 21, 23]), ([20], [20]), ([24, 25, 20, 20], [20, 24, 25]), ([26, 20], [20, 26]), ([20, 27], [20, 27])])
def bursarlaw21_DupLists.B10 : List Nat := [0, 1, 0, 4, 12, 31, 63, 127, 127, 383, 1023, 2047, 127, 8191, 16383, 32767, 65535, 131071, 262143, 524287, 1048575, 2097151, 2097151, 6291455, 16777215, 2097151, 67108863, 134217727, 268435455]
theorem bursarlaw21_DupLists.tab10 : rtab .any (opsOf Try.f6 10) = bursarlaw21_DupLists.T10 := by kernel_rfl
theorem bursarlaw21_DupLists.bits10 : waitsOk bursarlaw21_DupLists.T10.2 bursarlaw21_DupLists.B10 = true := by kernel_rfl
def bursarlaw21_DupLists.T16 : Bool × List (List Nat × List Nat) := (true, [([], []), ([], []), ([1], [1]), ([0, 2], [0, 2]), ([3], [3]), ([4], [4]), ([], []), ([], []), ([6, 7], [6, 7]), ([8], [8]), ([9], [9]), ([5, 10], [5, 10])])
def bursarlaw21_DupLists.B16 : List Nat := [0, 0, 2, 7, 15, 31, 0, 0, 192, 448, 960, 2047]
theorem bursarlaw21_DupLists.tab16 : rtab .any (opsOf Try.f6 16) = bursarlaw21_DupLists.T16 := by kernel_rfl
theorem bursarlaw21_DupLists.bits16 : waitsOk bursarlaw21_DupLists.T16.2 bursarlaw21_DupLists.B16 = true := by kernel_rfl
set_option maxHeartbeats 8000000 in
set_option maxRecDepth 100000 in
theorem bursarlaw21_DupLists.calls (k : Nat) (A0 : Option Addr) (c0 : Nat) (l0 : List (S24)) (r : Bool) (w : World) (hr0 : Kd.C k24 w A0 l0.length l0) (hc0 : l0.length ≤ c0) (h : bursarlaw21_DupLists.f k l0 = some r) :
    Calls Try.prog 6 #[.slice A0 l0.length c0] w fun e w' => e = .returned (.bool r) ∧ Below w.heap.size w w' := by
  have hu24 := Try.underlying24
  have HR0 := Aside0.mk hr0
  have HC0 := Aside0.mk hc0
  clear hr0 hc0
  have HB := Aside0.mk (Below.refl w.heap.size w)
  have H : (bursarlaw21_DupLists.l0 k l0 ([] : List (S24)) 0) = some r := h
  clear h
  have H' := Aside0.mk H
  clear H
  go_enter Try.func6, Try.ntmps6
  go_wp2
  go_loopg [3, 4] k (fun kq v3 v4 w' => ∃ (x3_1 : List (S24)) (x4_1 : Int), v4 = .int .i64 x4_1 ∧ Aside0 (bursarlaw21_DupLists.l0 kq l0 x3_1 x4_1 = some r) ∧ Aside0 (kq ≤ k) ∧ Aside0 (Kd.R k24 24 w' w.heap.size (fun _ => True) v3 x3_1) ∧ Aside0 (Below w.heap.size w w'))
  case atStart => exact ⟨(([] : List (S24))), (0), (by first | rfl | (simp; done) | (simp [*]; done) | (simp [Pu.bne_nil, Pu.beq_nil]; done)), H', ⟨Nat.le_refl _⟩, ⟨by first | exact Kd.R_nil _ _ _ _ _ | exact Kd.N_nil _ _ _ _ _ | exact Kd.V_nil _ _ _ _ _ | exact Kd.Q_nil _ _ _ _ _ | exact Kd.S_nil _ _ _ _ _⟩, ⟨by repeat (first | (with_reducible first | exact HB.out | apply below_alloc | apply pw_below_drewN | apply below_drew1) | exact HB.out)⟩⟩
  case round =>
    clear H'
    obtain ⟨x3_1, x4_1, rfl, HA, HK1, HO_3, HB⟩ := hrel
    cases gk with
    | zero => exact absurd HA.out (by simp [bursarlaw21_DupLists.l0])
    | succ k1 =>
      have H := HA.out
      clear HA
      simp only [bursarlaw21_DupLists.l0] at H
      have HC2 := Aside0.mk H
      clear H
      go_upto_region 3 with (fail)
      go_cut [16] (fun v16 wc => ∃ (kq : Nat) (x16_1 : Bool), v16 = .bool x16_1 ∧ Aside0 (bursarlaw21_DupLists.j1 kq l0 x3_1 x4_1 x16_1 = some r) ∧ Aside0 (kq ≤ k1) ∧ Aside0 (Kd.R k24 24 wc w.heap.size (fun _ => True) u3 x3_1) ∧ Aside0 (Below w.heap.size w wc))
      case first =>
        have H := HC2.out
        clear HC2
        by_cases c3 : x4_1 < (l0.length : Int)
        · rw [if_pos c3] at H
          have c3b0 : decide (x4_1 < (l0.length : Int)) = true := decide_eq_true c3
          clear c3
          (first | rw [c3b0] | (simp only [i64_w, i32_w]; rw [c3b0]) | skip)
          have H' := Aside0.mk H
          clear H
          go_wp2
          go_meet
          case rel => exact ⟨_, (decide (x4_1 < 30)), (by first | rfl | (simp; done) | (simp [*]; done) | (simp [Pu.bne_nil, Pu.beq_nil]; done)), H', ⟨by have := HK1.out; first | omega | exact Nat.le_refl _⟩, ⟨by (with_reducible repeat (first | apply Kd.R_alloc | apply Kd.R_drewN | apply Kd.R_drew)); exact HO_3.out⟩, ⟨by repeat (first | (with_reducible first | exact HB.out | apply below_alloc | apply pw_below_drewN | apply below_drew1) | exact HB.out)⟩⟩
        · rw [if_neg c3] at H
          have c3b0 : decide (x4_1 < (l0.length : Int)) = false := decide_eq_false c3
          clear c3
          (first | rw [c3b0] | (simp only [i64_w, i32_w]; rw [c3b0]) | skip)
          have H' := Aside0.mk H
          clear H
          go_wp2
          go_meet
          case rel => exact ⟨_, (false), (by first | rfl | (simp; done) | (simp [*]; done) | (simp [Pu.bne_nil, Pu.beq_nil]; done)), H', ⟨by have := HK1.out; first | omega | exact Nat.le_refl _⟩, ⟨by (with_reducible repeat (first | apply Kd.R_alloc | apply Kd.R_drewN | apply Kd.R_drew)); exact HO_3.out⟩, ⟨by repeat (first | (with_reducible first | exact HB.out | apply below_alloc | apply pw_below_drewN | apply below_drew1) | exact HB.out)⟩⟩
      case rest =>
        clear HC2
        try clear p2
        try clear c3
        try clear c3b0
        obtain ⟨kq, x16_1, rfl, HA, HJ1, HO_3, HB⟩ := hcut
        cases kq with
        | zero => exact absurd HA.out (by simp [bursarlaw21_DupLists.j1])
        | succ kj1 =>
          have H := HA.out
          clear HA
          simp only [bursarlaw21_DupLists.j1] at H
          by_cases c4 : x16_1 = true
          · subst c4
            have H1 : (if 0 ≤ x4_1 then (if x4_1 < (l0.length : Int) then ((bursarlaw21_one.f ((rd_T24 l0 x4_1).f0) ((rd_T24 l0 x4_1).f1) ((rd_T24 l0 x4_1).f2) ((rd_T24 l0 x4_1).f3) ((rd_T24 l0 x4_1).f4)).bind fun bt334 => ((dup_Keep.f kj1 x3_1 bt334.1 bt334.2.1 bt334.2.2.1 bt334.2.2.2.1 bt334.2.2.2.2).bind fun bt340 => (if bt340.2 = 0 then (if (bt340.1.length : Int) = (wrap64 ((x3_1.length : Int) + 1)) then (if 0 ≤ (x3_1.length : Int) then (if (x3_1.length : Int) < (bt340.1.length : Int) then (if (!(((rd_T24 bt340.1 (x3_1.length : Int)).f0) == bt334.1) || (!((((rd_T24 bt340.1 (x3_1.length : Int)).f1).toList) == bt334.2.1.toList) || (!((((rd_T24 bt340.1 (x3_1.length : Int)).f2).toList) == bt334.2.2.1.toList) || (!((((rd_T24 bt340.1 (x3_1.length : Int)).f3).toList) == bt334.2.2.2.1.toList) || (!(((rd_T24 bt340.1 (x3_1.length : Int)).f4) == bt334.2.2.2.2)))))) = true then (none) else ((dup_May.f bt340.1).bind fun t345 => (if t345 = true then (if (x3_1.length : Int) ≤ (bt340.1.length : Int) then ((bursarref21_Same.f kj1 (bt340.1.take ((x3_1.length : Int) : Int).toNat) x3_1).bind fun t350 => (if t350 = true then (bursarlaw21_DupLists.l0 kj1 l0 bt340.1 (wrap64 (x4_1 + 1))) else (none))) else (none)) else (none)))) else (none)) else (none)) else (none)) else (if (bt340.1.length : Int) = 0 then (bursarlaw21_DupLists.l0 kj1 l0 x3_1 (wrap64 (x4_1 + 1))) else (none))))) else (none)) else (none)) = some r := by rw [if_pos rfl] at H; exact H
            clear H
            have H := H1
            clear H1
            by_cases c5 : 0 ≤ x4_1
            · rw [if_pos c5] at H
              have c5b0 : decide (0 ≤ x4_1) = true := decide_eq_true c5
              clear c5
              by_cases c6 : x4_1 < (l0.length : Int)
              · rw [if_pos c6] at H
                have c6b0 : decide (x4_1 < (l0.length : Int)) = true := decide_eq_true c6
                clear c6
                replace H := Option.bind_eq_some_iff.mp H
                obtain ⟨⟨t334, t335, t336, t337, t338⟩, A70, H⟩ := H
                replace H : ((dup_Keep.f kj1 x3_1 t334 t335 t336 t337 t338).bind fun bt340 => (if bt340.2 = 0 then (if (bt340.1.length : Int) = (wrap64 ((x3_1.length : Int) + 1)) then (if 0 ≤ (x3_1.length : Int) then (if (x3_1.length : Int) < (bt340.1.length : Int) then (if (!(((rd_T24 bt340.1 (x3_1.length : Int)).f0) == t334) || (!((((rd_T24 bt340.1 (x3_1.length : Int)).f1).toList) == t335.toList) || (!((((rd_T24 bt340.1 (x3_1.length : Int)).f2).toList) == t336.toList) || (!((((rd_T24 bt340.1 (x3_1.length : Int)).f3).toList) == t337.toList) || (!(((rd_T24 bt340.1 (x3_1.length : Int)).f4) == t338)))))) = true then (none) else ((dup_May.f bt340.1).bind fun t345 => (if t345 = true then (if (x3_1.length : Int) ≤ (bt340.1.length : Int) then ((bursarref21_Same.f kj1 (bt340.1.take ((x3_1.length : Int) : Int).toNat) x3_1).bind fun t350 => (if t350 = true then (bursarlaw21_DupLists.l0 kj1 l0 bt340.1 (wrap64 (x4_1 + 1))) else (none))) else (none)) else (none)))) else (none)) else (none)) else (none)) else (if (bt340.1.length : Int) = 0 then (bursarlaw21_DupLists.l0 kj1 l0 x3_1 (wrap64 (x4_1 + 1))) else (none)))) = some r := H
                have A7 := Aside0.mk A70
                clear A70
                replace H := Option.bind_eq_some_iff.mp H
                obtain ⟨⟨t340, t343⟩, A80, H⟩ := H
                replace H : (if t343 = 0 then (if (t340.length : Int) = (wrap64 ((x3_1.length : Int) + 1)) then (if 0 ≤ (x3_1.length : Int) then (if (x3_1.length : Int) < (t340.length : Int) then (if (!(((rd_T24 t340 (x3_1.length : Int)).f0) == t334) || (!((((rd_T24 t340 (x3_1.length : Int)).f1).toList) == t335.toList) || (!((((rd_T24 t340 (x3_1.length : Int)).f2).toList) == t336.toList) || (!((((rd_T24 t340 (x3_1.length : Int)).f3).toList) == t337.toList) || (!(((rd_T24 t340 (x3_1.length : Int)).f4) == t338)))))) = true then (none) else ((dup_May.f t340).bind fun t345 => (if t345 = true then (if (x3_1.length : Int) ≤ (t340.length : Int) then ((bursarref21_Same.f kj1 (t340.take ((x3_1.length : Int) : Int).toNat) x3_1).bind fun t350 => (if t350 = true then (bursarlaw21_DupLists.l0 kj1 l0 t340 (wrap64 (x4_1 + 1))) else (none))) else (none)) else (none)))) else (none)) else (none)) else (none)) else (if (t340.length : Int) = 0 then (bursarlaw21_DupLists.l0 kj1 l0 x3_1 (wrap64 (x4_1 + 1))) else (none))) = some r := H
                have A8 := Aside0.mk A80
                clear A80
                by_cases c9 : t343 = 0
                · rw [if_pos c9] at H
                  have c9b0 : (t343 == 0) = true := beq_iff_eq.mpr c9
                  have c9b1 : (t343 != 0) = false := bne_eq_false_iff_eq.mpr c9
                  clear c9
                  by_cases c10 : (t340.length : Int) = (wrap64 ((x3_1.length : Int) + 1))
                  · rw [if_pos c10] at H
                    have c10b0 : ((t340.length : Int) == (wrap64 ((x3_1.length : Int) + 1))) = true := beq_iff_eq.mpr c10
                    have c10b1 : ((t340.length : Int) != (wrap64 ((x3_1.length : Int) + 1))) = false := bne_eq_false_iff_eq.mpr c10
                    clear c10
                    by_cases c11 : 0 ≤ (x3_1.length : Int)
                    · rw [if_pos c11] at H
                      have c11b0 : decide (0 ≤ (x3_1.length : Int)) = true := decide_eq_true c11
                      have c11b1 : decide (0 ≤ x3_1.length) = true := decide_eq_true (by omega)
                      clear c11
                      by_cases c12 : (x3_1.length : Int) < (t340.length : Int)
                      · rw [if_pos c12] at H
                        have c12b0 : decide ((x3_1.length : Int) < (t340.length : Int)) = true := decide_eq_true c12
                        have c12b1 : decide (x3_1.length < t340.length) = true := decide_eq_true (Int.ofNat_lt.mp c12)
                        clear c12
                        by_cases c13 : (!(((rd_T24 t340 (x3_1.length : Int)).f0) == t334) || (!((((rd_T24 t340 (x3_1.length : Int)).f1).toList) == t335.toList) || (!((((rd_T24 t340 (x3_1.length : Int)).f2).toList) == t336.toList) || (!((((rd_T24 t340 (x3_1.length : Int)).f3).toList) == t337.toList) || (!(((rd_T24 t340 (x3_1.length : Int)).f4) == t338)))))) = true
                        · rw [if_pos c13] at H
                          have c13b0 : (!(((rd_T24 t340 (x3_1.length : Int)).f0) == t334) || (!((((rd_T24 t340 (x3_1.length : Int)).f1).toList) == t335.toList) || (!((((rd_T24 t340 (x3_1.length : Int)).f2).toList) == t336.toList) || (!((((rd_T24 t340 (x3_1.length : Int)).f3).toList) == t337.toList) || (!(((rd_T24 t340 (x3_1.length : Int)).f4) == t338)))))) = true := c13
                          (try (have c13b1 : (((((rd_T24 t340 (x3_1.length : Int)).f0) = t334) ∧ (((((rd_T24 t340 (x3_1.length : Int)).f1).toList) = t335.toList) ∧ (((((rd_T24 t340 (x3_1.length : Int)).f2).toList) = t336.toList) ∧ (((((rd_T24 t340 (x3_1.length : Int)).f3).toList) = t337.toList) ∧ ((((rd_T24 t340 (x3_1.length : Int)).f4) = t338)))))) = False) := eq_false (by first | (simpa using c13; done) | (intro h_; have g_ := c13; simp [h_] at g_; done) | (have g_ := c13; simp at g_; exact g_))))
                          (try (have c13b2 : ((¬ (((rd_T24 t340 (x3_1.length : Int)).f0) = t334) ∨ (¬ ((((rd_T24 t340 (x3_1.length : Int)).f1).toList) = t335.toList) ∨ (¬ ((((rd_T24 t340 (x3_1.length : Int)).f2).toList) = t336.toList) ∨ (¬ ((((rd_T24 t340 (x3_1.length : Int)).f3).toList) = t337.toList) ∨ (¬ (((rd_T24 t340 (x3_1.length : Int)).f4) = t338)))))) = True) := eq_true (by first | (simpa using c13; done) | (intro h_; have g_ := c13; simp [h_] at g_; done))))
                          clear c13
                          exact absurd H (by simp)
                        · rw [if_neg c13] at H
                          have c13b0 : (!(((rd_T24 t340 (x3_1.length : Int)).f0) == t334) || (!((((rd_T24 t340 (x3_1.length : Int)).f1).toList) == t335.toList) || (!((((rd_T24 t340 (x3_1.length : Int)).f2).toList) == t336.toList) || (!((((rd_T24 t340 (x3_1.length : Int)).f3).toList) == t337.toList) || (!(((rd_T24 t340 (x3_1.length : Int)).f4) == t338)))))) = false := by simpa using c13
                          (try (have c13b1 : (((((rd_T24 t340 (x3_1.length : Int)).f0) = t334) ∧ (((((rd_T24 t340 (x3_1.length : Int)).f1).toList) = t335.toList) ∧ (((((rd_T24 t340 (x3_1.length : Int)).f2).toList) = t336.toList) ∧ (((((rd_T24 t340 (x3_1.length : Int)).f3).toList) = t337.toList) ∧ ((((rd_T24 t340 (x3_1.length : Int)).f4) = t338)))))) = True) := eq_true (by first | (simpa using c13; done) | (intro h_; have g_ := c13; simp [h_] at g_; done) | (have g_ := c13; simp at g_; exact g_))))
                          (try (have c13b2 : ((((rd_T24 t340 (x3_1.length : Int)).f0) == t334)) = true := (by first | (have g_ := c13; simp at g_; simp [g_]; done) | (have g_ := c13; simp [Pu.beq_nil] at g_ ⊢; simp [g_]; done) | (have g_ := c13; simp [Pu.beq_nil] at g_ ⊢; exact g_))))
                          (try (have c13b3 : (((((rd_T24 t340 (x3_1.length : Int)).f1).toList) == t335.toList)) = true := (by first | (have g_ := c13; simp at g_; simp [g_]; done) | (have g_ := c13; simp [Pu.beq_nil] at g_ ⊢; simp [g_]; done) | (have g_ := c13; simp [Pu.beq_nil] at g_ ⊢; exact g_))))
                          (try (have c13b4 : (((((rd_T24 t340 (x3_1.length : Int)).f2).toList) == t336.toList)) = true := (by first | (have g_ := c13; simp at g_; simp [g_]; done) | (have g_ := c13; simp [Pu.beq_nil] at g_ ⊢; simp [g_]; done) | (have g_ := c13; simp [Pu.beq_nil] at g_ ⊢; exact g_))))
                          (try (have c13b5 : (((((rd_T24 t340 (x3_1.length : Int)).f3).toList) == t337.toList)) = true := (by first | (have g_ := c13; simp at g_; simp [g_]; done) | (have g_ := c13; simp [Pu.beq_nil] at g_ ⊢; simp [g_]; done) | (have g_ := c13; simp [Pu.beq_nil] at g_ ⊢; exact g_))))
                          (try (have c13b6 : (((rd_T24 t340 (x3_1.length : Int)).f4) == t338) = true := (by first | (have g_ := c13; simp at g_; simp [g_]; done) | (have g_ := c13; simp [Pu.beq_nil] at g_ ⊢; simp [g_]; done) | (have g_ := c13; simp [Pu.beq_nil] at g_ ⊢; exact g_))))
                          (try (have c13b7 : ((¬ (((rd_T24 t340 (x3_1.length : Int)).f0) = t334) ∨ (¬ ((((rd_T24 t340 (x3_1.length : Int)).f1).toList) = t335.toList) ∨ (¬ ((((rd_T24 t340 (x3_1.length : Int)).f2).toList) = t336.toList) ∨ (¬ ((((rd_T24 t340 (x3_1.length : Int)).f3).toList) = t337.toList) ∨ (¬ (((rd_T24 t340 (x3_1.length : Int)).f4) = t338)))))) = False) := eq_false (by first | (simpa using c13; done) | (intro h_; have g_ := c13; simp [h_] at g_; done))))
                          clear c13
                          replace H := Option.bind_eq_some_iff.mp H
                          obtain ⟨t345, A140, H⟩ := H
                          replace H : (if t345 = true then (if (x3_1.length : Int) ≤ (t340.length : Int) then ((bursarref21_Same.f kj1 (t340.take ((x3_1.length : Int) : Int).toNat) x3_1).bind fun t350 => (if t350 = true then (bursarlaw21_DupLists.l0 kj1 l0 t340 (wrap64 (x4_1 + 1))) else (none))) else (none)) else (none)) = some r := H
                          have A14 := Aside0.mk A140
                          clear A140
                          by_cases c15 : t345 = true
                          · subst c15
                            have H1 : (if (x3_1.length : Int) ≤ (t340.length : Int) then ((bursarref21_Same.f kj1 (t340.take ((x3_1.length : Int) : Int).toNat) x3_1).bind fun t350 => (if t350 = true then (bursarlaw21_DupLists.l0 kj1 l0 t340 (wrap64 (x4_1 + 1))) else (none))) else (none)) = some r := by rw [if_pos rfl] at H; exact H
                            clear H
                            have H := H1
                            clear H1
                            have c16b0 := eq_true (of_decide_eq_true (by first | (with_reducible assumption) | assumption) : 0 ≤ (x3_1.length : Int))
                            by_cases c17 : (x3_1.length : Int) ≤ (t340.length : Int)
                            · rw [if_pos c17] at H
                              have c17b0 := eq_true c17
                              have c17b1 : decide ((x3_1.length : Int) ≤ (t340.length : Int)) = true := decide_eq_true c17
                              clear c17
                              obtain ⟨y346, hy346⟩ : ∃ y_ : List (S24), y_ = (t340.take ((x3_1.length : Int) : Int).toNat) := ⟨_, rfl⟩
                              replace H : ((bursarref21_Same.f kj1 y346 x3_1).bind fun t350 => (if t350 = true then (bursarlaw21_DupLists.l0 kj1 l0 t340 (wrap64 (x4_1 + 1))) else (none))) = some r := by first | (rw [hy346]; with_reducible exact H) | (have H2_ := (Option.bind_some _ _).symm.trans H; rw [hy346]; with_reducible exact H2_) | (have H2_ := (Option.bind_some _ _).symm.trans H; with_reducible exact H2_) | with_reducible exact H | (rw [hy346]; exact H) | exact H
                              have Ny346 := Aside0.mk hy346
                              clear hy346
                              replace H := Option.bind_eq_some_iff.mp H
                              obtain ⟨t350, A180, H⟩ := H
                              replace H : (if t350 = true then (bursarlaw21_DupLists.l0 kj1 l0 t340 (wrap64 (x4_1 + 1))) else (none)) = some r := H
                              have A18 := Aside0.mk A180
                              clear A180
                              by_cases c19 : t350 = true
                              · subst c19
                                have H1 : (bursarlaw21_DupLists.l0 kj1 l0 t340 (wrap64 (x4_1 + 1))) = some r := by rw [if_pos rfl] at H; exact H
                                clear H
                                have H := H1
                                clear H1
                                have H' := Aside0.mk H
                                clear H
                                have p333 : 0 ≤ (x4_1 : Int) := of_decide_eq_true (by first | (with_reducible assumption) | assumption)
                                have q333 : x4_1 < (l0.length : Int) := of_decide_eq_true (by first | (with_reducible assumption) | assumption)
                                obtain ⟨ad333, e333, hx333_0, hx333_1, hx333_2, hx333_3, hx333_4⟩ := at_T24 HR0.out x4_1 p333 q333
                                cases e333
                                replace hx333_0 := (HB.out.cell (World.block_lt_of_cell? w _ hx333_0)).trans hx333_0
                                replace hx333_1 := (HB.out.cell (World.block_lt_of_cell? w _ hx333_1)).trans hx333_1
                                replace hx333_2 := (HB.out.cell (World.block_lt_of_cell? w _ hx333_2)).trans hx333_2
                                replace hx333_3 := (HB.out.cell (World.block_lt_of_cell? w _ hx333_3)).trans hx333_3
                                replace hx333_4 := (HB.out.cell (World.block_lt_of_cell? w _ hx333_4)).trans hx333_4
                                replace p333 := eq_true p333
                                replace q333 := eq_true q333
                                try go_wp2_with (first | ((with_reducible refine gate_callee (f := 8) rfl ?_); refine goesL_ (some 23) rfl rfl Try.func8 (by kernel_rfl) rfl #[.agg #[.int .i64 ((rd_T24 l0 x4_1).f0), .string ((rd_T24 l0 x4_1).f1), .string ((rd_T24 l0 x4_1).f2), .string ((rd_T24 l0 x4_1).f3), .int .i64 ((rd_T24 l0 x4_1).f4)]] rfl (by (try simp only [List.map_toArray, List.map_cons, List.map_nil]); first | done | rfl | (simp only [List.length_drop, List.length_take]; rfl)) ?_; (with_reducible refine (bursarlaw21_one.calls ((rd_T24 l0 x4_1).f0) ((rd_T24 l0 x4_1).f1) ((rd_T24 l0 x4_1).f2) ((rd_T24 l0 x4_1).f3) ((rd_T24 l0 x4_1).f4) t334 t335 t336 t337 t338 _ A7.out).mono ?_); rintro e w20 ⟨rfl, hb⟩; refine ⟨_, rfl, ?_⟩; have n0_ := Aside0.mk (Kd.R_below (by (with_reducible repeat (first | apply Kd.R_alloc | apply Kd.R_drewN | apply Kd.R_drew)); exact HO_3.out) hb); have n1_ := Aside0.mk (below_step (by repeat (first | (with_reducible first | exact HB.out | apply below_alloc | apply pw_below_drewN | apply below_drew1) | exact HB.out)) hb); clear HO_3; clear HB; have HO_3 := n0_; have HB := n1_; clear n0_ n1_; (try clear hb); (try clear hb2); (try clear hk); (try clear hi)) | ((with_reducible refine gate_dst (N := 5) rfl ?_); (try (refine gate_guard (by rfl) ?_; dsimp only)); refine box_event ?hg (N := 5) ?hd (cs := #[.int .i64 0, .string (⟨#[]⟩ : ByteArray), .string (⟨#[]⟩ : ByteArray), .string (⟨#[]⟩ : ByteArray), .int .i64 0]) (t := 24) ?hr ?_; (case hd => rfl); (case hg => rfl); (case hr => first | (go_simp; done) | (go_simp; rfl)); intro gb339 hg w21 hbox hb; have n0_ := Aside0.mk (Kd.R_below (Kd.R_elderB (by (with_reducible repeat (first | apply Kd.R_alloc | apply Kd.R_drewN | apply Kd.R_drew)); exact HO_3.out) gb339 (Nat.le_of_eq hg.symm)) hb); have n1_ := Aside0.mk (below_step (by repeat (first | (with_reducible first | exact HB.out | apply below_alloc | apply pw_below_drewN | apply below_drew1) | exact HB.out)) hb); have n2_ := Aside0.mk (hbox); have n3_ := Aside0.mk ((by rw [hg]; exact (below_size (by repeat (first | (with_reducible first | exact HB.out | apply below_alloc | apply pw_below_drewN | apply below_drew1) | exact HB.out))) : w.heap.size ≤ gb339)); have n4_ := Aside0.mk ((by rw [hg]; exact (below_size (by repeat (first | (with_reducible first | exact HB.out | apply below_alloc | apply pw_below_drewN | apply below_drew1) | exact HB.out))) : w.heap.size ≤ gb339)); clear HO_3; clear HB; have HO_3 := n0_; have HB := n1_; have BK339 := n2_; have GW339 := n3_; have GE339 := n4_; clear n0_ n1_ n2_ n3_ n4_; clear hb hbox hg; have hcz22_0 := blk_cell BK339.out; have hfz22_0 := blk_frozen BK339.out; obtain ⟨Ao23, co23, eo23⟩ := Kd.R_slice HO_3.out; subst eo23) | ((with_reducible refine gate_callee (f := 10) rfl ?_); refine goesL_ (some 27) rfl rfl Try.func10 (by kernel_rfl) rfl #[.slice Ao23 x3_1.length co23, .agg #[.int .i64 t334, .string t335, .string t336, .string t337, .int .i64 t338]] rfl (by (try simp only [List.map_toArray, List.map_cons, List.map_nil]); first | done | rfl | (simp only [List.length_drop, List.length_take]; rfl)) ?_; (with_reducible refine (dup_Keep.calls kj1 _ _ x3_1 t334 t335 t336 t337 t338 t340 t343 _ ?side1 ?side2 A8.out).mono ?_); (case side1 => refine (Kd.R_reads' (e := 24) (base := w.heap.size) (ok := fun k_ => (True ∧ k_ ≠ gb339)) (n := x3_1.length) (c := co23) ?_).2.2; exact (by (with_reducible repeat (first | apply Kd.R_alloc | apply Kd.R_drewN | apply Kd.R_drew)); exact (Kd.R_mono (Kd.R_far (p := ⟨gb339, 4, none⟩) (Kd.R_far (p := ⟨gb339, 3, none⟩) (Kd.R_far (p := ⟨gb339, 2, none⟩) (Kd.R_far (p := ⟨gb339, 1, none⟩) (Kd.R_far (p := ⟨gb339, 0, none⟩) (Kd.R_mono HO_3.out (fun k_ hk => (⟨hk, hk.2⟩ : _ ∧ k_ ≠ gb339))) (fun _ hk => hk.2) (.int .i64 t334)) (fun _ hk => hk.2) (.string t335)) (fun _ hk => hk.2) (.string t336)) (fun _ hk => hk.2) (.string t337)) (fun _ hk => hk.2) (.int .i64 t338)) (fun _ h_ => h_.1)))); (case side2 => exact (Kd.R_reads' HO_3.out).2.1); rintro e w24 ⟨v341, rfl, ho0, hb⟩; refine ⟨_, rfl, ?_⟩; have n0_ := Aside0.mk (Kd.R_elder' (by (with_reducible repeat (first | apply Kd.R_alloc | apply Kd.R_drewN | apply Kd.R_drew)); exact (Kd.R_mono (Kd.R_far (p := ⟨gb339, 4, none⟩) (Kd.R_far (p := ⟨gb339, 3, none⟩) (Kd.R_far (p := ⟨gb339, 2, none⟩) (Kd.R_far (p := ⟨gb339, 1, none⟩) (Kd.R_far (p := ⟨gb339, 0, none⟩) (Kd.R_mono HO_3.out (fun k_ hk => (⟨hk, hk.2⟩ : _ ∧ k_ ≠ gb339))) (fun _ hk => hk.2) (.int .i64 t334)) (fun _ hk => hk.2) (.string t335)) (fun _ hk => hk.2) (.string t336)) (fun _ hk => hk.2) (.string t337)) (fun _ hk => hk.2) (.int .i64 t338)) (fun _ h_ => h_.1))) (Kd.R_base ho0) hb); have n1_ := Aside0.mk (Kd.R_lower (Kd.R_newB (Kd.R_new' ho0 (Kd.R_lt (by (with_reducible repeat (first | apply Kd.R_alloc | apply Kd.R_drewN | apply Kd.R_drew)); exact (Kd.R_mono (Kd.R_far (p := ⟨gb339, 4, none⟩) (Kd.R_far (p := ⟨gb339, 3, none⟩) (Kd.R_far (p := ⟨gb339, 2, none⟩) (Kd.R_far (p := ⟨gb339, 1, none⟩) (Kd.R_far (p := ⟨gb339, 0, none⟩) (Kd.R_mono HO_3.out (fun k_ hk => (⟨hk, hk.2⟩ : _ ∧ k_ ≠ gb339))) (fun _ hk => hk.2) (.int .i64 t334)) (fun _ hk => hk.2) (.string t335)) (fun _ hk => hk.2) (.string t336)) (fun _ hk => hk.2) (.string t337)) (fun _ hk => hk.2) (.int .i64 t338)) (fun _ h_ => h_.1))))) (g := gb339) (o := .cells #[.int .i64 t334, .string t335, .string t336, .string t337, .int .i64 t338] 24 (0, 0)) (by (with_reducible repeat (first | refine blk_drewN ?_ _ | refine blk_drew ?_ | refine blk_alloc ?_ _)); refine blk_put (cs := #[.int .i64 t334, .string t335, .string t336, .string t337, .int .i64 0]) ?_ 4 _ rfl; (with_reducible repeat (first | refine blk_drewN ?_ _ | refine blk_drew ?_ | refine blk_alloc ?_ _)); refine blk_put (cs := #[.int .i64 t334, .string t335, .string t336, .string (⟨#[]⟩ : ByteArray), .int .i64 0]) ?_ 3 _ rfl; (with_reducible repeat (first | refine blk_drewN ?_ _ | refine blk_drew ?_ | refine blk_alloc ?_ _)); refine blk_put (cs := #[.int .i64 t334, .string t335, .string (⟨#[]⟩ : ByteArray), .string (⟨#[]⟩ : ByteArray), .int .i64 0]) ?_ 2 _ rfl; (with_reducible repeat (first | refine blk_drewN ?_ _ | refine blk_drew ?_ | refine blk_alloc ?_ _)); refine blk_put (cs := #[.int .i64 t334, .string (⟨#[]⟩ : ByteArray), .string (⟨#[]⟩ : ByteArray), .string (⟨#[]⟩ : ByteArray), .int .i64 0]) ?_ 1 _ rfl; (with_reducible repeat (first | refine blk_drewN ?_ _ | refine blk_drew ?_ | refine blk_alloc ?_ _)); refine blk_put (cs := #[.int .i64 0, .string (⟨#[]⟩ : ByteArray), .string (⟨#[]⟩ : ByteArray), .string (⟨#[]⟩ : ByteArray), .int .i64 0]) ?_ 0 _ rfl; (with_reducible repeat (first | refine blk_drewN ?_ _ | refine blk_drew ?_ | refine blk_alloc ?_ _)); exact BK339.out)) (below_size (by repeat (first | (with_reducible first | exact HB.out | apply below_alloc | apply pw_below_drewN | apply below_drew1 | refine below_set ?_ GE339.out) | exact HB.out)))); have n2_ := Aside0.mk (blk_below (g := gb339) (o := .cells #[.int .i64 t334, .string t335, .string t336, .string t337, .int .i64 t338] 24 (0, 0)) (by (with_reducible repeat (first | refine blk_drewN ?_ _ | refine blk_drew ?_ | refine blk_alloc ?_ _)); refine blk_put (cs := #[.int .i64 t334, .string t335, .string t336, .string t337, .int .i64 0]) ?_ 4 _ rfl; (with_reducible repeat (first | refine blk_drewN ?_ _ | refine blk_drew ?_ | refine blk_alloc ?_ _)); refine blk_put (cs := #[.int .i64 t334, .string t335, .string t336, .string (⟨#[]⟩ : ByteArray), .int .i64 0]) ?_ 3 _ rfl; (with_reducible repeat (first | refine blk_drewN ?_ _ | refine blk_drew ?_ | refine blk_alloc ?_ _)); refine blk_put (cs := #[.int .i64 t334, .string t335, .string (⟨#[]⟩ : ByteArray), .string (⟨#[]⟩ : ByteArray), .int .i64 0]) ?_ 2 _ rfl; (with_reducible repeat (first | refine blk_drewN ?_ _ | refine blk_drew ?_ | refine blk_alloc ?_ _)); refine blk_put (cs := #[.int .i64 t334, .string (⟨#[]⟩ : ByteArray), .string (⟨#[]⟩ : ByteArray), .string (⟨#[]⟩ : ByteArray), .int .i64 0]) ?_ 1 _ rfl; (with_reducible repeat (first | refine blk_drewN ?_ _ | refine blk_drew ?_ | refine blk_alloc ?_ _)); refine blk_put (cs := #[.int .i64 0, .string (⟨#[]⟩ : ByteArray), .string (⟨#[]⟩ : ByteArray), .string (⟨#[]⟩ : ByteArray), .int .i64 0]) ?_ 0 _ rfl; (with_reducible repeat (first | refine blk_drewN ?_ _ | refine blk_drew ?_ | refine blk_alloc ?_ _)); exact BK339.out) hb); have n3_ := Aside0.mk (below_step (by repeat (first | (with_reducible first | exact HB.out | apply below_alloc | apply pw_below_drewN | apply below_drew1 | refine below_set ?_ GE339.out) | exact HB.out)) hb); clear HO_3; clear BK339; clear HB; have HO_3 := n0_; have HO342 := n1_; have BK339 := n2_; have HB := n3_; clear n0_ n1_ n2_ n3_; (try clear hb); (try clear hb2); (try clear hk); (try clear hi); (try clear ho0)))
                                have n0_ := Aside0.mk (Kd.R_drew HO_3.out)
                                have n1_ := Aside0.mk (Kd.R_drew HO342.out)
                                have n2_ := Aside0.mk (blk_drew BK339.out)
                                have n3_ := Aside0.mk (below_drew1 HB.out)
                                clear HO_3
                                clear HO342
                                clear BK339
                                clear HB
                                have HO_3 := n0_
                                have HO342 := n1_
                                have BK339 := n2_
                                have HB := n3_
                                clear n0_ n1_ n2_ n3_
                                obtain ⟨Ao26, co26, eo26⟩ := Kd.R_slice HO342.out
                                (first | subst eo26 | (injection eo26 with f1_ f2_ f3_; have f4_ := f1_.symm; have f5_ := f3_.symm; clear f1_ f2_ f3_; subst f4_; subst f5_))
                                have p344 : 0 ≤ ((x3_1.length : Int) : Int) := of_decide_eq_true (by first | (with_reducible assumption) | assumption)
                                have q344 : (x3_1.length : Int) < (t340.length : Int) := of_decide_eq_true (by first | (with_reducible assumption) | assumption)
                                obtain ⟨ad344, e344, hx344_0, hx344_1, hx344_2, hx344_3, hx344_4⟩ := at_T24 (Kd.R_reads' HO342.out).2.2 (x3_1.length : Int) p344 q344
                                cases e344
                                (try simp only [Go.IntWalk.toNatUp] at hx344_0)
                                (try simp only [Go.IntWalk.toNatUp] at hx344_1)
                                (try simp only [Go.IntWalk.toNatUp] at hx344_2)
                                (try simp only [Go.IntWalk.toNatUp] at hx344_3)
                                (try simp only [Go.IntWalk.toNatUp] at hx344_4)
                                replace p344 := eq_true p344
                                replace q344 := eq_true q344
                                refine start_ (n := 29) (S := fun w' => w'.cell? ⟨gb339, 0, none⟩ = some (.int .i64 t334) ∧ w'.cell? ⟨gb339, 1, none⟩ = some (.string t335) ∧ w'.cell? ⟨gb339, 2, none⟩ = some (.string t336) ∧ w'.cell? ⟨gb339, 3, none⟩ = some (.string t337) ∧ w'.cell? ⟨gb339, 4, none⟩ = some (.int .i64 t338) ∧ w'.cell? (ad344.add (((x3_1.length : Int)).toNat * 5)) = some (.int .i64 ((rd_T24 t340 (x3_1.length : Int)).f0)) ∧ w'.cell? ⟨(ad344.add (((x3_1.length : Int)).toNat * 5)).block, (ad344.add (((x3_1.length : Int)).toNat * 5)).off + 1, none⟩ = some (.string ((rd_T24 t340 (x3_1.length : Int)).f1)) ∧ w'.cell? ⟨(ad344.add (((x3_1.length : Int)).toNat * 5)).block, (ad344.add (((x3_1.length : Int)).toNat * 5)).off + 2, none⟩ = some (.string ((rd_T24 t340 (x3_1.length : Int)).f2)) ∧ w'.cell? ⟨(ad344.add (((x3_1.length : Int)).toNat * 5)).block, (ad344.add (((x3_1.length : Int)).toNat * 5)).off + 3, none⟩ = some (.string ((rd_T24 t340 (x3_1.length : Int)).f3)) ∧ w'.cell? ⟨(ad344.add (((x3_1.length : Int)).toNat * 5)).block, (ad344.add (((x3_1.length : Int)).toNat * 5)).off + 4, none⟩ = some (.int .i64 ((rd_T24 t340 (x3_1.length : Int)).f4))) (ds := []) #[false, false, false, false, false, false, false, false, false, false, false, false, false, false, false, false, false, false, false, false, false, false, false, false, false, false, false, false, false] (by kernel_rfl) rfl rfl ⟨(blk_cell BK339.out 0).trans rfl, (blk_cell BK339.out 1).trans rfl, (blk_cell BK339.out 2).trans rfl, (blk_cell BK339.out 3).trans rfl, (blk_cell BK339.out 4).trans rfl, hx344_0, hx344_1, hx344_2, hx344_3, hx344_4⟩ (fun hHeld => ?_); refine with_tabW bursarlaw21_DupLists.tab10 bursarlaw21_DupLists.bits10 (fun HT_ HW_ => ?_)
                                generalize w24.drew = w25 at HO_3 HO342 BK339 HB hx344_0 hx344_1 hx344_2 hx344_3 hx344_4 hHeld ⊢
                                refine pure_ (i := 0) (N := some 35) (v := ?_) (a' := ?_) #[true, false, false, false, false, false, false, false, false, false, false, false, false, false, false, false, false, false, false, false, false, false, false, false, false, false, false, false, false] rfl rfl (any_of HT_.out (by kernel_rfl)) (fun _ _ _ h => h) (Or.inl ⟨by rfl, ?_⟩) ?_ ?_
                                rotate_left
                                · intro w'
                                  go_simp
                                  with_reducible rfl
                                rotate_left
                                · simp only [Act.put, List.setIfInBounds_toArray, List.set_cons_zero, List.set_cons_succ, i64_w, i32_w]
                                  rfl
                                refine pure_ (i := 1) (N := some 36) (v := ?_) (a' := ?_) #[true, true, false, false, false, false, false, false, false, false, false, false, false, false, false, false, false, false, false, false, false, false, false, false, false, false, false, false, false] rfl rfl (any_of HT_.out (by kernel_rfl)) (fun _ _ _ h => h) (Or.inl ⟨by rfl, ?_⟩) ?_ ?_
                                rotate_left
                                · intro w'
                                  go_simp
                                  with_reducible rfl
                                rotate_left
                                · simp only [Act.put, List.setIfInBounds_toArray, List.set_cons_zero, List.set_cons_succ, i64_w, i32_w]
                                  rfl
                                refine pure_ (i := 2) (N := some 37) (v := ?_) (a' := ?_) #[true, true, true, false, false, false, false, false, false, false, false, false, false, false, false, false, false, false, false, false, false, false, false, false, false, false, false, false, false] rfl rfl (any_of HT_.out (by kernel_rfl)) (fun _ _ _ h => h) (Or.inl ⟨by rfl, ?_⟩) ?_ ?_
                                rotate_left
                                · intro w'
                                  go_simp
                                  with_reducible rfl
                                rotate_left
                                · simp only [Act.put, List.setIfInBounds_toArray, List.set_cons_zero, List.set_cons_succ, i64_w, i32_w]
                                  rfl
                                refine pure_ (i := 3) (N := some 38) (v := ?_) (a' := ?_) #[true, true, true, true, false, false, false, false, false, false, false, false, false, false, false, false, false, false, false, false, false, false, false, false, false, false, false, false, false] rfl rfl (any_of HT_.out (by kernel_rfl)) (fun _ _ _ h => h) (Or.inl ⟨by rfl, ?_⟩) ?_ ?_
                                rotate_left
                                · intro w'
                                  go_simp
                                  with_reducible rfl
                                rotate_left
                                · simp only [Act.put, List.setIfInBounds_toArray, List.set_cons_zero, List.set_cons_succ, i64_w, i32_w]
                                  rfl
                                refine pure_ (i := 4) (N := some 39) (v := ?_) (a' := ?_) #[true, true, true, true, true, false, false, false, false, false, false, false, false, false, false, false, false, false, false, false, false, false, false, false, false, false, false, false, false] rfl rfl (any_of HT_.out (by kernel_rfl)) (fun _ _ _ h => h) (Or.inl ⟨by rfl, ?_⟩) ?_ ?_
                                rotate_left
                                · intro w'
                                  go_simp
                                  with_reducible rfl
                                rotate_left
                                · simp only [Act.put, List.setIfInBounds_toArray, List.set_cons_zero, List.set_cons_succ, i64_w, i32_w]
                                  rfl
                                refine pure_ (i := 5) (N := some 40) (v := ?_) (a' := ?_) #[true, true, true, true, true, true, false, false, false, false, false, false, false, false, false, false, false, false, false, false, false, false, false, false, false, false, false, false, false] rfl rfl (any_of HT_.out (by kernel_rfl)) (fun _ _ _ h => h) (Or.inl ⟨by rfl, ?_⟩) ?_ ?_
                                rotate_left
                                · intro w'
                                  go_simp
                                  with_reducible rfl
                                rotate_left
                                · simp only [Act.put, List.setIfInBounds_toArray, List.set_cons_zero, List.set_cons_succ, i64_w, i32_w]
                                  rfl
                                refine pure_ (i := 6) (N := some 41) (v := ?_) (a' := ?_) #[true, true, true, true, true, true, true, false, false, false, false, false, false, false, false, false, false, false, false, false, false, false, false, false, false, false, false, false, false] rfl rfl (any_of HT_.out (by kernel_rfl)) (fun _ _ _ h => h) (Or.inl ⟨by rfl, ?_⟩) ?_ ?_
                                rotate_left
                                · intro w'
                                  go_simp
                                  with_reducible rfl
                                rotate_left
                                · simp only [Act.put, List.setIfInBounds_toArray, List.set_cons_zero, List.set_cons_succ, i64_w, i32_w]
                                  rfl
                                refine pure_ (i := 7) (N := some 42) (v := ?_) (a' := ?_) #[true, true, true, true, true, true, true, true, false, false, false, false, false, false, false, false, false, false, false, false, false, false, false, false, false, false, false, false, false] rfl rfl (any_of HT_.out (by kernel_rfl)) (fun _ _ _ h => h) (Or.inl ⟨by rfl, ?_⟩) ?_ ?_
                                rotate_left
                                · intro w'
                                  go_simp
                                  with_reducible rfl
                                rotate_left
                                · simp only [Act.put, List.setIfInBounds_toArray, List.set_cons_zero, List.set_cons_succ, i64_w, i32_w]
                                  rfl
                                refine pure_ (i := 8) (N := some 43) (v := ?_) (a' := ?_) #[true, true, true, true, true, true, true, true, true, false, false, false, false, false, false, false, false, false, false, false, false, false, false, false, false, false, false, false, false] rfl rfl (any_of HT_.out (by kernel_rfl)) (fun _ _ _ h => h) (Or.inl ⟨by rfl, ?_⟩) ?_ ?_
                                rotate_left
                                · intro w'
                                  go_simp
                                  with_reducible rfl
                                rotate_left
                                · simp only [Act.put, List.setIfInBounds_toArray, List.set_cons_zero, List.set_cons_succ, i64_w, i32_w]
                                  rfl
                                refine pure_ (i := 9) (N := some 44) (v := ?_) (a' := ?_) #[true, true, true, true, true, true, true, true, true, true, false, false, false, false, false, false, false, false, false, false, false, false, false, false, false, false, false, false, false] rfl rfl (any_of HT_.out (by kernel_rfl)) (fun _ _ _ h => h) (Or.inl ⟨by rfl, ?_⟩) ?_ ?_
                                rotate_left
                                · intro w'
                                  go_simp
                                  with_reducible rfl
                                rotate_left
                                · simp only [Act.put, List.setIfInBounds_toArray, List.set_cons_zero, List.set_cons_succ, i64_w, i32_w]
                                  rfl
                                refine pure_ (i := 10) (N := some 45) (v := ?_) (a' := ?_) #[true, true, true, true, true, true, true, true, true, true, true, false, false, false, false, false, false, false, false, false, false, false, false, false, false, false, false, false, false] rfl rfl (any_of HT_.out (by kernel_rfl)) (fun _ _ _ h => h) (Or.inl ⟨by rfl, ?_⟩) ?_ ?_
                                rotate_left
                                · intro w'
                                  go_simp
                                  with_reducible rfl
                                rotate_left
                                · simp only [Act.put, List.setIfInBounds_toArray, List.set_cons_zero, List.set_cons_succ, i64_w, i32_w]
                                  rfl
                                refine take_ (i := 11) (N := some 46) (v := ?_) (a' := ?_) #[true, true, true, true, true, true, true, true, true, true, true, true, false, false, false, false, false, false, false, false, false, false, false, false, false, false, false, false, false] rfl rfl (take_ofW HT_.out HW_.out (by kernel_rfl)) (fun _ _ _ h => h) (Or.inl ⟨by rfl, ?_⟩) hHeld ?_ ?_
                                rotate_left
                                · rintro w' ⟨s0, s1, s2, s3, s4, s5, s6, s7, s8, s9⟩
                                  (try simp only [Int.toNat_natCast] at s0 s1 s2 s3 s4 s5 s6 s7 s8 s9)
                                  go_simp
                                  with_reducible rfl
                                rotate_left
                                · simp only [Act.put, List.setIfInBounds_toArray, List.set_cons_zero, List.set_cons_succ, i64_w, i32_w]
                                  rfl
                                refine take_ (i := 12) (N := some 47) (v := ?_) (a' := ?_) #[true, true, true, true, true, true, true, true, true, true, true, true, true, false, false, false, false, false, false, false, false, false, false, false, false, false, false, false, false] rfl rfl (take_ofW HT_.out HW_.out (by kernel_rfl)) (fun _ _ _ h => h) (Or.inl ⟨by rfl, ?_⟩) hHeld ?_ ?_
                                rotate_left
                                · rintro w' ⟨s0, s1, s2, s3, s4, s5, s6, s7, s8, s9⟩
                                  (try simp only [Int.toNat_natCast] at s0 s1 s2 s3 s4 s5 s6 s7 s8 s9)
                                  go_simp
                                  with_reducible rfl
                                rotate_left
                                · simp only [Act.put, List.setIfInBounds_toArray, List.set_cons_zero, List.set_cons_succ, i64_w, i32_w]
                                  rfl
                                refine pure_ (i := 13) (N := some 48) (v := ?_) (a' := ?_) #[true, true, true, true, true, true, true, true, true, true, true, true, true, true, false, false, false, false, false, false, false, false, false, false, false, false, false, false, false] rfl rfl (any_of HT_.out (by kernel_rfl)) (fun _ _ _ h => h) (Or.inl ⟨by rfl, ?_⟩) ?_ ?_
                                rotate_left
                                · intro w'
                                  go_simp
                                  with_reducible rfl
                                rotate_left
                                · simp only [Act.put, List.setIfInBounds_toArray, List.set_cons_zero, List.set_cons_succ, i64_w, i32_w]
                                  rfl
                                refine pure_ (i := 14) (N := some 49) (v := ?_) (a' := ?_) #[true, true, true, true, true, true, true, true, true, true, true, true, true, true, true, false, false, false, false, false, false, false, false, false, false, false, false, false, false] rfl rfl (any_of HT_.out (by kernel_rfl)) (fun _ _ _ h => h) (Or.inl ⟨by rfl, ?_⟩) ?_ ?_
                                rotate_left
                                · intro w'
                                  go_simp
                                  with_reducible rfl
                                rotate_left
                                · simp only [Act.put, List.setIfInBounds_toArray, List.set_cons_zero, List.set_cons_succ, i64_w, i32_w]
                                  rfl
                                refine pure_ (i := 15) (N := some 50) (v := ?_) (a' := ?_) #[true, true, true, true, true, true, true, true, true, true, true, true, true, true, true, true, false, false, false, false, false, false, false, false, false, false, false, false, false] rfl rfl (any_of HT_.out (by kernel_rfl)) (fun _ _ _ h => h) (Or.inl ⟨by rfl, ?_⟩) ?_ ?_
                                rotate_left
                                · intro w'
                                  go_simp
                                  with_reducible rfl
                                rotate_left
                                · simp only [Act.put, List.setIfInBounds_toArray, List.set_cons_zero, List.set_cons_succ, i64_w, i32_w]
                                  rfl
                                refine pure_ (i := 16) (N := some 51) (v := ?_) (a' := ?_) #[true, true, true, true, true, true, true, true, true, true, true, true, true, true, true, true, true, false, false, false, false, false, false, false, false, false, false, false, false] rfl rfl (any_of HT_.out (by kernel_rfl)) (fun _ _ _ h => h) (Or.inl ⟨by rfl, ?_⟩) ?_ ?_
                                rotate_left
                                · intro w'
                                  go_simp
                                  with_reducible rfl
                                rotate_left
                                · simp only [Act.put, List.setIfInBounds_toArray, List.set_cons_zero, List.set_cons_succ, i64_w, i32_w]
                                  rfl
                                refine one_ (i := 17) (N := some 52) #[true, true, true, true, true, true, true, true, true, true, true, true, true, true, true, true, true, true, false, false, false, false, false, false, false, false, false, false, false] rfl rfl (one_of HT_.out (by kernel_rfl)) (by decide) (fun K hK => ?_)
                                refine goes_ Try.func15 (by kernel_rfl) rfl #[.slice (some ad344) t340.length co26] (by rfl) rfl rfl (by (try simp only [List.map_toArray, List.map_cons, List.map_nil]); first | done | rfl | (simp only [List.length_drop, List.length_take]; rfl)) ?_
                                with_reducible refine (dup_May.calls _ _ t340 true _ ?side1 ?side2 A14.out).mono ?_
                                (case side1 => repeat (first | exact (Kd.R_reads' HO342.out).2.2 | (with_reducible refine Kd.C_alloc ?_ _) | (with_reducible refine Kd.C_drewN ?_ _) | (with_reducible refine Kd.C_drew ?_)))
                                (case side2 => exact (Kd.R_reads' HO342.out).2.1)
                                rintro e w27 ⟨rfl, hb⟩
                                have HS5_ := (hb.cell (World.block_lt_of_cell? _ _ (hHeld.2.2.2.2.2.1))).trans (hHeld.2.2.2.2.2.1)
                                have HS6_ := (hb.cell (World.block_lt_of_cell? _ _ (hHeld.2.2.2.2.2.2.1))).trans (hHeld.2.2.2.2.2.2.1)
                                have HS7_ := (hb.cell (World.block_lt_of_cell? _ _ (hHeld.2.2.2.2.2.2.2.1))).trans (hHeld.2.2.2.2.2.2.2.1)
                                have HS8_ := (hb.cell (World.block_lt_of_cell? _ _ (hHeld.2.2.2.2.2.2.2.2.1))).trans (hHeld.2.2.2.2.2.2.2.2.1)
                                have HS9_ := (hb.cell (World.block_lt_of_cell? _ _ (hHeld.2.2.2.2.2.2.2.2.2))).trans (hHeld.2.2.2.2.2.2.2.2.2)
                                refine ⟨_, rfl, ?_⟩
                                have n0_ := Aside0.mk (Kd.R_below (by (with_reducible repeat (first | apply Kd.R_alloc | apply Kd.R_drewN | apply Kd.R_drew)); exact HO_3.out) hb)
                                have n1_ := Aside0.mk (Kd.R_below (by (with_reducible repeat (first | apply Kd.R_alloc | apply Kd.R_drewN | apply Kd.R_drew)); exact HO342.out) hb)
                                have n2_ := Aside0.mk (blk_below (g := gb339) (o := .cells #[.int .i64 t334, .string t335, .string t336, .string t337, .int .i64 t338] 24 (0, 0)) (by (with_reducible repeat (first | refine blk_drewN ?_ _ | refine blk_drew ?_ | refine blk_alloc ?_ _)); exact BK339.out) hb)
                                have n3_ := Aside0.mk (below_step (by repeat (first | (with_reducible first | exact HB.out | apply below_alloc | apply pw_below_drewN | apply below_drew1 | refine below_set ?_ GE339.out) | exact HB.out)) hb)
                                clear HO_3
                                clear HO342
                                clear BK339
                                clear HB
                                have HO_3 := n0_
                                have HO342 := n1_
                                have BK339 := n2_
                                have HB := n3_
                                clear n0_ n1_ n2_ n3_
                                (try clear hb)
                                (try clear hb2)
                                (try clear hk)
                                (try clear hi)
                                have q28 : ((x3_1.length : Int) : Int) ≤ ((t340.length : Int) : Int) := of_decide_eq_true (by first | (with_reducible assumption) | assumption)
                                obtain ⟨i028, hi028, _, hsz28, _⟩ := info_parts info24
                                have hroom28 : t340.length ≤ co26 := (Kd.R_reads' HO342.out).2.1
                                have hC28 : Kd.C k24 _ (some ad344) t340.length t340 := (Kd.R_reads' HO342.out).2.2
                                have hcut28 := cut_to (P := Try.prog) 22 24 .i64 Try.underlying22 hi028 (some ad344) t340.length co26 (x3_1.length : Int) (of_decide_eq_true (by first | (with_reducible assumption) | assumption)) q28 hroom28
                                have hr28 := Kd.C_take (m := ((x3_1.length : Int) : Int).toNat) hC28 (by omega)
                                have hy28 : y346.length = ((x3_1.length : Int) : Int).toNat := (by rw [Ny346.out, List.length_take]; omega)
                                rw [← Ny346.out] at hr28
                                rw [← hy28] at hcut28
                                have HR349 := Aside0.mk hr28
                                have HC349 := Aside0.mk (show y346.length ≤ co26 from by omega)
                                clear hr28 hC28 hroom28 hi028 hsz28
                                have KY28 := Aside0.mk hy28
                                clear hy28
                                have KL28 := Aside0.mk (show ((x3_1.length : Int) : Int).toNat ≤ t340.length from by omega)
                                replace q28 := eq_true q28
                                refine hK.out _ _ ⟨(blk_cell BK339.out 0).trans rfl, (blk_cell BK339.out 1).trans rfl, (blk_cell BK339.out 2).trans rfl, (blk_cell BK339.out 3).trans rfl, (blk_cell BK339.out 4).trans rfl, HS5_, HS6_, HS7_, HS8_, HS9_⟩ (fun hHeld => ?_)
                                clear hK K
                                refine norm_ (a' := ?_) ?_ ?_
                                rotate_left
                                · show Act.put _ (some 52) _ = _
                                  simp only [Act.put, List.setIfInBounds_toArray, List.set_cons_zero, List.set_cons_succ, i64_w, i32_w]
                                  rfl
                                refine pure_ (i := 18) (N := some 53) (v := ?_) (a' := ?_) #[true, true, true, true, true, true, true, true, true, true, true, true, true, true, true, true, true, true, true, false, false, false, false, false, false, false, false, false, false] rfl rfl (any_of HT_.out (by kernel_rfl)) (fun _ _ _ h => h) (Or.inl ⟨by rfl, ?_⟩) ?_ ?_
                                rotate_left
                                · intro w'
                                  go_simp
                                  with_reducible rfl
                                rotate_left
                                · simp only [Act.put, List.setIfInBounds_toArray, List.set_cons_zero, List.set_cons_succ, i64_w, i32_w]
                                  rfl
                                refine pure_ (i := 19) (N := some 54) (v := ?_) (a' := ?_) #[true, true, true, true, true, true, true, true, true, true, true, true, true, true, true, true, true, true, true, true, false, false, false, false, false, false, false, false, false] rfl rfl (any_of HT_.out (by kernel_rfl)) (fun _ _ _ h => h) (Or.inl ⟨by rfl, ?_⟩) ?_ ?_
                                rotate_left
                                · intro w'
                                  go_simp
                                  with_reducible rfl
                                rotate_left
                                · simp only [Act.put, List.setIfInBounds_toArray, List.set_cons_zero, List.set_cons_succ, i64_w, i32_w]
                                  rfl
                                refine pure_ (i := 20) (N := some 55) (v := ?_) (a' := ?_) #[true, true, true, true, true, true, true, true, true, true, true, true, true, true, true, true, true, true, true, true, true, false, false, false, false, false, false, false, false] rfl rfl (any_of HT_.out (by kernel_rfl)) (fun _ _ _ h => h) (Or.inl ⟨by rfl, ?_⟩) ?_ ?_
                                rotate_left
                                · intro w'
                                  go_simp
                                  with_reducible rfl
                                rotate_left
                                · simp only [Act.put, List.setIfInBounds_toArray, List.set_cons_zero, List.set_cons_succ, i64_w, i32_w]
                                  rfl
                                refine pure_ (i := 21) (N := some 56) (v := ?_) (a' := ?_) #[true, true, true, true, true, true, true, true, true, true, true, true, true, true, true, true, true, true, true, true, true, true, false, false, false, false, false, false, false] rfl rfl (any_of HT_.out (by kernel_rfl)) (fun _ _ _ h => h) (Or.inl ⟨by rfl, ?_⟩) ?_ ?_
                                rotate_left
                                · intro w'
                                  go_simp
                                  with_reducible rfl
                                rotate_left
                                · simp only [Act.put, List.setIfInBounds_toArray, List.set_cons_zero, List.set_cons_succ, i64_w, i32_w]
                                  rfl
                                refine pure_ (i := 22) (N := some 57) (v := ?_) (a' := ?_) #[true, true, true, true, true, true, true, true, true, true, true, true, true, true, true, true, true, true, true, true, true, true, true, false, false, false, false, false, false] rfl rfl (any_of HT_.out (by kernel_rfl)) (fun _ _ _ h => h) (Or.inl ⟨by rfl, ?_⟩) ?_ ?_
                                rotate_left
                                · intro w'
                                  go_simp
                                  with_reducible rfl
                                rotate_left
                                · simp only [Act.put, List.setIfInBounds_toArray, List.set_cons_zero, List.set_cons_succ, i64_w, i32_w]
                                  rfl
                                refine pure_ (i := 23) (N := some 58) (v := ?_) (a' := ?_) #[true, true, true, true, true, true, true, true, true, true, true, true, true, true, true, true, true, true, true, true, true, true, true, true, false, false, false, false, false] rfl rfl (any_of HT_.out (by kernel_rfl)) (fun _ _ _ h => h) (Or.inl ⟨by rfl, ?_⟩) ?_ ?_
                                rotate_left
                                · intro w'
                                  go_simp
                                  with_reducible rfl
                                rotate_left
                                · simp only [Act.put, List.setIfInBounds_toArray, List.set_cons_zero, List.set_cons_succ, i64_w, i32_w]
                                  rfl
                                refine pure_ (i := 24) (N := some 59) (v := ?_) (a' := ?_) #[true, true, true, true, true, true, true, true, true, true, true, true, true, true, true, true, true, true, true, true, true, true, true, true, true, false, false, false, false] rfl rfl (any_of HT_.out (by kernel_rfl)) (fun _ _ _ h => h) (Or.inl ⟨by rfl, ?_⟩) ?_ ?_
                                rotate_left
                                · intro w'
                                  go_simp
                                  with_reducible rfl
                                rotate_left
                                · simp only [Act.put, List.setIfInBounds_toArray, List.set_cons_zero, List.set_cons_succ, i64_w, i32_w]
                                  rfl
                                refine pure_ (i := 25) (N := some 60) (v := ?_) (a' := ?_) #[true, true, true, true, true, true, true, true, true, true, true, true, true, true, true, true, true, true, true, true, true, true, true, true, true, true, false, false, false] rfl rfl (any_of HT_.out (by kernel_rfl)) (fun _ _ _ h => h) (Or.inl ⟨by rfl, ?_⟩) ?_ ?_
                                rotate_left
                                · intro w'
                                  go_simp
                                  with_reducible rfl
                                rotate_left
                                · simp only [Act.put, List.setIfInBounds_toArray, List.set_cons_zero, List.set_cons_succ, i64_w, i32_w]
                                  rfl
                                refine one_ (i := 26) (N := some 61) #[true, true, true, true, true, true, true, true, true, true, true, true, true, true, true, true, true, true, true, true, true, true, true, true, true, true, true, false, false] rfl rfl (one_of HT_.out (by kernel_rfl)) (by decide) (fun K hK => ?_)
                                refine goes_ Try.func14 (by kernel_rfl) rfl #[.slice (some ad344) y346.length co26, .slice Ao23 x3_1.length co23] (by rfl) rfl rfl (by (try simp only [List.map_toArray, List.map_cons, List.map_nil]); first | done | rfl | (simp only [List.length_drop, List.length_take]; rfl)) ?_
                                with_reducible refine (bursarref21_Same.calls kj1 _ _ y346 _ _ x3_1 true _ ?side1 ?side2 ?side3 ?side4 A18.out).mono ?_
                                (case side1 => repeat (first | exact (by repeat (first | (with_reducible exact HR349.out) | (with_reducible refine Kd.C_alloc ?_ _) | (with_reducible refine Kd.C_drewN ?_ _) | (with_reducible refine Kd.C_drew ?_) | exact HR349.out)) | (with_reducible refine Kd.C_alloc ?_ _) | (with_reducible refine Kd.C_drewN ?_ _) | (with_reducible refine Kd.C_drew ?_)))
                                (case side2 => exact HC349.out)
                                (case side3 => repeat (first | exact (Kd.R_reads' HO_3.out).2.2 | (with_reducible refine Kd.C_alloc ?_ _) | (with_reducible refine Kd.C_drewN ?_ _) | (with_reducible refine Kd.C_drew ?_)))
                                (case side4 => exact (Kd.R_reads' HO_3.out).2.1)
                                rintro e w' ⟨rfl, ⟨nd, rfl⟩⟩
                                refine ⟨_, rfl, ?_⟩
                                refine hK.out _ _ ⟨(blk_cell BK339.out 0).trans rfl, (blk_cell BK339.out 1).trans rfl, (blk_cell BK339.out 2).trans rfl, (blk_cell BK339.out 3).trans rfl, (blk_cell BK339.out 4).trans rfl, hHeld.2.2.2.2.2.1, hHeld.2.2.2.2.2.2.1, hHeld.2.2.2.2.2.2.2.1, hHeld.2.2.2.2.2.2.2.2.1, hHeld.2.2.2.2.2.2.2.2.2⟩ (fun hHeld => ?_)
                                clear hK K
                                refine norm_ (a' := ?_) ?_ ?_
                                rotate_left
                                · show Act.put _ (some 61) _ = _
                                  simp only [Act.put, List.setIfInBounds_toArray, List.set_cons_zero, List.set_cons_succ, i64_w, i32_w]
                                  rfl
                                refine pure_ (i := 27) (N := some 62) (v := ?_) (a' := ?_) #[true, true, true, true, true, true, true, true, true, true, true, true, true, true, true, true, true, true, true, true, true, true, true, true, true, true, true, true, false] rfl rfl (any_of HT_.out (by kernel_rfl)) (fun _ _ _ h => h) (Or.inl ⟨by rfl, ?_⟩) ?_ ?_
                                rotate_left
                                · intro w'
                                  go_simp
                                  with_reducible rfl
                                rotate_left
                                · simp only [Act.put, List.setIfInBounds_toArray, List.set_cons_zero, List.set_cons_succ, i64_w, i32_w]
                                  rfl
                                refine pure_ (i := 28) (N := some 63) (v := ?_) (a' := ?_) #[true, true, true, true, true, true, true, true, true, true, true, true, true, true, true, true, true, true, true, true, true, true, true, true, true, true, true, true, true] rfl rfl (any_of HT_.out (by kernel_rfl)) (fun _ _ _ h => h) (Or.inl ⟨by rfl, ?_⟩) ?_ ?_
                                rotate_left
                                · intro w'
                                  go_simp
                                  with_reducible rfl
                                rotate_left
                                · simp only [Act.put, List.setIfInBounds_toArray, List.set_cons_zero, List.set_cons_succ, i64_w, i32_w]
                                  rfl
                                refine done_ (done_of HT_.out (by kernel_rfl)) ?_
                                try go_wp2
                                go_roundg kj1
                                case measure => have := HK1.out; have := HJ1.out; omega
                                case rel => exact ⟨(t340), (wrap64 (x4_1 + 1)), (by first | rfl | (simp; done) | (simp [*]; done) | (simp [Pu.bne_nil, Pu.beq_nil]; done)), H', ⟨by have := HK1.out; have := HJ1.out; omega⟩, ⟨by (with_reducible repeat (first | apply Kd.R_alloc | apply Kd.R_drewN | apply Kd.R_drew)); exact Kd.R_mono HO342.out (fun _ hk => trivial)⟩, ⟨by repeat (first | (with_reducible first | exact HB.out | apply below_alloc | apply pw_below_drewN | apply below_drew1 | refine below_set ?_ GE339.out) | exact HB.out)⟩⟩
                              · replace c19 := Bool.eq_false_iff.mpr c19
                                subst c19
                                have H1 : (none) = some r := by rw [if_neg (show ¬ (false = true) by decide)] at H; exact H
                                clear H
                                have H := H1
                                clear H1
                                exact absurd H (by simp)
                            · rw [if_neg c17] at H
                              exact absurd H (by simp)
                          · replace c15 := Bool.eq_false_iff.mpr c15
                            subst c15
                            have H1 : (none) = some r := by rw [if_neg (show ¬ (false = true) by decide)] at H; exact H
                            clear H
                            have H := H1
                            clear H1
                            exact absurd H (by simp)
                      · rw [if_neg c12] at H
                        exact absurd H (by simp)
                    · rw [if_neg c11] at H
                      exact absurd H (by simp)
                  · rw [if_neg c10] at H
                    have c10b0 : ((t340.length : Int) == (wrap64 ((x3_1.length : Int) + 1))) = false := beq_eq_false_iff_ne.mpr c10
                    have c10b1 : ((t340.length : Int) != (wrap64 ((x3_1.length : Int) + 1))) = true := bne_iff_ne.mpr c10
                    exact absurd H (by simp)
                · rw [if_neg c9] at H
                  have c9b0 : (t343 == 0) = false := beq_eq_false_iff_ne.mpr c9
                  have c9b1 : (t343 != 0) = true := bne_iff_ne.mpr c9
                  by_cases c29 : (t340.length : Int) = 0
                  · rw [if_pos c29] at H
                    have c29b0 : ((t340.length : Int) == 0) = true := beq_iff_eq.mpr c29
                    have c29b1 : ((t340.length : Int) != 0) = false := bne_eq_false_iff_eq.mpr c29
                    clear c29
                    have H' := Aside0.mk H
                    clear H
                    have p333 : 0 ≤ (x4_1 : Int) := of_decide_eq_true (by first | (with_reducible assumption) | assumption)
                    have q333 : x4_1 < (l0.length : Int) := of_decide_eq_true (by first | (with_reducible assumption) | assumption)
                    obtain ⟨ad333, e333, hx333_0, hx333_1, hx333_2, hx333_3, hx333_4⟩ := at_T24 HR0.out x4_1 p333 q333
                    cases e333
                    replace hx333_0 := (HB.out.cell (World.block_lt_of_cell? w _ hx333_0)).trans hx333_0
                    replace hx333_1 := (HB.out.cell (World.block_lt_of_cell? w _ hx333_1)).trans hx333_1
                    replace hx333_2 := (HB.out.cell (World.block_lt_of_cell? w _ hx333_2)).trans hx333_2
                    replace hx333_3 := (HB.out.cell (World.block_lt_of_cell? w _ hx333_3)).trans hx333_3
                    replace hx333_4 := (HB.out.cell (World.block_lt_of_cell? w _ hx333_4)).trans hx333_4
                    replace p333 := eq_true p333
                    replace q333 := eq_true q333
                    go_wp2_with (first | ((with_reducible refine gate_callee (f := 8) rfl ?_); refine goesL_ (some 23) rfl rfl Try.func8 (by kernel_rfl) rfl #[.agg #[.int .i64 ((rd_T24 l0 x4_1).f0), .string ((rd_T24 l0 x4_1).f1), .string ((rd_T24 l0 x4_1).f2), .string ((rd_T24 l0 x4_1).f3), .int .i64 ((rd_T24 l0 x4_1).f4)]] rfl (by (try simp only [List.map_toArray, List.map_cons, List.map_nil]); first | done | rfl | (simp only [List.length_drop, List.length_take]; rfl)) ?_; (with_reducible refine (bursarlaw21_one.calls ((rd_T24 l0 x4_1).f0) ((rd_T24 l0 x4_1).f1) ((rd_T24 l0 x4_1).f2) ((rd_T24 l0 x4_1).f3) ((rd_T24 l0 x4_1).f4) t334 t335 t336 t337 t338 _ A7.out).mono ?_); rintro e w30 ⟨rfl, hb⟩; refine ⟨_, rfl, ?_⟩; have n0_ := Aside0.mk (Kd.R_below (by (with_reducible repeat (first | apply Kd.R_alloc | apply Kd.R_drewN | apply Kd.R_drew)); exact HO_3.out) hb); have n1_ := Aside0.mk (below_step (by repeat (first | (with_reducible first | exact HB.out | apply below_alloc | apply pw_below_drewN | apply below_drew1) | exact HB.out)) hb); clear HO_3; clear HB; have HO_3 := n0_; have HB := n1_; clear n0_ n1_; (try clear hb); (try clear hb2); (try clear hk); (try clear hi)) | ((with_reducible refine gate_dst (N := 5) rfl ?_); (try (refine gate_guard (by rfl) ?_; dsimp only)); refine box_event ?hg (N := 5) ?hd (cs := #[.int .i64 0, .string (⟨#[]⟩ : ByteArray), .string (⟨#[]⟩ : ByteArray), .string (⟨#[]⟩ : ByteArray), .int .i64 0]) (t := 24) ?hr ?_; (case hd => rfl); (case hg => rfl); (case hr => first | (go_simp; done) | (go_simp; rfl)); intro gb339 hg w31 hbox hb; have n0_ := Aside0.mk (Kd.R_below (Kd.R_elderB (by (with_reducible repeat (first | apply Kd.R_alloc | apply Kd.R_drewN | apply Kd.R_drew)); exact HO_3.out) gb339 (Nat.le_of_eq hg.symm)) hb); have n1_ := Aside0.mk (below_step (by repeat (first | (with_reducible first | exact HB.out | apply below_alloc | apply pw_below_drewN | apply below_drew1) | exact HB.out)) hb); have n2_ := Aside0.mk (hbox); have n3_ := Aside0.mk ((by rw [hg]; exact (below_size (by repeat (first | (with_reducible first | exact HB.out | apply below_alloc | apply pw_below_drewN | apply below_drew1) | exact HB.out))) : w.heap.size ≤ gb339)); have n4_ := Aside0.mk ((by rw [hg]; exact (below_size (by repeat (first | (with_reducible first | exact HB.out | apply below_alloc | apply pw_below_drewN | apply below_drew1) | exact HB.out))) : w.heap.size ≤ gb339)); clear HO_3; clear HB; have HO_3 := n0_; have HB := n1_; have BK339 := n2_; have GW339 := n3_; have GE339 := n4_; clear n0_ n1_ n2_ n3_ n4_; clear hb hbox hg; have hcz32_0 := blk_cell BK339.out; have hfz32_0 := blk_frozen BK339.out; obtain ⟨Ao33, co33, eo33⟩ := Kd.R_slice HO_3.out; subst eo33) | ((with_reducible refine gate_callee (f := 10) rfl ?_); refine goesL_ (some 27) rfl rfl Try.func10 (by kernel_rfl) rfl #[.slice Ao33 x3_1.length co33, .agg #[.int .i64 t334, .string t335, .string t336, .string t337, .int .i64 t338]] rfl (by (try simp only [List.map_toArray, List.map_cons, List.map_nil]); first | done | rfl | (simp only [List.length_drop, List.length_take]; rfl)) ?_; (with_reducible refine (dup_Keep.calls kj1 _ _ x3_1 t334 t335 t336 t337 t338 t340 t343 _ ?side1 ?side2 A8.out).mono ?_); (case side1 => refine (Kd.R_reads' (e := 24) (base := w.heap.size) (ok := fun k_ => (True ∧ k_ ≠ gb339)) (n := x3_1.length) (c := co33) ?_).2.2; exact (by (with_reducible repeat (first | apply Kd.R_alloc | apply Kd.R_drewN | apply Kd.R_drew)); exact (Kd.R_mono (Kd.R_far (p := ⟨gb339, 4, none⟩) (Kd.R_far (p := ⟨gb339, 3, none⟩) (Kd.R_far (p := ⟨gb339, 2, none⟩) (Kd.R_far (p := ⟨gb339, 1, none⟩) (Kd.R_far (p := ⟨gb339, 0, none⟩) (Kd.R_mono HO_3.out (fun k_ hk => (⟨hk, hk.2⟩ : _ ∧ k_ ≠ gb339))) (fun _ hk => hk.2) (.int .i64 t334)) (fun _ hk => hk.2) (.string t335)) (fun _ hk => hk.2) (.string t336)) (fun _ hk => hk.2) (.string t337)) (fun _ hk => hk.2) (.int .i64 t338)) (fun _ h_ => h_.1)))); (case side2 => exact (Kd.R_reads' HO_3.out).2.1); rintro e w34 ⟨v341, rfl, ho0, hb⟩; refine ⟨_, rfl, ?_⟩; have n0_ := Aside0.mk (Kd.R_elder' (by (with_reducible repeat (first | apply Kd.R_alloc | apply Kd.R_drewN | apply Kd.R_drew)); exact (Kd.R_mono (Kd.R_far (p := ⟨gb339, 4, none⟩) (Kd.R_far (p := ⟨gb339, 3, none⟩) (Kd.R_far (p := ⟨gb339, 2, none⟩) (Kd.R_far (p := ⟨gb339, 1, none⟩) (Kd.R_far (p := ⟨gb339, 0, none⟩) (Kd.R_mono HO_3.out (fun k_ hk => (⟨hk, hk.2⟩ : _ ∧ k_ ≠ gb339))) (fun _ hk => hk.2) (.int .i64 t334)) (fun _ hk => hk.2) (.string t335)) (fun _ hk => hk.2) (.string t336)) (fun _ hk => hk.2) (.string t337)) (fun _ hk => hk.2) (.int .i64 t338)) (fun _ h_ => h_.1))) (Kd.R_base ho0) hb); have n1_ := Aside0.mk (Kd.R_lower (Kd.R_newB (Kd.R_new' ho0 (Kd.R_lt (by (with_reducible repeat (first | apply Kd.R_alloc | apply Kd.R_drewN | apply Kd.R_drew)); exact (Kd.R_mono (Kd.R_far (p := ⟨gb339, 4, none⟩) (Kd.R_far (p := ⟨gb339, 3, none⟩) (Kd.R_far (p := ⟨gb339, 2, none⟩) (Kd.R_far (p := ⟨gb339, 1, none⟩) (Kd.R_far (p := ⟨gb339, 0, none⟩) (Kd.R_mono HO_3.out (fun k_ hk => (⟨hk, hk.2⟩ : _ ∧ k_ ≠ gb339))) (fun _ hk => hk.2) (.int .i64 t334)) (fun _ hk => hk.2) (.string t335)) (fun _ hk => hk.2) (.string t336)) (fun _ hk => hk.2) (.string t337)) (fun _ hk => hk.2) (.int .i64 t338)) (fun _ h_ => h_.1))))) (g := gb339) (o := .cells #[.int .i64 t334, .string t335, .string t336, .string t337, .int .i64 t338] 24 (0, 0)) (by (with_reducible repeat (first | refine blk_drewN ?_ _ | refine blk_drew ?_ | refine blk_alloc ?_ _)); refine blk_put (cs := #[.int .i64 t334, .string t335, .string t336, .string t337, .int .i64 0]) ?_ 4 _ rfl; (with_reducible repeat (first | refine blk_drewN ?_ _ | refine blk_drew ?_ | refine blk_alloc ?_ _)); refine blk_put (cs := #[.int .i64 t334, .string t335, .string t336, .string (⟨#[]⟩ : ByteArray), .int .i64 0]) ?_ 3 _ rfl; (with_reducible repeat (first | refine blk_drewN ?_ _ | refine blk_drew ?_ | refine blk_alloc ?_ _)); refine blk_put (cs := #[.int .i64 t334, .string t335, .string (⟨#[]⟩ : ByteArray), .string (⟨#[]⟩ : ByteArray), .int .i64 0]) ?_ 2 _ rfl; (with_reducible repeat (first | refine blk_drewN ?_ _ | refine blk_drew ?_ | refine blk_alloc ?_ _)); refine blk_put (cs := #[.int .i64 t334, .string (⟨#[]⟩ : ByteArray), .string (⟨#[]⟩ : ByteArray), .string (⟨#[]⟩ : ByteArray), .int .i64 0]) ?_ 1 _ rfl; (with_reducible repeat (first | refine blk_drewN ?_ _ | refine blk_drew ?_ | refine blk_alloc ?_ _)); refine blk_put (cs := #[.int .i64 0, .string (⟨#[]⟩ : ByteArray), .string (⟨#[]⟩ : ByteArray), .string (⟨#[]⟩ : ByteArray), .int .i64 0]) ?_ 0 _ rfl; (with_reducible repeat (first | refine blk_drewN ?_ _ | refine blk_drew ?_ | refine blk_alloc ?_ _)); exact BK339.out)) (below_size (by repeat (first | (with_reducible first | exact HB.out | apply below_alloc | apply pw_below_drewN | apply below_drew1 | refine below_set ?_ GE339.out) | exact HB.out)))); have n2_ := Aside0.mk (blk_below (g := gb339) (o := .cells #[.int .i64 t334, .string t335, .string t336, .string t337, .int .i64 t338] 24 (0, 0)) (by (with_reducible repeat (first | refine blk_drewN ?_ _ | refine blk_drew ?_ | refine blk_alloc ?_ _)); refine blk_put (cs := #[.int .i64 t334, .string t335, .string t336, .string t337, .int .i64 0]) ?_ 4 _ rfl; (with_reducible repeat (first | refine blk_drewN ?_ _ | refine blk_drew ?_ | refine blk_alloc ?_ _)); refine blk_put (cs := #[.int .i64 t334, .string t335, .string t336, .string (⟨#[]⟩ : ByteArray), .int .i64 0]) ?_ 3 _ rfl; (with_reducible repeat (first | refine blk_drewN ?_ _ | refine blk_drew ?_ | refine blk_alloc ?_ _)); refine blk_put (cs := #[.int .i64 t334, .string t335, .string (⟨#[]⟩ : ByteArray), .string (⟨#[]⟩ : ByteArray), .int .i64 0]) ?_ 2 _ rfl; (with_reducible repeat (first | refine blk_drewN ?_ _ | refine blk_drew ?_ | refine blk_alloc ?_ _)); refine blk_put (cs := #[.int .i64 t334, .string (⟨#[]⟩ : ByteArray), .string (⟨#[]⟩ : ByteArray), .string (⟨#[]⟩ : ByteArray), .int .i64 0]) ?_ 1 _ rfl; (with_reducible repeat (first | refine blk_drewN ?_ _ | refine blk_drew ?_ | refine blk_alloc ?_ _)); refine blk_put (cs := #[.int .i64 0, .string (⟨#[]⟩ : ByteArray), .string (⟨#[]⟩ : ByteArray), .string (⟨#[]⟩ : ByteArray), .int .i64 0]) ?_ 0 _ rfl; (with_reducible repeat (first | refine blk_drewN ?_ _ | refine blk_drew ?_ | refine blk_alloc ?_ _)); exact BK339.out) hb); have n3_ := Aside0.mk (below_step (by repeat (first | (with_reducible first | exact HB.out | apply below_alloc | apply pw_below_drewN | apply below_drew1 | refine below_set ?_ GE339.out) | exact HB.out)) hb); clear HO_3; clear BK339; clear HB; have HO_3 := n0_; have HO342 := n1_; have BK339 := n2_; have HB := n3_; clear n0_ n1_ n2_ n3_; (try clear hb); (try clear hb2); (try clear hk); (try clear hi); (try clear ho0); obtain ⟨Ao35, co35, eo35⟩ := Kd.R_slice HO342.out; subst eo35))
                    go_roundg kj1
                    case measure => have := HK1.out; have := HJ1.out; omega
                    case rel => exact ⟨(x3_1), (wrap64 (x4_1 + 1)), (by first | rfl | (simp; done) | (simp [*]; done) | (simp [Pu.bne_nil, Pu.beq_nil]; done)), H', ⟨by have := HK1.out; have := HJ1.out; omega⟩, ⟨by (with_reducible repeat (first | apply Kd.R_alloc | apply Kd.R_drewN | apply Kd.R_drew)); exact Kd.R_mono HO_3.out (fun _ hk => trivial)⟩, ⟨by repeat (first | (with_reducible first | exact HB.out | apply below_alloc | apply pw_below_drewN | apply below_drew1 | refine below_set ?_ GE339.out) | exact HB.out)⟩⟩
                  · rw [if_neg c29] at H
                    exact absurd H (by simp)
              · rw [if_neg c6] at H
                exact absurd H (by simp)
            · rw [if_neg c5] at H
              exact absurd H (by simp)
          · replace c4 := Bool.eq_false_iff.mpr c4
            subst c4
            have H1 : (bursarlaw21_DupLists.l1 kj1 x3_1 1) = some r := by rw [if_neg (show ¬ (false = true) by decide)] at H; exact H
            clear H
            have H := H1
            clear H1
            have H' := Aside0.mk H
            clear H
            go_wp2
            go_loopg [8] kj1 (fun kq v8 w' => ∃ (x8_3 : Int), v8 = .int .i64 x8_3 ∧ Aside0 (bursarlaw21_DupLists.l1 kq x3_1 x8_3 = some r) ∧ Aside0 (kq ≤ kj1) ∧ Aside0 (Kd.R k24 24 w' w.heap.size (fun _ => True) u3 x3_1) ∧ Aside0 (Below w.heap.size w w'))
            case atStart => exact ⟨(1), (by first | rfl | (simp; done) | (simp [*]; done) | (simp [Pu.bne_nil, Pu.beq_nil]; done)), H', ⟨Nat.le_refl _⟩, ⟨by (with_reducible repeat (first | apply Kd.R_alloc | apply Kd.R_drewN | apply Kd.R_drew)); exact HO_3.out⟩, ⟨by repeat (first | (with_reducible first | exact HB.out | apply below_alloc | apply pw_below_drewN | apply below_drew1) | exact HB.out)⟩⟩
            case round =>
              clear H'
              try clear c1
              try clear c2
              try clear p2
              try clear q2
              try clear c3
              try clear c3b0
              try clear p3
              try clear q3
              try clear hx3
              try clear c4
              try clear c5
              try clear c5b0
              try clear c6
              try clear c6b0
              try clear p6
              try clear c8
              try clear c9
              try clear c9b0
              try clear c9b1
              try clear c10
              try clear c10b0
              try clear c10b1
              try clear c11
              try clear c11b0
              try clear c11b1
              try clear c12
              try clear c12b0
              try clear c12b1
              try clear c13
              try clear c13b0
              try clear c13b1
              try clear c13b2
              try clear c14
              try clear c15
              try clear c16
              try clear c16b0
              try clear c17
              try clear c17b0
              try clear c17b1
              try clear c19
              try clear q28
              try clear c29
              try clear c29b0
              try clear c29b1
              try clear p33
              try clear q33
              try clear hx33
              try clear p34
              try clear q34
              try clear hx34
              try clear hcz22_0
              try clear hcz32_0
              try clear hfz22_0
              try clear hfz32_0
              try clear hx333_0
              try clear hx333_1
              try clear hx333_2
              try clear hx333_3
              try clear hx333_4
              try clear hx344_0
              try clear hx344_1
              try clear hx344_2
              try clear hx344_3
              try clear hx344_4
              try clear p2
              try clear p333
              try clear p344
              try clear q28
              try clear q333
              try clear q344
              obtain ⟨x8_3, rfl, HA, HK3, HO_3, HB⟩ := hrel
              cases gk with
              | zero => exact absurd HA.out (by simp [bursarlaw21_DupLists.l1])
              | succ k3 =>
                have H := HA.out
                clear HA
                simp only [bursarlaw21_DupLists.l1] at H
                by_cases c36 : x8_3 < (x3_1.length : Int)
                · rw [if_pos c36] at H
                  have c36b0 : decide (x8_3 < (x3_1.length : Int)) = true := decide_eq_true c36
                  clear c36
                  obtain ⟨ji37, hji37⟩ : ∃ j_ : Int, (wrap64 (x8_3 - 1)) = j_ := ⟨_, rfl⟩
                  replace H : (if 0 ≤ (ji37) then (if (ji37) < (x3_1.length : Int) then (if 0 ≤ x8_3 then (if ((rd_T24 x3_1 (ji37)).f0) ≥ ((rd_T24 x3_1 x8_3).f0) then (none) else (bursarlaw21_DupLists.l1 k3 x3_1 (wrap64 (x8_3 + 1)))) else (none)) else (none)) else (none)) = some r := by first | (rw [hji37] at H; exact H) | (simp only [hji37] at H ⊢; exact H)
                  have hji37w : (IntKind.i64.wrap (x8_3 - 1)) = ji37 := (i64_w _).trans hji37
                  by_cases c38 : 0 ≤ (ji37)
                  · rw [if_pos c38] at H
                    have c38b0 : decide (0 ≤ (ji37)) = true := decide_eq_true c38
                    clear c38
                    by_cases c39 : (ji37) < (x3_1.length : Int)
                    · rw [if_pos c39] at H
                      have c39b0 : decide ((ji37) < (x3_1.length : Int)) = true := decide_eq_true c39
                      clear c39
                      by_cases c40 : 0 ≤ x8_3
                      · rw [if_pos c40] at H
                        have c40b0 : decide (0 ≤ x8_3) = true := decide_eq_true c40
                        clear c40
                        by_cases c41 : ((rd_T24 x3_1 (ji37)).f0) ≥ ((rd_T24 x3_1 x8_3).f0)
                        · rw [if_pos c41] at H
                          exact absurd H (by simp)
                        · rw [if_neg c41] at H
                          have c41b0 : decide (((rd_T24 x3_1 x8_3).f0) ≤ ((rd_T24 x3_1 (ji37)).f0)) = false := decide_eq_false c41
                          clear c41
                          have H' := Aside0.mk H
                          clear H
                          obtain ⟨Ao42, co42, eo42⟩ := Kd.R_slice HO_3.out
                          subst eo42
                          try go_wp2
                          have n0_ := Aside0.mk (Kd.R_drew HO_3.out)
                          have n1_ := Aside0.mk (below_drew1 HB.out)
                          clear HO_3
                          clear HB
                          have HO_3 := n0_
                          have HB := n1_
                          clear n0_ n1_
                          have p351 : 0 ≤ ((ji37) : Int) := of_decide_eq_true (by first | (with_reducible assumption) | assumption)
                          have q351 : (ji37) < (x3_1.length : Int) := of_decide_eq_true (by first | (with_reducible assumption) | assumption)
                          obtain ⟨ad351, e351, hx351_0, hx351_1, hx351_2, hx351_3, hx351_4⟩ := at_T24 (Kd.R_reads' HO_3.out).2.2 (ji37) p351 q351
                          cases e351
                          replace p351 := eq_true p351
                          replace q351 := eq_true q351
                          have p352 : 0 ≤ (x8_3 : Int) := of_decide_eq_true (by first | (with_reducible assumption) | assumption)
                          have q352 : x8_3 < (x3_1.length : Int) := of_decide_eq_true (by first | (with_reducible assumption) | assumption)
                          obtain ⟨ad352, e352, hx352_0, hx352_1, hx352_2, hx352_3, hx352_4⟩ := at_T24 (Kd.R_reads' HO_3.out).2.2 x8_3 p352 q352
                          obtain rfl : ad351 = ad352 := (by injection e352)
                          replace p352 := eq_true p352
                          replace q352 := eq_true q352
                          refine start_ (n := 12) (S := fun w' => w'.cell? (ad351.add (((ji37)).toNat * 5)) = some (.int .i64 ((rd_T24 x3_1 (ji37)).f0)) ∧ w'.cell? ⟨(ad351.add (((ji37)).toNat * 5)).block, (ad351.add (((ji37)).toNat * 5)).off + 1, none⟩ = some (.string ((rd_T24 x3_1 (ji37)).f1)) ∧ w'.cell? ⟨(ad351.add (((ji37)).toNat * 5)).block, (ad351.add (((ji37)).toNat * 5)).off + 2, none⟩ = some (.string ((rd_T24 x3_1 (ji37)).f2)) ∧ w'.cell? ⟨(ad351.add (((ji37)).toNat * 5)).block, (ad351.add (((ji37)).toNat * 5)).off + 3, none⟩ = some (.string ((rd_T24 x3_1 (ji37)).f3)) ∧ w'.cell? ⟨(ad351.add (((ji37)).toNat * 5)).block, (ad351.add (((ji37)).toNat * 5)).off + 4, none⟩ = some (.int .i64 ((rd_T24 x3_1 (ji37)).f4)) ∧ w'.cell? (ad351.add ((x8_3).toNat * 5)) = some (.int .i64 ((rd_T24 x3_1 x8_3).f0)) ∧ w'.cell? ⟨(ad351.add ((x8_3).toNat * 5)).block, (ad351.add ((x8_3).toNat * 5)).off + 1, none⟩ = some (.string ((rd_T24 x3_1 x8_3).f1)) ∧ w'.cell? ⟨(ad351.add ((x8_3).toNat * 5)).block, (ad351.add ((x8_3).toNat * 5)).off + 2, none⟩ = some (.string ((rd_T24 x3_1 x8_3).f2)) ∧ w'.cell? ⟨(ad351.add ((x8_3).toNat * 5)).block, (ad351.add ((x8_3).toNat * 5)).off + 3, none⟩ = some (.string ((rd_T24 x3_1 x8_3).f3)) ∧ w'.cell? ⟨(ad351.add ((x8_3).toNat * 5)).block, (ad351.add ((x8_3).toNat * 5)).off + 4, none⟩ = some (.int .i64 ((rd_T24 x3_1 x8_3).f4))) (ds := []) #[false, false, false, false, false, false, false, false, false, false, false, false] (by kernel_rfl) rfl rfl ⟨hx351_0, hx351_1, hx351_2, hx351_3, hx351_4, hx352_0, hx352_1, hx352_2, hx352_3, hx352_4⟩ (fun hHeld => ?_); refine with_tabW bursarlaw21_DupLists.tab16 bursarlaw21_DupLists.bits16 (fun HT_ HW_ => ?_)
                          generalize wr.drew = w43 at HO_3 HB hx351_0 hx351_1 hx351_2 hx351_3 hx351_4 hx352_0 hx352_1 hx352_2 hx352_3 hx352_4 hHeld ⊢
                          refine pure_ (i := 0) (N := some 71) (v := ?_) (a' := ?_) #[true, false, false, false, false, false, false, false, false, false, false, false] rfl rfl (any_of HT_.out (by kernel_rfl)) (fun _ _ _ h => h) (Or.inl ⟨by rfl, ?_⟩) ?_ ?_
                          rotate_left
                          · intro w'
                            go_simp
                            with_reducible rfl
                          rotate_left
                          · simp only [Act.put, List.setIfInBounds_toArray, List.set_cons_zero, List.set_cons_succ, i64_w, i32_w]
                            rfl
                          refine pure_ (i := 1) (N := some 72) (v := ?_) (a' := ?_) #[true, true, false, false, false, false, false, false, false, false, false, false] rfl rfl (any_of HT_.out (by kernel_rfl)) (fun _ _ _ h => h) (Or.inl ⟨by rfl, ?_⟩) ?_ ?_
                          rotate_left
                          · intro w'
                            go_simp
                            with_reducible rfl
                          rotate_left
                          · simp only [Act.put, List.setIfInBounds_toArray, List.set_cons_zero, List.set_cons_succ, i64_w, i32_w]
                            rfl
                          refine pure_ (i := 2) (N := some 73) (v := ?_) (a' := ?_) #[true, true, true, false, false, false, false, false, false, false, false, false] rfl rfl (any_of HT_.out (by kernel_rfl)) (fun _ _ _ h => h) (Or.inl ⟨by rfl, ?_⟩) ?_ ?_
                          rotate_left
                          · intro w'
                            go_simp
                            with_reducible rfl
                          rotate_left
                          · simp only [Act.put, List.setIfInBounds_toArray, List.set_cons_zero, List.set_cons_succ, i64_w, i32_w]
                            rfl
                          refine pure_ (i := 3) (N := some 74) (v := ?_) (a' := ?_) #[true, true, true, true, false, false, false, false, false, false, false, false] rfl rfl (any_of HT_.out (by kernel_rfl)) (fun _ _ _ h => h) (Or.inl ⟨by rfl, ?_⟩) ?_ ?_
                          rotate_left
                          · intro w'
                            go_simp
                            with_reducible rfl
                          rotate_left
                          · simp only [Act.put, List.setIfInBounds_toArray, List.set_cons_zero, List.set_cons_succ, i64_w, i32_w]
                            rfl
                          refine pure_ (i := 4) (N := some 75) (v := ?_) (a' := ?_) #[true, true, true, true, true, false, false, false, false, false, false, false] rfl rfl (any_of HT_.out (by kernel_rfl)) (fun _ _ _ h => h) (Or.inl ⟨by rfl, ?_⟩) ?_ ?_
                          rotate_left
                          · intro w'
                            go_simp
                            with_reducible rfl
                          rotate_left
                          · simp only [Act.put, List.setIfInBounds_toArray, List.set_cons_zero, List.set_cons_succ, i64_w, i32_w]
                            rfl
                          refine pure_ (i := 6) (N := some 77) (v := ?_) (a' := ?_) #[true, true, true, true, true, false, true, false, false, false, false, false] rfl rfl (any_of HT_.out (by kernel_rfl)) (fun _ _ _ h => h) (Or.inl ⟨by rfl, ?_⟩) ?_ ?_
                          rotate_left
                          · intro w'
                            go_simp
                            with_reducible rfl
                          rotate_left
                          · simp only [Act.put, List.setIfInBounds_toArray, List.set_cons_zero, List.set_cons_succ, i64_w, i32_w]
                            rfl
                          refine pure_ (i := 7) (N := some 78) (v := ?_) (a' := ?_) #[true, true, true, true, true, false, true, true, false, false, false, false] rfl rfl (any_of HT_.out (by kernel_rfl)) (fun _ _ _ h => h) (Or.inl ⟨by rfl, ?_⟩) ?_ ?_
                          rotate_left
                          · intro w'
                            go_simp
                            with_reducible rfl
                          rotate_left
                          · simp only [Act.put, List.setIfInBounds_toArray, List.set_cons_zero, List.set_cons_succ, i64_w, i32_w]
                            rfl
                          refine pure_ (i := 8) (N := some 79) (v := ?_) (a' := ?_) #[true, true, true, true, true, false, true, true, true, false, false, false] rfl rfl (any_of HT_.out (by kernel_rfl)) (fun _ _ _ h => h) (Or.inl ⟨by rfl, ?_⟩) ?_ ?_
                          rotate_left
                          · intro w'
                            go_simp
                            with_reducible rfl
                          rotate_left
                          · simp only [Act.put, List.setIfInBounds_toArray, List.set_cons_zero, List.set_cons_succ, i64_w, i32_w]
                            rfl
                          refine pure_ (i := 9) (N := some 80) (v := ?_) (a' := ?_) #[true, true, true, true, true, false, true, true, true, true, false, false] rfl rfl (any_of HT_.out (by kernel_rfl)) (fun _ _ _ h => h) (Or.inl ⟨by rfl, ?_⟩) ?_ ?_
                          rotate_left
                          · intro w'
                            go_simp
                            with_reducible rfl
                          rotate_left
                          · simp only [Act.put, List.setIfInBounds_toArray, List.set_cons_zero, List.set_cons_succ, i64_w, i32_w]
                            rfl
                          refine take_ (i := 5) (N := some 76) (v := ?_) (a' := ?_) #[true, true, true, true, true, true, true, true, true, true, false, false] rfl rfl (take_ofW HT_.out HW_.out (by kernel_rfl)) (fun _ _ _ h => h) (Or.inl ⟨by rfl, ?_⟩) hHeld ?_ ?_
                          rotate_left
                          · rintro w' ⟨s0, s1, s2, s3, s4, s5, s6, s7, s8, s9⟩
                            (try simp only [Int.toNat_natCast] at s0 s1 s2 s3 s4 s5 s6 s7 s8 s9)
                            go_simp
                            with_reducible rfl
                          rotate_left
                          · simp only [Act.put, List.setIfInBounds_toArray, List.set_cons_zero, List.set_cons_succ, i64_w, i32_w]
                            rfl
                          refine take_ (i := 10) (N := some 81) (v := ?_) (a' := ?_) #[true, true, true, true, true, true, true, true, true, true, true, false] rfl rfl (take_ofW HT_.out HW_.out (by kernel_rfl)) (fun _ _ _ h => h) (Or.inl ⟨by rfl, ?_⟩) hHeld ?_ ?_
                          rotate_left
                          · rintro w' ⟨s0, s1, s2, s3, s4, s5, s6, s7, s8, s9⟩
                            (try simp only [Int.toNat_natCast] at s0 s1 s2 s3 s4 s5 s6 s7 s8 s9)
                            go_simp
                            with_reducible rfl
                          rotate_left
                          · simp only [Act.put, List.setIfInBounds_toArray, List.set_cons_zero, List.set_cons_succ, i64_w, i32_w]
                            rfl
                          refine pure_ (i := 11) (N := some 82) (v := ?_) (a' := ?_) #[true, true, true, true, true, true, true, true, true, true, true, true] rfl rfl (any_of HT_.out (by kernel_rfl)) (fun _ _ _ h => h) (Or.inl ⟨by rfl, ?_⟩) ?_ ?_
                          rotate_left
                          · intro w'
                            go_simp
                            with_reducible rfl
                          rotate_left
                          · simp only [Act.put, List.setIfInBounds_toArray, List.set_cons_zero, List.set_cons_succ, i64_w, i32_w]
                            rfl
                          refine done_ (done_of HT_.out (by kernel_rfl)) ?_
                          try go_wp2
                          go_roundg k3
                          case measure => have := HK1.out; have := HJ1.out; have := HK3.out; omega
                          case rel => exact ⟨(wrap64 (x8_3 + 1)), (by first | rfl | (simp; done) | (simp [*]; done) | (simp [Pu.bne_nil, Pu.beq_nil]; done)), H', ⟨by have := HK1.out; have := HJ1.out; have := HK3.out; omega⟩, ⟨by (with_reducible repeat (first | apply Kd.R_alloc | apply Kd.R_drewN | apply Kd.R_drew)); exact HO_3.out⟩, ⟨by repeat (first | (with_reducible first | exact HB.out | apply below_alloc | apply pw_below_drewN | apply below_drew1) | exact HB.out)⟩⟩
                      · rw [if_neg c40] at H
                        exact absurd H (by simp)
                    · rw [if_neg c39] at H
                      exact absurd H (by simp)
                  · rw [if_neg c38] at H
                    exact absurd H (by simp)
                · rw [if_neg c36] at H
                  have c36b0 : decide (x8_3 < (x3_1.length : Int)) = false := decide_eq_false c36
                  clear c36
                  replace H := Option.bind_eq_some_iff.mp H
                  obtain ⟨t353, A440, H⟩ := H
                  replace H : (some t353) = some r := H
                  have A44 := Aside0.mk A440
                  clear A440
                  obtain rfl := Option.some.inj H
                  obtain ⟨Ao45, co45, eo45⟩ := Kd.R_slice HO_3.out
                  subst eo45
                  go_wp2_with (first | ((with_reducible refine gate_callee (f := 17) rfl ?_); refine goesL_ (some 83) rfl rfl Try.func17 (by kernel_rfl) rfl #[] rfl (by (try simp only [List.map_toArray, List.map_cons, List.map_nil]); first | done | rfl | (simp only [List.length_drop, List.length_take]; rfl)) ?_; (with_reducible refine (bursarlaw21_awake.calls k3  t353 _ A44.out).mono ?_); rintro e w46 ⟨rfl, hb⟩; refine ⟨_, rfl, ?_⟩; have n0_ := Aside0.mk (Kd.R_below (by (with_reducible repeat (first | apply Kd.R_alloc | apply Kd.R_drewN | apply Kd.R_drew)); exact HO_3.out) hb); have n1_ := Aside0.mk (below_step (by repeat (first | (with_reducible first | exact HB.out | apply below_alloc | apply pw_below_drewN | apply below_drew1) | exact HB.out)) hb); clear HO_3; clear HB; have HO_3 := n0_; have HB := n1_; clear n0_ n1_; (try clear hb); (try clear hb2); (try clear hk); (try clear hi)))
                  go_ret
                  exact ⟨by first | rfl | (simp [errW_none, errW_some] <;> rfl) | (simp [*, errW_none, errW_some] <;> rfl), by repeat (first | (with_reducible first | exact HB.out | apply below_alloc | apply pw_below_drewN | apply below_drew1) | exact HB.out)⟩

end Go.Proofs.Ytmmkiihmdidkpaa.XU
