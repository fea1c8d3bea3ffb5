-- Written by wip/xprint.py, a session's program: printed out of the translation, with hand-written functions. Lean checks it.
import Derived.Test.YtddlmcaclbkopaaXAU0
namespace Go.Proofs.Ytddlmcaclbkopaa.XAU
open Go.RowKit Go.Proofs.YtddlmcaclbkopaaW.PrintWords Go.Proofs.YtddlmcaclbkopaaW.PrintLast Go.Proofs.YtddlmcaclbkopaaW.PrintMore
attribute [local go_sem] max2_int min2_int max_two min_two max_three min_three max_four min_four   -- for this text's walks alone
set_option linter.unusedVariables false
set_option linter.unusedSimpArgs false

/-! ### bursarref01_Sum: function 78 -/
mutual
def bursarref01_Sum.l0 : Nat → List Int → List Int → List Int → Int → Option (Int × Bool)
  | 0, _, _, _, _ => none
  | k + 1, x0, x4, x5, x6 => if x6 < (x0.length : Int) then (if 0 ≤ x6 then (if (rd x0 x6) ≥ 0 then (if x4.length < 17592186044416 then (bursarref01_Sum.l0 k x0 (x4 ++ [rd x0 x6]) x5 (wrap64 (x6 + 1))) else (none)) else (if x5.length < 17592186044416 then (bursarref01_Sum.l0 k x0 x4 (x5 ++ [rd x0 x6]) (wrap64 (x6 + 1))) else (none))) else (none)) else (bursarref01_Sum.l1 k x4 x5 0 0 0)
def bursarref01_Sum.l1 : Nat → List Int → List Int → Int → Int → Int → Option (Int × Bool)
  | 0, _, _, _, _, _ => none
  | k + 1, x4, x5, x7, x8, x9 => if x8 < (x4.length : Int) then (bursarref01_Sum.j2 k x4 x5 x7 x8 x9 true) else (bursarref01_Sum.j2 k x4 x5 x7 x8 x9 (decide (x9 < (x5.length : Int))))
def bursarref01_Sum.j2 : Nat → List Int → List Int → Int → Int → Int → Bool → Option (Int × Bool)
  | 0, _, _, _, _, _, _ => none
  | k + 1, x4, x5, x7, x8, x9, x45 => if x45 = true then (if x9 ≥ (x5.length : Int) then (bursarref01_Sum.j3 k x4 x5 x7 x8 x9 true) else (if x8 < (x4.length : Int) then (bursarref01_Sum.j3 k x4 x5 x7 x8 x9 (decide (x7 < 0))) else (bursarref01_Sum.j3 k x4 x5 x7 x8 x9 false))) else (some (x7, true))
def bursarref01_Sum.j3 : Nat → List Int → List Int → Int → Int → Int → Bool → Option (Int × Bool)
  | 0, _, _, _, _, _, _ => none
  | k + 1, x4, x5, x7, x8, x9, x59 => if x59 = true then (if 0 ≤ x8 then (if x8 < (x4.length : Int) then (if (rd x4 x8) > 0 then (if x7 > (wrap64 (9223372036854775807 - (rd x4 x8))) then (some (0, false)) else (if (rd x4 x8) < 0 then (if x7 < (wrap64 ((-9223372036854775808) - (rd x4 x8))) then (some (0, false)) else (bursarref01_Sum.l1 k x4 x5 (wrap64 (x7 + (rd x4 x8))) (wrap64 (x8 + 1)) x9)) else (bursarref01_Sum.l1 k x4 x5 (wrap64 (x7 + (rd x4 x8))) (wrap64 (x8 + 1)) x9))) else (if (rd x4 x8) < 0 then (if x7 < (wrap64 ((-9223372036854775808) - (rd x4 x8))) then (some (0, false)) else (bursarref01_Sum.l1 k x4 x5 (wrap64 (x7 + (rd x4 x8))) (wrap64 (x8 + 1)) x9)) else (bursarref01_Sum.l1 k x4 x5 (wrap64 (x7 + (rd x4 x8))) (wrap64 (x8 + 1)) x9))) else (none)) else (none)) else (if 0 ≤ x9 then (if x9 < (x5.length : Int) then (if (rd x5 x9) > 0 then (if x7 > (wrap64 (9223372036854775807 - (rd x5 x9))) then (some (0, false)) else (if (rd x5 x9) < 0 then (if x7 < (wrap64 ((-9223372036854775808) - (rd x5 x9))) then (some (0, false)) else (bursarref01_Sum.l1 k x4 x5 (wrap64 (x7 + (rd x5 x9))) x8 (wrap64 (x9 + 1)))) else (bursarref01_Sum.l1 k x4 x5 (wrap64 (x7 + (rd x5 x9))) x8 (wrap64 (x9 + 1))))) else (if (rd x5 x9) < 0 then (if x7 < (wrap64 ((-9223372036854775808) - (rd x5 x9))) then (some (0, false)) else (bursarref01_Sum.l1 k x4 x5 (wrap64 (x7 + (rd x5 x9))) x8 (wrap64 (x9 + 1)))) else (bursarref01_Sum.l1 k x4 x5 (wrap64 (x7 + (rd x5 x9))) x8 (wrap64 (x9 + 1))))) else (none)) else (none))
end
def bursarref01_Sum.f (k : Nat) (l0 : List Int) : Option (Int × Bool) := bursarref01_Sum.l0 k l0 ([] : List Int) ([] : List Int) 0
theorem bursarref01_Sum.mono_l : ∀ k, (∀ y0 y1 y2 y3, LeO (bursarref01_Sum.l0 k y0 y1 y2 y3) (bursarref01_Sum.l0 (k + 1) y0 y1 y2 y3)) ∧ (∀ y0 y1 y2 y3 y4, LeO (bursarref01_Sum.l1 k y0 y1 y2 y3 y4) (bursarref01_Sum.l1 (k + 1) y0 y1 y2 y3 y4)) ∧ (∀ y0 y1 y2 y3 y4 y5, LeO (bursarref01_Sum.j2 k y0 y1 y2 y3 y4 y5) (bursarref01_Sum.j2 (k + 1) y0 y1 y2 y3 y4 y5)) ∧ (∀ y0 y1 y2 y3 y4 y5, LeO (bursarref01_Sum.j3 k y0 y1 y2 y3 y4 y5) (bursarref01_Sum.j3 (k + 1) y0 y1 y2 y3 y4 y5))
  | 0 => ⟨fun _ _ _ _ r h => by simp [bursarref01_Sum.l0] at h, fun _ _ _ _ _ r h => by simp [bursarref01_Sum.l1] at h, fun _ _ _ _ _ _ r h => by simp [bursarref01_Sum.j2] at h, fun _ _ _ _ _ _ r h => by simp [bursarref01_Sum.j3] at h⟩
  | k + 1 => by
    obtain ⟨ih0, ih1, ih2, ih3⟩ := bursarref01_Sum.mono_l k
    refine ⟨?_, ?_, ?_, ?_⟩
    · intro y0 y1 y2 y3
      unfold bursarref01_Sum.l0
      repeat' first
      | (with_reducible exact ih0 _ _ _ _)
      | (with_reducible exact ih1 _ _ _ _ _)
      | (with_reducible exact ih2 _ _ _ _ _ _)
      | (with_reducible exact ih3 _ _ _ _ _ _)
      | (with_reducible exact LeO.refl _)
      | (with_reducible exact LeO.none _)
      | (with_reducible refine LeO.ite ?_ ?_)
      | (with_reducible refine LeO.bind ?_ (fun _ => ?_))
      | exact ih0 _ _ _ _
      | exact ih1 _ _ _ _ _
      | exact ih2 _ _ _ _ _ _
      | exact ih3 _ _ _ _ _ _
      | exact LeO.none _
      | refine LeO.ite ?_ ?_
      | refine LeO.bind ?_ (fun _ => ?_)
    · intro y0 y1 y2 y3 y4
      unfold bursarref01_Sum.l1
      repeat' first
      | (with_reducible exact ih0 _ _ _ _)
      | (with_reducible exact ih1 _ _ _ _ _)
      | (with_reducible exact ih2 _ _ _ _ _ _)
      | (with_reducible exact ih3 _ _ _ _ _ _)
      | (with_reducible exact LeO.refl _)
      | (with_reducible exact LeO.none _)
      | (with_reducible refine LeO.ite ?_ ?_)
      | (with_reducible refine LeO.bind ?_ (fun _ => ?_))
      | exact ih0 _ _ _ _
      | exact ih1 _ _ _ _ _
      | exact ih2 _ _ _ _ _ _
      | exact ih3 _ _ _ _ _ _
      | exact LeO.none _
      | refine LeO.ite ?_ ?_
      | refine LeO.bind ?_ (fun _ => ?_)
    · intro y0 y1 y2 y3 y4 y5
      unfold bursarref01_Sum.j2
      repeat' first
      | (with_reducible exact ih0 _ _ _ _)
      | (with_reducible exact ih1 _ _ _ _ _)
      | (with_reducible exact ih2 _ _ _ _ _ _)
      | (with_reducible exact ih3 _ _ _ _ _ _)
      | (with_reducible exact LeO.refl _)
      | (with_reducible exact LeO.none _)
      | (with_reducible refine LeO.ite ?_ ?_)
      | (with_reducible refine LeO.bind ?_ (fun _ => ?_))
      | exact ih0 _ _ _ _
      | exact ih1 _ _ _ _ _
      | exact ih2 _ _ _ _ _ _
      | exact ih3 _ _ _ _ _ _
      | exact LeO.none _
      | refine LeO.ite ?_ ?_
      | refine LeO.bind ?_ (fun _ => ?_)
    · intro y0 y1 y2 y3 y4 y5
      unfold bursarref01_Sum.j3
      repeat' first
      | (with_reducible exact ih0 _ _ _ _)
      | (with_reducible exact ih1 _ _ _ _ _)
      | (with_reducible exact ih2 _ _ _ _ _ _)
      | (with_reducible exact ih3 _ _ _ _ _ _)
      | (with_reducible exact LeO.refl _)
      | (with_reducible exact LeO.none _)
      | (with_reducible refine LeO.ite ?_ ?_)
      | (with_reducible refine LeO.bind ?_ (fun _ => ?_))
      | exact ih0 _ _ _ _
      | exact ih1 _ _ _ _ _
      | exact ih2 _ _ _ _ _ _
      | exact ih3 _ _ _ _ _ _
      | exact LeO.none _
      | refine LeO.ite ?_ ?_
      | refine LeO.bind ?_ (fun _ => ?_)
theorem bursarref01_Sum.mono : ∀ a0 k, LeO (bursarref01_Sum.f k a0) (bursarref01_Sum.f (k + 1) a0) := by
  intro a0 k
  obtain ⟨ih0, ih1, ih2, ih3⟩ := bursarref01_Sum.mono_l k
  unfold bursarref01_Sum.f
  repeat' first
      | (with_reducible exact ih0 _ _ _ _)
      | (with_reducible exact ih1 _ _ _ _ _)
      | (with_reducible exact ih2 _ _ _ _ _ _)
      | (with_reducible exact ih3 _ _ _ _ _ _)
      | (with_reducible exact LeO.refl _)
      | (with_reducible exact LeO.none _)
      | (with_reducible refine LeO.ite ?_ ?_)
      | (with_reducible refine LeO.bind ?_ (fun _ => ?_))
      | exact ih0 _ _ _ _
      | exact ih1 _ _ _ _ _
      | exact ih2 _ _ _ _ _ _
      | exact ih3 _ _ _ _ _ _
      | exact LeO.none _
      | refine LeO.ite ?_ ?_
      | refine LeO.bind ?_ (fun _ => ?_)
set_option maxHeartbeats 8000000 in
set_option maxRecDepth 100000 in
theorem bursarref01_Sum.calls (k : Nat) (A0 : Option Addr) (c0 : Nat) (l0 : List Int) (r1 : Int) (r2 : Bool) (w : World) (hr0 : Kd.C (Kd.int .i64) w A0 l0.length l0) (hc0 : l0.length ≤ c0) (h : bursarref01_Sum.f k l0 = some (r1, r2)) :
    Calls Try.prog 78 #[.slice A0 l0.length c0] w fun e w' => e = .returned (.tuple #[.int .i64 r1, .bool r2]) ∧ Below w.heap.size w w' := by
  have HR0 := Aside0.mk hr0
  have HC0 := Aside0.mk hc0
  clear hr0 hc0
  have HB := Aside0.mk (Below.refl w.heap.size w)
  have H : (bursarref01_Sum.l0 k l0 ([] : List Int) ([] : List Int) 0) = some (r1, r2) := h
  clear h
  have H' := Aside0.mk H
  clear H
  go_enter Try.func78, Try.ntmps78
  go_wp2
  go_loopg [4, 5, 6] k (fun kq v4 v5 v6 w' => ∃ (x4_1 : List Int) (x5_1 : List Int) (x6_1 : Int), v6 = .int .i64 x6_1 ∧ Aside0 (bursarref01_Sum.l0 kq l0 x4_1 x5_1 x6_1 = some (r1, r2)) ∧ Aside0 (kq ≤ k) ∧ Aside0 (Kd.R (Kd.int .i64) 2 w' w.heap.size (fun k_ => some k_ ≠ (v5 : Value).ownBlock) v4 x4_1) ∧ Aside0 (Kd.R (Kd.int .i64) 2 w' w.heap.size (fun k_ => some k_ ≠ (v4 : Value).ownBlock) v5 x5_1) ∧ Aside0 (Below w.heap.size w w'))
  case atStart => exact ⟨(([] : List Int)), (([] : List Int)), (0), (by first | rfl | (simp; done) | (simp [*]; done) | (simp [Pu.bne_nil, Pu.beq_nil]; done)), H', ⟨Nat.le_refl _⟩, ⟨by first | exact Kd.R_nil _ _ _ _ _ | exact Kd.N_nil _ _ _ _ _ | exact Kd.V_nil _ _ _ _ _ | exact Kd.Q_nil _ _ _ _ _ | exact Kd.S_nil _ _ _ _ _⟩, ⟨by first | exact Kd.R_nil _ _ _ _ _ | exact Kd.N_nil _ _ _ _ _ | exact Kd.V_nil _ _ _ _ _ | exact Kd.Q_nil _ _ _ _ _ | exact Kd.S_nil _ _ _ _ _⟩, ⟨by repeat (first | (with_reducible first | exact HB.out | apply below_alloc | apply pw_below_drewN | apply below_drew1) | exact HB.out)⟩⟩
  case round =>
    clear H'
    obtain ⟨x4_1, x5_1, x6_1, rfl, HA, HK1, HO_4, HO_5, HB⟩ := hrel
    cases gk with
    | zero => exact absurd HA.out (by simp [bursarref01_Sum.l0])
    | succ k1 =>
      have H := HA.out
      clear HA
      simp only [bursarref01_Sum.l0] at H
      by_cases c2 : x6_1 < (l0.length : Int)
      · rw [if_pos c2] at H
        have c2b0 : decide (x6_1 < (l0.length : Int)) = true := decide_eq_true c2
        clear c2
        by_cases c3 : 0 ≤ x6_1
        · rw [if_pos c3] at H
          have c3b0 : decide (0 ≤ x6_1) = true := decide_eq_true c3
          clear c3
          by_cases c4 : (rd l0 x6_1) ≥ 0
          · rw [if_pos c4] at H
            have c4b0 : decide (0 ≤ (rd l0 x6_1)) = true := decide_eq_true c4
            clear c4
            by_cases c5 : x4_1.length < 17592186044416
            · rw [if_pos c5] at H
              have LMc5 := Aside0.mk c5
              clear c5
              obtain ⟨y151, hy151⟩ : ∃ y_ : List Int, y_ = (x4_1 ++ [rd l0 x6_1]) := ⟨_, rfl⟩
              replace H : (bursarref01_Sum.l0 k1 l0 y151 x5_1 (wrap64 (x6_1 + 1))) = some (r1, r2) := by first | (rw [hy151]; with_reducible exact H) | (have H2_ := (Option.bind_some _ _).symm.trans H; rw [hy151]; with_reducible exact H2_) | (have H2_ := (Option.bind_some _ _).symm.trans H; with_reducible exact H2_) | with_reducible exact H | (rw [hy151]; exact H) | exact H
              have Ny151 := Aside0.mk hy151
              clear hy151
              have H' := Aside0.mk H
              clear H
              have p149 : 0 ≤ (x6_1 : Int) := of_decide_eq_true (by first | (with_reducible assumption) | assumption)
              have q149 : x6_1 < (l0.length : Int) := of_decide_eq_true (by first | (with_reducible assumption) | assumption)
              obtain ⟨ad149, e149, hx149_0⟩ := Kd.at_int HR0.out x6_1 p149 q149
              cases e149
              replace hx149_0 := (HB.out.cell (World.block_lt_of_cell? w _ hx149_0)).trans hx149_0
              replace p149 := eq_true p149
              replace q149 := eq_true q149
              have p150 : 0 ≤ (x6_1 : Int) := of_decide_eq_true (by first | (with_reducible assumption) | assumption)
              have q150 : x6_1 < (l0.length : Int) := of_decide_eq_true (by first | (with_reducible assumption) | assumption)
              obtain ⟨ad150, e150, hx150_0⟩ := Kd.at_int HR0.out x6_1 p150 q150
              obtain rfl : ad149 = ad150 := (by injection e150)
              replace hx150_0 := (HB.out.cell (World.block_lt_of_cell? w _ hx150_0)).trans hx150_0
              replace p150 := eq_true p150
              replace q150 := eq_true q150
              go_wp2_with (first | ((with_reducible refine gate_builtin (b := .append) (xs := #[.tmp 22, .tmp 27]) rfl ?_); (try (refine gate_guard (by rfl) ?_; dsimp only)); at_builtin; refine Kd.R_append (Kd.int .i64) (w0 := w) w.heap.size rfl (.tmp 22) (.tmp 27) 105 2 (.int .i64 0) 8 rfl Try.underlying105 info2 rfl (by decide) (by omega) u4 x4_1 (rd l0 x6_1) [.int .i64 (rd l0 x6_1)] (fun k_ => some k_ ≠ (u5 : Value).ownBlock) (fun _ => False) rfl rfl ?aP (fun _ hk => hk.elim) ?aF ?aO ?aB ?aS ?aL ?_; (case aP => exact rfl); (case aB => exact (by repeat (first | (with_reducible first | exact HB.out | apply below_alloc | apply pw_below_drewN | apply below_drew1) | exact HB.out))); (case aF => exact (fun k_ hk => Kd.fresh' (Kd.R_lt (by (with_reducible repeat (first | apply Kd.R_alloc | apply Kd.R_drewN | apply Kd.R_drew)); exact HO_5.out)) k_ hk)); (case aO => exact (by (with_reducible repeat (first | apply Kd.R_alloc | apply Kd.R_drewN | apply Kd.R_drew)); exact HO_4.out)); (case aS => exact (below_size (by repeat (first | (with_reducible first | exact HB.out | apply below_alloc | apply pw_below_drewN | apply below_drew1) | exact HB.out)))); (case aL => have := LMc5.out; omega); intro v152 w6 ho hb hg hat; rw [← Ny151.out] at ho; have n0_ := Aside0.mk (Kd.R_after (ok := (fun _ => True)) (by (with_reducible repeat (first | apply Kd.R_alloc | apply Kd.R_drewN | apply Kd.R_drew)); exact Kd.R_mono HO_5.out (fun _ hk => ⟨trivial, hk⟩)) hg hat); have n1_ := Aside0.mk (hb); have n2_ := Aside0.mk (ho); clear HO_5; clear HB; clear HO_4; have HO_5 := n0_; have HB := n1_; have HO153 := n2_; clear n0_ n1_ n2_; clear ho hb hg hat))
              go_roundg k1
              case measure => have := HK1.out; omega
              case rel => exact ⟨(y151), (x5_1), (wrap64 (x6_1 + 1)), (by first | rfl | (simp; done) | (simp [*]; done) | (simp [Pu.bne_nil, Pu.beq_nil]; done)), H', ⟨by have := HK1.out; omega⟩, ⟨by (with_reducible repeat (first | apply Kd.R_alloc | apply Kd.R_drewN | apply Kd.R_drew)); exact HO153.out⟩, ⟨by (with_reducible repeat (first | apply Kd.R_alloc | apply Kd.R_drewN | apply Kd.R_drew)); exact Kd.R_mono HO_5.out (fun _ hk => hk.2)⟩, ⟨by repeat (first | (with_reducible first | exact HB.out | apply below_alloc | apply pw_below_drewN | apply below_drew1) | exact HB.out)⟩⟩
            · rw [if_neg c5] at H
              exact absurd H (by simp)
          · rw [if_neg c4] at H
            have c4b0 : decide (0 ≤ (rd l0 x6_1)) = false := decide_eq_false c4
            clear c4
            by_cases c7 : x5_1.length < 17592186044416
            · rw [if_pos c7] at H
              have LMc7 := Aside0.mk c7
              clear c7
              obtain ⟨y155, hy155⟩ : ∃ y_ : List Int, y_ = (x5_1 ++ [rd l0 x6_1]) := ⟨_, rfl⟩
              replace H : (bursarref01_Sum.l0 k1 l0 x4_1 y155 (wrap64 (x6_1 + 1))) = some (r1, r2) := by first | (rw [hy155]; with_reducible exact H) | (have H2_ := (Option.bind_some _ _).symm.trans H; rw [hy155]; with_reducible exact H2_) | (have H2_ := (Option.bind_some _ _).symm.trans H; with_reducible exact H2_) | with_reducible exact H | (rw [hy155]; exact H) | exact H
              have Ny155 := Aside0.mk hy155
              clear hy155
              have H' := Aside0.mk H
              clear H
              have p149 : 0 ≤ (x6_1 : Int) := of_decide_eq_true (by first | (with_reducible assumption) | assumption)
              have q149 : x6_1 < (l0.length : Int) := of_decide_eq_true (by first | (with_reducible assumption) | assumption)
              obtain ⟨ad149, e149, hx149_0⟩ := Kd.at_int HR0.out x6_1 p149 q149
              cases e149
              replace hx149_0 := (HB.out.cell (World.block_lt_of_cell? w _ hx149_0)).trans hx149_0
              replace p149 := eq_true p149
              replace q149 := eq_true q149
              have p154 : 0 ≤ (x6_1 : Int) := of_decide_eq_true (by first | (with_reducible assumption) | assumption)
              have q154 : x6_1 < (l0.length : Int) := of_decide_eq_true (by first | (with_reducible assumption) | assumption)
              obtain ⟨ad154, e154, hx154_0⟩ := Kd.at_int HR0.out x6_1 p154 q154
              obtain rfl : ad149 = ad154 := (by injection e154)
              replace hx154_0 := (HB.out.cell (World.block_lt_of_cell? w _ hx154_0)).trans hx154_0
              replace p154 := eq_true p154
              replace q154 := eq_true q154
              go_wp2_with (first | ((with_reducible refine gate_builtin (b := .append) (xs := #[.tmp 29, .tmp 34]) rfl ?_); (try (refine gate_guard (by rfl) ?_; dsimp only)); at_builtin; refine Kd.R_append (Kd.int .i64) (w0 := w) w.heap.size rfl (.tmp 29) (.tmp 34) 105 2 (.int .i64 0) 8 rfl Try.underlying105 info2 rfl (by decide) (by omega) u5 x5_1 (rd l0 x6_1) [.int .i64 (rd l0 x6_1)] (fun k_ => some k_ ≠ (u4 : Value).ownBlock) (fun _ => False) rfl rfl ?aP (fun _ hk => hk.elim) ?aF ?aO ?aB ?aS ?aL ?_; (case aP => exact rfl); (case aB => exact (by repeat (first | (with_reducible first | exact HB.out | apply below_alloc | apply pw_below_drewN | apply below_drew1) | exact HB.out))); (case aF => exact (fun k_ hk => Kd.fresh' (Kd.R_lt (by (with_reducible repeat (first | apply Kd.R_alloc | apply Kd.R_drewN | apply Kd.R_drew)); exact HO_4.out)) k_ hk)); (case aO => exact (by (with_reducible repeat (first | apply Kd.R_alloc | apply Kd.R_drewN | apply Kd.R_drew)); exact HO_5.out)); (case aS => exact (below_size (by repeat (first | (with_reducible first | exact HB.out | apply below_alloc | apply pw_below_drewN | apply below_drew1) | exact HB.out)))); (case aL => have := LMc7.out; omega); intro v156 w8 ho hb hg hat; rw [← Ny155.out] at ho; have n0_ := Aside0.mk (Kd.R_after (ok := (fun _ => True)) (by (with_reducible repeat (first | apply Kd.R_alloc | apply Kd.R_drewN | apply Kd.R_drew)); exact Kd.R_mono HO_4.out (fun _ hk => ⟨trivial, hk⟩)) hg hat); have n1_ := Aside0.mk (hb); have n2_ := Aside0.mk (ho); clear HO_4; clear HB; clear HO_5; have HO_4 := n0_; have HB := n1_; have HO157 := n2_; clear n0_ n1_ n2_; clear ho hb hg hat))
              go_roundg k1
              case measure => have := HK1.out; omega
              case rel => exact ⟨(x4_1), (y155), (wrap64 (x6_1 + 1)), (by first | rfl | (simp; done) | (simp [*]; done) | (simp [Pu.bne_nil, Pu.beq_nil]; done)), H', ⟨by have := HK1.out; omega⟩, ⟨by (with_reducible repeat (first | apply Kd.R_alloc | apply Kd.R_drewN | apply Kd.R_drew)); exact Kd.R_mono HO_4.out (fun _ hk => hk.2)⟩, ⟨by (with_reducible repeat (first | apply Kd.R_alloc | apply Kd.R_drewN | apply Kd.R_drew)); exact HO157.out⟩, ⟨by repeat (first | (with_reducible first | exact HB.out | apply below_alloc | apply pw_below_drewN | apply below_drew1) | exact HB.out)⟩⟩
            · rw [if_neg c7] at H
              exact absurd H (by simp)
        · rw [if_neg c3] at H
          exact absurd H (by simp)
      · rw [if_neg c2] at H
        have c2b0 : decide (x6_1 < (l0.length : Int)) = false := decide_eq_false c2
        clear c2
        have H' := Aside0.mk H
        clear H
        go_wp2
        go_loopg [7, 8, 9] k1 (fun kq v7 v8 v9 w' => ∃ (x7_2 : Int) (x8_2 : Int) (x9_2 : Int), v7 = .int .i64 x7_2 ∧ v8 = .int .i64 x8_2 ∧ v9 = .int .i64 x9_2 ∧ Aside0 (bursarref01_Sum.l1 kq x4_1 x5_1 x7_2 x8_2 x9_2 = some (r1, r2)) ∧ Aside0 (kq ≤ k1) ∧ Aside0 (Kd.R (Kd.int .i64) 2 w' w.heap.size (fun k_ => some k_ ≠ (u5 : Value).ownBlock) u4 x4_1) ∧ Aside0 (Kd.R (Kd.int .i64) 2 w' w.heap.size (fun k_ => some k_ ≠ (u4 : Value).ownBlock) u5 x5_1) ∧ Aside0 (Below w.heap.size w w'))
        case atStart => exact ⟨(0), (0), (0), (by first | rfl | (simp; done) | (simp [*]; done) | (simp [Pu.bne_nil, Pu.beq_nil]; done)), (by first | rfl | (simp; done) | (simp [*]; done) | (simp [Pu.bne_nil, Pu.beq_nil]; done)), (by first | rfl | (simp; done) | (simp [*]; done) | (simp [Pu.bne_nil, Pu.beq_nil]; done)), H', ⟨Nat.le_refl _⟩, ⟨by (with_reducible repeat (first | apply Kd.R_alloc | apply Kd.R_drewN | apply Kd.R_drew)); exact HO_4.out⟩, ⟨by (with_reducible repeat (first | apply Kd.R_alloc | apply Kd.R_drewN | apply Kd.R_drew)); exact HO_5.out⟩, ⟨by repeat (first | (with_reducible first | exact HB.out | apply below_alloc | apply pw_below_drewN | apply below_drew1) | exact HB.out)⟩⟩
        case round =>
          clear H'
          try clear p1
          try clear q1
          try clear hx1
          try clear c2
          try clear c2b0
          try clear p2
          try clear c3
          try clear c3b0
          try clear c4
          try clear c4b0
          try clear c5
          try clear p6
          try clear c7
          try clear hx149_0
          try clear hx150_0
          try clear hx154_0
          try clear p149
          try clear p150
          try clear p154
          try clear q149
          try clear q150
          try clear q154
          obtain ⟨x7_2, x8_2, x9_2, rfl, rfl, rfl, HA, HK2, HO_4, HO_5, HB⟩ := hrel
          cases gk with
          | zero => exact absurd HA.out (by simp [bursarref01_Sum.l1])
          | succ k2 =>
            have H := HA.out
            clear HA
            simp only [bursarref01_Sum.l1] at H
            have HC9 := Aside0.mk H
            clear H
            go_upto_region 10 with (fail)
            go_cut [45] (fun v45 wc => ∃ (kq : Nat) (x45_8 : Bool), v45 = .bool x45_8 ∧ Aside0 (bursarref01_Sum.j2 kq x4_1 x5_1 x7_2 x8_2 x9_2 x45_8 = some (r1, r2)) ∧ Aside0 (kq ≤ k2) ∧ Aside0 (Kd.R (Kd.int .i64) 2 wc w.heap.size (fun k_ => some k_ ≠ (u5 : Value).ownBlock) u4 x4_1) ∧ Aside0 (Kd.R (Kd.int .i64) 2 wc w.heap.size (fun k_ => some k_ ≠ (u4 : Value).ownBlock) u5 x5_1) ∧ Aside0 (Below w.heap.size w wc))
            case first =>
              have H := HC9.out
              clear HC9
              by_cases c10 : x8_2 < (x4_1.length : Int)
              · rw [if_pos c10] at H
                have c10b0 : decide (x8_2 < (x4_1.length : Int)) = true := decide_eq_true c10
                clear c10
                (first | rw [c10b0] | (simp only [i64_w, i32_w]; rw [c10b0]) | skip)
                have H' := Aside0.mk H
                clear H
                obtain ⟨Ao11, co11, eo11⟩ := Kd.R_slice HO_4.out
                subst eo11
                go_wp2
                go_meet
                case rel => exact ⟨_, (true), (by first | rfl | (simp; done) | (simp [*]; done) | (simp [Pu.bne_nil, Pu.beq_nil]; done)), H', ⟨by have := HK1.out; have := HK2.out; first | omega | exact Nat.le_refl _⟩, ⟨by (with_reducible repeat (first | apply Kd.R_alloc | apply Kd.R_drewN | apply Kd.R_drew)); exact HO_4.out⟩, ⟨by (with_reducible repeat (first | apply Kd.R_alloc | apply Kd.R_drewN | apply Kd.R_drew)); exact HO_5.out⟩, ⟨by repeat (first | (with_reducible first | exact HB.out | apply below_alloc | apply pw_below_drewN | apply below_drew1) | exact HB.out)⟩⟩
              · rw [if_neg c10] at H
                have c10b0 : decide (x8_2 < (x4_1.length : Int)) = false := decide_eq_false c10
                clear c10
                (first | rw [c10b0] | (simp only [i64_w, i32_w]; rw [c10b0]) | skip)
                have H' := Aside0.mk H
                clear H
                obtain ⟨Ao12, co12, eo12⟩ := Kd.R_slice HO_4.out
                subst eo12
                obtain ⟨Ao13, co13, eo13⟩ := Kd.R_slice HO_5.out
                subst eo13
                go_wp2
                go_meet
                case rel => exact ⟨_, (decide (x9_2 < (x5_1.length : Int))), (by first | rfl | (simp; done) | (simp [*]; done) | (simp [Pu.bne_nil, Pu.beq_nil]; done)), H', ⟨by have := HK1.out; have := HK2.out; first | omega | exact Nat.le_refl _⟩, ⟨by (with_reducible repeat (first | apply Kd.R_alloc | apply Kd.R_drewN | apply Kd.R_drew)); exact HO_4.out⟩, ⟨by (with_reducible repeat (first | apply Kd.R_alloc | apply Kd.R_drewN | apply Kd.R_drew)); exact HO_5.out⟩, ⟨by repeat (first | (with_reducible first | exact HB.out | apply below_alloc | apply pw_below_drewN | apply below_drew1) | exact HB.out)⟩⟩
            case rest =>
              clear HC9
              try clear c1
              try clear p1
              try clear q1
              try clear hx1
              try clear c2
              try clear c2b0
              try clear p2
              try clear c3
              try clear c3b0
              try clear c4
              try clear c4b0
              try clear c5
              try clear p6
              try clear c7
              try clear c10
              try clear c10b0
              try clear hx149_0
              try clear hx150_0
              try clear hx154_0
              try clear p1
              try clear p149
              try clear p150
              try clear p154
              try clear p2
              try clear p6
              try clear q1
              try clear q149
              try clear q150
              try clear q154
              obtain ⟨kq, x45_8, rfl, HA, HJ8, HO_4, HO_5, HB⟩ := hcut
              cases kq with
              | zero => exact absurd HA.out (by simp [bursarref01_Sum.j2])
              | succ kj8 =>
                have H := HA.out
                clear HA
                simp only [bursarref01_Sum.j2] at H
                by_cases c14 : x45_8 = true
                · subst c14
                  have H1 : (if x9_2 ≥ (x5_1.length : Int) then (bursarref01_Sum.j3 kj8 x4_1 x5_1 x7_2 x8_2 x9_2 true) else (if x8_2 < (x4_1.length : Int) then (bursarref01_Sum.j3 kj8 x4_1 x5_1 x7_2 x8_2 x9_2 (decide (x7_2 < 0))) else (bursarref01_Sum.j3 kj8 x4_1 x5_1 x7_2 x8_2 x9_2 false))) = some (r1, r2) := by rw [if_pos rfl] at H; exact H
                  clear H
                  have H := H1
                  clear H1
                  have HC15 := Aside0.mk H
                  clear H
                  go_upto_region 12 with (fail)
                  go_cut [59] (fun v59 wc => ∃ (kq : Nat) (x59_14 : Bool), v59 = .bool x59_14 ∧ Aside0 (bursarref01_Sum.j3 kq x4_1 x5_1 x7_2 x8_2 x9_2 x59_14 = some (r1, r2)) ∧ Aside0 (kq ≤ kj8) ∧ Aside0 (Kd.R (Kd.int .i64) 2 wc w.heap.size (fun k_ => some k_ ≠ (u5 : Value).ownBlock) u4 x4_1) ∧ Aside0 (Kd.R (Kd.int .i64) 2 wc w.heap.size (fun k_ => some k_ ≠ (u4 : Value).ownBlock) u5 x5_1) ∧ Aside0 (Below w.heap.size w wc))
                  case first =>
                    have H := HC15.out
                    clear HC15
                    by_cases c16 : x9_2 ≥ (x5_1.length : Int)
                    · rw [if_pos c16] at H
                      have c16b0 : decide ((x5_1.length : Int) ≤ x9_2) = true := decide_eq_true c16
                      clear c16
                      (first | rw [c16b0] | (simp only [i64_w, i32_w]; rw [c16b0]) | skip)
                      have H' := Aside0.mk H
                      clear H
                      obtain ⟨Ao17, co17, eo17⟩ := Kd.R_slice HO_5.out
                      subst eo17
                      go_wp2
                      go_meet
                      case rel => exact ⟨_, (true), (by first | rfl | (simp; done) | (simp [*]; done) | (simp [Pu.bne_nil, Pu.beq_nil]; done)), H', ⟨by have := HK1.out; have := HK2.out; have := HJ8.out; first | omega | exact Nat.le_refl _⟩, ⟨by (with_reducible repeat (first | apply Kd.R_alloc | apply Kd.R_drewN | apply Kd.R_drew)); exact HO_4.out⟩, ⟨by (with_reducible repeat (first | apply Kd.R_alloc | apply Kd.R_drewN | apply Kd.R_drew)); exact HO_5.out⟩, ⟨by repeat (first | (with_reducible first | exact HB.out | apply below_alloc | apply pw_below_drewN | apply below_drew1) | exact HB.out)⟩⟩
                    · rw [if_neg c16] at H
                      have c16b0 : decide ((x5_1.length : Int) ≤ x9_2) = false := decide_eq_false c16
                      clear c16
                      (first | rw [c16b0] | (simp only [i64_w, i32_w]; rw [c16b0]) | skip)
                      by_cases c18 : x8_2 < (x4_1.length : Int)
                      · rw [if_pos c18] at H
                        have c18b0 : decide (x8_2 < (x4_1.length : Int)) = true := decide_eq_true c18
                        clear c18
                        have H' := Aside0.mk H
                        clear H
                        obtain ⟨Ao19, co19, eo19⟩ := Kd.R_slice HO_5.out
                        subst eo19
                        obtain ⟨Ao20, co20, eo20⟩ := Kd.R_slice HO_4.out
                        subst eo20
                        go_wp2
                        go_meet
                        case rel => exact ⟨_, (decide (x7_2 < 0)), (by first | rfl | (simp; done) | (simp [*]; done) | (simp [Pu.bne_nil, Pu.beq_nil]; done)), H', ⟨by have := HK1.out; have := HK2.out; have := HJ8.out; first | omega | exact Nat.le_refl _⟩, ⟨by (with_reducible repeat (first | apply Kd.R_alloc | apply Kd.R_drewN | apply Kd.R_drew)); exact HO_4.out⟩, ⟨by (with_reducible repeat (first | apply Kd.R_alloc | apply Kd.R_drewN | apply Kd.R_drew)); exact HO_5.out⟩, ⟨by repeat (first | (with_reducible first | exact HB.out | apply below_alloc | apply pw_below_drewN | apply below_drew1) | exact HB.out)⟩⟩
                      · rw [if_neg c18] at H
                        have c18b0 : decide (x8_2 < (x4_1.length : Int)) = false := decide_eq_false c18
                        clear c18
                        have H' := Aside0.mk H
                        clear H
                        obtain ⟨Ao21, co21, eo21⟩ := Kd.R_slice HO_5.out
                        subst eo21
                        obtain ⟨Ao22, co22, eo22⟩ := Kd.R_slice HO_4.out
                        subst eo22
                        go_wp2
                        go_meet
                        case rel => exact ⟨_, (false), (by first | rfl | (simp; done) | (simp [*]; done) | (simp [Pu.bne_nil, Pu.beq_nil]; done)), H', ⟨by have := HK1.out; have := HK2.out; have := HJ8.out; first | omega | exact Nat.le_refl _⟩, ⟨by (with_reducible repeat (first | apply Kd.R_alloc | apply Kd.R_drewN | apply Kd.R_drew)); exact HO_4.out⟩, ⟨by (with_reducible repeat (first | apply Kd.R_alloc | apply Kd.R_drewN | apply Kd.R_drew)); exact HO_5.out⟩, ⟨by repeat (first | (with_reducible first | exact HB.out | apply below_alloc | apply pw_below_drewN | apply below_drew1) | exact HB.out)⟩⟩
                  case rest =>
                    clear HC15
                    try clear c1
                    try clear p1
                    try clear q1
                    try clear hx1
                    try clear c2
                    try clear c2b0
                    try clear p2
                    try clear c3
                    try clear c3b0
                    try clear c4
                    try clear c4b0
                    try clear c5
                    try clear p6
                    try clear c7
                    try clear c10
                    try clear c10b0
                    try clear c14
                    try clear p14
                    try clear q14
                    try clear hx14
                    try clear p15
                    try clear q15
                    try clear hx15
                    try clear c16
                    try clear c16b0
                    try clear c18
                    try clear c18b0
                    try clear hx149_0
                    try clear hx150_0
                    try clear hx154_0
                    try clear p1
                    try clear p149
                    try clear p150
                    try clear p154
                    try clear p2
                    try clear p6
                    try clear q1
                    try clear q149
                    try clear q150
                    try clear q154
                    obtain ⟨kq, x59_14, rfl, HA, HJ14, HO_4, HO_5, HB⟩ := hcut
                    cases kq with
                    | zero => exact absurd HA.out (by simp [bursarref01_Sum.j3])
                    | succ kj14 =>
                      have H := HA.out
                      clear HA
                      simp only [bursarref01_Sum.j3] at H
                      by_cases c23 : x59_14 = true
                      · subst c23
                        have H1 : (if 0 ≤ x8_2 then (if x8_2 < (x4_1.length : Int) then (if (rd x4_1 x8_2) > 0 then (if x7_2 > (wrap64 (9223372036854775807 - (rd x4_1 x8_2))) then (some (0, false)) else (if (rd x4_1 x8_2) < 0 then (if x7_2 < (wrap64 ((-9223372036854775808) - (rd x4_1 x8_2))) then (some (0, false)) else (bursarref01_Sum.l1 kj14 x4_1 x5_1 (wrap64 (x7_2 + (rd x4_1 x8_2))) (wrap64 (x8_2 + 1)) x9_2)) else (bursarref01_Sum.l1 kj14 x4_1 x5_1 (wrap64 (x7_2 + (rd x4_1 x8_2))) (wrap64 (x8_2 + 1)) x9_2))) else (if (rd x4_1 x8_2) < 0 then (if x7_2 < (wrap64 ((-9223372036854775808) - (rd x4_1 x8_2))) then (some (0, false)) else (bursarref01_Sum.l1 kj14 x4_1 x5_1 (wrap64 (x7_2 + (rd x4_1 x8_2))) (wrap64 (x8_2 + 1)) x9_2)) else (bursarref01_Sum.l1 kj14 x4_1 x5_1 (wrap64 (x7_2 + (rd x4_1 x8_2))) (wrap64 (x8_2 + 1)) x9_2))) else (none)) else (none)) = some (r1, r2) := by rw [if_pos rfl] at H; exact H
                        clear H
                        have H := H1
                        clear H1
                        by_cases c24 : 0 ≤ x8_2
                        · rw [if_pos c24] at H
                          have c24b0 : decide (0 ≤ x8_2) = true := decide_eq_true c24
                          clear c24
                          by_cases c25 : x8_2 < (x4_1.length : Int)
                          · rw [if_pos c25] at H
                            have c25b0 : decide (x8_2 < (x4_1.length : Int)) = true := decide_eq_true c25
                            clear c25
                            by_cases c26 : (rd x4_1 x8_2) > 0
                            · rw [if_pos c26] at H
                              have c26b0 : decide (0 < (rd x4_1 x8_2)) = true := decide_eq_true c26
                              clear c26
                              by_cases c27 : x7_2 > (wrap64 (9223372036854775807 - (rd x4_1 x8_2)))
                              · rw [if_pos c27] at H
                                have c27b0 : decide ((wrap64 (9223372036854775807 - (rd x4_1 x8_2))) < x7_2) = true := decide_eq_true c27
                                clear c27
                                simp only [Option.some.injEq, Prod.mk.injEq] at H
                                obtain ⟨rfl, rfl⟩ := H
                                obtain ⟨Ao28, co28, eo28⟩ := Kd.R_slice HO_4.out
                                subst eo28
                                have p158 : 0 ≤ (x8_2 : Int) := of_decide_eq_true (by first | (with_reducible assumption) | assumption)
                                have q158 : x8_2 < (x4_1.length : Int) := of_decide_eq_true (by first | (with_reducible assumption) | assumption)
                                obtain ⟨ad158, e158, hx158_0⟩ := Kd.at_int (Kd.R_reads' HO_4.out).2.2 x8_2 p158 q158
                                cases e158
                                replace p158 := eq_true p158
                                replace q158 := eq_true q158
                                go_wp2
                                go_ret2
                                exact ⟨by first | rfl | (simp [errW_none, errW_some] <;> rfl) | (simp [*, errW_none, errW_some] <;> rfl), by repeat (first | (with_reducible first | exact HB.out | apply below_alloc | apply pw_below_drewN | apply below_drew1) | exact HB.out)⟩
                              · rw [if_neg c27] at H
                                have c27b0 : decide ((wrap64 (9223372036854775807 - (rd x4_1 x8_2))) < x7_2) = false := decide_eq_false c27
                                clear c27
                                by_cases c29 : (rd x4_1 x8_2) < 0
                                · rw [if_pos c29] at H
                                  have c29b0 : decide ((rd x4_1 x8_2) < 0) = true := decide_eq_true c29
                                  clear c29
                                  by_cases c30 : x7_2 < (wrap64 ((-9223372036854775808) - (rd x4_1 x8_2)))
                                  · rw [if_pos c30] at H
                                    have c30b0 : decide (x7_2 < (wrap64 ((-9223372036854775808) - (rd x4_1 x8_2)))) = true := decide_eq_true c30
                                    clear c30
                                    simp only [Option.some.injEq, Prod.mk.injEq] at H
                                    obtain ⟨rfl, rfl⟩ := H
                                    obtain ⟨Ao31, co31, eo31⟩ := Kd.R_slice HO_4.out
                                    subst eo31
                                    have p158 : 0 ≤ (x8_2 : Int) := of_decide_eq_true (by first | (with_reducible assumption) | assumption)
                                    have q158 : x8_2 < (x4_1.length : Int) := of_decide_eq_true (by first | (with_reducible assumption) | assumption)
                                    obtain ⟨ad158, e158, hx158_0⟩ := Kd.at_int (Kd.R_reads' HO_4.out).2.2 x8_2 p158 q158
                                    cases e158
                                    replace p158 := eq_true p158
                                    replace q158 := eq_true q158
                                    go_wp2
                                    go_ret2
                                    exact ⟨by first | rfl | (simp [errW_none, errW_some] <;> rfl) | (simp [*, errW_none, errW_some] <;> rfl), by repeat (first | (with_reducible first | exact HB.out | apply below_alloc | apply pw_below_drewN | apply below_drew1) | exact HB.out)⟩
                                  · rw [if_neg c30] at H
                                    have c30b0 : decide (x7_2 < (wrap64 ((-9223372036854775808) - (rd x4_1 x8_2)))) = false := decide_eq_false c30
                                    clear c30
                                    have H' := Aside0.mk H
                                    clear H
                                    obtain ⟨Ao32, co32, eo32⟩ := Kd.R_slice HO_4.out
                                    subst eo32
                                    have p158 : 0 ≤ (x8_2 : Int) := of_decide_eq_true (by first | (with_reducible assumption) | assumption)
                                    have q158 : x8_2 < (x4_1.length : Int) := of_decide_eq_true (by first | (with_reducible assumption) | assumption)
                                    obtain ⟨ad158, e158, hx158_0⟩ := Kd.at_int (Kd.R_reads' HO_4.out).2.2 x8_2 p158 q158
                                    cases e158
                                    replace p158 := eq_true p158
                                    replace q158 := eq_true q158
                                    go_wp2
                                    go_roundg kj14
                                    case measure => have := HK1.out; have := HK2.out; have := HJ8.out; have := HJ14.out; omega
                                    case rel => exact ⟨(wrap64 (x7_2 + (rd x4_1 x8_2))), (wrap64 (x8_2 + 1)), (x9_2), (by first | rfl | (simp; done) | (simp [*]; done) | (simp [Pu.bne_nil, Pu.beq_nil]; done)), (by first | rfl | (simp; done) | (simp [*]; done) | (simp [Pu.bne_nil, Pu.beq_nil]; done)), (by first | rfl | (simp; done) | (simp [*]; done) | (simp [Pu.bne_nil, Pu.beq_nil]; done)), H', ⟨by have := HK1.out; have := HK2.out; have := HJ8.out; have := HJ14.out; omega⟩, ⟨by (with_reducible repeat (first | apply Kd.R_alloc | apply Kd.R_drewN | apply Kd.R_drew)); exact HO_4.out⟩, ⟨by (with_reducible repeat (first | apply Kd.R_alloc | apply Kd.R_drewN | apply Kd.R_drew)); exact HO_5.out⟩, ⟨by repeat (first | (with_reducible first | exact HB.out | apply below_alloc | apply pw_below_drewN | apply below_drew1) | exact HB.out)⟩⟩
                                · rw [if_neg c29] at H
                                  have c29b0 : decide ((rd x4_1 x8_2) < 0) = false := decide_eq_false c29
                                  clear c29
                                  have H' := Aside0.mk H
                                  clear H
                                  obtain ⟨Ao33, co33, eo33⟩ := Kd.R_slice HO_4.out
                                  subst eo33
                                  have p158 : 0 ≤ (x8_2 : Int) := of_decide_eq_true (by first | (with_reducible assumption) | assumption)
                                  have q158 : x8_2 < (x4_1.length : Int) := of_decide_eq_true (by first | (with_reducible assumption) | assumption)
                                  obtain ⟨ad158, e158, hx158_0⟩ := Kd.at_int (Kd.R_reads' HO_4.out).2.2 x8_2 p158 q158
                                  cases e158
                                  replace p158 := eq_true p158
                                  replace q158 := eq_true q158
                                  go_wp2
                                  go_roundg kj14
                                  case measure => have := HK1.out; have := HK2.out; have := HJ8.out; have := HJ14.out; omega
                                  case rel => exact ⟨(wrap64 (x7_2 + (rd x4_1 x8_2))), (wrap64 (x8_2 + 1)), (x9_2), (by first | rfl | (simp; done) | (simp [*]; done) | (simp [Pu.bne_nil, Pu.beq_nil]; done)), (by first | rfl | (simp; done) | (simp [*]; done) | (simp [Pu.bne_nil, Pu.beq_nil]; done)), (by first | rfl | (simp; done) | (simp [*]; done) | (simp [Pu.bne_nil, Pu.beq_nil]; done)), H', ⟨by have := HK1.out; have := HK2.out; have := HJ8.out; have := HJ14.out; omega⟩, ⟨by (with_reducible repeat (first | apply Kd.R_alloc | apply Kd.R_drewN | apply Kd.R_drew)); exact HO_4.out⟩, ⟨by (with_reducible repeat (first | apply Kd.R_alloc | apply Kd.R_drewN | apply Kd.R_drew)); exact HO_5.out⟩, ⟨by repeat (first | (with_reducible first | exact HB.out | apply below_alloc | apply pw_below_drewN | apply below_drew1) | exact HB.out)⟩⟩
                            · rw [if_neg c26] at H
                              have c26b0 : decide (0 < (rd x4_1 x8_2)) = false := decide_eq_false c26
                              clear c26
                              by_cases c34 : (rd x4_1 x8_2) < 0
                              · rw [if_pos c34] at H
                                have c34b0 : decide ((rd x4_1 x8_2) < 0) = true := decide_eq_true c34
                                clear c34
                                by_cases c35 : x7_2 < (wrap64 ((-9223372036854775808) - (rd x4_1 x8_2)))
                                · rw [if_pos c35] at H
                                  have c35b0 : decide (x7_2 < (wrap64 ((-9223372036854775808) - (rd x4_1 x8_2)))) = true := decide_eq_true c35
                                  clear c35
                                  simp only [Option.some.injEq, Prod.mk.injEq] at H
                                  obtain ⟨rfl, rfl⟩ := H
                                  obtain ⟨Ao36, co36, eo36⟩ := Kd.R_slice HO_4.out
                                  subst eo36
                                  have p158 : 0 ≤ (x8_2 : Int) := of_decide_eq_true (by first | (with_reducible assumption) | assumption)
                                  have q158 : x8_2 < (x4_1.length : Int) := of_decide_eq_true (by first | (with_reducible assumption) | assumption)
                                  obtain ⟨ad158, e158, hx158_0⟩ := Kd.at_int (Kd.R_reads' HO_4.out).2.2 x8_2 p158 q158
                                  cases e158
                                  replace p158 := eq_true p158
                                  replace q158 := eq_true q158
                                  go_wp2
                                  go_ret2
                                  exact ⟨by first | rfl | (simp [errW_none, errW_some] <;> rfl) | (simp [*, errW_none, errW_some] <;> rfl), by repeat (first | (with_reducible first | exact HB.out | apply below_alloc | apply pw_below_drewN | apply below_drew1) | exact HB.out)⟩
                                · rw [if_neg c35] at H
                                  have c35b0 : decide (x7_2 < (wrap64 ((-9223372036854775808) - (rd x4_1 x8_2)))) = false := decide_eq_false c35
                                  clear c35
                                  have H' := Aside0.mk H
                                  clear H
                                  obtain ⟨Ao37, co37, eo37⟩ := Kd.R_slice HO_4.out
                                  subst eo37
                                  have p158 : 0 ≤ (x8_2 : Int) := of_decide_eq_true (by first | (with_reducible assumption) | assumption)
                                  have q158 : x8_2 < (x4_1.length : Int) := of_decide_eq_true (by first | (with_reducible assumption) | assumption)
                                  obtain ⟨ad158, e158, hx158_0⟩ := Kd.at_int (Kd.R_reads' HO_4.out).2.2 x8_2 p158 q158
                                  cases e158
                                  replace p158 := eq_true p158
                                  replace q158 := eq_true q158
                                  go_wp2
                                  go_roundg kj14
                                  case measure => have := HK1.out; have := HK2.out; have := HJ8.out; have := HJ14.out; omega
                                  case rel => exact ⟨(wrap64 (x7_2 + (rd x4_1 x8_2))), (wrap64 (x8_2 + 1)), (x9_2), (by first | rfl | (simp; done) | (simp [*]; done) | (simp [Pu.bne_nil, Pu.beq_nil]; done)), (by first | rfl | (simp; done) | (simp [*]; done) | (simp [Pu.bne_nil, Pu.beq_nil]; done)), (by first | rfl | (simp; done) | (simp [*]; done) | (simp [Pu.bne_nil, Pu.beq_nil]; done)), H', ⟨by have := HK1.out; have := HK2.out; have := HJ8.out; have := HJ14.out; omega⟩, ⟨by (with_reducible repeat (first | apply Kd.R_alloc | apply Kd.R_drewN | apply Kd.R_drew)); exact HO_4.out⟩, ⟨by (with_reducible repeat (first | apply Kd.R_alloc | apply Kd.R_drewN | apply Kd.R_drew)); exact HO_5.out⟩, ⟨by repeat (first | (with_reducible first | exact HB.out | apply below_alloc | apply pw_below_drewN | apply below_drew1) | exact HB.out)⟩⟩
                              · rw [if_neg c34] at H
                                have c34b0 : decide ((rd x4_1 x8_2) < 0) = false := decide_eq_false c34
                                clear c34
                                have H' := Aside0.mk H
                                clear H
                                obtain ⟨Ao38, co38, eo38⟩ := Kd.R_slice HO_4.out
                                subst eo38
                                have p158 : 0 ≤ (x8_2 : Int) := of_decide_eq_true (by first | (with_reducible assumption) | assumption)
                                have q158 : x8_2 < (x4_1.length : Int) := of_decide_eq_true (by first | (with_reducible assumption) | assumption)
                                obtain ⟨ad158, e158, hx158_0⟩ := Kd.at_int (Kd.R_reads' HO_4.out).2.2 x8_2 p158 q158
                                cases e158
                                replace p158 := eq_true p158
                                replace q158 := eq_true q158
                                go_wp2
                                go_roundg kj14
                                case measure => have := HK1.out; have := HK2.out; have := HJ8.out; have := HJ14.out; omega
                                case rel => exact ⟨(wrap64 (x7_2 + (rd x4_1 x8_2))), (wrap64 (x8_2 + 1)), (x9_2), (by first | rfl | (simp; done) | (simp [*]; done) | (simp [Pu.bne_nil, Pu.beq_nil]; done)), (by first | rfl | (simp; done) | (simp [*]; done) | (simp [Pu.bne_nil, Pu.beq_nil]; done)), (by first | rfl | (simp; done) | (simp [*]; done) | (simp [Pu.bne_nil, Pu.beq_nil]; done)), H', ⟨by have := HK1.out; have := HK2.out; have := HJ8.out; have := HJ14.out; omega⟩, ⟨by (with_reducible repeat (first | apply Kd.R_alloc | apply Kd.R_drewN | apply Kd.R_drew)); exact HO_4.out⟩, ⟨by (with_reducible repeat (first | apply Kd.R_alloc | apply Kd.R_drewN | apply Kd.R_drew)); exact HO_5.out⟩, ⟨by repeat (first | (with_reducible first | exact HB.out | apply below_alloc | apply pw_below_drewN | apply below_drew1) | exact HB.out)⟩⟩
                          · rw [if_neg c25] at H
                            exact absurd H (by simp)
                        · rw [if_neg c24] at H
                          exact absurd H (by simp)
                      · replace c23 := Bool.eq_false_iff.mpr c23
                        subst c23
                        have H1 : (if 0 ≤ x9_2 then (if x9_2 < (x5_1.length : Int) then (if (rd x5_1 x9_2) > 0 then (if x7_2 > (wrap64 (9223372036854775807 - (rd x5_1 x9_2))) then (some (0, false)) else (if (rd x5_1 x9_2) < 0 then (if x7_2 < (wrap64 ((-9223372036854775808) - (rd x5_1 x9_2))) then (some (0, false)) else (bursarref01_Sum.l1 kj14 x4_1 x5_1 (wrap64 (x7_2 + (rd x5_1 x9_2))) x8_2 (wrap64 (x9_2 + 1)))) else (bursarref01_Sum.l1 kj14 x4_1 x5_1 (wrap64 (x7_2 + (rd x5_1 x9_2))) x8_2 (wrap64 (x9_2 + 1))))) else (if (rd x5_1 x9_2) < 0 then (if x7_2 < (wrap64 ((-9223372036854775808) - (rd x5_1 x9_2))) then (some (0, false)) else (bursarref01_Sum.l1 kj14 x4_1 x5_1 (wrap64 (x7_2 + (rd x5_1 x9_2))) x8_2 (wrap64 (x9_2 + 1)))) else (bursarref01_Sum.l1 kj14 x4_1 x5_1 (wrap64 (x7_2 + (rd x5_1 x9_2))) x8_2 (wrap64 (x9_2 + 1))))) else (none)) else (none)) = some (r1, r2) := by rw [if_neg (show ¬ (false = true) by decide)] at H; exact H
                        clear H
                        have H := H1
                        clear H1
                        by_cases c39 : 0 ≤ x9_2
                        · rw [if_pos c39] at H
                          have c39b0 : decide (0 ≤ x9_2) = true := decide_eq_true c39
                          clear c39
                          by_cases c40 : x9_2 < (x5_1.length : Int)
                          · rw [if_pos c40] at H
                            have c40b0 : decide (x9_2 < (x5_1.length : Int)) = true := decide_eq_true c40
                            clear c40
                            by_cases c41 : (rd x5_1 x9_2) > 0
                            · rw [if_pos c41] at H
                              have c41b0 : decide (0 < (rd x5_1 x9_2)) = true := decide_eq_true c41
                              clear c41
                              by_cases c42 : x7_2 > (wrap64 (9223372036854775807 - (rd x5_1 x9_2)))
                              · rw [if_pos c42] at H
                                have c42b0 : decide ((wrap64 (9223372036854775807 - (rd x5_1 x9_2))) < x7_2) = true := decide_eq_true c42
                                clear c42
                                simp only [Option.some.injEq, Prod.mk.injEq] at H
                                obtain ⟨rfl, rfl⟩ := H
                                obtain ⟨Ao43, co43, eo43⟩ := Kd.R_slice HO_5.out
                                subst eo43
                                have p159 : 0 ≤ (x9_2 : Int) := of_decide_eq_true (by first | (with_reducible assumption) | assumption)
                                have q159 : x9_2 < (x5_1.length : Int) := of_decide_eq_true (by first | (with_reducible assumption) | assumption)
                                obtain ⟨ad159, e159, hx159_0⟩ := Kd.at_int (Kd.R_reads' HO_5.out).2.2 x9_2 p159 q159
                                cases e159
                                replace p159 := eq_true p159
                                replace q159 := eq_true q159
                                go_wp2
                                go_ret2
                                exact ⟨by first | rfl | (simp [errW_none, errW_some] <;> rfl) | (simp [*, errW_none, errW_some] <;> rfl), by repeat (first | (with_reducible first | exact HB.out | apply below_alloc | apply pw_below_drewN | apply below_drew1) | exact HB.out)⟩
                              · rw [if_neg c42] at H
                                have c42b0 : decide ((wrap64 (9223372036854775807 - (rd x5_1 x9_2))) < x7_2) = false := decide_eq_false c42
                                clear c42
                                by_cases c44 : (rd x5_1 x9_2) < 0
                                · rw [if_pos c44] at H
                                  have c44b0 : decide ((rd x5_1 x9_2) < 0) = true := decide_eq_true c44
                                  clear c44
                                  by_cases c45 : x7_2 < (wrap64 ((-9223372036854775808) - (rd x5_1 x9_2)))
                                  · rw [if_pos c45] at H
                                    have c45b0 : decide (x7_2 < (wrap64 ((-9223372036854775808) - (rd x5_1 x9_2)))) = true := decide_eq_true c45
                                    clear c45
                                    simp only [Option.some.injEq, Prod.mk.injEq] at H
                                    obtain ⟨rfl, rfl⟩ := H
                                    obtain ⟨Ao46, co46, eo46⟩ := Kd.R_slice HO_5.out
                                    subst eo46
                                    have p159 : 0 ≤ (x9_2 : Int) := of_decide_eq_true (by first | (with_reducible assumption) | assumption)
                                    have q159 : x9_2 < (x5_1.length : Int) := of_decide_eq_true (by first | (with_reducible assumption) | assumption)
                                    obtain ⟨ad159, e159, hx159_0⟩ := Kd.at_int (Kd.R_reads' HO_5.out).2.2 x9_2 p159 q159
                                    cases e159
                                    replace p159 := eq_true p159
                                    replace q159 := eq_true q159
                                    go_wp2
                                    go_ret2
                                    exact ⟨by first | rfl | (simp [errW_none, errW_some] <;> rfl) | (simp [*, errW_none, errW_some] <;> rfl), by repeat (first | (with_reducible first | exact HB.out | apply below_alloc | apply pw_below_drewN | apply below_drew1) | exact HB.out)⟩
                                  · rw [if_neg c45] at H
                                    have c45b0 : decide (x7_2 < (wrap64 ((-9223372036854775808) - (rd x5_1 x9_2)))) = false := decide_eq_false c45
                                    clear c45
                                    have H' := Aside0.mk H
                                    clear H
                                    obtain ⟨Ao47, co47, eo47⟩ := Kd.R_slice HO_5.out
                                    subst eo47
                                    have p159 : 0 ≤ (x9_2 : Int) := of_decide_eq_true (by first | (with_reducible assumption) | assumption)
                                    have q159 : x9_2 < (x5_1.length : Int) := of_decide_eq_true (by first | (with_reducible assumption) | assumption)
                                    obtain ⟨ad159, e159, hx159_0⟩ := Kd.at_int (Kd.R_reads' HO_5.out).2.2 x9_2 p159 q159
                                    cases e159
                                    replace p159 := eq_true p159
                                    replace q159 := eq_true q159
                                    go_wp2
                                    go_roundg kj14
                                    case measure => have := HK1.out; have := HK2.out; have := HJ8.out; have := HJ14.out; omega
                                    case rel => exact ⟨(wrap64 (x7_2 + (rd x5_1 x9_2))), (x8_2), (wrap64 (x9_2 + 1)), (by first | rfl | (simp; done) | (simp [*]; done) | (simp [Pu.bne_nil, Pu.beq_nil]; done)), (by first | rfl | (simp; done) | (simp [*]; done) | (simp [Pu.bne_nil, Pu.beq_nil]; done)), (by first | rfl | (simp; done) | (simp [*]; done) | (simp [Pu.bne_nil, Pu.beq_nil]; done)), H', ⟨by have := HK1.out; have := HK2.out; have := HJ8.out; have := HJ14.out; omega⟩, ⟨by (with_reducible repeat (first | apply Kd.R_alloc | apply Kd.R_drewN | apply Kd.R_drew)); exact HO_4.out⟩, ⟨by (with_reducible repeat (first | apply Kd.R_alloc | apply Kd.R_drewN | apply Kd.R_drew)); exact HO_5.out⟩, ⟨by repeat (first | (with_reducible first | exact HB.out | apply below_alloc | apply pw_below_drewN | apply below_drew1) | exact HB.out)⟩⟩
                                · rw [if_neg c44] at H
                                  have c44b0 : decide ((rd x5_1 x9_2) < 0) = false := decide_eq_false c44
                                  clear c44
                                  have H' := Aside0.mk H
                                  clear H
                                  obtain ⟨Ao48, co48, eo48⟩ := Kd.R_slice HO_5.out
                                  subst eo48
                                  have p159 : 0 ≤ (x9_2 : Int) := of_decide_eq_true (by first | (with_reducible assumption) | assumption)
                                  have q159 : x9_2 < (x5_1.length : Int) := of_decide_eq_true (by first | (with_reducible assumption) | assumption)
                                  obtain ⟨ad159, e159, hx159_0⟩ := Kd.at_int (Kd.R_reads' HO_5.out).2.2 x9_2 p159 q159
                                  cases e159
                                  replace p159 := eq_true p159
                                  replace q159 := eq_true q159
                                  go_wp2
                                  go_roundg kj14
                                  case measure => have := HK1.out; have := HK2.out; have := HJ8.out; have := HJ14.out; omega
                                  case rel => exact ⟨(wrap64 (x7_2 + (rd x5_1 x9_2))), (x8_2), (wrap64 (x9_2 + 1)), (by first | rfl | (simp; done) | (simp [*]; done) | (simp [Pu.bne_nil, Pu.beq_nil]; done)), (by first | rfl | (simp; done) | (simp [*]; done) | (simp [Pu.bne_nil, Pu.beq_nil]; done)), (by first | rfl | (simp; done) | (simp [*]; done) | (simp [Pu.bne_nil, Pu.beq_nil]; done)), H', ⟨by have := HK1.out; have := HK2.out; have := HJ8.out; have := HJ14.out; omega⟩, ⟨by (with_reducible repeat (first | apply Kd.R_alloc | apply Kd.R_drewN | apply Kd.R_drew)); exact HO_4.out⟩, ⟨by (with_reducible repeat (first | apply Kd.R_alloc | apply Kd.R_drewN | apply Kd.R_drew)); exact HO_5.out⟩, ⟨by repeat (first | (with_reducible first | exact HB.out | apply below_alloc | apply pw_below_drewN | apply below_drew1) | exact HB.out)⟩⟩
                            · rw [if_neg c41] at H
                              have c41b0 : decide (0 < (rd x5_1 x9_2)) = false := decide_eq_false c41
                              clear c41
                              by_cases c49 : (rd x5_1 x9_2) < 0
                              · rw [if_pos c49] at H
                                have c49b0 : decide ((rd x5_1 x9_2) < 0) = true := decide_eq_true c49
                                clear c49
                                by_cases c50 : x7_2 < (wrap64 ((-9223372036854775808) - (rd x5_1 x9_2)))
                                · rw [if_pos c50] at H
                                  have c50b0 : decide (x7_2 < (wrap64 ((-9223372036854775808) - (rd x5_1 x9_2)))) = true := decide_eq_true c50
                                  clear c50
                                  simp only [Option.some.injEq, Prod.mk.injEq] at H
                                  obtain ⟨rfl, rfl⟩ := H
                                  obtain ⟨Ao51, co51, eo51⟩ := Kd.R_slice HO_5.out
                                  subst eo51
                                  have p159 : 0 ≤ (x9_2 : Int) := of_decide_eq_true (by first | (with_reducible assumption) | assumption)
                                  have q159 : x9_2 < (x5_1.length : Int) := of_decide_eq_true (by first | (with_reducible assumption) | assumption)
                                  obtain ⟨ad159, e159, hx159_0⟩ := Kd.at_int (Kd.R_reads' HO_5.out).2.2 x9_2 p159 q159
                                  cases e159
                                  replace p159 := eq_true p159
                                  replace q159 := eq_true q159
                                  go_wp2
                                  go_ret2
                                  exact ⟨by first | rfl | (simp [errW_none, errW_some] <;> rfl) | (simp [*, errW_none, errW_some] <;> rfl), by repeat (first | (with_reducible first | exact HB.out | apply below_alloc | apply pw_below_drewN | apply below_drew1) | exact HB.out)⟩
                                · rw [if_neg c50] at H
                                  have c50b0 : decide (x7_2 < (wrap64 ((-9223372036854775808) - (rd x5_1 x9_2)))) = false := decide_eq_false c50
                                  clear c50
                                  have H' := Aside0.mk H
                                  clear H
                                  obtain ⟨Ao52, co52, eo52⟩ := Kd.R_slice HO_5.out
                                  subst eo52
                                  have p159 : 0 ≤ (x9_2 : Int) := of_decide_eq_true (by first | (with_reducible assumption) | assumption)
                                  have q159 : x9_2 < (x5_1.length : Int) := of_decide_eq_true (by first | (with_reducible assumption) | assumption)
                                  obtain ⟨ad159, e159, hx159_0⟩ := Kd.at_int (Kd.R_reads' HO_5.out).2.2 x9_2 p159 q159
                                  cases e159
                                  replace p159 := eq_true p159
                                  replace q159 := eq_true q159
                                  go_wp2
                                  go_roundg kj14
                                  case measure => have := HK1.out; have := HK2.out; have := HJ8.out; have := HJ14.out; omega
                                  case rel => exact ⟨(wrap64 (x7_2 + (rd x5_1 x9_2))), (x8_2), (wrap64 (x9_2 + 1)), (by first | rfl | (simp; done) | (simp [*]; done) | (simp [Pu.bne_nil, Pu.beq_nil]; done)), (by first | rfl | (simp; done) | (simp [*]; done) | (simp [Pu.bne_nil, Pu.beq_nil]; done)), (by first | rfl | (simp; done) | (simp [*]; done) | (simp [Pu.bne_nil, Pu.beq_nil]; done)), H', ⟨by have := HK1.out; have := HK2.out; have := HJ8.out; have := HJ14.out; omega⟩, ⟨by (with_reducible repeat (first | apply Kd.R_alloc | apply Kd.R_drewN | apply Kd.R_drew)); exact HO_4.out⟩, ⟨by (with_reducible repeat (first | apply Kd.R_alloc | apply Kd.R_drewN | apply Kd.R_drew)); exact HO_5.out⟩, ⟨by repeat (first | (with_reducible first | exact HB.out | apply below_alloc | apply pw_below_drewN | apply below_drew1) | exact HB.out)⟩⟩
                              · rw [if_neg c49] at H
                                have c49b0 : decide ((rd x5_1 x9_2) < 0) = false := decide_eq_false c49
                                clear c49
                                have H' := Aside0.mk H
                                clear H
                                obtain ⟨Ao53, co53, eo53⟩ := Kd.R_slice HO_5.out
                                subst eo53
                                have p159 : 0 ≤ (x9_2 : Int) := of_decide_eq_true (by first | (with_reducible assumption) | assumption)
                                have q159 : x9_2 < (x5_1.length : Int) := of_decide_eq_true (by first | (with_reducible assumption) | assumption)
                                obtain ⟨ad159, e159, hx159_0⟩ := Kd.at_int (Kd.R_reads' HO_5.out).2.2 x9_2 p159 q159
                                cases e159
                                replace p159 := eq_true p159
                                replace q159 := eq_true q159
                                go_wp2
                                go_roundg kj14
                                case measure => have := HK1.out; have := HK2.out; have := HJ8.out; have := HJ14.out; omega
                                case rel => exact ⟨(wrap64 (x7_2 + (rd x5_1 x9_2))), (x8_2), (wrap64 (x9_2 + 1)), (by first | rfl | (simp; done) | (simp [*]; done) | (simp [Pu.bne_nil, Pu.beq_nil]; done)), (by first | rfl | (simp; done) | (simp [*]; done) | (simp [Pu.bne_nil, Pu.beq_nil]; done)), (by first | rfl | (simp; done) | (simp [*]; done) | (simp [Pu.bne_nil, Pu.beq_nil]; done)), H', ⟨by have := HK1.out; have := HK2.out; have := HJ8.out; have := HJ14.out; omega⟩, ⟨by (with_reducible repeat (first | apply Kd.R_alloc | apply Kd.R_drewN | apply Kd.R_drew)); exact HO_4.out⟩, ⟨by (with_reducible repeat (first | apply Kd.R_alloc | apply Kd.R_drewN | apply Kd.R_drew)); exact HO_5.out⟩, ⟨by repeat (first | (with_reducible first | exact HB.out | apply below_alloc | apply pw_below_drewN | apply below_drew1) | exact HB.out)⟩⟩
                          · rw [if_neg c40] at H
                            exact absurd H (by simp)
                        · rw [if_neg c39] at H
                          exact absurd H (by simp)
                · replace c14 := Bool.eq_false_iff.mpr c14
                  subst c14
                  have H1 : (some (x7_2, true)) = some (r1, r2) := by rw [if_neg (show ¬ (false = true) by decide)] at H; exact H
                  clear H
                  have H := H1
                  clear H1
                  simp only [Option.some.injEq, Prod.mk.injEq] at H
                  obtain ⟨rfl, rfl⟩ := H
                  go_wp2
                  go_ret2
                  exact ⟨by first | rfl | (simp [errW_none, errW_some] <;> rfl) | (simp [*, errW_none, errW_some] <;> rfl), by repeat (first | (with_reducible first | exact HB.out | apply below_alloc | apply pw_below_drewN | apply below_drew1) | exact HB.out)⟩

end Go.Proofs.Ytddlmcaclbkopaa.XAU
