-- Written by wip/xprint.py, a session's program: printed out of the translation, with hand-written functions. Lean checks it.
import Derived.Test.YtaifcadnnmicnaaXE0
import Derived.Test.YtaifcadnnmicnaaXE9
namespace Go.Proofs.Ytaifcadnnmicnaa.XE
open Go.RowKit Go.Proofs.YtaifcadnnmicnaaW.PrintWords Go.Proofs.YtaifcadnnmicnaaW.PrintLast Go.Proofs.YtaifcadnnmicnaaW.PrintMore
attribute [local go_sem] max2_int min2_int max_two min_two max_three min_three max_four min_four   -- for this text's walks alone
set_option linter.unusedVariables false
set_option linter.unusedSimpArgs false

/-! ### bursarref15_open: function 36 -/
def bursarref15_open.l0 : Nat → List (S30) → List Int → Int → Option (List Int)
  | 0, _, _, _ => none
  | k + 1, x0, x3, x4 => if x4 < (x0.length : Int) then (if 0 ≤ x4 then ((bursarref14_May.f ((rd_T30 x0 x4).f0) ((rd_T30 x0 x4).f1) ((rd_T30 x0 x4).f2) ((rd_T30 x0 x4).f3) ((rd_T30 x0 x4).f4) ((rd_T30 x0 x4).f5) ((rd_T30 x0 x4).f6)).bind fun t229 => (if t229 = true then (if (rd_T30 x0 x4).f6 = true then (if x3.length < 17592186044416 then (bursarref15_open.l0 k x0 (x3 ++ [x4]) (wrap64 (x4 + 1))) else (none)) else (bursarref15_open.l0 k x0 x3 (wrap64 (x4 + 1)))) else (bursarref15_open.l0 k x0 x3 (wrap64 (x4 + 1))))) else (none)) else (some x3)
def bursarref15_open.f (k : Nat) (l0 : List (S30)) : Option (List Int) := bursarref15_open.l0 k l0 ([] : List Int) 0
theorem bursarref15_open.mono_l : ∀ k, (∀ y0 y1 y2, LeO (bursarref15_open.l0 k y0 y1 y2) (bursarref15_open.l0 (k + 1) y0 y1 y2))
  | 0 => fun _ _ _ r h => by simp [bursarref15_open.l0] at h
  | k + 1 => by
    have ih0 := bursarref15_open.mono_l k
    · intro y0 y1 y2
      unfold bursarref15_open.l0
      repeat' first
      | (with_reducible exact ih0 _ _ _)
      | (with_reducible exact LeO.refl _)
      | (with_reducible exact LeO.none _)
      | (with_reducible refine LeO.ite ?_ ?_)
      | (with_reducible refine LeO.bind ?_ (fun _ => ?_))
      | exact ih0 _ _ _
      | exact LeO.none _
      | refine LeO.ite ?_ ?_
      | refine LeO.bind ?_ (fun _ => ?_)
theorem bursarref15_open.mono : ∀ a0 k, LeO (bursarref15_open.f k a0) (bursarref15_open.f (k + 1) a0) := by
  intro a0 k
  have ih0 := bursarref15_open.mono_l k
  unfold bursarref15_open.f
  repeat' first
      | (with_reducible exact ih0 _ _ _)
      | (with_reducible exact LeO.refl _)
      | (with_reducible exact LeO.none _)
      | (with_reducible refine LeO.ite ?_ ?_)
      | (with_reducible refine LeO.bind ?_ (fun _ => ?_))
      | exact ih0 _ _ _
      | exact LeO.none _
      | refine LeO.ite ?_ ?_
      | refine LeO.bind ?_ (fun _ => ?_)
set_option maxHeartbeats 8000000 in
set_option maxRecDepth 100000 in
theorem bursarref15_open.calls (k : Nat) (A0 : Option Addr) (c0 : Nat) (l0 : List (S30)) (r : List Int) (w : World) (hr0 : Kd.C k30 w A0 l0.length l0) (hc0 : l0.length ≤ c0) (h : bursarref15_open.f k l0 = some r) :
    Calls Try.prog 36 #[.slice A0 l0.length c0] w fun e w' => ∃ v0_ : Value, e = .returned (v0_) ∧ Kd.R (Kd.int .i64) 3 w' w.heap.size (fun _ => True) v0_ r ∧ Below w.heap.size w w' := by
  have hu30 := Try.underlying30
  have HR0 := Aside0.mk hr0
  have HC0 := Aside0.mk hc0
  clear hr0 hc0
  have HB := Aside0.mk (Below.refl w.heap.size w)
  have H : (bursarref15_open.l0 k l0 ([] : List Int) 0) = some r := h
  clear h
  have H' := Aside0.mk H
  clear H
  go_enter Try.func36, Try.ntmps36
  go_wp2
  go_loopg [3, 4] k (fun kq v3 v4 w' => ∃ (x3_1 : List Int) (x4_1 : Int), v4 = .int .i64 x4_1 ∧ Aside0 (bursarref15_open.l0 kq l0 x3_1 x4_1 = some r) ∧ Aside0 (kq ≤ k) ∧ Aside0 (Kd.R (Kd.int .i64) 3 w' w.heap.size (fun _ => True) v3 x3_1) ∧ Aside0 (Below w.heap.size w w'))
  case atStart => exact ⟨(([] : List Int)), (0), (by first | rfl | (simp; done) | (simp [*]; done) | (simp [Pu.bne_nil, Pu.beq_nil]; done)), H', ⟨Nat.le_refl _⟩, ⟨by first | exact Kd.R_nil _ _ _ _ _ | exact Kd.N_nil _ _ _ _ _ | exact Kd.V_nil _ _ _ _ _ | exact Kd.Q_nil _ _ _ _ _ | exact Kd.S_nil _ _ _ _ _⟩, ⟨by repeat (first | (with_reducible first | exact HB.out | apply below_alloc | apply pw_below_drewN | apply below_drew1) | exact HB.out)⟩⟩
  case round =>
    clear H'
    obtain ⟨x3_1, x4_1, rfl, HA, HK1, HO_3, HB⟩ := hrel
    cases gk with
    | zero => exact absurd HA.out (by simp [bursarref15_open.l0])
    | succ k1 =>
      have H := HA.out
      clear HA
      simp only [bursarref15_open.l0] at H
      by_cases c2 : x4_1 < (l0.length : Int)
      · rw [if_pos c2] at H
        have c2b0 : decide (x4_1 < (l0.length : Int)) = true := decide_eq_true c2
        clear c2
        by_cases c3 : 0 ≤ x4_1
        · rw [if_pos c3] at H
          have c3b0 : decide (0 ≤ x4_1) = true := decide_eq_true c3
          clear c3
          replace H := Option.bind_eq_some_iff.mp H
          obtain ⟨t229, A40, H⟩ := H
          replace H : (if t229 = true then (if (rd_T30 l0 x4_1).f6 = true then (if x3_1.length < 17592186044416 then (bursarref15_open.l0 k1 l0 (x3_1 ++ [x4_1]) (wrap64 (x4_1 + 1))) else (none)) else (bursarref15_open.l0 k1 l0 x3_1 (wrap64 (x4_1 + 1)))) else (bursarref15_open.l0 k1 l0 x3_1 (wrap64 (x4_1 + 1)))) = some r := H
          have A4 := Aside0.mk A40
          clear A40
          by_cases c5 : t229 = true
          · subst c5
            have H1 : (if (rd_T30 l0 x4_1).f6 = true then (if x3_1.length < 17592186044416 then (bursarref15_open.l0 k1 l0 (x3_1 ++ [x4_1]) (wrap64 (x4_1 + 1))) else (none)) else (bursarref15_open.l0 k1 l0 x3_1 (wrap64 (x4_1 + 1)))) = some r := by rw [if_pos rfl] at H; exact H
            clear H
            have H := H1
            clear H1
            obtain ⟨bq6, hbq6⟩ : ∃ b_ : Bool, b_ = ((rd_T30 l0 x4_1).f6) := ⟨_, rfl⟩
            replace H : (if bq6 = true then (if x3_1.length < 17592186044416 then (bursarref15_open.l0 k1 l0 (x3_1 ++ [x4_1]) (wrap64 (x4_1 + 1))) else (none)) else (bursarref15_open.l0 k1 l0 x3_1 (wrap64 (x4_1 + 1)))) = some r := by rw [← hbq6] at H; exact H
            have Nbq6 := Aside0.mk hbq6
            clear hbq6
            by_cases c7 : bq6 = true
            · subst c7
              have H1 : (if x3_1.length < 17592186044416 then (bursarref15_open.l0 k1 l0 (x3_1 ++ [x4_1]) (wrap64 (x4_1 + 1))) else (none)) = some r := by rw [if_pos rfl] at H; exact H
              clear H
              have H := H1
              clear H1
              by_cases c8 : x3_1.length < 17592186044416
              · rw [if_pos c8] at H
                have LMc8 := Aside0.mk c8
                clear c8
                obtain ⟨y231, hy231⟩ : ∃ y_ : List Int, y_ = (x3_1 ++ [x4_1]) := ⟨_, rfl⟩
                replace H : (bursarref15_open.l0 k1 l0 y231 (wrap64 (x4_1 + 1))) = some r := by first | (rw [hy231]; with_reducible exact H) | (have H2_ := (Option.bind_some _ _).symm.trans H; rw [hy231]; with_reducible exact H2_) | (have H2_ := (Option.bind_some _ _).symm.trans H; with_reducible exact H2_) | with_reducible exact H | (rw [hy231]; exact H) | exact H
                have Ny231 := Aside0.mk hy231
                clear hy231
                have H' := Aside0.mk H
                clear H
                have p228 : 0 ≤ (x4_1 : Int) := of_decide_eq_true (by first | (with_reducible assumption) | assumption)
                have q228 : x4_1 < (l0.length : Int) := of_decide_eq_true (by first | (with_reducible assumption) | assumption)
                obtain ⟨ad228, e228, hx228_0, hx228_1, hx228_2, hx228_3, hx228_4, hx228_5, hx228_6⟩ := at_T30 HR0.out x4_1 p228 q228
                (try rw [← Nbq6.out] at hx228_6)
                cases e228
                replace hx228_0 := (HB.out.cell (World.block_lt_of_cell? w _ hx228_0)).trans hx228_0
                replace hx228_1 := (HB.out.cell (World.block_lt_of_cell? w _ hx228_1)).trans hx228_1
                replace hx228_2 := (HB.out.cell (World.block_lt_of_cell? w _ hx228_2)).trans hx228_2
                replace hx228_3 := (HB.out.cell (World.block_lt_of_cell? w _ hx228_3)).trans hx228_3
                replace hx228_4 := (HB.out.cell (World.block_lt_of_cell? w _ hx228_4)).trans hx228_4
                replace hx228_5 := (HB.out.cell (World.block_lt_of_cell? w _ hx228_5)).trans hx228_5
                replace hx228_6 := (HB.out.cell (World.block_lt_of_cell? w _ hx228_6)).trans hx228_6
                replace p228 := eq_true p228
                replace q228 := eq_true q228
                go_wp2_with (first | ((with_reducible refine gate_callee (f := 9) rfl ?_); refine goesL_ (some 15) rfl rfl Try.func9 (by kernel_rfl) rfl #[.agg #[.string ((rd_T30 l0 x4_1).f0), .string ((rd_T30 l0 x4_1).f1), .string ((rd_T30 l0 x4_1).f2), .int .i64 ((rd_T30 l0 x4_1).f3), .int .i64 ((rd_T30 l0 x4_1).f4), .int .i64 ((rd_T30 l0 x4_1).f5), .bool true]] rfl (by (try simp only [List.map_toArray, List.map_cons, List.map_nil]); first | done | rfl | (simp only [List.length_drop, List.length_take]; rfl)) ?_; (with_reducible refine (bursarref14_May.calls ((rd_T30 l0 x4_1).f0) ((rd_T30 l0 x4_1).f1) ((rd_T30 l0 x4_1).f2) ((rd_T30 l0 x4_1).f3) ((rd_T30 l0 x4_1).f4) ((rd_T30 l0 x4_1).f5) true true _ (by have h_ := A4.out; rw [← Nbq6.out] at h_; exact h_)).mono ?_); rintro e w9 ⟨rfl, hb⟩; refine ⟨_, rfl, ?_⟩; have n0_ := Aside0.mk (Kd.R_below (by (with_reducible repeat (first | apply Kd.R_alloc | apply Kd.R_drewN | apply Kd.R_drew)); exact HO_3.out) hb); have n1_ := Aside0.mk (below_step (by repeat (first | (with_reducible first | exact HB.out | apply below_alloc | apply pw_below_drewN | apply below_drew1) | exact HB.out)) hb); clear HO_3; clear HB; have HO_3 := n0_; have HB := n1_; clear n0_ n1_; (try clear hb); (try clear hb2); (try clear hk); (try clear hi); have p230 : 0 ≤ (x4_1 : Int) := of_decide_eq_true (by first | (with_reducible assumption) | assumption); have q230 : x4_1 < (l0.length : Int) := of_decide_eq_true (by first | (with_reducible assumption) | assumption); obtain ⟨ad230, e230, hx230_0, hx230_1, hx230_2, hx230_3, hx230_4, hx230_5, hx230_6⟩ := at_T30 HR0.out x4_1 p230 q230; (try rw [← Nbq6.out] at hx230_6); obtain rfl : ad228 = ad230 := (by injection e230); replace hx230_0 := (HB.out.cell (World.block_lt_of_cell? w _ hx230_0)).trans hx230_0; replace hx230_1 := (HB.out.cell (World.block_lt_of_cell? w _ hx230_1)).trans hx230_1; replace hx230_2 := (HB.out.cell (World.block_lt_of_cell? w _ hx230_2)).trans hx230_2; replace hx230_3 := (HB.out.cell (World.block_lt_of_cell? w _ hx230_3)).trans hx230_3; replace hx230_4 := (HB.out.cell (World.block_lt_of_cell? w _ hx230_4)).trans hx230_4; replace hx230_5 := (HB.out.cell (World.block_lt_of_cell? w _ hx230_5)).trans hx230_5; replace hx230_6 := (HB.out.cell (World.block_lt_of_cell? w _ hx230_6)).trans hx230_6; replace p230 := eq_true p230; replace q230 := eq_true q230) | ((with_reducible refine gate_builtin (b := .append) (xs := #[.tmp 23, .tmp 25]) rfl ?_); at_builtin; refine Kd.R_append (Kd.int .i64) (w0 := w) w.heap.size rfl (.tmp 23) (.tmp 25) 24 3 (.int .i64 0) 8 rfl Try.underlying24 info3 rfl (by decide) (by omega) u3 x3_1 x4_1 [.int .i64 x4_1] (fun _ => True) (fun _ => False) rfl rfl ?aP (fun _ hk => hk.elim) ?aF ?aO ?aB ?aS ?aL ?_; (case aP => exact rfl); (case aB => exact (by repeat (first | (with_reducible first | exact HB.out | apply below_alloc | apply pw_below_drewN | apply below_drew1) | exact HB.out))); (case aF => exact (fun _ _ => trivial)); (case aO => exact (by (with_reducible repeat (first | apply Kd.R_alloc | apply Kd.R_drewN | apply Kd.R_drew)); exact HO_3.out)); (case aS => exact (below_size (by repeat (first | (with_reducible first | exact HB.out | apply below_alloc | apply pw_below_drewN | apply below_drew1) | exact HB.out)))); (case aL => have := LMc8.out; omega); intro v232 w10 ho hb hg hat; rw [← Ny231.out] at ho; have n0_ := Aside0.mk (hb); have n1_ := Aside0.mk (ho); clear HB; clear HO_3; have HB := n0_; have HO233 := n1_; clear n0_ n1_; clear ho hb hg hat))
                go_roundg k1
                case measure => have := HK1.out; omega
                case rel => exact ⟨(y231), (wrap64 (x4_1 + 1)), (by first | rfl | (simp; done) | (simp [*]; done) | (simp [Pu.bne_nil, Pu.beq_nil]; done)), H', ⟨by have := HK1.out; omega⟩, ⟨by (with_reducible repeat (first | apply Kd.R_alloc | apply Kd.R_drewN | apply Kd.R_drew)); exact HO233.out⟩, ⟨by repeat (first | (with_reducible first | exact HB.out | apply below_alloc | apply pw_below_drewN | apply below_drew1) | exact HB.out)⟩⟩
              · rw [if_neg c8] at H
                exact absurd H (by simp)
            · replace c7 := Bool.eq_false_iff.mpr c7
              subst c7
              have H1 : (bursarref15_open.l0 k1 l0 x3_1 (wrap64 (x4_1 + 1))) = some r := by rw [if_neg (show ¬ (false = true) by decide)] at H; exact H
              clear H
              have H := H1
              clear H1
              have H' := Aside0.mk H
              clear H
              have p228 : 0 ≤ (x4_1 : Int) := of_decide_eq_true (by first | (with_reducible assumption) | assumption)
              have q228 : x4_1 < (l0.length : Int) := of_decide_eq_true (by first | (with_reducible assumption) | assumption)
              obtain ⟨ad228, e228, hx228_0, hx228_1, hx228_2, hx228_3, hx228_4, hx228_5, hx228_6⟩ := at_T30 HR0.out x4_1 p228 q228
              (try rw [← Nbq6.out] at hx228_6)
              cases e228
              replace hx228_0 := (HB.out.cell (World.block_lt_of_cell? w _ hx228_0)).trans hx228_0
              replace hx228_1 := (HB.out.cell (World.block_lt_of_cell? w _ hx228_1)).trans hx228_1
              replace hx228_2 := (HB.out.cell (World.block_lt_of_cell? w _ hx228_2)).trans hx228_2
              replace hx228_3 := (HB.out.cell (World.block_lt_of_cell? w _ hx228_3)).trans hx228_3
              replace hx228_4 := (HB.out.cell (World.block_lt_of_cell? w _ hx228_4)).trans hx228_4
              replace hx228_5 := (HB.out.cell (World.block_lt_of_cell? w _ hx228_5)).trans hx228_5
              replace hx228_6 := (HB.out.cell (World.block_lt_of_cell? w _ hx228_6)).trans hx228_6
              replace p228 := eq_true p228
              replace q228 := eq_true q228
              go_wp2_with (first | ((with_reducible refine gate_callee (f := 9) rfl ?_); refine goesL_ (some 15) rfl rfl Try.func9 (by kernel_rfl) rfl #[.agg #[.string ((rd_T30 l0 x4_1).f0), .string ((rd_T30 l0 x4_1).f1), .string ((rd_T30 l0 x4_1).f2), .int .i64 ((rd_T30 l0 x4_1).f3), .int .i64 ((rd_T30 l0 x4_1).f4), .int .i64 ((rd_T30 l0 x4_1).f5), .bool false]] rfl (by (try simp only [List.map_toArray, List.map_cons, List.map_nil]); first | done | rfl | (simp only [List.length_drop, List.length_take]; rfl)) ?_; (with_reducible refine (bursarref14_May.calls ((rd_T30 l0 x4_1).f0) ((rd_T30 l0 x4_1).f1) ((rd_T30 l0 x4_1).f2) ((rd_T30 l0 x4_1).f3) ((rd_T30 l0 x4_1).f4) ((rd_T30 l0 x4_1).f5) false true _ (by have h_ := A4.out; rw [← Nbq6.out] at h_; exact h_)).mono ?_); rintro e w11 ⟨rfl, hb⟩; refine ⟨_, rfl, ?_⟩; have n0_ := Aside0.mk (Kd.R_below (by (with_reducible repeat (first | apply Kd.R_alloc | apply Kd.R_drewN | apply Kd.R_drew)); exact HO_3.out) hb); have n1_ := Aside0.mk (below_step (by repeat (first | (with_reducible first | exact HB.out | apply below_alloc | apply pw_below_drewN | apply below_drew1) | exact HB.out)) hb); clear HO_3; clear HB; have HO_3 := n0_; have HB := n1_; clear n0_ n1_; (try clear hb); (try clear hb2); (try clear hk); (try clear hi); have p230 : 0 ≤ (x4_1 : Int) := of_decide_eq_true (by first | (with_reducible assumption) | assumption); have q230 : x4_1 < (l0.length : Int) := of_decide_eq_true (by first | (with_reducible assumption) | assumption); obtain ⟨ad230, e230, hx230_0, hx230_1, hx230_2, hx230_3, hx230_4, hx230_5, hx230_6⟩ := at_T30 HR0.out x4_1 p230 q230; (try rw [← Nbq6.out] at hx230_6); obtain rfl : ad228 = ad230 := (by injection e230); replace hx230_0 := (HB.out.cell (World.block_lt_of_cell? w _ hx230_0)).trans hx230_0; replace hx230_1 := (HB.out.cell (World.block_lt_of_cell? w _ hx230_1)).trans hx230_1; replace hx230_2 := (HB.out.cell (World.block_lt_of_cell? w _ hx230_2)).trans hx230_2; replace hx230_3 := (HB.out.cell (World.block_lt_of_cell? w _ hx230_3)).trans hx230_3; replace hx230_4 := (HB.out.cell (World.block_lt_of_cell? w _ hx230_4)).trans hx230_4; replace hx230_5 := (HB.out.cell (World.block_lt_of_cell? w _ hx230_5)).trans hx230_5; replace hx230_6 := (HB.out.cell (World.block_lt_of_cell? w _ hx230_6)).trans hx230_6; replace p230 := eq_true p230; replace q230 := eq_true q230))
              go_roundg k1
              case measure => have := HK1.out; omega
              case rel => exact ⟨(x3_1), (wrap64 (x4_1 + 1)), (by first | rfl | (simp; done) | (simp [*]; done) | (simp [Pu.bne_nil, Pu.beq_nil]; done)), H', ⟨by have := HK1.out; omega⟩, ⟨by (with_reducible repeat (first | apply Kd.R_alloc | apply Kd.R_drewN | apply Kd.R_drew)); exact HO_3.out⟩, ⟨by repeat (first | (with_reducible first | exact HB.out | apply below_alloc | apply pw_below_drewN | apply below_drew1) | exact HB.out)⟩⟩
          · replace c5 := Bool.eq_false_iff.mpr c5
            subst c5
            have H1 : (bursarref15_open.l0 k1 l0 x3_1 (wrap64 (x4_1 + 1))) = some r := by rw [if_neg (show ¬ (false = true) by decide)] at H; exact H
            clear H
            have H := H1
            clear H1
            have H' := Aside0.mk H
            clear H
            have p228 : 0 ≤ (x4_1 : Int) := of_decide_eq_true (by first | (with_reducible assumption) | assumption)
            have q228 : x4_1 < (l0.length : Int) := of_decide_eq_true (by first | (with_reducible assumption) | assumption)
            obtain ⟨ad228, e228, hx228_0, hx228_1, hx228_2, hx228_3, hx228_4, hx228_5, hx228_6⟩ := at_T30 HR0.out x4_1 p228 q228
            cases e228
            replace hx228_0 := (HB.out.cell (World.block_lt_of_cell? w _ hx228_0)).trans hx228_0
            replace hx228_1 := (HB.out.cell (World.block_lt_of_cell? w _ hx228_1)).trans hx228_1
            replace hx228_2 := (HB.out.cell (World.block_lt_of_cell? w _ hx228_2)).trans hx228_2
            replace hx228_3 := (HB.out.cell (World.block_lt_of_cell? w _ hx228_3)).trans hx228_3
            replace hx228_4 := (HB.out.cell (World.block_lt_of_cell? w _ hx228_4)).trans hx228_4
            replace hx228_5 := (HB.out.cell (World.block_lt_of_cell? w _ hx228_5)).trans hx228_5
            replace hx228_6 := (HB.out.cell (World.block_lt_of_cell? w _ hx228_6)).trans hx228_6
            replace p228 := eq_true p228
            replace q228 := eq_true q228
            go_wp2_with (first | ((with_reducible refine gate_callee (f := 9) rfl ?_); refine goesL_ (some 15) rfl rfl Try.func9 (by kernel_rfl) rfl #[.agg #[.string ((rd_T30 l0 x4_1).f0), .string ((rd_T30 l0 x4_1).f1), .string ((rd_T30 l0 x4_1).f2), .int .i64 ((rd_T30 l0 x4_1).f3), .int .i64 ((rd_T30 l0 x4_1).f4), .int .i64 ((rd_T30 l0 x4_1).f5), .bool ((rd_T30 l0 x4_1).f6)]] rfl (by (try simp only [List.map_toArray, List.map_cons, List.map_nil]); first | done | rfl | (simp only [List.length_drop, List.length_take]; rfl)) ?_; (with_reducible refine (bursarref14_May.calls ((rd_T30 l0 x4_1).f0) ((rd_T30 l0 x4_1).f1) ((rd_T30 l0 x4_1).f2) ((rd_T30 l0 x4_1).f3) ((rd_T30 l0 x4_1).f4) ((rd_T30 l0 x4_1).f5) ((rd_T30 l0 x4_1).f6) false _ A4.out).mono ?_); rintro e w12 ⟨rfl, hb⟩; refine ⟨_, rfl, ?_⟩; have n0_ := Aside0.mk (Kd.R_below (by (with_reducible repeat (first | apply Kd.R_alloc | apply Kd.R_drewN | apply Kd.R_drew)); exact HO_3.out) hb); have n1_ := Aside0.mk (below_step (by repeat (first | (with_reducible first | exact HB.out | apply below_alloc | apply pw_below_drewN | apply below_drew1) | exact HB.out)) hb); clear HO_3; clear HB; have HO_3 := n0_; have HB := n1_; clear n0_ n1_; (try clear hb); (try clear hb2); (try clear hk); (try clear hi)))
            go_roundg k1
            case measure => have := HK1.out; omega
            case rel => exact ⟨(x3_1), (wrap64 (x4_1 + 1)), (by first | rfl | (simp; done) | (simp [*]; done) | (simp [Pu.bne_nil, Pu.beq_nil]; done)), H', ⟨by have := HK1.out; omega⟩, ⟨by (with_reducible repeat (first | apply Kd.R_alloc | apply Kd.R_drewN | apply Kd.R_drew)); exact HO_3.out⟩, ⟨by repeat (first | (with_reducible first | exact HB.out | apply below_alloc | apply pw_below_drewN | apply below_drew1) | exact HB.out)⟩⟩
        · rw [if_neg c3] at H
          exact absurd H (by simp)
      · rw [if_neg c2] at H
        have c2b0 : decide (x4_1 < (l0.length : Int)) = false := decide_eq_false c2
        clear c2
        obtain rfl := Option.some.inj H
        go_wp2
        go_ret
        exact ⟨_, by first | rfl | (simp [errW_none, errW_some] <;> rfl) | (simp [*, errW_none, errW_some] <;> rfl), by (with_reducible repeat (first | apply Kd.R_alloc | apply Kd.R_drewN | apply Kd.R_drew)); exact HO_3.out, by repeat (first | (with_reducible first | exact HB.out | apply below_alloc | apply pw_below_drewN | apply below_drew1) | exact HB.out)⟩

/-! ### bursarref15_ahead: function 37 -/
def ahB (a b : S30) (i k : Int) : Bool := if a.f5 = b.f5 then (if (a.f0 ++ a.f1).toList = (b.f0 ++ b.f1).toList then decide (i < k) else Op.bytesLess (a.f0 ++ a.f1).toList (b.f0 ++ b.f1).toList) else decide (a.f5 < b.f5)
def okA2 (a : S30) : Bool := decide (a.f0.size ≤ 4096) && decide (a.f1.size ≤ 4096)
def bursarref15_ahead.f (l0 : List S30) (a1 a2 : Int) : Option Bool := if (decide (0 ≤ a1) && decide (a1 < l0.length) && decide (0 ≤ a2) && decide (a2 < l0.length) && okA2 (rd_T30 l0 a1) && okA2 (rd_T30 l0 a2)) = true then some (ahB (rd_T30 l0 a1) (rd_T30 l0 a2) a1 a2) else none
def c30 (x : S30) : Array Value := #[.string x.f0, .string x.f1, .string x.f2, .int .i64 x.f3, .int .i64 x.f4, .int .i64 x.f5, .bool x.f6]
abbrev Z30 : Obj := .cells #[.string ⟨#[]⟩, .string ⟨#[]⟩, .string ⟨#[]⟩, .int .i64 0, .int .i64 0, .int .i64 0, .bool false] 30 (0, 0)
theorem two_old (w : World) (o o' : Obj) : ((w.alloc o).alloc o').heap[w.heap.size]? = some o := blk_alloc (blk_new w o) o'
theorem two_new (w : World) (o o' : Obj) : ((w.alloc o).alloc o').heap[w.heap.size + 1]? = some o' := by
  have h := blk_new (w.alloc o) o'
  rw [show (w.alloc o).heap.size = w.heap.size + 1 by simp [World.alloc, -World.alloc_eq]] at h
  exact h
set_option maxHeartbeats 8000000 in
theorem bursarref15_ahead.calls (A0 : Option Addr) (c0 : Nat) (l0 : List S30) (a1 a2 : Int) (r : Bool) (w : World) (hr0 : Kd.C k30 w A0 l0.length l0) (hc0 : l0.length ≤ c0) (h : bursarref15_ahead.f l0 a1 a2 = some r) :
    Calls Try.prog 37 #[.slice A0 l0.length c0, .int .i64 a1, .int .i64 a2] w fun e w' => e = .returned (.bool r) ∧ Below w.heap.size w w' := by
  unfold bursarref15_ahead.f at h
  split at h
  case isFalse => cases h
  case isTrue hc =>
  have HR := Lib.hid (Option.some.inj h)
  simp only [Bool.and_eq_true, decide_eq_true_eq] at hc
  obtain ⟨⟨⟨⟨⟨p1, q1⟩, p2⟩, q2⟩, o1⟩, o2⟩ := hc
  obtain ⟨ad, e0, l0_, l1, l2, l3, l4, l5, l6⟩ := at_T30 hr0 a1 p1 q1
  subst e0
  obtain ⟨ad', e0, m0, m1, m2, m3, m4, m5, m6⟩ := at_T30 hr0 a2 p2 q2
  cases e0
  have b1 : (ad.add (a1.toNat * 7)).block < w.heap.size := World.block_lt_of_cell? w _ l0_
  have b2 : (ad.add (a2.toNat * 7)).block < w.heap.size := World.block_lt_of_cell? w _ m0
  have b3 : (ad.add (a1.toNat * 7)).block < w.heap.size + 1 := by omega
  have b4 : (ad.add (a2.toNat * 7)).block < w.heap.size + 1 := by omega
  have O1 := Lib.hid o1
  have O2 := Lib.hid o2
  clear h hr0 o1 o2
  obtain ⟨x, hx⟩ : ∃ x, x = rd_T30 l0 a1 := ⟨_, rfl⟩
  obtain ⟨y, hy⟩ : ∃ y, y = rd_T30 l0 a2 := ⟨_, rfl⟩
  rw [← hx] at l0_ l1 l2 l3 l4 l5 l6 HR O1
  rw [← hy] at m0 m1 m2 m3 m4 m5 m6 HR O2
  clear hx hy
  go_enter Try.func37, Try.ntmps37
  go_upto_region 1 with fail
  go_cut [7, 8] from 11 to 18 (fun v7 v8 wc => ∃ b7 b8 : Nat, v7 = .pointer (some ⟨b7, 0, none⟩) ∧ v8 = .pointer (some ⟨b8, 0, none⟩) ∧ Hid (wc.heap[b7]? = some (.cells (c30 x) 30 (0, 0))) ∧ Hid (wc.heap[b8]? = some (.cells (c30 y) 30 (0, 0))) ∧ Hid (Below w.heap.size w wc))
  case first =>
    go_region
    all_goals (
      go_wp2
      go_meet
      first
        | exact ⟨w.heap.size, w.heap.size + 1, rfl, by simp, Lib.hid (blk_drew (two_old w _ _)), Lib.hid (blk_drew (two_new w _ _)), Lib.hid (below_drew (below_alloc (below_alloc (Below.refl _ _) _) _))⟩
        | exact ⟨w.heap.size + 1, w.heap.size, by simp, rfl, Lib.hid (blk_drew (two_new w _ _)), Lib.hid (blk_drew (two_old w _ _)), Lib.hid (below_drew (below_alloc (below_alloc (Below.refl _ _) _) _))⟩)
  case rest =>
    obtain ⟨b7, b8, rfl, rfl, H7, H8, HB⟩ := hcut
    have hx : ∀ i v, (c30 x)[i]? = some v → wc.cell? ⟨b7, i, none⟩ = some v := fun i v h => (blk_cell H7.out i).trans h
    have hy : ∀ i v, (c30 y)[i]? = some v → wc.cell? ⟨b8, i, none⟩ = some v := fun i v h => (blk_cell H8.out i).trans h
    have x0 : wc.cell? ⟨b7, 0, none⟩ = some (.string x.f0) := hx 0 _ rfl
    have x1 : wc.cell? ⟨b7, 1, none⟩ = some (.string x.f1) := hx 1 _ rfl
    have x5 : wc.cell? ⟨b7, 5, none⟩ = some (.int .i64 x.f5) := hx 5 _ rfl
    have y0 : wc.cell? ⟨b8, 0, none⟩ = some (.string y.f0) := hy 0 _ rfl
    have y1 : wc.cell? ⟨b8, 1, none⟩ = some (.string y.f1) := hy 1 _ rfl
    have y5 : wc.cell? ⟨b8, 5, none⟩ = some (.int .i64 y.f5) := hy 5 _ rfl
    clear hx hy l0_ l1 l2 l3 l4 l5 l6 m0 m1 m2 m3 m4 m5 m6 b1 b2 b3 b4
    have hr := HR.out
    unfold ahB at hr
    by_cases h1 : x.f5 = y.f5
    · rw [if_pos h1] at hr
      have h1b : (x.f5 != y.f5) = false := bne_eq_false_iff_eq.mpr h1
      have HB2 := Lib.hid (below_drew HB.out)
      have o1 := O1.out
      have o2 := O2.out
      unfold okA2 at o1 o2
      rw [Bool.and_eq_true] at o1 o2
      have e1 := of_decide_eq_true o1.1
      have e2 := of_decide_eq_true o1.2
      have e3 := of_decide_eq_true o2.1
      have e4 := of_decide_eq_true o2.2
      have z1 : x.f0.size + x.f1.size ≤ 9223372036854775807 := by omega
      have z2 : y.f0.size + y.f1.size ≤ 9223372036854775807 := by omega
      clear h1 o1 o2 e1 e2 e3 e4
      go_upto_region 4 with fail
      go_cut [9, 10] from 29 to 38 (fun v9 v10 wd => v9 = .string (x.f0 ++ x.f1) ∧ v10 = .string (y.f0 ++ y.f1) ∧ Hid (Below w.heap.size w wd))
      case first =>
        go_quiet (fail)
        all_goals (
          go_wp2
          go_meet
          exact ⟨rfl, rfl, Lib.hid (pw_below_drewN HB.out _)⟩)
      case rest =>
        obtain ⟨rfl, rfl, HB3⟩ := hcut
        by_cases h2 : (x.f0 ++ x.f1).toList = (y.f0 ++ y.f1).toList
        · rw [if_pos h2] at hr
          subst hr
          have h2b : ((x.f0 ++ x.f1).toList == (y.f0 ++ y.f1).toList) = true := beq_iff_eq.mpr h2
          clear h2
          go_wp2
          go_ret
          exact ⟨rfl, HB3.out⟩
        · rw [if_neg h2] at hr
          subst hr
          have h2b : ((x.f0 ++ x.f1).toList == (y.f0 ++ y.f1).toList) = false := beq_eq_false_iff_ne.mpr h2
          clear h2
          go_wp2
          go_ret
          exact ⟨rfl, HB3.out⟩
    · rw [if_neg h1] at hr
      have h1b : (x.f5 != y.f5) = true := bne_iff_ne.mpr h1
      clear h1
      subst hr
      go_wp2
      go_ret
      exact ⟨rfl, HB.out⟩


end Go.Proofs.Ytaifcadnnmicnaa.XE
