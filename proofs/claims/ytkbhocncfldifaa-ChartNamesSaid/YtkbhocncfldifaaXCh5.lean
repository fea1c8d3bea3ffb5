-- Written by wip/xprint.py, a session's program: printed out of the translation, with hand-written functions. Lean checks it.
import Derived.Test.YtkbhocncfldifaaXCh0
import Derived.Test.YtkbhocncfldifaaXCh1
import Derived.Test.YtkbhocncfldifaaXCh2
import Derived.Test.YtkbhocncfldifaaXCh3
import Derived.Test.YtkbhocncfldifaaXCh4
namespace Go.Proofs.Ytkbhocncfldifaa.XCh
open Go.RowKit Go.Proofs.YtkbhocncfldifaaW.PrintWords Go.Proofs.YtkbhocncfldifaaW.PrintLast Go.Proofs.YtkbhocncfldifaaW.PrintMore
attribute [local go_sem] max2_int min2_int max_two min_two max_three min_three max_four min_four   -- for this text's walks alone
set_option linter.unusedVariables false
set_option linter.unusedSimpArgs false

attribute [local go_sem high] eqA23
/-! ### bursarlaw11_ChartParses: function 4 -/
mutual
def bursarlaw11_ChartParses.j0 : Nat → ByteArray → Bool → Option (Bool)
  | 0, _, _ => none
  | k + 1, x0, x43 => if x43 = true then (some false) else ((chart_Card.f x0).bind fun bt158 => ((chart_Acquirer.f x0).bind fun bt162 => ((bursarref11_Name.f 1 x0).bind fun bt166 => ((bursarref11_Name.f 2 x0).bind fun bt168 => (if bt166.2 = true then (if (!(bt158.1 == 1) || (!(bt158.2.1.toList == x0.toList))) = true then (bursarlaw11_ChartParses.j1 k x0 bt162.2.2 bt168.2 true bt162.1 bt162.2.1) else (if bt158.2.2 = 0 then (bursarlaw11_ChartParses.j1 k x0 bt162.2.2 bt168.2 false bt162.1 bt162.2.1) else (bursarlaw11_ChartParses.j1 k x0 bt162.2.2 bt168.2 true bt162.1 bt162.2.1))) else (if (!(bt158.1 == 0) || (!(bt158.2.1.toList == ([] : List UInt8)))) = true then (bursarlaw11_ChartParses.j1 k x0 bt162.2.2 bt168.2 true bt162.1 bt162.2.1) else (bursarlaw11_ChartParses.j1 k x0 bt162.2.2 bt168.2 (bt158.2.2 != 4) bt162.1 bt162.2.1)))))))
def bursarlaw11_ChartParses.j1 : Nat → ByteArray → Int → Bool → Bool → Int → ByteArray → Option (Bool)
  | 0, _, _, _, _, _, _ => none
  | k + 1, x0, x10, x14, x89, x166000, x166001 => if x89 = true then (some false) else (if x14 = true then (if (!(x166000 == 2) || (!(x166001.toList == x0.toList))) = true then (some false) else (if x10 = 0 then ((bursarlaw11_awake.f).bind fun t170 => (some t170)) else (some false))) else (if (!(x166000 == 0) || (!(x166001.toList == ([] : List UInt8)))) = true then (some false) else (if x10 = 4 then ((bursarlaw11_awake.f).bind fun t171 => (some t171)) else (some false))))
end
def bursarlaw11_ChartParses.f (k : Nat) (a0 : ByteArray) : Option (Bool) := (bursarlaw11_few.f a0).bind fun t149 => ((chart_Parse.f t149).bind fun bt150 => ((bursarref11_Parse.f t149).bind fun bt154 => (if (!(bt150.1 == bt154.1) || (!(bt150.2.1.toList == bt154.2.1.toList))) = true then (bursarlaw11_ChartParses.j0 k t149 true) else (if ((bt150.2.2 == 0) != bt154.2.2) = true then (bursarlaw11_ChartParses.j0 k t149 true) else (if bt154.2.2 = true then (bursarlaw11_ChartParses.j0 k t149 false) else (bursarlaw11_ChartParses.j0 k t149 (bt150.2.2 != 4)))))))
theorem bursarlaw11_ChartParses.mono_l : ∀ k, (∀ y0 y1, LeO (bursarlaw11_ChartParses.j0 k y0 y1) (bursarlaw11_ChartParses.j0 (k + 1) y0 y1)) ∧ (∀ y0 y1 y2 y3 y4 y5, LeO (bursarlaw11_ChartParses.j1 k y0 y1 y2 y3 y4 y5) (bursarlaw11_ChartParses.j1 (k + 1) y0 y1 y2 y3 y4 y5))
  | 0 => ⟨fun _ _ r h => by simp [bursarlaw11_ChartParses.j0] at h, fun _ _ _ _ _ _ r h => by simp [bursarlaw11_ChartParses.j1] at h⟩
  | k + 1 => by
    obtain ⟨ih0, ih1⟩ := bursarlaw11_ChartParses.mono_l k
    refine ⟨?_, ?_⟩
    · intro y0 y1
      unfold bursarlaw11_ChartParses.j0
      repeat' first
      | (with_reducible exact ih0 _ _)
      | (with_reducible exact ih1 _ _ _ _ _ _)
      | (with_reducible exact LeO.refl _)
      | (with_reducible exact LeO.none _)
      | (with_reducible refine LeO.ite ?_ ?_)
      | (with_reducible refine LeO.bind ?_ (fun _ => ?_))
      | exact ih0 _ _
      | exact ih1 _ _ _ _ _ _
      | exact LeO.none _
      | refine LeO.ite ?_ ?_
      | refine LeO.bind ?_ (fun _ => ?_)
    · intro y0 y1 y2 y3 y4 y5
      unfold bursarlaw11_ChartParses.j1
      repeat' first
      | (with_reducible exact ih0 _ _)
      | (with_reducible exact ih1 _ _ _ _ _ _)
      | (with_reducible exact LeO.refl _)
      | (with_reducible exact LeO.none _)
      | (with_reducible refine LeO.ite ?_ ?_)
      | (with_reducible refine LeO.bind ?_ (fun _ => ?_))
      | exact ih0 _ _
      | exact ih1 _ _ _ _ _ _
      | exact LeO.none _
      | refine LeO.ite ?_ ?_
      | refine LeO.bind ?_ (fun _ => ?_)
theorem bursarlaw11_ChartParses.mono : ∀ a0 k, LeO (bursarlaw11_ChartParses.f k a0) (bursarlaw11_ChartParses.f (k + 1) a0) := by
  intro a0 k
  obtain ⟨ih0, ih1⟩ := bursarlaw11_ChartParses.mono_l k
  unfold bursarlaw11_ChartParses.f
  repeat' first
      | (with_reducible exact ih0 _ _)
      | (with_reducible exact ih1 _ _ _ _ _ _)
      | (with_reducible exact LeO.refl _)
      | (with_reducible exact LeO.none _)
      | (with_reducible refine LeO.ite ?_ ?_)
      | (with_reducible refine LeO.bind ?_ (fun _ => ?_))
      | exact ih0 _ _
      | exact ih1 _ _ _ _ _ _
      | exact LeO.none _
      | refine LeO.ite ?_ ?_
      | refine LeO.bind ?_ (fun _ => ?_)
set_option maxHeartbeats 8000000 in
set_option maxRecDepth 100000 in
theorem bursarlaw11_ChartParses.calls (k : Nat) (a0 : ByteArray) (r : Bool) (w : World) (h : bursarlaw11_ChartParses.f k a0 = some r) :
    Calls Try.prog 4 #[.string a0] w fun e w' => e = .returned (.bool r) ∧ Below w.heap.size w w' := by
  have hu23 := Try.underlying23
  have HB := Aside0.mk (Below.refl w.heap.size w)
  have H : ((bursarlaw11_few.f a0).bind fun t149 => ((chart_Parse.f t149).bind fun bt150 => ((bursarref11_Parse.f t149).bind fun bt154 => (if (!(bt150.1 == bt154.1) || (!(bt150.2.1.toList == bt154.2.1.toList))) = true then (bursarlaw11_ChartParses.j0 k t149 true) else (if ((bt150.2.2 == 0) != bt154.2.2) = true then (bursarlaw11_ChartParses.j0 k t149 true) else (if bt154.2.2 = true then (bursarlaw11_ChartParses.j0 k t149 false) else (bursarlaw11_ChartParses.j0 k t149 (bt150.2.2 != 4)))))))) = some r := h
  clear h
  replace H := Option.bind_eq_some_iff.mp H
  obtain ⟨t149, A20, H⟩ := H
  replace H : ((chart_Parse.f t149).bind fun bt150 => ((bursarref11_Parse.f t149).bind fun bt154 => (if (!(bt150.1 == bt154.1) || (!(bt150.2.1.toList == bt154.2.1.toList))) = true then (bursarlaw11_ChartParses.j0 k t149 true) else (if ((bt150.2.2 == 0) != bt154.2.2) = true then (bursarlaw11_ChartParses.j0 k t149 true) else (if bt154.2.2 = true then (bursarlaw11_ChartParses.j0 k t149 false) else (bursarlaw11_ChartParses.j0 k t149 (bt150.2.2 != 4))))))) = some r := H
  have A2 := Aside0.mk A20
  clear A20
  replace H := Option.bind_eq_some_iff.mp H
  obtain ⟨⟨t150, t151, t152⟩, A30, H⟩ := H
  replace H : ((bursarref11_Parse.f t149).bind fun bt154 => (if (!(t150 == bt154.1) || (!(t151.toList == bt154.2.1.toList))) = true then (bursarlaw11_ChartParses.j0 k t149 true) else (if ((t152 == 0) != bt154.2.2) = true then (bursarlaw11_ChartParses.j0 k t149 true) else (if bt154.2.2 = true then (bursarlaw11_ChartParses.j0 k t149 false) else (bursarlaw11_ChartParses.j0 k t149 (t152 != 4)))))) = some r := H
  have A3 := Aside0.mk A30
  clear A30
  replace H := Option.bind_eq_some_iff.mp H
  obtain ⟨⟨t154, t155, t156⟩, A40, H⟩ := H
  replace H : (if (!(t150 == t154) || (!(t151.toList == t155.toList))) = true then (bursarlaw11_ChartParses.j0 k t149 true) else (if ((t152 == 0) != t156) = true then (bursarlaw11_ChartParses.j0 k t149 true) else (if t156 = true then (bursarlaw11_ChartParses.j0 k t149 false) else (bursarlaw11_ChartParses.j0 k t149 (t152 != 4))))) = some r := H
  have A4 := Aside0.mk A40
  clear A40
  have HC5 := Aside0.mk H
  clear H
  go_enter Try.func4, Try.ntmps4
  go_upto_region 4 with (first | ((with_reducible refine gate_callee (f := 14) rfl ?_); refine goesL_ (some 16) rfl rfl Try.func14 (by kernel_rfl) rfl #[.string a0] rfl (by (try simp only [List.map_toArray, List.map_cons, List.map_nil]); first | done | rfl | (simp only [List.length_drop, List.length_take]; rfl)) ?_; (with_reducible refine (bursarlaw11_few.calls a0 t149 _ A2.out).mono ?_); rintro e w' ⟨rfl, ⟨nd, rfl⟩⟩; refine ⟨_, rfl, ?_⟩) | ((with_reducible refine gate_callee (f := 18) rfl ?_); refine goesL_ (some 19) rfl rfl Try.func18 (by kernel_rfl) rfl #[.string t149] rfl (by (try simp only [List.map_toArray, List.map_cons, List.map_nil]); first | done | rfl | (simp only [List.length_drop, List.length_take]; rfl)) ?_; (with_reducible refine (chart_Parse.calls t149 t150 t151 t152 _ A3.out).mono ?_); rintro e w6 ⟨rfl, hb⟩; refine ⟨_, rfl, ?_⟩; have n0_ := Aside0.mk (below_step (by repeat (first | (with_reducible first | exact HB.out | apply below_alloc | apply pw_below_drewN | apply below_drew1) | exact HB.out)) hb); clear HB; have HB := n0_; clear n0_; (try clear hb); (try clear hb2); (try clear hk); (try clear hi)) | ((with_reducible refine gate_dst (N := 3) rfl ?_); refine box_event ?hg (N := 3) ?hd (cs := #[.int .i64 0, .string (⟨#[]⟩ : ByteArray)]) (t := 23) ?hr ?_; (case hd => rfl); (case hg => rfl); (case hr => first | (go_simp; done) | (go_simp; rfl)); intro gb153 hg w7 hbox hb; have n0_ := Aside0.mk (below_step (by repeat (first | (with_reducible first | exact HB.out | apply below_alloc | apply pw_below_drewN | apply below_drew1) | exact HB.out)) hb); have n1_ := Aside0.mk (hbox); have n2_ := Aside0.mk ((by rw [hg]; exact (below_size (by repeat (first | (with_reducible first | exact HB.out | apply below_alloc | apply pw_below_drewN | apply below_drew1) | exact HB.out))) : w.heap.size ≤ gb153)); have n3_ := Aside0.mk ((by rw [hg]; exact (below_size (by repeat (first | (with_reducible first | exact HB.out | apply below_alloc | apply pw_below_drewN | apply below_drew1) | exact HB.out))) : w.heap.size ≤ gb153)); clear HB; have HB := n0_; have BK153 := n1_; have GW153 := n2_; have GE153 := n3_; clear n0_ n1_ n2_ n3_; clear hb hbox hg; have hcz8_0 : w7.cell? ⟨gb153, 0, none⟩ = some (.int .i64 0) := (blk_cell BK153.out 0).trans rfl; have hcz8_1 : w7.cell? ⟨gb153, 1, none⟩ = some (.string (⟨#[]⟩ : ByteArray)) := (blk_cell BK153.out 1).trans rfl; have hfz8_0 := blk_frozen BK153.out 0; have hfz8_1 := blk_frozen BK153.out 1) | ((with_reducible refine gate_callee (f := 20) rfl ?_); refine goesL_ (some 24) rfl rfl Try.func20 (by kernel_rfl) rfl #[.string t149] rfl (by (try simp only [List.map_toArray, List.map_cons, List.map_nil]); first | done | rfl | (simp only [List.length_drop, List.length_take]; rfl)) ?_; (with_reducible refine (bursarref11_Parse.calls t149 t154 t155 t156 _ A4.out).mono ?_); rintro e w9 ⟨rfl, hb⟩; refine ⟨_, rfl, ?_⟩; have n0_ := Aside0.mk (blk_below (g := gb153) (o := .cells #[.int .i64 t150, .string t151] 23 (0, 0)) (by (with_reducible repeat (first | refine blk_drewN ?_ _ | refine blk_drew ?_ | refine blk_alloc ?_ _)); refine blk_put (cs := #[.int .i64 t150, .string (⟨#[]⟩ : ByteArray)]) ?_ 1 _ rfl; (with_reducible repeat (first | refine blk_drewN ?_ _ | refine blk_drew ?_ | refine blk_alloc ?_ _)); refine blk_put (cs := #[.int .i64 0, .string (⟨#[]⟩ : ByteArray)]) ?_ 0 _ rfl; (with_reducible repeat (first | refine blk_drewN ?_ _ | refine blk_drew ?_ | refine blk_alloc ?_ _)); exact BK153.out) hb); have n1_ := Aside0.mk (below_step (by repeat (first | (with_reducible first | exact HB.out | apply below_alloc | apply pw_below_drewN | apply below_drew1 | refine below_set ?_ GE153.out) | exact HB.out)) hb); clear BK153; clear HB; have BK153 := n0_; have HB := n1_; clear n0_ n1_; (try clear hb); (try clear hb2); (try clear hk); (try clear hi)) | ((with_reducible refine gate_dst (N := 5) rfl ?_); refine box_event ?hg (N := 5) ?hd (cs := #[.int .i64 0, .string (⟨#[]⟩ : ByteArray)]) (t := 23) ?hr ?_; (case hd => rfl); (case hg => rfl); (case hr => first | (go_simp; done) | (go_simp; rfl)); intro gb157 hg w10 hbox hb; have n0_ := Aside0.mk (blk_below (g := gb153) (o := .cells #[.int .i64 t150, .string t151] 23 (0, 0)) (by (with_reducible repeat (first | refine blk_drewN ?_ _ | refine blk_drew ?_ | refine blk_alloc ?_ _)); exact BK153.out) hb); have n1_ := Aside0.mk (below_step (by repeat (first | (with_reducible first | exact HB.out | apply below_alloc | apply pw_below_drewN | apply below_drew1 | refine below_set ?_ GE153.out) | exact HB.out)) hb); have n2_ := Aside0.mk (hbox); have n3_ := Aside0.mk ((by rw [hg]; exact (below_size (by repeat (first | (with_reducible first | exact HB.out | apply below_alloc | apply pw_below_drewN | apply below_drew1 | refine below_set ?_ GE153.out) | exact HB.out))) : w.heap.size ≤ gb157)); have n4_ := Aside0.mk ((by rw [hg]; exact (below_size (by repeat (first | (with_reducible first | exact HB.out | apply below_alloc | apply pw_below_drewN | apply below_drew1 | refine below_set ?_ GE153.out) | exact HB.out))) : w.heap.size ≤ gb157)); have n5_ := Aside0.mk ((by rw [hg]; exact Nat.ne_of_lt (blk_lt (g := gb153) (o := .cells #[.int .i64 t150, .string t151] 23 (0, 0)) (by (with_reducible repeat (first | refine blk_drewN ?_ _ | refine blk_drew ?_ | refine blk_alloc ?_ _)); exact BK153.out)) : gb153 ≠ gb157)); have n6_ := Aside0.mk ((by rw [hg]; exact Nat.ne_of_gt (blk_lt (g := gb153) (o := .cells #[.int .i64 t150, .string t151] 23 (0, 0)) (by (with_reducible repeat (first | refine blk_drewN ?_ _ | refine blk_drew ?_ | refine blk_alloc ?_ _)); exact BK153.out)) : gb157 ≠ gb153)); clear BK153; clear HB; have BK153 := n0_; have HB := n1_; have BK157 := n2_; have GW157 := n3_; have GE157 := n4_; have NB153_157 := n5_; have NB157_153 := n6_; clear n0_ n1_ n2_ n3_ n4_ n5_ n6_; clear hb hbox hg; have hnb11 := NB157_153.out; have hnc11 := NB153_157.out; have hcz12_0 : w10.cell? ⟨gb157, 0, none⟩ = some (.int .i64 0) := (blk_cell BK157.out 0).trans rfl; have hcz12_1 : w10.cell? ⟨gb157, 1, none⟩ = some (.string (⟨#[]⟩ : ByteArray)) := (blk_cell BK157.out 1).trans rfl; have hfz12_0 := blk_frozen BK157.out 0; have hfz12_1 := blk_frozen BK157.out 1))
  (try simp only [Act.put, List.setIfInBounds_toArray, List.set_cons_zero, List.set_cons_succ])
  go_cut [43] (fun v43 wc => ∃ (kq : Nat) (x43_4 : Bool), v43 = .bool x43_4 ∧ Aside0 (bursarlaw11_ChartParses.j0 kq t149 x43_4 = some r) ∧ Aside0 (kq ≤ k) ∧ Aside0 (wc.heap[gb153]? = some (.cells #[.int .i64 t150, .string t151] 23 (0, 0))) ∧ Aside0 (wc.heap[gb157]? = some (.cells #[.int .i64 t154, .string t155] 23 (0, 0))) ∧ Aside0 (Below w.heap.size w wc))
  case first =>
    have H := HC5.out
    clear HC5
    by_cases c13 : (!(t150 == t154) || (!(t151.toList == t155.toList))) = true
    · rw [if_pos c13] at H
      have c13b0 : (!(t150 == t154) || (!(t151.toList == t155.toList))) = true := c13
      (try (have c13b1 : (((t150 = t154) ∧ ((t151.toList = t155.toList))) = False) := eq_false (by first | (simpa using c13; done) | (intro h_; have g_ := c13; simp [h_] at g_; done) | (have g_ := c13; simp at g_; exact g_))))
      (try (have c13b2 : ((((!(t150 == t154)) = true) ∨ ((!(t151.toList == t155.toList)) = true)) = True) := (by have g_ := c13; cases g1_ : (t150 == t154) <;> cases g2_ : (t151.toList == t155.toList) <;> first | (simp; done) | (exfalso; revert g_; simp [Pu.beq_nil] at g1_ g2_ ⊢; simp [g1_, g2_]; done))))
      (try (have c13b3 : ((((!(t150 == t154)) = false) ∧ ((!(t151.toList == t155.toList)) = false)) = False) := (by have g_ := c13; cases g1_ : (t150 == t154) <;> cases g2_ : (t151.toList == t155.toList) <;> first | (simp; done) | (exfalso; revert g_; simp [Pu.beq_nil] at g1_ g2_ ⊢; simp [g1_, g2_]; done))))
      (try (have c13b4 : ((¬ (t150 = t154) ∨ (¬ (t151.toList = t155.toList))) = True) := eq_true (by first | (simpa using c13; done) | (intro h_; have g_ := c13; simp [h_] at g_; done))))
      clear c13
      (first | rw [c13b0] | (simp only [i64_w, i32_w]; rw [c13b0]) | skip)
      have H' := Aside0.mk H
      clear H
      have hnb14 := NB153_157.out
      have hnc14 := NB157_153.out
      have hcz15_0 : w10.cell? ⟨gb153, 0, none⟩ = some (.int .i64 t150) := (blk_cell BK153.out 0).trans rfl
      have hcz15_1 : w10.cell? ⟨gb153, 1, none⟩ = some (.string t151) := (blk_cell BK153.out 1).trans rfl
      have hfz15_0 := blk_frozen BK153.out 0
      have hfz15_1 := blk_frozen BK153.out 1
      have hcz16_0 : w10.cell? ⟨gb157, 0, none⟩ = some (.int .i64 0) := (blk_cell BK157.out 0).trans rfl
      have hcz16_1 : w10.cell? ⟨gb157, 1, none⟩ = some (.string (⟨#[]⟩ : ByteArray)) := (blk_cell BK157.out 1).trans rfl
      have hfz16_0 := blk_frozen BK157.out 0
      have hfz16_1 := blk_frozen BK157.out 1
      go_wp2
      go_meet
      case rel => exact ⟨_, (true), (by first | rfl | (simp; done) | (simp [*]; done) | (simp [Pu.bne_nil, Pu.beq_nil]; done)), H', ⟨by first | omega | exact Nat.le_refl _⟩, ⟨by (with_reducible repeat (first | refine blk_drewN ?_ _ | refine blk_drew ?_ | refine blk_alloc ?_ _)); refine blk_far ?_ NB153_157.out _; (with_reducible repeat (first | refine blk_drewN ?_ _ | refine blk_drew ?_ | refine blk_alloc ?_ _)); refine blk_far ?_ NB153_157.out _; (with_reducible repeat (first | refine blk_drewN ?_ _ | refine blk_drew ?_ | refine blk_alloc ?_ _)); exact BK153.out⟩, ⟨by (with_reducible repeat (first | refine blk_drewN ?_ _ | refine blk_drew ?_ | refine blk_alloc ?_ _)); refine blk_put (cs := #[.int .i64 t154, .string (⟨#[]⟩ : ByteArray)]) ?_ 1 _ rfl; (with_reducible repeat (first | refine blk_drewN ?_ _ | refine blk_drew ?_ | refine blk_alloc ?_ _)); refine blk_put (cs := #[.int .i64 0, .string (⟨#[]⟩ : ByteArray)]) ?_ 0 _ rfl; (with_reducible repeat (first | refine blk_drewN ?_ _ | refine blk_drew ?_ | refine blk_alloc ?_ _)); exact BK157.out⟩, ⟨by repeat (first | (with_reducible first | exact HB.out | apply below_alloc | apply pw_below_drewN | apply below_drew1 | refine below_set ?_ GE153.out | refine below_set ?_ GE157.out) | exact HB.out)⟩⟩
    · rw [if_neg c13] at H
      have c13b0 : (!(t150 == t154) || (!(t151.toList == t155.toList))) = false := by simpa using c13
      (try (have c13b1 : (((t150 = t154) ∧ ((t151.toList = t155.toList))) = True) := eq_true (by first | (simpa using c13; done) | (intro h_; have g_ := c13; simp [h_] at g_; done) | (have g_ := c13; simp at g_; exact g_))))
      (try (have c13b2 : ((t150 == t154)) = true := (by first | (have g_ := c13; simp at g_; simp [g_]; done) | (have g_ := c13; simp [Pu.beq_nil] at g_ ⊢; simp [g_]; done) | (have g_ := c13; simp [Pu.beq_nil] at g_ ⊢; exact g_))))
      (try (have c13b3 : ((t151.toList == t155.toList)) = true := (by first | (have g_ := c13; simp at g_; simp [g_]; done) | (have g_ := c13; simp [Pu.beq_nil] at g_ ⊢; simp [g_]; done) | (have g_ := c13; simp [Pu.beq_nil] at g_ ⊢; exact g_))))
      (try (have c13b4 : ((¬ (t150 = t154) ∨ (¬ (t151.toList = t155.toList))) = False) := eq_false (by first | (simpa using c13; done) | (intro h_; have g_ := c13; simp [h_] at g_; done))))
      clear c13
      (first | rw [c13b0] | (simp only [i64_w, i32_w]; rw [c13b0]) | skip)
      by_cases c17 : ((t152 == 0) != t156) = true
      · rw [if_pos c17] at H
        have c17b0 : ((t152 == 0) != t156) = true := c17
        (try (have c17b1 : decide ((t152 == 0) = t156) = false := by simpa using c17))
        (try (have c17b2 : ((t152 == 0) == t156) = false := by simpa using c17))
        (try (have c17b3 : ¬ ((t152 == 0) = t156) := by simpa using c17))
        (try (have c17b4 : (((t152 = 0) = t156) = False) := eq_false (by first | (simpa using c17; done) | (intro h_; have g_ := c17; simp [h_] at g_; done) | (have g_ := c17; simp at g_; exact g_))))
        clear c17
        have H' := Aside0.mk H
        clear H
        have hnb18 := NB153_157.out
        have hnc18 := NB157_153.out
        have hcz19_0 : w10.cell? ⟨gb153, 0, none⟩ = some (.int .i64 t150) := (blk_cell BK153.out 0).trans rfl
        have hcz19_1 : w10.cell? ⟨gb153, 1, none⟩ = some (.string t151) := (blk_cell BK153.out 1).trans rfl
        have hfz19_0 := blk_frozen BK153.out 0
        have hfz19_1 := blk_frozen BK153.out 1
        have hcz20_0 : w10.cell? ⟨gb157, 0, none⟩ = some (.int .i64 0) := (blk_cell BK157.out 0).trans rfl
        have hcz20_1 : w10.cell? ⟨gb157, 1, none⟩ = some (.string (⟨#[]⟩ : ByteArray)) := (blk_cell BK157.out 1).trans rfl
        have hfz20_0 := blk_frozen BK157.out 0
        have hfz20_1 := blk_frozen BK157.out 1
        go_wp2
        go_meet
        case rel => exact ⟨_, (true), (by first | rfl | (simp; done) | (simp [*]; done) | (simp [Pu.bne_nil, Pu.beq_nil]; done)), H', ⟨by first | omega | exact Nat.le_refl _⟩, ⟨by (with_reducible repeat (first | refine blk_drewN ?_ _ | refine blk_drew ?_ | refine blk_alloc ?_ _)); refine blk_far ?_ NB153_157.out _; (with_reducible repeat (first | refine blk_drewN ?_ _ | refine blk_drew ?_ | refine blk_alloc ?_ _)); refine blk_far ?_ NB153_157.out _; (with_reducible repeat (first | refine blk_drewN ?_ _ | refine blk_drew ?_ | refine blk_alloc ?_ _)); exact BK153.out⟩, ⟨by (with_reducible repeat (first | refine blk_drewN ?_ _ | refine blk_drew ?_ | refine blk_alloc ?_ _)); refine blk_put (cs := #[.int .i64 t154, .string (⟨#[]⟩ : ByteArray)]) ?_ 1 _ rfl; (with_reducible repeat (first | refine blk_drewN ?_ _ | refine blk_drew ?_ | refine blk_alloc ?_ _)); refine blk_put (cs := #[.int .i64 0, .string (⟨#[]⟩ : ByteArray)]) ?_ 0 _ rfl; (with_reducible repeat (first | refine blk_drewN ?_ _ | refine blk_drew ?_ | refine blk_alloc ?_ _)); exact BK157.out⟩, ⟨by repeat (first | (with_reducible first | exact HB.out | apply below_alloc | apply pw_below_drewN | apply below_drew1 | refine below_set ?_ GE153.out | refine below_set ?_ GE157.out) | exact HB.out)⟩⟩
      · rw [if_neg c17] at H
        have c17b0 : ((t152 == 0) != t156) = false := by simpa using c17
        (try (have c17b1 : decide ((t152 == 0) = t156) = true := by simpa using c17))
        (try (have c17b2 : ((t152 == 0) == t156) = true := by simpa using c17))
        (try (have c17b3 : (((t152 = 0) = t156) = True) := eq_true (by first | (simpa using c17; done) | (intro h_; have g_ := c17; simp [h_] at g_; done) | (have g_ := c17; simp at g_; exact g_))))
        (try (have c17b4 : ((t152 == 0)) = true := (by first | (have g_ := c17; simp at g_; simp [g_]; done) | (have g_ := c17; simp [Pu.beq_nil] at g_ ⊢; simp [g_]; done) | (have g_ := c17; simp [Pu.beq_nil] at g_ ⊢; exact g_))))
        clear c17
        by_cases c21 : t156 = true
        · subst c21
          have H1 : (bursarlaw11_ChartParses.j0 k t149 false) = some r := by rw [if_pos rfl] at H; exact H
          clear H
          have H := H1
          clear H1
          have H' := Aside0.mk H
          clear H
          have hnb22 := NB153_157.out
          have hnc22 := NB157_153.out
          have hcz23_0 : w10.cell? ⟨gb153, 0, none⟩ = some (.int .i64 t150) := (blk_cell BK153.out 0).trans rfl
          have hcz23_1 : w10.cell? ⟨gb153, 1, none⟩ = some (.string t151) := (blk_cell BK153.out 1).trans rfl
          have hfz23_0 := blk_frozen BK153.out 0
          have hfz23_1 := blk_frozen BK153.out 1
          have hcz24_0 : w10.cell? ⟨gb157, 0, none⟩ = some (.int .i64 0) := (blk_cell BK157.out 0).trans rfl
          have hcz24_1 : w10.cell? ⟨gb157, 1, none⟩ = some (.string (⟨#[]⟩ : ByteArray)) := (blk_cell BK157.out 1).trans rfl
          have hfz24_0 := blk_frozen BK157.out 0
          have hfz24_1 := blk_frozen BK157.out 1
          go_wp2
          go_meet
          case rel => exact ⟨_, (false), (by first | rfl | (simp; done) | (simp [*]; done) | (simp [Pu.bne_nil, Pu.beq_nil]; done)), H', ⟨by first | omega | exact Nat.le_refl _⟩, ⟨by (with_reducible repeat (first | refine blk_drewN ?_ _ | refine blk_drew ?_ | refine blk_alloc ?_ _)); refine blk_far ?_ NB153_157.out _; (with_reducible repeat (first | refine blk_drewN ?_ _ | refine blk_drew ?_ | refine blk_alloc ?_ _)); refine blk_far ?_ NB153_157.out _; (with_reducible repeat (first | refine blk_drewN ?_ _ | refine blk_drew ?_ | refine blk_alloc ?_ _)); exact BK153.out⟩, ⟨by (with_reducible repeat (first | refine blk_drewN ?_ _ | refine blk_drew ?_ | refine blk_alloc ?_ _)); refine blk_put (cs := #[.int .i64 t154, .string (⟨#[]⟩ : ByteArray)]) ?_ 1 _ rfl; (with_reducible repeat (first | refine blk_drewN ?_ _ | refine blk_drew ?_ | refine blk_alloc ?_ _)); refine blk_put (cs := #[.int .i64 0, .string (⟨#[]⟩ : ByteArray)]) ?_ 0 _ rfl; (with_reducible repeat (first | refine blk_drewN ?_ _ | refine blk_drew ?_ | refine blk_alloc ?_ _)); exact BK157.out⟩, ⟨by repeat (first | (with_reducible first | exact HB.out | apply below_alloc | apply pw_below_drewN | apply below_drew1 | refine below_set ?_ GE153.out | refine below_set ?_ GE157.out) | exact HB.out)⟩⟩
        · replace c21 := Bool.eq_false_iff.mpr c21
          subst c21
          have H1 : (bursarlaw11_ChartParses.j0 k t149 (t152 != 4)) = some r := by rw [if_neg (show ¬ (false = true) by decide)] at H; exact H
          clear H
          have H := H1
          clear H1
          have H' := Aside0.mk H
          clear H
          have hnb25 := NB153_157.out
          have hnc25 := NB157_153.out
          have hcz26_0 : w10.cell? ⟨gb153, 0, none⟩ = some (.int .i64 t150) := (blk_cell BK153.out 0).trans rfl
          have hcz26_1 : w10.cell? ⟨gb153, 1, none⟩ = some (.string t151) := (blk_cell BK153.out 1).trans rfl
          have hfz26_0 := blk_frozen BK153.out 0
          have hfz26_1 := blk_frozen BK153.out 1
          have hcz27_0 : w10.cell? ⟨gb157, 0, none⟩ = some (.int .i64 0) := (blk_cell BK157.out 0).trans rfl
          have hcz27_1 : w10.cell? ⟨gb157, 1, none⟩ = some (.string (⟨#[]⟩ : ByteArray)) := (blk_cell BK157.out 1).trans rfl
          have hfz27_0 := blk_frozen BK157.out 0
          have hfz27_1 := blk_frozen BK157.out 1
          go_wp2
          go_meet
          case rel => exact ⟨_, ((t152 != 4)), (by first | rfl | (simp; done) | (simp [*]; done) | (simp [Pu.bne_nil, Pu.beq_nil]; done)), H', ⟨by first | omega | exact Nat.le_refl _⟩, ⟨by (with_reducible repeat (first | refine blk_drewN ?_ _ | refine blk_drew ?_ | refine blk_alloc ?_ _)); refine blk_far ?_ NB153_157.out _; (with_reducible repeat (first | refine blk_drewN ?_ _ | refine blk_drew ?_ | refine blk_alloc ?_ _)); refine blk_far ?_ NB153_157.out _; (with_reducible repeat (first | refine blk_drewN ?_ _ | refine blk_drew ?_ | refine blk_alloc ?_ _)); exact BK153.out⟩, ⟨by (with_reducible repeat (first | refine blk_drewN ?_ _ | refine blk_drew ?_ | refine blk_alloc ?_ _)); refine blk_put (cs := #[.int .i64 t154, .string (⟨#[]⟩ : ByteArray)]) ?_ 1 _ rfl; (with_reducible repeat (first | refine blk_drewN ?_ _ | refine blk_drew ?_ | refine blk_alloc ?_ _)); refine blk_put (cs := #[.int .i64 0, .string (⟨#[]⟩ : ByteArray)]) ?_ 0 _ rfl; (with_reducible repeat (first | refine blk_drewN ?_ _ | refine blk_drew ?_ | refine blk_alloc ?_ _)); exact BK157.out⟩, ⟨by repeat (first | (with_reducible first | exact HB.out | apply below_alloc | apply pw_below_drewN | apply below_drew1 | refine below_set ?_ GE153.out | refine below_set ?_ GE157.out) | exact HB.out)⟩⟩
  case rest =>
    clear HC5
    try clear c1
    try clear c2
    try clear p2
    try clear c4
    try clear c11
    try clear c13
    try clear c13b0
    try clear c13b1
    try clear c13b2
    try clear c14
    try clear c17
    try clear c17b0
    try clear c17b1
    try clear c17b2
    try clear c18
    try clear c20
    try clear c21
    try clear c22
    try clear c25
    try clear hcz12_0
    try clear hcz12_1
    try clear hcz15_0
    try clear hcz15_1
    try clear hcz16_0
    try clear hcz16_1
    try clear hcz19_0
    try clear hcz19_1
    try clear hcz20_0
    try clear hcz20_1
    try clear hcz23_0
    try clear hcz23_1
    try clear hcz24_0
    try clear hcz24_1
    try clear hcz26_0
    try clear hcz26_1
    try clear hcz27_0
    try clear hcz27_1
    try clear hcz8_0
    try clear hcz8_1
    try clear hfz12_0
    try clear hfz12_1
    try clear hfz15_0
    try clear hfz15_1
    try clear hfz16_0
    try clear hfz16_1
    try clear hfz19_0
    try clear hfz19_1
    try clear hfz20_0
    try clear hfz20_1
    try clear hfz23_0
    try clear hfz23_1
    try clear hfz24_0
    try clear hfz24_1
    try clear hfz26_0
    try clear hfz26_1
    try clear hfz27_0
    try clear hfz27_1
    try clear hfz8_0
    try clear hfz8_1
    obtain ⟨kq, x43_4, rfl, HA, HJ4, BK153, BK157, HB⟩ := hcut
    cases kq with
    | zero => exact absurd HA.out (by simp [bursarlaw11_ChartParses.j0])
    | succ kj4 =>
      have H := HA.out
      clear HA
      simp only [bursarlaw11_ChartParses.j0] at H
      by_cases c28 : x43_4 = true
      · subst c28
        have H1 : (some false) = some r := by rw [if_pos rfl] at H; exact H
        clear H
        have H := H1
        clear H1
        obtain rfl := Option.some.inj H
        go_wp2
        go_ret
        exact ⟨by first | rfl | (simp [errW_none, errW_some] <;> rfl) | (simp [*, errW_none, errW_some] <;> rfl), by repeat (first | (with_reducible first | exact HB.out | apply below_alloc | apply pw_below_drewN | apply below_drew1 | refine below_set ?_ GE153.out | refine below_set ?_ GE157.out) | exact HB.out)⟩
      · replace c28 := Bool.eq_false_iff.mpr c28
        subst c28
        have H1 : ((chart_Card.f t149).bind fun bt158 => ((chart_Acquirer.f t149).bind fun bt162 => ((bursarref11_Name.f 1 t149).bind fun bt166 => ((bursarref11_Name.f 2 t149).bind fun bt168 => (if bt166.2 = true then (if (!(bt158.1 == 1) || (!(bt158.2.1.toList == t149.toList))) = true then (bursarlaw11_ChartParses.j1 kj4 t149 bt162.2.2 bt168.2 true bt162.1 bt162.2.1) else (if bt158.2.2 = 0 then (bursarlaw11_ChartParses.j1 kj4 t149 bt162.2.2 bt168.2 false bt162.1 bt162.2.1) else (bursarlaw11_ChartParses.j1 kj4 t149 bt162.2.2 bt168.2 true bt162.1 bt162.2.1))) else (if (!(bt158.1 == 0) || (!(bt158.2.1.toList == ([] : List UInt8)))) = true then (bursarlaw11_ChartParses.j1 kj4 t149 bt162.2.2 bt168.2 true bt162.1 bt162.2.1) else (bursarlaw11_ChartParses.j1 kj4 t149 bt162.2.2 bt168.2 (bt158.2.2 != 4) bt162.1 bt162.2.1))))))) = some r := by rw [if_neg (show ¬ (false = true) by decide)] at H; exact H
        clear H
        have H := H1
        clear H1
        replace H := Option.bind_eq_some_iff.mp H
        obtain ⟨⟨t158, t159, t160⟩, A290, H⟩ := H
        replace H : ((chart_Acquirer.f t149).bind fun bt162 => ((bursarref11_Name.f 1 t149).bind fun bt166 => ((bursarref11_Name.f 2 t149).bind fun bt168 => (if bt166.2 = true then (if (!(t158 == 1) || (!(t159.toList == t149.toList))) = true then (bursarlaw11_ChartParses.j1 kj4 t149 bt162.2.2 bt168.2 true bt162.1 bt162.2.1) else (if t160 = 0 then (bursarlaw11_ChartParses.j1 kj4 t149 bt162.2.2 bt168.2 false bt162.1 bt162.2.1) else (bursarlaw11_ChartParses.j1 kj4 t149 bt162.2.2 bt168.2 true bt162.1 bt162.2.1))) else (if (!(t158 == 0) || (!(t159.toList == ([] : List UInt8)))) = true then (bursarlaw11_ChartParses.j1 kj4 t149 bt162.2.2 bt168.2 true bt162.1 bt162.2.1) else (bursarlaw11_ChartParses.j1 kj4 t149 bt162.2.2 bt168.2 (t160 != 4) bt162.1 bt162.2.1)))))) = some r := H
        have A29 := Aside0.mk A290
        clear A290
        replace H := Option.bind_eq_some_iff.mp H
        obtain ⟨⟨t162, t163, t164⟩, A300, H⟩ := H
        replace H : ((bursarref11_Name.f 1 t149).bind fun bt166 => ((bursarref11_Name.f 2 t149).bind fun bt168 => (if bt166.2 = true then (if (!(t158 == 1) || (!(t159.toList == t149.toList))) = true then (bursarlaw11_ChartParses.j1 kj4 t149 t164 bt168.2 true t162 t163) else (if t160 = 0 then (bursarlaw11_ChartParses.j1 kj4 t149 t164 bt168.2 false t162 t163) else (bursarlaw11_ChartParses.j1 kj4 t149 t164 bt168.2 true t162 t163))) else (if (!(t158 == 0) || (!(t159.toList == ([] : List UInt8)))) = true then (bursarlaw11_ChartParses.j1 kj4 t149 t164 bt168.2 true t162 t163) else (bursarlaw11_ChartParses.j1 kj4 t149 t164 bt168.2 (t160 != 4) t162 t163))))) = some r := H
        have A30 := Aside0.mk A300
        clear A300
        replace H := Option.bind_eq_some_iff.mp H
        obtain ⟨⟨t166, t167⟩, A310, H⟩ := H
        replace H : ((bursarref11_Name.f 2 t149).bind fun bt168 => (if t167 = true then (if (!(t158 == 1) || (!(t159.toList == t149.toList))) = true then (bursarlaw11_ChartParses.j1 kj4 t149 t164 bt168.2 true t162 t163) else (if t160 = 0 then (bursarlaw11_ChartParses.j1 kj4 t149 t164 bt168.2 false t162 t163) else (bursarlaw11_ChartParses.j1 kj4 t149 t164 bt168.2 true t162 t163))) else (if (!(t158 == 0) || (!(t159.toList == ([] : List UInt8)))) = true then (bursarlaw11_ChartParses.j1 kj4 t149 t164 bt168.2 true t162 t163) else (bursarlaw11_ChartParses.j1 kj4 t149 t164 bt168.2 (t160 != 4) t162 t163)))) = some r := H
        have A31 := Aside0.mk A310
        clear A310
        replace H := Option.bind_eq_some_iff.mp H
        obtain ⟨⟨t168, t169⟩, A320, H⟩ := H
        replace H : (if t167 = true then (if (!(t158 == 1) || (!(t159.toList == t149.toList))) = true then (bursarlaw11_ChartParses.j1 kj4 t149 t164 t169 true t162 t163) else (if t160 = 0 then (bursarlaw11_ChartParses.j1 kj4 t149 t164 t169 false t162 t163) else (bursarlaw11_ChartParses.j1 kj4 t149 t164 t169 true t162 t163))) else (if (!(t158 == 0) || (!(t159.toList == ([] : List UInt8)))) = true then (bursarlaw11_ChartParses.j1 kj4 t149 t164 t169 true t162 t163) else (bursarlaw11_ChartParses.j1 kj4 t149 t164 t169 (t160 != 4) t162 t163))) = some r := H
        have A32 := Aside0.mk A320
        clear A320
        have HC33 := Aside0.mk H
        clear H
        go_upto_region 10 with (first | ((with_reducible refine gate_callee (f := 21) rfl ?_); refine goesL_ (some 46) rfl rfl Try.func21 (by kernel_rfl) rfl #[.string t149] rfl (by (try simp only [List.map_toArray, List.map_cons, List.map_nil]); first | done | rfl | (simp only [List.length_drop, List.length_take]; rfl)) ?_; (with_reducible refine (chart_Card.calls t149 t158 t159 t160 _ A29.out).mono ?_); rintro e w34 ⟨rfl, hb⟩; refine ⟨_, rfl, ?_⟩; have n0_ := Aside0.mk (blk_below (g := gb153) (o := .cells #[.int .i64 t150, .string t151] 23 (0, 0)) (by (with_reducible repeat (first | refine blk_drewN ?_ _ | refine blk_drew ?_ | refine blk_alloc ?_ _)); exact BK153.out) hb); have n1_ := Aside0.mk (blk_below (g := gb157) (o := .cells #[.int .i64 t154, .string t155] 23 (0, 0)) (by (with_reducible repeat (first | refine blk_drewN ?_ _ | refine blk_drew ?_ | refine blk_alloc ?_ _)); exact BK157.out) hb); have n2_ := Aside0.mk (below_step (by repeat (first | (with_reducible first | exact HB.out | apply below_alloc | apply pw_below_drewN | apply below_drew1 | refine below_set ?_ GE153.out | refine below_set ?_ GE157.out) | exact HB.out)) hb); clear BK153; clear BK157; clear HB; have BK153 := n0_; have BK157 := n1_; have HB := n2_; clear n0_ n1_ n2_; (try clear hb); (try clear hb2); (try clear hk); (try clear hi)) | ((with_reducible refine gate_dst (N := 7) rfl ?_); refine box_event ?hg (N := 7) ?hd (cs := #[.int .i64 0, .string (⟨#[]⟩ : ByteArray)]) (t := 23) ?hr ?_; (case hd => rfl); (case hg => rfl); (case hr => first | (go_simp; done) | (go_simp; rfl)); intro gb161 hg w35 hbox hb; have n0_ := Aside0.mk (blk_below (g := gb153) (o := .cells #[.int .i64 t150, .string t151] 23 (0, 0)) (by (with_reducible repeat (first | refine blk_drewN ?_ _ | refine blk_drew ?_ | refine blk_alloc ?_ _)); exact BK153.out) hb); have n1_ := Aside0.mk (blk_below (g := gb157) (o := .cells #[.int .i64 t154, .string t155] 23 (0, 0)) (by (with_reducible repeat (first | refine blk_drewN ?_ _ | refine blk_drew ?_ | refine blk_alloc ?_ _)); exact BK157.out) hb); have n2_ := Aside0.mk (below_step (by repeat (first | (with_reducible first | exact HB.out | apply below_alloc | apply pw_below_drewN | apply below_drew1 | refine below_set ?_ GE153.out | refine below_set ?_ GE157.out) | exact HB.out)) hb); have n3_ := Aside0.mk (hbox); have n4_ := Aside0.mk ((by rw [hg]; exact (below_size (by repeat (first | (with_reducible first | exact HB.out | apply below_alloc | apply pw_below_drewN | apply below_drew1 | refine below_set ?_ GE153.out | refine below_set ?_ GE157.out) | exact HB.out))) : w.heap.size ≤ gb161)); have n5_ := Aside0.mk ((by rw [hg]; exact (below_size (by repeat (first | (with_reducible first | exact HB.out | apply below_alloc | apply pw_below_drewN | apply below_drew1 | refine below_set ?_ GE153.out | refine below_set ?_ GE157.out) | exact HB.out))) : w.heap.size ≤ gb161)); have n6_ := Aside0.mk ((by rw [hg]; exact Nat.ne_of_lt (blk_lt (g := gb153) (o := .cells #[.int .i64 t150, .string t151] 23 (0, 0)) (by (with_reducible repeat (first | refine blk_drewN ?_ _ | refine blk_drew ?_ | refine blk_alloc ?_ _)); exact BK153.out)) : gb153 ≠ gb161)); have n7_ := Aside0.mk ((by rw [hg]; exact Nat.ne_of_gt (blk_lt (g := gb153) (o := .cells #[.int .i64 t150, .string t151] 23 (0, 0)) (by (with_reducible repeat (first | refine blk_drewN ?_ _ | refine blk_drew ?_ | refine blk_alloc ?_ _)); exact BK153.out)) : gb161 ≠ gb153)); have n8_ := Aside0.mk ((by rw [hg]; exact Nat.ne_of_lt (blk_lt (g := gb157) (o := .cells #[.int .i64 t154, .string t155] 23 (0, 0)) (by (with_reducible repeat (first | refine blk_drewN ?_ _ | refine blk_drew ?_ | refine blk_alloc ?_ _)); exact BK157.out)) : gb157 ≠ gb161)); have n9_ := Aside0.mk ((by rw [hg]; exact Nat.ne_of_gt (blk_lt (g := gb157) (o := .cells #[.int .i64 t154, .string t155] 23 (0, 0)) (by (with_reducible repeat (first | refine blk_drewN ?_ _ | refine blk_drew ?_ | refine blk_alloc ?_ _)); exact BK157.out)) : gb161 ≠ gb157)); clear BK153; clear BK157; clear HB; have BK153 := n0_; have BK157 := n1_; have HB := n2_; have BK161 := n3_; have GW161 := n4_; have GE161 := n5_; have NB153_161 := n6_; have NB161_153 := n7_; have NB157_161 := n8_; have NB161_157 := n9_; clear n0_ n1_ n2_ n3_ n4_ n5_ n6_ n7_ n8_ n9_; clear hb hbox hg; have hnb36 := NB161_153.out; have hnc36 := NB153_161.out; have hnb37 := NB161_157.out; have hnc37 := NB157_161.out; have hcz38_0 : w35.cell? ⟨gb161, 0, none⟩ = some (.int .i64 0) := (blk_cell BK161.out 0).trans rfl; have hcz38_1 : w35.cell? ⟨gb161, 1, none⟩ = some (.string (⟨#[]⟩ : ByteArray)) := (blk_cell BK161.out 1).trans rfl; have hfz38_0 := blk_frozen BK161.out 0; have hfz38_1 := blk_frozen BK161.out 1) | ((with_reducible refine gate_callee (f := 22) rfl ?_); refine goesL_ (some 51) rfl rfl Try.func22 (by kernel_rfl) rfl #[.string t149] rfl (by (try simp only [List.map_toArray, List.map_cons, List.map_nil]); first | done | rfl | (simp only [List.length_drop, List.length_take]; rfl)) ?_; (with_reducible refine (chart_Acquirer.calls t149 t162 t163 t164 _ A30.out).mono ?_); rintro e w39 ⟨rfl, hb⟩; refine ⟨_, rfl, ?_⟩; have n0_ := Aside0.mk (blk_below (g := gb153) (o := .cells #[.int .i64 t150, .string t151] 23 (0, 0)) (by (with_reducible repeat (first | refine blk_drewN ?_ _ | refine blk_drew ?_ | refine blk_alloc ?_ _)); refine blk_far ?_ NB153_161.out _; (with_reducible repeat (first | refine blk_drewN ?_ _ | refine blk_drew ?_ | refine blk_alloc ?_ _)); refine blk_far ?_ NB153_161.out _; (with_reducible repeat (first | refine blk_drewN ?_ _ | refine blk_drew ?_ | refine blk_alloc ?_ _)); exact BK153.out) hb); have n1_ := Aside0.mk (blk_below (g := gb157) (o := .cells #[.int .i64 t154, .string t155] 23 (0, 0)) (by (with_reducible repeat (first | refine blk_drewN ?_ _ | refine blk_drew ?_ | refine blk_alloc ?_ _)); refine blk_far ?_ NB157_161.out _; (with_reducible repeat (first | refine blk_drewN ?_ _ | refine blk_drew ?_ | refine blk_alloc ?_ _)); refine blk_far ?_ NB157_161.out _; (with_reducible repeat (first | refine blk_drewN ?_ _ | refine blk_drew ?_ | refine blk_alloc ?_ _)); exact BK157.out) hb); have n2_ := Aside0.mk (blk_below (g := gb161) (o := .cells #[.int .i64 t158, .string t159] 23 (0, 0)) (by (with_reducible repeat (first | refine blk_drewN ?_ _ | refine blk_drew ?_ | refine blk_alloc ?_ _)); refine blk_put (cs := #[.int .i64 t158, .string (⟨#[]⟩ : ByteArray)]) ?_ 1 _ rfl; (with_reducible repeat (first | refine blk_drewN ?_ _ | refine blk_drew ?_ | refine blk_alloc ?_ _)); refine blk_put (cs := #[.int .i64 0, .string (⟨#[]⟩ : ByteArray)]) ?_ 0 _ rfl; (with_reducible repeat (first | refine blk_drewN ?_ _ | refine blk_drew ?_ | refine blk_alloc ?_ _)); exact BK161.out) hb); have n3_ := Aside0.mk (below_step (by repeat (first | (with_reducible first | exact HB.out | apply below_alloc | apply pw_below_drewN | apply below_drew1 | refine below_set ?_ GE153.out | refine below_set ?_ GE157.out | refine below_set ?_ GE161.out) | exact HB.out)) hb); clear BK153; clear BK157; clear BK161; clear HB; have BK153 := n0_; have BK157 := n1_; have BK161 := n2_; have HB := n3_; clear n0_ n1_ n2_ n3_; (try clear hb); (try clear hb2); (try clear hk); (try clear hi)) | ((with_reducible refine gate_dst (N := 9) rfl ?_); refine box_event ?hg (N := 9) ?hd (cs := #[.int .i64 0, .string (⟨#[]⟩ : ByteArray)]) (t := 23) ?hr ?_; (case hd => rfl); (case hg => rfl); (case hr => first | (go_simp; done) | (go_simp; rfl)); intro gb165 hg w40 hbox hb; have n0_ := Aside0.mk (blk_below (g := gb153) (o := .cells #[.int .i64 t150, .string t151] 23 (0, 0)) (by (with_reducible repeat (first | refine blk_drewN ?_ _ | refine blk_drew ?_ | refine blk_alloc ?_ _)); exact BK153.out) hb); have n1_ := Aside0.mk (blk_below (g := gb157) (o := .cells #[.int .i64 t154, .string t155] 23 (0, 0)) (by (with_reducible repeat (first | refine blk_drewN ?_ _ | refine blk_drew ?_ | refine blk_alloc ?_ _)); exact BK157.out) hb); have n2_ := Aside0.mk (blk_below (g := gb161) (o := .cells #[.int .i64 t158, .string t159] 23 (0, 0)) (by (with_reducible repeat (first | refine blk_drewN ?_ _ | refine blk_drew ?_ | refine blk_alloc ?_ _)); exact BK161.out) hb); have n3_ := Aside0.mk (below_step (by repeat (first | (with_reducible first | exact HB.out | apply below_alloc | apply pw_below_drewN | apply below_drew1 | refine below_set ?_ GE153.out | refine below_set ?_ GE157.out | refine below_set ?_ GE161.out) | exact HB.out)) hb); have n4_ := Aside0.mk (hbox); have n5_ := Aside0.mk ((by rw [hg]; exact (below_size (by repeat (first | (with_reducible first | exact HB.out | apply below_alloc | apply pw_below_drewN | apply below_drew1 | refine below_set ?_ GE153.out | refine below_set ?_ GE157.out | refine below_set ?_ GE161.out) | exact HB.out))) : w.heap.size ≤ gb165)); have n6_ := Aside0.mk ((by rw [hg]; exact (below_size (by repeat (first | (with_reducible first | exact HB.out | apply below_alloc | apply pw_below_drewN | apply below_drew1 | refine below_set ?_ GE153.out | refine below_set ?_ GE157.out | refine below_set ?_ GE161.out) | exact HB.out))) : w.heap.size ≤ gb165)); have n7_ := Aside0.mk ((by rw [hg]; exact Nat.ne_of_lt (blk_lt (g := gb153) (o := .cells #[.int .i64 t150, .string t151] 23 (0, 0)) (by (with_reducible repeat (first | refine blk_drewN ?_ _ | refine blk_drew ?_ | refine blk_alloc ?_ _)); exact BK153.out)) : gb153 ≠ gb165)); have n8_ := Aside0.mk ((by rw [hg]; exact Nat.ne_of_gt (blk_lt (g := gb153) (o := .cells #[.int .i64 t150, .string t151] 23 (0, 0)) (by (with_reducible repeat (first | refine blk_drewN ?_ _ | refine blk_drew ?_ | refine blk_alloc ?_ _)); exact BK153.out)) : gb165 ≠ gb153)); have n9_ := Aside0.mk ((by rw [hg]; exact Nat.ne_of_lt (blk_lt (g := gb157) (o := .cells #[.int .i64 t154, .string t155] 23 (0, 0)) (by (with_reducible repeat (first | refine blk_drewN ?_ _ | refine blk_drew ?_ | refine blk_alloc ?_ _)); exact BK157.out)) : gb157 ≠ gb165)); have n10_ := Aside0.mk ((by rw [hg]; exact Nat.ne_of_gt (blk_lt (g := gb157) (o := .cells #[.int .i64 t154, .string t155] 23 (0, 0)) (by (with_reducible repeat (first | refine blk_drewN ?_ _ | refine blk_drew ?_ | refine blk_alloc ?_ _)); exact BK157.out)) : gb165 ≠ gb157)); have n11_ := Aside0.mk ((by rw [hg]; exact Nat.ne_of_lt (blk_lt (g := gb161) (o := .cells #[.int .i64 t158, .string t159] 23 (0, 0)) (by (with_reducible repeat (first | refine blk_drewN ?_ _ | refine blk_drew ?_ | refine blk_alloc ?_ _)); exact BK161.out)) : gb161 ≠ gb165)); have n12_ := Aside0.mk ((by rw [hg]; exact Nat.ne_of_gt (blk_lt (g := gb161) (o := .cells #[.int .i64 t158, .string t159] 23 (0, 0)) (by (with_reducible repeat (first | refine blk_drewN ?_ _ | refine blk_drew ?_ | refine blk_alloc ?_ _)); exact BK161.out)) : gb165 ≠ gb161)); clear BK153; clear BK157; clear BK161; clear HB; have BK153 := n0_; have BK157 := n1_; have BK161 := n2_; have HB := n3_; have BK165 := n4_; have GW165 := n5_; have GE165 := n6_; have NB153_165 := n7_; have NB165_153 := n8_; have NB157_165 := n9_; have NB165_157 := n10_; have NB161_165 := n11_; have NB165_161 := n12_; clear n0_ n1_ n2_ n3_ n4_ n5_ n6_ n7_ n8_ n9_ n10_ n11_ n12_; clear hb hbox hg; have hnb41 := NB165_153.out; have hnc41 := NB153_165.out; have hnb42 := NB165_157.out; have hnc42 := NB157_165.out; have hnb43 := NB165_161.out; have hnc43 := NB161_165.out; have hcz44_0 : w40.cell? ⟨gb165, 0, none⟩ = some (.int .i64 0) := (blk_cell BK165.out 0).trans rfl; have hcz44_1 : w40.cell? ⟨gb165, 1, none⟩ = some (.string (⟨#[]⟩ : ByteArray)) := (blk_cell BK165.out 1).trans rfl; have hfz44_0 := blk_frozen BK165.out 0; have hfz44_1 := blk_frozen BK165.out 1) | ((with_reducible refine gate_callee (f := 16) rfl ?_); refine goesL_ (some 57) rfl rfl Try.func16 (by kernel_rfl) rfl #[.agg #[.int .i64 1, .string t149]] rfl (by (try simp only [List.map_toArray, List.map_cons, List.map_nil]); first | done | rfl | (simp only [List.length_drop, List.length_take]; rfl)) ?_; (with_reducible refine (bursarref11_Name.calls 1 t149 t166 t167 _ A31.out).mono ?_); rintro e w45 ⟨rfl, hb⟩; refine ⟨_, rfl, ?_⟩; have n0_ := Aside0.mk (blk_below (g := gb153) (o := .cells #[.int .i64 t150, .string t151] 23 (0, 0)) (by (with_reducible repeat (first | refine blk_drewN ?_ _ | refine blk_drew ?_ | refine blk_alloc ?_ _)); refine blk_far ?_ NB153_165.out _; (with_reducible repeat (first | refine blk_drewN ?_ _ | refine blk_drew ?_ | refine blk_alloc ?_ _)); refine blk_far ?_ NB153_165.out _; (with_reducible repeat (first | refine blk_drewN ?_ _ | refine blk_drew ?_ | refine blk_alloc ?_ _)); exact BK153.out) hb); have n1_ := Aside0.mk (blk_below (g := gb157) (o := .cells #[.int .i64 t154, .string t155] 23 (0, 0)) (by (with_reducible repeat (first | refine blk_drewN ?_ _ | refine blk_drew ?_ | refine blk_alloc ?_ _)); refine blk_far ?_ NB157_165.out _; (with_reducible repeat (first | refine blk_drewN ?_ _ | refine blk_drew ?_ | refine blk_alloc ?_ _)); refine blk_far ?_ NB157_165.out _; (with_reducible repeat (first | refine blk_drewN ?_ _ | refine blk_drew ?_ | refine blk_alloc ?_ _)); exact BK157.out) hb); have n2_ := Aside0.mk (blk_below (g := gb161) (o := .cells #[.int .i64 t158, .string t159] 23 (0, 0)) (by (with_reducible repeat (first | refine blk_drewN ?_ _ | refine blk_drew ?_ | refine blk_alloc ?_ _)); refine blk_far ?_ NB161_165.out _; (with_reducible repeat (first | refine blk_drewN ?_ _ | refine blk_drew ?_ | refine blk_alloc ?_ _)); refine blk_far ?_ NB161_165.out _; (with_reducible repeat (first | refine blk_drewN ?_ _ | refine blk_drew ?_ | refine blk_alloc ?_ _)); exact BK161.out) hb); have n3_ := Aside0.mk (blk_below (g := gb165) (o := .cells #[.int .i64 t162, .string t163] 23 (0, 0)) (by (with_reducible repeat (first | refine blk_drewN ?_ _ | refine blk_drew ?_ | refine blk_alloc ?_ _)); refine blk_put (cs := #[.int .i64 t162, .string (⟨#[]⟩ : ByteArray)]) ?_ 1 _ rfl; (with_reducible repeat (first | refine blk_drewN ?_ _ | refine blk_drew ?_ | refine blk_alloc ?_ _)); refine blk_put (cs := #[.int .i64 0, .string (⟨#[]⟩ : ByteArray)]) ?_ 0 _ rfl; (with_reducible repeat (first | refine blk_drewN ?_ _ | refine blk_drew ?_ | refine blk_alloc ?_ _)); exact BK165.out) hb); have n4_ := Aside0.mk (below_step (by repeat (first | (with_reducible first | exact HB.out | apply below_alloc | apply pw_below_drewN | apply below_drew1 | refine below_set ?_ GE153.out | refine below_set ?_ GE157.out | refine below_set ?_ GE161.out | refine below_set ?_ GE165.out) | exact HB.out)) hb); clear BK153; clear BK157; clear BK161; clear BK165; clear HB; have BK153 := n0_; have BK157 := n1_; have BK161 := n2_; have BK165 := n3_; have HB := n4_; clear n0_ n1_ n2_ n3_ n4_; (try clear hb); (try clear hb2); (try clear hk); (try clear hi)) | ((with_reducible refine gate_callee (f := 16) rfl ?_); refine goesL_ (some 63) rfl rfl Try.func16 (by kernel_rfl) rfl #[.agg #[.int .i64 2, .string t149]] rfl (by (try simp only [List.map_toArray, List.map_cons, List.map_nil]); first | done | rfl | (simp only [List.length_drop, List.length_take]; rfl)) ?_; (with_reducible refine (bursarref11_Name.calls 2 t149 t168 t169 _ A32.out).mono ?_); rintro e w46 ⟨rfl, hb⟩; refine ⟨_, rfl, ?_⟩; have n0_ := Aside0.mk (blk_below (g := gb153) (o := .cells #[.int .i64 t150, .string t151] 23 (0, 0)) (by (with_reducible repeat (first | refine blk_drewN ?_ _ | refine blk_drew ?_ | refine blk_alloc ?_ _)); exact BK153.out) hb); have n1_ := Aside0.mk (blk_below (g := gb157) (o := .cells #[.int .i64 t154, .string t155] 23 (0, 0)) (by (with_reducible repeat (first | refine blk_drewN ?_ _ | refine blk_drew ?_ | refine blk_alloc ?_ _)); exact BK157.out) hb); have n2_ := Aside0.mk (blk_below (g := gb161) (o := .cells #[.int .i64 t158, .string t159] 23 (0, 0)) (by (with_reducible repeat (first | refine blk_drewN ?_ _ | refine blk_drew ?_ | refine blk_alloc ?_ _)); exact BK161.out) hb); have n3_ := Aside0.mk (blk_below (g := gb165) (o := .cells #[.int .i64 t162, .string t163] 23 (0, 0)) (by (with_reducible repeat (first | refine blk_drewN ?_ _ | refine blk_drew ?_ | refine blk_alloc ?_ _)); exact BK165.out) hb); have n4_ := Aside0.mk (below_step (by repeat (first | (with_reducible first | exact HB.out | apply below_alloc | apply pw_below_drewN | apply below_drew1 | refine below_set ?_ GE153.out | refine below_set ?_ GE157.out | refine below_set ?_ GE161.out | refine below_set ?_ GE165.out) | exact HB.out)) hb); clear BK153; clear BK157; clear BK161; clear BK165; clear HB; have BK153 := n0_; have BK157 := n1_; have BK161 := n2_; have BK165 := n3_; have HB := n4_; clear n0_ n1_ n2_ n3_ n4_; (try clear hb); (try clear hb2); (try clear hk); (try clear hi)))
        (try simp only [Act.put, List.setIfInBounds_toArray, List.set_cons_zero, List.set_cons_succ])
        go_cut [89] (fun v89 wc => ∃ (kq : Nat) (x89_32 : Bool), v89 = .bool x89_32 ∧ Aside0 (bursarlaw11_ChartParses.j1 kq t149 t164 t169 x89_32 t162 t163 = some r) ∧ Aside0 (kq ≤ kj4) ∧ Aside0 (wc.heap[gb153]? = some (.cells #[.int .i64 t150, .string t151] 23 (0, 0))) ∧ Aside0 (wc.heap[gb157]? = some (.cells #[.int .i64 t154, .string t155] 23 (0, 0))) ∧ Aside0 (wc.heap[gb161]? = some (.cells #[.int .i64 t158, .string t159] 23 (0, 0))) ∧ Aside0 (wc.heap[gb165]? = some (.cells #[.int .i64 t162, .string t163] 23 (0, 0))) ∧ Aside0 (Below w.heap.size w wc))
        case first =>
          have H := HC33.out
          clear HC33
          by_cases c47 : t167 = true
          · subst c47
            have H1 : (if (!(t158 == 1) || (!(t159.toList == t149.toList))) = true then (bursarlaw11_ChartParses.j1 kj4 t149 t164 t169 true t162 t163) else (if t160 = 0 then (bursarlaw11_ChartParses.j1 kj4 t149 t164 t169 false t162 t163) else (bursarlaw11_ChartParses.j1 kj4 t149 t164 t169 true t162 t163))) = some r := by rw [if_pos rfl] at H; exact H
            clear H
            have H := H1
            clear H1
            by_cases c48 : (!(t158 == 1) || (!(t159.toList == t149.toList))) = true
            · rw [if_pos c48] at H
              have c48b0 : (!(t158 == 1) || (!(t159.toList == t149.toList))) = true := c48
              (try (have c48b1 : (((t158 = 1) ∧ ((t159.toList = t149.toList))) = False) := eq_false (by first | (simpa using c48; done) | (intro h_; have g_ := c48; simp [h_] at g_; done) | (have g_ := c48; simp at g_; exact g_))))
              (try (have c48b2 : ((((!(t158 == 1)) = true) ∨ ((!(t159.toList == t149.toList)) = true)) = True) := (by have g_ := c48; cases g1_ : (t158 == 1) <;> cases g2_ : (t159.toList == t149.toList) <;> first | (simp; done) | (exfalso; revert g_; simp [Pu.beq_nil] at g1_ g2_ ⊢; simp [g1_, g2_]; done))))
              (try (have c48b3 : ((((!(t158 == 1)) = false) ∧ ((!(t159.toList == t149.toList)) = false)) = False) := (by have g_ := c48; cases g1_ : (t158 == 1) <;> cases g2_ : (t159.toList == t149.toList) <;> first | (simp; done) | (exfalso; revert g_; simp [Pu.beq_nil] at g1_ g2_ ⊢; simp [g1_, g2_]; done))))
              (try (have c48b4 : ((¬ (t158 = 1) ∨ (¬ (t159.toList = t149.toList))) = True) := eq_true (by first | (simpa using c48; done) | (intro h_; have g_ := c48; simp [h_] at g_; done))))
              clear c48
              (first | rw [c48b0] | (simp only [i64_w, i32_w]; rw [c48b0]) | skip)
              have H' := Aside0.mk H
              clear H
              have hnb49 := NB161_153.out
              have hnc49 := NB153_161.out
              have hnb50 := NB161_157.out
              have hnc50 := NB157_161.out
              have hnb51 := NB161_165.out
              have hnc51 := NB165_161.out
              have hcz52_0 : w46.cell? ⟨gb161, 0, none⟩ = some (.int .i64 t158) := (blk_cell BK161.out 0).trans rfl
              have hcz52_1 : w46.cell? ⟨gb161, 1, none⟩ = some (.string t159) := (blk_cell BK161.out 1).trans rfl
              have hfz52_0 := blk_frozen BK161.out 0
              have hfz52_1 := blk_frozen BK161.out 1
              go_wp2
              go_meet
              case rel => exact ⟨_, (true), (by first | rfl | (simp; done) | (simp [*]; done) | (simp [Pu.bne_nil, Pu.beq_nil]; done)), H', ⟨by have := HJ4.out; first | omega | exact Nat.le_refl _⟩, ⟨by (with_reducible repeat (first | refine blk_drewN ?_ _ | refine blk_drew ?_ | refine blk_alloc ?_ _)); exact BK153.out⟩, ⟨by (with_reducible repeat (first | refine blk_drewN ?_ _ | refine blk_drew ?_ | refine blk_alloc ?_ _)); exact BK157.out⟩, ⟨by (with_reducible repeat (first | refine blk_drewN ?_ _ | refine blk_drew ?_ | refine blk_alloc ?_ _)); exact BK161.out⟩, ⟨by (with_reducible repeat (first | refine blk_drewN ?_ _ | refine blk_drew ?_ | refine blk_alloc ?_ _)); exact BK165.out⟩, ⟨by repeat (first | (with_reducible first | exact HB.out | apply below_alloc | apply pw_below_drewN | apply below_drew1 | refine below_set ?_ GE153.out | refine below_set ?_ GE157.out | refine below_set ?_ GE161.out | refine below_set ?_ GE165.out) | exact HB.out)⟩⟩
            · rw [if_neg c48] at H
              have c48b0 : (!(t158 == 1) || (!(t159.toList == t149.toList))) = false := by simpa using c48
              (try (have c48b1 : (((t158 = 1) ∧ ((t159.toList = t149.toList))) = True) := eq_true (by first | (simpa using c48; done) | (intro h_; have g_ := c48; simp [h_] at g_; done) | (have g_ := c48; simp at g_; exact g_))))
              (try (have c48b2 : ((t158 == 1)) = true := (by first | (have g_ := c48; simp at g_; simp [g_]; done) | (have g_ := c48; simp [Pu.beq_nil] at g_ ⊢; simp [g_]; done) | (have g_ := c48; simp [Pu.beq_nil] at g_ ⊢; exact g_))))
              (try (have c48b3 : ((t159.toList == t149.toList)) = true := (by first | (have g_ := c48; simp at g_; simp [g_]; done) | (have g_ := c48; simp [Pu.beq_nil] at g_ ⊢; simp [g_]; done) | (have g_ := c48; simp [Pu.beq_nil] at g_ ⊢; exact g_))))
              (try (have c48b4 : ((¬ (t158 = 1) ∨ (¬ (t159.toList = t149.toList))) = False) := eq_false (by first | (simpa using c48; done) | (intro h_; have g_ := c48; simp [h_] at g_; done))))
              clear c48
              (first | rw [c48b0] | (simp only [i64_w, i32_w]; rw [c48b0]) | skip)
              by_cases c53 : t160 = 0
              · rw [if_pos c53] at H
                have c53b0 : (t160 == 0) = true := beq_iff_eq.mpr c53
                have c53b1 : (t160 != 0) = false := bne_eq_false_iff_eq.mpr c53
                clear c53
                have H' := Aside0.mk H
                clear H
                have hnb54 := NB161_153.out
                have hnc54 := NB153_161.out
                have hnb55 := NB161_157.out
                have hnc55 := NB157_161.out
                have hnb56 := NB161_165.out
                have hnc56 := NB165_161.out
                have hcz57_0 : w46.cell? ⟨gb161, 0, none⟩ = some (.int .i64 t158) := (blk_cell BK161.out 0).trans rfl
                have hcz57_1 : w46.cell? ⟨gb161, 1, none⟩ = some (.string t159) := (blk_cell BK161.out 1).trans rfl
                have hfz57_0 := blk_frozen BK161.out 0
                have hfz57_1 := blk_frozen BK161.out 1
                go_wp2
                go_meet
                case rel => exact ⟨_, (false), (by first | rfl | (simp; done) | (simp [*]; done) | (simp [Pu.bne_nil, Pu.beq_nil]; done)), H', ⟨by have := HJ4.out; first | omega | exact Nat.le_refl _⟩, ⟨by (with_reducible repeat (first | refine blk_drewN ?_ _ | refine blk_drew ?_ | refine blk_alloc ?_ _)); exact BK153.out⟩, ⟨by (with_reducible repeat (first | refine blk_drewN ?_ _ | refine blk_drew ?_ | refine blk_alloc ?_ _)); exact BK157.out⟩, ⟨by (with_reducible repeat (first | refine blk_drewN ?_ _ | refine blk_drew ?_ | refine blk_alloc ?_ _)); exact BK161.out⟩, ⟨by (with_reducible repeat (first | refine blk_drewN ?_ _ | refine blk_drew ?_ | refine blk_alloc ?_ _)); exact BK165.out⟩, ⟨by repeat (first | (with_reducible first | exact HB.out | apply below_alloc | apply pw_below_drewN | apply below_drew1 | refine below_set ?_ GE153.out | refine below_set ?_ GE157.out | refine below_set ?_ GE161.out | refine below_set ?_ GE165.out) | exact HB.out)⟩⟩
              · rw [if_neg c53] at H
                have c53b0 : (t160 == 0) = false := beq_eq_false_iff_ne.mpr c53
                have c53b1 : (t160 != 0) = true := bne_iff_ne.mpr c53
                have H' := Aside0.mk H
                clear H
                have hnb58 := NB161_153.out
                have hnc58 := NB153_161.out
                have hnb59 := NB161_157.out
                have hnc59 := NB157_161.out
                have hnb60 := NB161_165.out
                have hnc60 := NB165_161.out
                have hcz61_0 : w46.cell? ⟨gb161, 0, none⟩ = some (.int .i64 t158) := (blk_cell BK161.out 0).trans rfl
                have hcz61_1 : w46.cell? ⟨gb161, 1, none⟩ = some (.string t159) := (blk_cell BK161.out 1).trans rfl
                have hfz61_0 := blk_frozen BK161.out 0
                have hfz61_1 := blk_frozen BK161.out 1
                go_wp2
                go_meet
                case rel => exact ⟨_, (true), (by first | rfl | (simp; done) | (simp [*]; done) | (simp [Pu.bne_nil, Pu.beq_nil]; done)), H', ⟨by have := HJ4.out; first | omega | exact Nat.le_refl _⟩, ⟨by (with_reducible repeat (first | refine blk_drewN ?_ _ | refine blk_drew ?_ | refine blk_alloc ?_ _)); exact BK153.out⟩, ⟨by (with_reducible repeat (first | refine blk_drewN ?_ _ | refine blk_drew ?_ | refine blk_alloc ?_ _)); exact BK157.out⟩, ⟨by (with_reducible repeat (first | refine blk_drewN ?_ _ | refine blk_drew ?_ | refine blk_alloc ?_ _)); exact BK161.out⟩, ⟨by (with_reducible repeat (first | refine blk_drewN ?_ _ | refine blk_drew ?_ | refine blk_alloc ?_ _)); exact BK165.out⟩, ⟨by repeat (first | (with_reducible first | exact HB.out | apply below_alloc | apply pw_below_drewN | apply below_drew1 | refine below_set ?_ GE153.out | refine below_set ?_ GE157.out | refine below_set ?_ GE161.out | refine below_set ?_ GE165.out) | exact HB.out)⟩⟩
          · replace c47 := Bool.eq_false_iff.mpr c47
            subst c47
            have H1 : (if (!(t158 == 0) || (!(t159.toList == ([] : List UInt8)))) = true then (bursarlaw11_ChartParses.j1 kj4 t149 t164 t169 true t162 t163) else (bursarlaw11_ChartParses.j1 kj4 t149 t164 t169 (t160 != 4) t162 t163)) = some r := by rw [if_neg (show ¬ (false = true) by decide)] at H; exact H
            clear H
            have H := H1
            clear H1
            by_cases c62 : (!(t158 == 0) || (!(t159.toList == ([] : List UInt8)))) = true
            · rw [if_pos c62] at H
              have c62b0 : (!(t158 == 0) || (!(t159.toList == ([] : List UInt8)))) = true := c62
              (try (have c62b1 : (((t158 = 0) ∧ ((t159.toList = ([] : List UInt8)))) = False) := eq_false (by first | (simpa using c62; done) | (intro h_; have g_ := c62; simp [h_] at g_; done) | (have g_ := c62; simp at g_; exact g_))))
              (try (have c62b2 : ((((!(t158 == 0)) = true) ∨ ((!t159.toList.isEmpty) = true)) = True) := (by have g_ := c62; cases g1_ : (t158 == 0) <;> cases g2_ : t159.toList.isEmpty <;> first | (simp; done) | (exfalso; revert g_; simp [Pu.beq_nil] at g1_ g2_ ⊢; simp [g1_, g2_]; done))))
              (try (have c62b3 : ((((!(t158 == 0)) = false) ∧ ((!t159.toList.isEmpty) = false)) = False) := (by have g_ := c62; cases g1_ : (t158 == 0) <;> cases g2_ : t159.toList.isEmpty <;> first | (simp; done) | (exfalso; revert g_; simp [Pu.beq_nil] at g1_ g2_ ⊢; simp [g1_, g2_]; done))))
              (try (have c62b4 : ((¬ (t158 = 0) ∨ (¬ (t159.toList = ([] : List UInt8)))) = True) := eq_true (by first | (simpa using c62; done) | (intro h_; have g_ := c62; simp [h_] at g_; done))))
              clear c62
              have H' := Aside0.mk H
              clear H
              have hnb63 := NB161_153.out
              have hnc63 := NB153_161.out
              have hnb64 := NB161_157.out
              have hnc64 := NB157_161.out
              have hnb65 := NB161_165.out
              have hnc65 := NB165_161.out
              have hcz66_0 : w46.cell? ⟨gb161, 0, none⟩ = some (.int .i64 t158) := (blk_cell BK161.out 0).trans rfl
              have hcz66_1 : w46.cell? ⟨gb161, 1, none⟩ = some (.string t159) := (blk_cell BK161.out 1).trans rfl
              have hfz66_0 := blk_frozen BK161.out 0
              have hfz66_1 := blk_frozen BK161.out 1
              go_wp2
              go_meet
              case rel => exact ⟨_, (true), (by first | rfl | (simp; done) | (simp [*]; done) | (simp [Pu.bne_nil, Pu.beq_nil]; done)), H', ⟨by have := HJ4.out; first | omega | exact Nat.le_refl _⟩, ⟨by (with_reducible repeat (first | refine blk_drewN ?_ _ | refine blk_drew ?_ | refine blk_alloc ?_ _)); exact BK153.out⟩, ⟨by (with_reducible repeat (first | refine blk_drewN ?_ _ | refine blk_drew ?_ | refine blk_alloc ?_ _)); exact BK157.out⟩, ⟨by (with_reducible repeat (first | refine blk_drewN ?_ _ | refine blk_drew ?_ | refine blk_alloc ?_ _)); exact BK161.out⟩, ⟨by (with_reducible repeat (first | refine blk_drewN ?_ _ | refine blk_drew ?_ | refine blk_alloc ?_ _)); exact BK165.out⟩, ⟨by repeat (first | (with_reducible first | exact HB.out | apply below_alloc | apply pw_below_drewN | apply below_drew1 | refine below_set ?_ GE153.out | refine below_set ?_ GE157.out | refine below_set ?_ GE161.out | refine below_set ?_ GE165.out) | exact HB.out)⟩⟩
            · rw [if_neg c62] at H
              have c62b0 : (!(t158 == 0) || (!(t159.toList == ([] : List UInt8)))) = false := by simpa using c62
              (try (have c62b1 : (((t158 = 0) ∧ ((t159.toList = ([] : List UInt8)))) = True) := eq_true (by first | (simpa using c62; done) | (intro h_; have g_ := c62; simp [h_] at g_; done) | (have g_ := c62; simp at g_; exact g_))))
              (try (have c62b2 : ((t158 == 0)) = true := (by first | (have g_ := c62; simp at g_; simp [g_]; done) | (have g_ := c62; simp [Pu.beq_nil] at g_ ⊢; simp [g_]; done) | (have g_ := c62; simp [Pu.beq_nil] at g_ ⊢; exact g_))))
              (try (have c62b3 : (t159.toList.isEmpty) = true := (by first | (have g_ := c62; simp at g_; simp [g_]; done) | (have g_ := c62; simp [Pu.beq_nil] at g_ ⊢; simp [g_]; done) | (have g_ := c62; simp [Pu.beq_nil] at g_ ⊢; exact g_))))
              (try (have c62b4 : (t159.toList == ([] : List UInt8)) = true := (by first | (have g_ := c62; simp at g_; simp [g_]; done) | (have g_ := c62; simp [Pu.beq_nil] at g_ ⊢; simp [g_]; done) | (have g_ := c62; simp [Pu.beq_nil] at g_ ⊢; exact g_))))
              (try (have c62b5 : ((¬ (t158 = 0) ∨ (¬ (t159.toList = ([] : List UInt8)))) = False) := eq_false (by first | (simpa using c62; done) | (intro h_; have g_ := c62; simp [h_] at g_; done))))
              clear c62
              have H' := Aside0.mk H
              clear H
              have hnb67 := NB161_153.out
              have hnc67 := NB153_161.out
              have hnb68 := NB161_157.out
              have hnc68 := NB157_161.out
              have hnb69 := NB161_165.out
              have hnc69 := NB165_161.out
              have hcz70_0 : w46.cell? ⟨gb161, 0, none⟩ = some (.int .i64 t158) := (blk_cell BK161.out 0).trans rfl
              have hcz70_1 : w46.cell? ⟨gb161, 1, none⟩ = some (.string t159) := (blk_cell BK161.out 1).trans rfl
              have hfz70_0 := blk_frozen BK161.out 0
              have hfz70_1 := blk_frozen BK161.out 1
              go_wp2
              go_meet
              case rel => exact ⟨_, ((t160 != 4)), (by first | rfl | (simp; done) | (simp [*]; done) | (simp [Pu.bne_nil, Pu.beq_nil]; done)), H', ⟨by have := HJ4.out; first | omega | exact Nat.le_refl _⟩, ⟨by (with_reducible repeat (first | refine blk_drewN ?_ _ | refine blk_drew ?_ | refine blk_alloc ?_ _)); exact BK153.out⟩, ⟨by (with_reducible repeat (first | refine blk_drewN ?_ _ | refine blk_drew ?_ | refine blk_alloc ?_ _)); exact BK157.out⟩, ⟨by (with_reducible repeat (first | refine blk_drewN ?_ _ | refine blk_drew ?_ | refine blk_alloc ?_ _)); exact BK161.out⟩, ⟨by (with_reducible repeat (first | refine blk_drewN ?_ _ | refine blk_drew ?_ | refine blk_alloc ?_ _)); exact BK165.out⟩, ⟨by repeat (first | (with_reducible first | exact HB.out | apply below_alloc | apply pw_below_drewN | apply below_drew1 | refine below_set ?_ GE153.out | refine below_set ?_ GE157.out | refine below_set ?_ GE161.out | refine below_set ?_ GE165.out) | exact HB.out)⟩⟩
        case rest =>
          clear HC33
          try clear c1
          try clear c2
          try clear p2
          try clear c3
          try clear c4
          try clear c5
          try clear c6
          try clear c11
          try clear c13
          try clear c13b0
          try clear c13b1
          try clear c13b2
          try clear c14
          try clear c16
          try clear c17
          try clear c17b0
          try clear c17b1
          try clear c17b2
          try clear c18
          try clear c20
          try clear c21
          try clear c22
          try clear c25
          try clear c28
          try clear c36
          try clear c37
          try clear c41
          try clear c42
          try clear c43
          try clear c47
          try clear c48
          try clear c48b0
          try clear c48b1
          try clear c48b2
          try clear c49
          try clear c50
          try clear c51
          try clear c53
          try clear c53b0
          try clear c53b1
          try clear c54
          try clear c55
          try clear c56
          try clear c58
          try clear c59
          try clear c60
          try clear c62
          try clear c62b0
          try clear c62b1
          try clear c62b2
          try clear c63
          try clear c64
          try clear c65
          try clear c67
          try clear c68
          try clear c69
          try clear hcz12_0
          try clear hcz12_1
          try clear hcz15_0
          try clear hcz15_1
          try clear hcz16_0
          try clear hcz16_1
          try clear hcz19_0
          try clear hcz19_1
          try clear hcz20_0
          try clear hcz20_1
          try clear hcz23_0
          try clear hcz23_1
          try clear hcz24_0
          try clear hcz24_1
          try clear hcz26_0
          try clear hcz26_1
          try clear hcz27_0
          try clear hcz27_1
          try clear hcz38_0
          try clear hcz38_1
          try clear hcz44_0
          try clear hcz44_1
          try clear hcz52_0
          try clear hcz52_1
          try clear hcz57_0
          try clear hcz57_1
          try clear hcz61_0
          try clear hcz61_1
          try clear hcz66_0
          try clear hcz66_1
          try clear hcz70_0
          try clear hcz70_1
          try clear hcz8_0
          try clear hcz8_1
          try clear hfz12_0
          try clear hfz12_1
          try clear hfz15_0
          try clear hfz15_1
          try clear hfz16_0
          try clear hfz16_1
          try clear hfz19_0
          try clear hfz19_1
          try clear hfz20_0
          try clear hfz20_1
          try clear hfz23_0
          try clear hfz23_1
          try clear hfz24_0
          try clear hfz24_1
          try clear hfz26_0
          try clear hfz26_1
          try clear hfz27_0
          try clear hfz27_1
          try clear hfz38_0
          try clear hfz38_1
          try clear hfz44_0
          try clear hfz44_1
          try clear hfz52_0
          try clear hfz52_1
          try clear hfz57_0
          try clear hfz57_1
          try clear hfz61_0
          try clear hfz61_1
          try clear hfz66_0
          try clear hfz66_1
          try clear hfz70_0
          try clear hfz70_1
          try clear hfz8_0
          try clear hfz8_1
          try clear p2
          obtain ⟨kq, x89_32, rfl, HA, HJ32, BK153, BK157, BK161, BK165, HB⟩ := hcut
          cases kq with
          | zero => exact absurd HA.out (by simp [bursarlaw11_ChartParses.j1])
          | succ kj32 =>
            have H := HA.out
            clear HA
            simp only [bursarlaw11_ChartParses.j1] at H
            by_cases c71 : x89_32 = true
            · subst c71
              have H1 : (some false) = some r := by rw [if_pos rfl] at H; exact H
              clear H
              have H := H1
              clear H1
              obtain rfl := Option.some.inj H
              go_wp2
              go_ret
              exact ⟨by first | rfl | (simp [errW_none, errW_some] <;> rfl) | (simp [*, errW_none, errW_some] <;> rfl), by repeat (first | (with_reducible first | exact HB.out | apply below_alloc | apply pw_below_drewN | apply below_drew1 | refine below_set ?_ GE153.out | refine below_set ?_ GE157.out | refine below_set ?_ GE161.out | refine below_set ?_ GE165.out) | exact HB.out)⟩
            · replace c71 := Bool.eq_false_iff.mpr c71
              subst c71
              have H1 : (if t169 = true then (if (!(t162 == 2) || (!(t163.toList == t149.toList))) = true then (some false) else (if t164 = 0 then ((bursarlaw11_awake.f).bind fun t170 => (some t170)) else (some false))) else (if (!(t162 == 0) || (!(t163.toList == ([] : List UInt8)))) = true then (some false) else (if t164 = 4 then ((bursarlaw11_awake.f).bind fun t171 => (some t171)) else (some false)))) = some r := by rw [if_neg (show ¬ (false = true) by decide)] at H; exact H
              clear H
              have H := H1
              clear H1
              by_cases c72 : t169 = true
              · subst c72
                have H1 : (if (!(t162 == 2) || (!(t163.toList == t149.toList))) = true then (some false) else (if t164 = 0 then ((bursarlaw11_awake.f).bind fun t170 => (some t170)) else (some false))) = some r := by rw [if_pos rfl] at H; exact H
                clear H
                have H := H1
                clear H1
                by_cases c73 : (!(t162 == 2) || (!(t163.toList == t149.toList))) = true
                · rw [if_pos c73] at H
                  have c73b0 : (!(t162 == 2) || (!(t163.toList == t149.toList))) = true := c73
                  (try (have c73b1 : (((t162 = 2) ∧ ((t163.toList = t149.toList))) = False) := eq_false (by first | (simpa using c73; done) | (intro h_; have g_ := c73; simp [h_] at g_; done) | (have g_ := c73; simp at g_; exact g_))))
                  (try (have c73b2 : ((((!(t162 == 2)) = true) ∨ ((!(t163.toList == t149.toList)) = true)) = True) := (by have g_ := c73; cases g1_ : (t162 == 2) <;> cases g2_ : (t163.toList == t149.toList) <;> first | (simp; done) | (exfalso; revert g_; simp [Pu.beq_nil] at g1_ g2_ ⊢; simp [g1_, g2_]; done))))
                  (try (have c73b3 : ((((!(t162 == 2)) = false) ∧ ((!(t163.toList == t149.toList)) = false)) = False) := (by have g_ := c73; cases g1_ : (t162 == 2) <;> cases g2_ : (t163.toList == t149.toList) <;> first | (simp; done) | (exfalso; revert g_; simp [Pu.beq_nil] at g1_ g2_ ⊢; simp [g1_, g2_]; done))))
                  (try (have c73b4 : ((¬ (t162 = 2) ∨ (¬ (t163.toList = t149.toList))) = True) := eq_true (by first | (simpa using c73; done) | (intro h_; have g_ := c73; simp [h_] at g_; done))))
                  clear c73
                  obtain rfl := Option.some.inj H
                  have hnb74 := NB165_153.out
                  have hnc74 := NB153_165.out
                  have hnb75 := NB165_157.out
                  have hnc75 := NB157_165.out
                  have hnb76 := NB165_161.out
                  have hnc76 := NB161_165.out
                  have hcz77_0 : wc.cell? ⟨gb165, 0, none⟩ = some (.int .i64 t162) := (blk_cell BK165.out 0).trans rfl
                  have hcz77_1 : wc.cell? ⟨gb165, 1, none⟩ = some (.string t163) := (blk_cell BK165.out 1).trans rfl
                  have hfz77_0 := blk_frozen BK165.out 0
                  have hfz77_1 := blk_frozen BK165.out 1
                  go_wp2
                  go_ret
                  exact ⟨by first | rfl | (simp [errW_none, errW_some] <;> rfl) | (simp [*, errW_none, errW_some] <;> rfl), by repeat (first | (with_reducible first | exact HB.out | apply below_alloc | apply pw_below_drewN | apply below_drew1 | refine below_set ?_ GE153.out | refine below_set ?_ GE157.out | refine below_set ?_ GE161.out | refine below_set ?_ GE165.out) | exact HB.out)⟩
                · rw [if_neg c73] at H
                  have c73b0 : (!(t162 == 2) || (!(t163.toList == t149.toList))) = false := by simpa using c73
                  (try (have c73b1 : (((t162 = 2) ∧ ((t163.toList = t149.toList))) = True) := eq_true (by first | (simpa using c73; done) | (intro h_; have g_ := c73; simp [h_] at g_; done) | (have g_ := c73; simp at g_; exact g_))))
                  (try (have c73b2 : ((t162 == 2)) = true := (by first | (have g_ := c73; simp at g_; simp [g_]; done) | (have g_ := c73; simp [Pu.beq_nil] at g_ ⊢; simp [g_]; done) | (have g_ := c73; simp [Pu.beq_nil] at g_ ⊢; exact g_))))
                  (try (have c73b3 : ((t163.toList == t149.toList)) = true := (by first | (have g_ := c73; simp at g_; simp [g_]; done) | (have g_ := c73; simp [Pu.beq_nil] at g_ ⊢; simp [g_]; done) | (have g_ := c73; simp [Pu.beq_nil] at g_ ⊢; exact g_))))
                  (try (have c73b4 : ((¬ (t162 = 2) ∨ (¬ (t163.toList = t149.toList))) = False) := eq_false (by first | (simpa using c73; done) | (intro h_; have g_ := c73; simp [h_] at g_; done))))
                  clear c73
                  by_cases c78 : t164 = 0
                  · rw [if_pos c78] at H
                    have c78b0 : (t164 == 0) = true := beq_iff_eq.mpr c78
                    have c78b1 : (t164 != 0) = false := bne_eq_false_iff_eq.mpr c78
                    clear c78
                    replace H := Option.bind_eq_some_iff.mp H
                    obtain ⟨t170, A790, H⟩ := H
                    replace H : (some t170) = some r := H
                    have A79 := Aside0.mk A790
                    clear A790
                    obtain rfl := Option.some.inj H
                    have hnb80 := NB165_153.out
                    have hnc80 := NB153_165.out
                    have hnb81 := NB165_157.out
                    have hnc81 := NB157_165.out
                    have hnb82 := NB165_161.out
                    have hnc82 := NB161_165.out
                    have hcz83_0 : wc.cell? ⟨gb165, 0, none⟩ = some (.int .i64 t162) := (blk_cell BK165.out 0).trans rfl
                    have hcz83_1 : wc.cell? ⟨gb165, 1, none⟩ = some (.string t163) := (blk_cell BK165.out 1).trans rfl
                    have hfz83_0 := blk_frozen BK165.out 0
                    have hfz83_1 := blk_frozen BK165.out 1
                    go_wp2_with (first | ((with_reducible refine gate_callee (f := 19) rfl ?_); refine goesL_ (some 114) rfl rfl Try.func19 (by kernel_rfl) rfl #[] rfl (by (try simp only [List.map_toArray, List.map_cons, List.map_nil]); first | done | rfl | (simp only [List.length_drop, List.length_take]; rfl)) ?_; (with_reducible refine (bursarlaw11_awake.calls  t170 _ A79.out).mono ?_); rintro e w84 ⟨rfl, hb⟩; refine ⟨_, rfl, ?_⟩; have n0_ := Aside0.mk (blk_below (g := gb153) (o := .cells #[.int .i64 t150, .string t151] 23 (0, 0)) (by (with_reducible repeat (first | refine blk_drewN ?_ _ | refine blk_drew ?_ | refine blk_alloc ?_ _)); exact BK153.out) hb); have n1_ := Aside0.mk (blk_below (g := gb157) (o := .cells #[.int .i64 t154, .string t155] 23 (0, 0)) (by (with_reducible repeat (first | refine blk_drewN ?_ _ | refine blk_drew ?_ | refine blk_alloc ?_ _)); exact BK157.out) hb); have n2_ := Aside0.mk (blk_below (g := gb161) (o := .cells #[.int .i64 t158, .string t159] 23 (0, 0)) (by (with_reducible repeat (first | refine blk_drewN ?_ _ | refine blk_drew ?_ | refine blk_alloc ?_ _)); exact BK161.out) hb); have n3_ := Aside0.mk (blk_below (g := gb165) (o := .cells #[.int .i64 t162, .string t163] 23 (0, 0)) (by (with_reducible repeat (first | refine blk_drewN ?_ _ | refine blk_drew ?_ | refine blk_alloc ?_ _)); exact BK165.out) hb); have n4_ := Aside0.mk (below_step (by repeat (first | (with_reducible first | exact HB.out | apply below_alloc | apply pw_below_drewN | apply below_drew1 | refine below_set ?_ GE153.out | refine below_set ?_ GE157.out | refine below_set ?_ GE161.out | refine below_set ?_ GE165.out) | exact HB.out)) hb); clear BK153; clear BK157; clear BK161; clear BK165; clear HB; have BK153 := n0_; have BK157 := n1_; have BK161 := n2_; have BK165 := n3_; have HB := n4_; clear n0_ n1_ n2_ n3_ n4_; (try clear hb); (try clear hb2); (try clear hk); (try clear hi)))
                    go_ret
                    exact ⟨by first | rfl | (simp [errW_none, errW_some] <;> rfl) | (simp [*, errW_none, errW_some] <;> rfl), by repeat (first | (with_reducible first | exact HB.out | apply below_alloc | apply pw_below_drewN | apply below_drew1 | refine below_set ?_ GE153.out | refine below_set ?_ GE157.out | refine below_set ?_ GE161.out | refine below_set ?_ GE165.out) | exact HB.out)⟩
                  · rw [if_neg c78] at H
                    have c78b0 : (t164 == 0) = false := beq_eq_false_iff_ne.mpr c78
                    have c78b1 : (t164 != 0) = true := bne_iff_ne.mpr c78
                    obtain rfl := Option.some.inj H
                    have hnb85 := NB165_153.out
                    have hnc85 := NB153_165.out
                    have hnb86 := NB165_157.out
                    have hnc86 := NB157_165.out
                    have hnb87 := NB165_161.out
                    have hnc87 := NB161_165.out
                    have hcz88_0 : wc.cell? ⟨gb165, 0, none⟩ = some (.int .i64 t162) := (blk_cell BK165.out 0).trans rfl
                    have hcz88_1 : wc.cell? ⟨gb165, 1, none⟩ = some (.string t163) := (blk_cell BK165.out 1).trans rfl
                    have hfz88_0 := blk_frozen BK165.out 0
                    have hfz88_1 := blk_frozen BK165.out 1
                    go_wp2
                    go_ret
                    exact ⟨by first | rfl | (simp [errW_none, errW_some] <;> rfl) | (simp [*, errW_none, errW_some] <;> rfl), by repeat (first | (with_reducible first | exact HB.out | apply below_alloc | apply pw_below_drewN | apply below_drew1 | refine below_set ?_ GE153.out | refine below_set ?_ GE157.out | refine below_set ?_ GE161.out | refine below_set ?_ GE165.out) | exact HB.out)⟩
              · replace c72 := Bool.eq_false_iff.mpr c72
                subst c72
                have H1 : (if (!(t162 == 0) || (!(t163.toList == ([] : List UInt8)))) = true then (some false) else (if t164 = 4 then ((bursarlaw11_awake.f).bind fun t171 => (some t171)) else (some false))) = some r := by rw [if_neg (show ¬ (false = true) by decide)] at H; exact H
                clear H
                have H := H1
                clear H1
                by_cases c89 : (!(t162 == 0) || (!(t163.toList == ([] : List UInt8)))) = true
                · rw [if_pos c89] at H
                  have c89b0 : (!(t162 == 0) || (!(t163.toList == ([] : List UInt8)))) = true := c89
                  (try (have c89b1 : (((t162 = 0) ∧ ((t163.toList = ([] : List UInt8)))) = False) := eq_false (by first | (simpa using c89; done) | (intro h_; have g_ := c89; simp [h_] at g_; done) | (have g_ := c89; simp at g_; exact g_))))
                  (try (have c89b2 : ((((!(t162 == 0)) = true) ∨ ((!t163.toList.isEmpty) = true)) = True) := (by have g_ := c89; cases g1_ : (t162 == 0) <;> cases g2_ : t163.toList.isEmpty <;> first | (simp; done) | (exfalso; revert g_; simp [Pu.beq_nil] at g1_ g2_ ⊢; simp [g1_, g2_]; done))))
                  (try (have c89b3 : ((((!(t162 == 0)) = false) ∧ ((!t163.toList.isEmpty) = false)) = False) := (by have g_ := c89; cases g1_ : (t162 == 0) <;> cases g2_ : t163.toList.isEmpty <;> first | (simp; done) | (exfalso; revert g_; simp [Pu.beq_nil] at g1_ g2_ ⊢; simp [g1_, g2_]; done))))
                  (try (have c89b4 : ((¬ (t162 = 0) ∨ (¬ (t163.toList = ([] : List UInt8)))) = True) := eq_true (by first | (simpa using c89; done) | (intro h_; have g_ := c89; simp [h_] at g_; done))))
                  clear c89
                  obtain rfl := Option.some.inj H
                  have hnb90 := NB165_153.out
                  have hnc90 := NB153_165.out
                  have hnb91 := NB165_157.out
                  have hnc91 := NB157_165.out
                  have hnb92 := NB165_161.out
                  have hnc92 := NB161_165.out
                  have hcz93_0 : wc.cell? ⟨gb165, 0, none⟩ = some (.int .i64 t162) := (blk_cell BK165.out 0).trans rfl
                  have hcz93_1 : wc.cell? ⟨gb165, 1, none⟩ = some (.string t163) := (blk_cell BK165.out 1).trans rfl
                  have hfz93_0 := blk_frozen BK165.out 0
                  have hfz93_1 := blk_frozen BK165.out 1
                  go_wp2
                  go_ret
                  exact ⟨by first | rfl | (simp [errW_none, errW_some] <;> rfl) | (simp [*, errW_none, errW_some] <;> rfl), by repeat (first | (with_reducible first | exact HB.out | apply below_alloc | apply pw_below_drewN | apply below_drew1 | refine below_set ?_ GE153.out | refine below_set ?_ GE157.out | refine below_set ?_ GE161.out | refine below_set ?_ GE165.out) | exact HB.out)⟩
                · rw [if_neg c89] at H
                  have c89b0 : (!(t162 == 0) || (!(t163.toList == ([] : List UInt8)))) = false := by simpa using c89
                  (try (have c89b1 : (((t162 = 0) ∧ ((t163.toList = ([] : List UInt8)))) = True) := eq_true (by first | (simpa using c89; done) | (intro h_; have g_ := c89; simp [h_] at g_; done) | (have g_ := c89; simp at g_; exact g_))))
                  (try (have c89b2 : ((t162 == 0)) = true := (by first | (have g_ := c89; simp at g_; simp [g_]; done) | (have g_ := c89; simp [Pu.beq_nil] at g_ ⊢; simp [g_]; done) | (have g_ := c89; simp [Pu.beq_nil] at g_ ⊢; exact g_))))
                  (try (have c89b3 : (t163.toList.isEmpty) = true := (by first | (have g_ := c89; simp at g_; simp [g_]; done) | (have g_ := c89; simp [Pu.beq_nil] at g_ ⊢; simp [g_]; done) | (have g_ := c89; simp [Pu.beq_nil] at g_ ⊢; exact g_))))
                  (try (have c89b4 : (t163.toList == ([] : List UInt8)) = true := (by first | (have g_ := c89; simp at g_; simp [g_]; done) | (have g_ := c89; simp [Pu.beq_nil] at g_ ⊢; simp [g_]; done) | (have g_ := c89; simp [Pu.beq_nil] at g_ ⊢; exact g_))))
                  (try (have c89b5 : ((¬ (t162 = 0) ∨ (¬ (t163.toList = ([] : List UInt8)))) = False) := eq_false (by first | (simpa using c89; done) | (intro h_; have g_ := c89; simp [h_] at g_; done))))
                  clear c89
                  by_cases c94 : t164 = 4
                  · rw [if_pos c94] at H
                    have c94b0 : (t164 == 4) = true := beq_iff_eq.mpr c94
                    have c94b1 : (t164 != 4) = false := bne_eq_false_iff_eq.mpr c94
                    clear c94
                    replace H := Option.bind_eq_some_iff.mp H
                    obtain ⟨t171, A950, H⟩ := H
                    replace H : (some t171) = some r := H
                    have A95 := Aside0.mk A950
                    clear A950
                    obtain rfl := Option.some.inj H
                    have hnb96 := NB165_153.out
                    have hnc96 := NB153_165.out
                    have hnb97 := NB165_157.out
                    have hnc97 := NB157_165.out
                    have hnb98 := NB165_161.out
                    have hnc98 := NB161_165.out
                    have hcz99_0 : wc.cell? ⟨gb165, 0, none⟩ = some (.int .i64 t162) := (blk_cell BK165.out 0).trans rfl
                    have hcz99_1 : wc.cell? ⟨gb165, 1, none⟩ = some (.string t163) := (blk_cell BK165.out 1).trans rfl
                    have hfz99_0 := blk_frozen BK165.out 0
                    have hfz99_1 := blk_frozen BK165.out 1
                    go_wp2_with (first | ((with_reducible refine gate_callee (f := 19) rfl ?_); refine goesL_ (some 114) rfl rfl Try.func19 (by kernel_rfl) rfl #[] rfl (by (try simp only [List.map_toArray, List.map_cons, List.map_nil]); first | done | rfl | (simp only [List.length_drop, List.length_take]; rfl)) ?_; (with_reducible refine (bursarlaw11_awake.calls  t171 _ A95.out).mono ?_); rintro e w100 ⟨rfl, hb⟩; refine ⟨_, rfl, ?_⟩; have n0_ := Aside0.mk (blk_below (g := gb153) (o := .cells #[.int .i64 t150, .string t151] 23 (0, 0)) (by (with_reducible repeat (first | refine blk_drewN ?_ _ | refine blk_drew ?_ | refine blk_alloc ?_ _)); exact BK153.out) hb); have n1_ := Aside0.mk (blk_below (g := gb157) (o := .cells #[.int .i64 t154, .string t155] 23 (0, 0)) (by (with_reducible repeat (first | refine blk_drewN ?_ _ | refine blk_drew ?_ | refine blk_alloc ?_ _)); exact BK157.out) hb); have n2_ := Aside0.mk (blk_below (g := gb161) (o := .cells #[.int .i64 t158, .string t159] 23 (0, 0)) (by (with_reducible repeat (first | refine blk_drewN ?_ _ | refine blk_drew ?_ | refine blk_alloc ?_ _)); exact BK161.out) hb); have n3_ := Aside0.mk (blk_below (g := gb165) (o := .cells #[.int .i64 t162, .string t163] 23 (0, 0)) (by (with_reducible repeat (first | refine blk_drewN ?_ _ | refine blk_drew ?_ | refine blk_alloc ?_ _)); exact BK165.out) hb); have n4_ := Aside0.mk (below_step (by repeat (first | (with_reducible first | exact HB.out | apply below_alloc | apply pw_below_drewN | apply below_drew1 | refine below_set ?_ GE153.out | refine below_set ?_ GE157.out | refine below_set ?_ GE161.out | refine below_set ?_ GE165.out) | exact HB.out)) hb); clear BK153; clear BK157; clear BK161; clear BK165; clear HB; have BK153 := n0_; have BK157 := n1_; have BK161 := n2_; have BK165 := n3_; have HB := n4_; clear n0_ n1_ n2_ n3_ n4_; (try clear hb); (try clear hb2); (try clear hk); (try clear hi)))
                    go_ret
                    exact ⟨by first | rfl | (simp [errW_none, errW_some] <;> rfl) | (simp [*, errW_none, errW_some] <;> rfl), by repeat (first | (with_reducible first | exact HB.out | apply below_alloc | apply pw_below_drewN | apply below_drew1 | refine below_set ?_ GE153.out | refine below_set ?_ GE157.out | refine below_set ?_ GE161.out | refine below_set ?_ GE165.out) | exact HB.out)⟩
                  · rw [if_neg c94] at H
                    have c94b0 : (t164 == 4) = false := beq_eq_false_iff_ne.mpr c94
                    have c94b1 : (t164 != 4) = true := bne_iff_ne.mpr c94
                    obtain rfl := Option.some.inj H
                    have hnb101 := NB165_153.out
                    have hnc101 := NB153_165.out
                    have hnb102 := NB165_157.out
                    have hnc102 := NB157_165.out
                    have hnb103 := NB165_161.out
                    have hnc103 := NB161_165.out
                    have hcz104_0 : wc.cell? ⟨gb165, 0, none⟩ = some (.int .i64 t162) := (blk_cell BK165.out 0).trans rfl
                    have hcz104_1 : wc.cell? ⟨gb165, 1, none⟩ = some (.string t163) := (blk_cell BK165.out 1).trans rfl
                    have hfz104_0 := blk_frozen BK165.out 0
                    have hfz104_1 := blk_frozen BK165.out 1
                    go_wp2
                    go_ret
                    exact ⟨by first | rfl | (simp [errW_none, errW_some] <;> rfl) | (simp [*, errW_none, errW_some] <;> rfl), by repeat (first | (with_reducible first | exact HB.out | apply below_alloc | apply pw_below_drewN | apply below_drew1 | refine below_set ?_ GE153.out | refine below_set ?_ GE157.out | refine below_set ?_ GE161.out | refine below_set ?_ GE165.out) | exact HB.out)⟩

/-- THE ONE PURE STATEMENT of bursarlaw11_ChartParses: yours. -/
def bursarlaw11_ChartParses.Pure : Prop := ∀ (a0 : ByteArray), a0.size ≤ 140737488351232 → ∃ k, bursarlaw11_ChartParses.f k a0 = some true
theorem bursarlaw11_ChartParses.walk (P : bursarlaw11_ChartParses.Pure) (a0 : ByteArray) (w : World) (w0 : a0.size ≤ 140737488351232) :
    Calls Try.prog 4 #[.string a0] w fun e w' => e = .returned (.bool true) ∧ Below w.heap.size w w' := by
  obtain ⟨k, h⟩ := P a0 w0
  refine (bursarlaw11_ChartParses.calls k a0 true w h).mono ?_
  rintro e w' ⟨rfl, hd⟩
  exact ⟨rfl, hd⟩

/-! ### cmp_isNaN_string: function 74 -/
def cmp_isNaN_string.f (a0 : ByteArray) : Option (Bool) := some (a0.toList != a0.toList)
set_option maxHeartbeats 8000000 in
set_option maxRecDepth 100000 in
theorem cmp_isNaN_string.calls (a0 : ByteArray) (r : Bool) (w : World) (h : cmp_isNaN_string.f a0 = some r) :
    Calls Try.prog 74 #[.string a0] w fun e w' => e = .returned (.bool r) ∧ Drawn0 w w' := by
  have H : (some (a0.toList != a0.toList)) = some r := h
  clear h
  obtain rfl := Option.some.inj H
  go_enter Try.func74, Try.ntmps74
  go_wp2
  go_ret
  exact ⟨by first | rfl | (simp; done) | (simp [*]; done), by repeat (first | exact Drawn0.refl _ | apply Drawn0.step)⟩

/-! ### cmp_Compare_string: function 52 -/
theorem x_binOp_gtr (t : TypeId) (a b : ByteArray) : binOp .gtr t (.string a) (.string b) = pure (.bool !(Op.bytesLess a.toList b.toList || a.toList == b.toList)) := by simp [binOp, Op.stringOp]
def cmp_Compare_string.f (a0 a1 : ByteArray) : Option Int := some (Pu.cmpS a0 a1)
theorem cmp_Compare_string.calls (a0 a1 : ByteArray) (r : Int) (w : World) (h : cmp_Compare_string.f a0 a1 = some r) :
    Calls Try.prog 52 #[.string a0, .string a1] w fun e w' => e = .returned (.int .i64 r) ∧ Drawn0 w w' := by
  obtain rfl := Option.some.inj h
  clear h
  have hn : ∀ s : ByteArray, cmp_isNaN_string.f s = some false := fun s => by unfold cmp_isNaN_string.f; simp
  have hg := x_binOp_gtr 9 a0 a1
  by_cases h1 : Op.bytesLess a0.toList a1.toList = true
  · have hr := Lib.hid (show Pu.cmpS a0 a1 = -1 by unfold Pu.cmpS; rw [if_pos h1])
    go_enter Try.func52, Try.ntmps52
    go_wp2_with (go_at_call 74; refine (cmp_isNaN_string.calls _ false _ (hn _)).mono ?_; rintro e w' ⟨rfl, ⟨n, rfl⟩⟩)
    go_ret
    exact ⟨by rw [hr.out]; rfl, by repeat (first | exact Drawn0.refl _ | apply Drawn0.step)⟩
  · have h1' : Op.bytesLess a0.toList a1.toList = false := by simpa using h1
    rw [h1', Bool.false_or] at hg
    by_cases h2 : Op.bytesLess a1.toList a0.toList = true
    · have hr := Lib.hid (show Pu.cmpS a0 a1 = 1 by unfold Pu.cmpS; rw [if_neg h1, if_pos h2])
      have he : (a0.toList == a1.toList) = false := by
        rw [beq_eq_false_iff_ne]; intro e; rw [e, Pu.less_irr] at h2; cases h2
      rw [he] at hg
      clear h1
      go_enter Try.func52, Try.ntmps52
      go_wp2_with (go_at_call 74; refine (cmp_isNaN_string.calls _ false _ (hn _)).mono ?_; rintro e w' ⟨rfl, ⟨n, rfl⟩⟩)
      go_ret
      exact ⟨by rw [hr.out]; rfl, by repeat (first | exact Drawn0.refl _ | apply Drawn0.step)⟩
    · have hr := Lib.hid (show Pu.cmpS a0 a1 = 0 by unfold Pu.cmpS; rw [if_neg h1, if_neg h2])
      have he : (a0.toList == a1.toList) = true := by
        rw [beq_iff_eq]; rcases Pu.less_tri a0.toList a1.toList with e | e | e
        · exact absurd e h1
        · exact e
        · exact absurd e h2
      rw [he] at hg
      clear h1
      go_enter Try.func52, Try.ntmps52
      go_wp2_with (go_at_call 74; refine (cmp_isNaN_string.calls _ false _ (hn _)).mono ?_; rintro e w' ⟨rfl, ⟨n, rfl⟩⟩)
      go_ret
      exact ⟨by rw [hr.out]; rfl, by repeat (first | exact Drawn0.refl _ | apply Drawn0.step)⟩


end Go.Proofs.Ytkbhocncfldifaa.XCh
