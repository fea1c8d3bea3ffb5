-- Written by wip/xprint.py, a session's program: printed out of the translation, with hand-written functions. Lean checks it.
import Derived.Test.YtaifcadnnmicnaaXE0
import Derived.Test.YtaifcadnnmicnaaXE10
import Derived.Test.YtaifcadnnmicnaaXE12
namespace Go.Proofs.Ytaifcadnnmicnaa.XE
open Go.RowKit Go.Proofs.YtaifcadnnmicnaaW.PrintWords Go.Proofs.YtaifcadnnmicnaaW.PrintLast Go.Proofs.YtaifcadnnmicnaaW.PrintMore
attribute [local go_sem] max2_int min2_int max_two min_two max_three min_three max_four min_four   -- for this text's walks alone
set_option linter.unusedVariables false
set_option linter.unusedSimpArgs false

/-! ### hold_May_p: function 31 -/
def hold_May_p.j0 : Nat → Bool → ByteArray → ByteArray → ByteArray → Int → Int → Int → Bool → Option (Bool)
  | 0, _, _, _, _, _, _, _, _ => none
  | k + 1, x30, x140000, x140001, x140002, x140003, x140004, x140005, x140006 => if x30 = true then (some false) else (if x140004 ≥ 0 then (if x140004 ≤ x140003 then (if x140006 = true then (some (decide (x140004 < x140003))) else (some true)) else (some false)) else (some false))
def hold_May_p.f (k : Nat) (a0_0 : ByteArray) (a0_1 : ByteArray) (a0_2 : ByteArray) (a0_3 : Int) (a0_4 : Int) (a0_5 : Int) (a0_6 : Bool) : Option (Bool) := (hold_Ref.f a0_0).bind fun t142 => (if t142 = true then ((chart_May.f 1 a0_2).bind fun t143 => (if t143 = true then ((chart_May.f 2 a0_1).bind fun t144 => (if t144 = true then ((hold_until.f a0_5).bind fun t145 => (hold_May_p.j0 k (!t145) a0_0 a0_1 a0_2 a0_3 a0_4 a0_5 a0_6)) else (hold_May_p.j0 k true a0_0 a0_1 a0_2 a0_3 a0_4 a0_5 a0_6))) else (hold_May_p.j0 k true a0_0 a0_1 a0_2 a0_3 a0_4 a0_5 a0_6))) else (hold_May_p.j0 k true a0_0 a0_1 a0_2 a0_3 a0_4 a0_5 a0_6))
theorem hold_May_p.mono_l : ∀ k, (∀ y0 y1 y2 y3 y4 y5 y6 y7, LeO (hold_May_p.j0 k y0 y1 y2 y3 y4 y5 y6 y7) (hold_May_p.j0 (k + 1) y0 y1 y2 y3 y4 y5 y6 y7))
  | 0 => fun _ _ _ _ _ _ _ _ r h => by simp [hold_May_p.j0] at h
  | k + 1 => by
    have ih0 := hold_May_p.mono_l k
    · intro y0 y1 y2 y3 y4 y5 y6 y7
      unfold hold_May_p.j0
      repeat' first
      | (with_reducible exact ih0 _ _ _ _ _ _ _ _)
      | (with_reducible exact LeO.refl _)
      | (with_reducible exact LeO.none _)
      | (with_reducible refine LeO.ite ?_ ?_)
      | (with_reducible refine LeO.bind ?_ (fun _ => ?_))
      | exact ih0 _ _ _ _ _ _ _ _
      | exact LeO.none _
      | refine LeO.ite ?_ ?_
      | refine LeO.bind ?_ (fun _ => ?_)
theorem hold_May_p.mono : ∀ a0 a1 a2 a3 a4 a5 a6 k, LeO (hold_May_p.f k a0 a1 a2 a3 a4 a5 a6) (hold_May_p.f (k + 1) a0 a1 a2 a3 a4 a5 a6) := by
  intro a0 a1 a2 a3 a4 a5 a6 k
  have ih0 := hold_May_p.mono_l k
  unfold hold_May_p.f
  repeat' first
      | (with_reducible exact ih0 _ _ _ _ _ _ _ _)
      | (with_reducible exact LeO.refl _)
      | (with_reducible exact LeO.none _)
      | (with_reducible refine LeO.ite ?_ ?_)
      | (with_reducible refine LeO.bind ?_ (fun _ => ?_))
      | exact ih0 _ _ _ _ _ _ _ _
      | exact LeO.none _
      | refine LeO.ite ?_ ?_
      | refine LeO.bind ?_ (fun _ => ?_)
def hold_May_p.T1 : Bool × List (List Nat × List Nat) := (true, [([], []), ([0], [0]), ([1], [1]), ([], []), ([3], [3]), ([4], [4]), ([], []), ([], []), ([6, 2, 0, 1, 2, 6, 7], [2, 6]), ([7, 5, 8, 0, 1, 2, 3, 4, 5, 6, 7, 8], [5, 7])])
def hold_May_p.B1 : List Nat := [0, 1, 3, 0, 8, 24, 0, 0, 199, 511]
theorem hold_May_p.tab1 : rtab .any (opsOf Try.f31 1) = hold_May_p.T1 := by kernel_rfl
theorem hold_May_p.bits1 : waitsOk hold_May_p.T1.2 hold_May_p.B1 = true := by kernel_rfl
set_option maxHeartbeats 8000000 in
set_option maxRecDepth 100000 in
theorem hold_May_p.calls (k : Nat) (a0_0 : ByteArray) (a0_1 : ByteArray) (a0_2 : ByteArray) (a0_3 : Int) (a0_4 : Int) (a0_5 : Int) (a0_6 : Bool) (r : Bool) (w : World) (h : hold_May_p.f k a0_0 a0_1 a0_2 a0_3 a0_4 a0_5 a0_6 = some r) :
    Calls Try.prog 31 #[.agg #[.string a0_0, .string a0_1, .string a0_2, .int .i64 a0_3, .int .i64 a0_4, .int .i64 a0_5, .bool a0_6]] w fun e w' => e = .returned (.bool r) ∧ Below w.heap.size w w' := by
  have hu30 := Try.underlying30
  have hu54 := Try.underlying54
  have HB := Aside0.mk (Below.refl w.heap.size w)
  have H : ((hold_Ref.f a0_0).bind fun t142 => (if t142 = true then ((chart_May.f 1 a0_2).bind fun t143 => (if t143 = true then ((chart_May.f 2 a0_1).bind fun t144 => (if t144 = true then ((hold_until.f a0_5).bind fun t145 => (hold_May_p.j0 k (!t145) a0_0 a0_1 a0_2 a0_3 a0_4 a0_5 a0_6)) else (hold_May_p.j0 k true a0_0 a0_1 a0_2 a0_3 a0_4 a0_5 a0_6))) else (hold_May_p.j0 k true a0_0 a0_1 a0_2 a0_3 a0_4 a0_5 a0_6))) else (hold_May_p.j0 k true a0_0 a0_1 a0_2 a0_3 a0_4 a0_5 a0_6))) = some r := h
  clear h
  have HC2 := Aside0.mk H
  clear H
  go_enter Try.func31, Try.ntmps31
  try go_wp2_with (first | ((with_reducible refine gate_dst (N := 1) rfl ?_); refine box_event ?hg (N := 1) ?hd (cs := #[.string a0_0, .string a0_1, .string a0_2, .int .i64 a0_3, .int .i64 a0_4, .int .i64 a0_5, .bool a0_6]) (t := 30) ?hr ?_; (case hd => rfl); (case hg => rfl); (case hr => first | (go_simp; done) | (go_simp; rfl)); intro gb139 hg w3 hbox hb; have n0_ := Aside0.mk (below_step (by repeat (first | (with_reducible first | exact HB.out | apply below_alloc | apply pw_below_drewN | apply below_drew1) | exact HB.out)) hb); have n1_ := Aside0.mk (hbox); have n2_ := Aside0.mk ((by rw [hg]; exact (below_size (by repeat (first | (with_reducible first | exact HB.out | apply below_alloc | apply pw_below_drewN | apply below_drew1) | exact HB.out))) : w.heap.size ≤ gb139)); have n3_ := Aside0.mk ((by rw [hg]; exact (below_size (by repeat (first | (with_reducible first | exact HB.out | apply below_alloc | apply pw_below_drewN | apply below_drew1) | exact HB.out))) : w.heap.size ≤ gb139)); clear HB; have HB := n0_; have BK139 := n1_; have GW139 := n2_; have GE139 := n3_; clear n0_ n1_ n2_ n3_; clear hb hbox hg))
  have n0_ := Aside0.mk (blk_drew BK139.out)
  have n1_ := Aside0.mk (below_drew1 HB.out)
  clear BK139
  clear HB
  have BK139 := n0_
  have HB := n1_
  clear n0_ n1_
  refine start_ (n := 10) (S := fun w' => w'.cell? ⟨gb139, 0, none⟩ = some (.string a0_0) ∧ w'.cell? ⟨gb139, 1, none⟩ = some (.string a0_1) ∧ w'.cell? ⟨gb139, 2, none⟩ = some (.string a0_2) ∧ w'.cell? ⟨gb139, 3, none⟩ = some (.int .i64 a0_3) ∧ w'.cell? ⟨gb139, 4, none⟩ = some (.int .i64 a0_4) ∧ w'.cell? ⟨gb139, 5, none⟩ = some (.int .i64 a0_5) ∧ w'.cell? ⟨gb139, 6, none⟩ = some (.bool a0_6)) (ds := []) #[false, false, false, false, false, false, false, false, false, false] (by kernel_rfl) rfl rfl ⟨(blk_cell BK139.out 0).trans rfl, (blk_cell BK139.out 1).trans rfl, (blk_cell BK139.out 2).trans rfl, (blk_cell BK139.out 3).trans rfl, (blk_cell BK139.out 4).trans rfl, (blk_cell BK139.out 5).trans rfl, (blk_cell BK139.out 6).trans rfl⟩ (fun hHeld => ?_); refine with_tabW hold_May_p.tab1 hold_May_p.bits1 (fun HT_ HW_ => ?_)
  generalize w3.drew = w4 at BK139 HB hHeld ⊢
  refine pure_ (i := 0) (N := some 5) (v := ?_) (a' := ?_) #[true, false, false, false, false, false, false, false, false, false] rfl rfl (any_of HT_.out (by kernel_rfl)) (fun _ _ _ h => h) (Or.inl ⟨by rfl, ?_⟩) ?_ ?_
  rotate_left
  · intro w'
    go_simp
    with_reducible rfl
  rotate_left
  · simp only [Act.put, List.setIfInBounds_toArray, List.set_cons_zero, List.set_cons_succ, i64_w, i32_w]
    rfl
  refine pure_ (i := 3) (N := some 8) (v := ?_) (a' := ?_) #[true, false, false, true, false, false, false, false, false, false] rfl rfl (any_of HT_.out (by kernel_rfl)) (fun _ _ _ h => h) (Or.inl ⟨by rfl, ?_⟩) ?_ ?_
  rotate_left
  · intro w'
    go_simp
    with_reducible rfl
  rotate_left
  · simp only [Act.put, List.setIfInBounds_toArray, List.set_cons_zero, List.set_cons_succ, i64_w, i32_w]
    rfl
  refine take_ (i := 1) (N := some 6) (v := ?_) (a' := ?_) #[true, true, false, true, false, false, false, false, false, false] rfl rfl (take_ofW HT_.out HW_.out (by kernel_rfl)) (fun _ _ _ h => h) (Or.inl ⟨by rfl, ?_⟩) hHeld ?_ ?_
  rotate_left
  · rintro w' ⟨s0, s1, s2, s3, s4, s5, s6⟩
    go_simp
    with_reducible rfl
  rotate_left
  · simp only [Act.put, List.setIfInBounds_toArray, List.set_cons_zero, List.set_cons_succ, i64_w, i32_w]
    rfl
  refine pure_ (i := 2) (N := some 7) (v := ?_) (a' := ?_) #[true, true, true, true, false, false, false, false, false, false] rfl rfl (any_of HT_.out (by kernel_rfl)) (fun _ _ _ h => h) (Or.inl ⟨by rfl, ?_⟩) ?_ ?_
  rotate_left
  · intro w'
    go_simp
    with_reducible rfl
  rotate_left
  · simp only [Act.put, List.setIfInBounds_toArray, List.set_cons_zero, List.set_cons_succ, i64_w, i32_w]
    rfl
  refine take_ (i := 4) (N := some 9) (v := ?_) (a' := ?_) #[true, true, true, true, true, false, false, false, false, false] rfl rfl (take_ofW HT_.out HW_.out (by kernel_rfl)) (fun _ _ _ h => h) (Or.inl ⟨by rfl, ?_⟩) hHeld ?_ ?_
  rotate_left
  · rintro w' ⟨s0, s1, s2, s3, s4, s5, s6⟩
    go_simp
    with_reducible rfl
  rotate_left
  · simp only [Act.put, List.setIfInBounds_toArray, List.set_cons_zero, List.set_cons_succ, i64_w, i32_w]
    rfl
  refine pure_ (i := 5) (N := some 10) (v := ?_) (a' := ?_) #[true, true, true, true, true, true, false, false, false, false] rfl rfl (any_of HT_.out (by kernel_rfl)) (fun _ _ _ h => h) (Or.inl ⟨by rfl, ?_⟩) ?_ ?_
  rotate_left
  · intro w'
    go_simp
    with_reducible rfl
  rotate_left
  · simp only [Act.put, List.setIfInBounds_toArray, List.set_cons_zero, List.set_cons_succ, i64_w, i32_w]
    rfl
  refine join_ (σ := Nat × Nat) 2 #[true, true, true, true, true, true, true, true, false, false] (fun s_ => [(3, .pointer (some ⟨s_.1, 0, none⟩)), (4, .pointer (some ⟨s_.2, 0, none⟩))]) (fun s_ w' => (w'.cell? ⟨gb139, 0, none⟩ = some (.string a0_0) ∧ w'.cell? ⟨gb139, 1, none⟩ = some (.string a0_1) ∧ w'.cell? ⟨gb139, 2, none⟩ = some (.string a0_2) ∧ w'.cell? ⟨gb139, 3, none⟩ = some (.int .i64 a0_3) ∧ w'.cell? ⟨gb139, 4, none⟩ = some (.int .i64 a0_4) ∧ w'.cell? ⟨gb139, 5, none⟩ = some (.int .i64 a0_5) ∧ w'.cell? ⟨gb139, 6, none⟩ = some (.bool a0_6)) ∧ (w'.heap[gb139]? = some (.cells #[.string a0_0, .string a0_1, .string a0_2, .int .i64 a0_3, .int .i64 a0_4, .int .i64 a0_5, .bool a0_6] 30 (0, 0))) ∧ (w'.heap[s_.1]? = some (.cells #[.int .i64 0, .string (⟨#[]⟩ : ByteArray)] 54 (0, 0))) ∧ (w'.heap[s_.2]? = some (.cells #[.int .i64 0, .string (⟨#[]⟩ : ByteArray)] 54 (0, 0))) ∧ (w.heap.size ≤ s_.1) ∧ (w.heap.size ≤ s_.1) ∧ (gb139 ≠ s_.1) ∧ (s_.1 ≠ gb139) ∧ (s_.2 ≠ s_.1) ∧ (s_.1 ≠ s_.2) ∧ (w.heap.size ≤ s_.2) ∧ (w.heap.size ≤ s_.2) ∧ (gb139 ≠ s_.2) ∧ (s_.2 ≠ gb139) ∧ (Below w.heap.size w w')) ?_ ?_
  rotate_left
  · intro hCont
    refine two_ (i := 6) (j := 7) (Ni := some 3) (Nj := some 4) #[true, true, true, true, true, true, true, false, false, false] #[true, true, true, true, true, true, false, true, false, false] rfl rfl rfl rfl (two_of HT_.out (by kernel_rfl)) (by decide) (by decide) (fun K hK => ?_) (fun K hK => ?_)
    · skip
      refine box_step ?hg (N := 3) ?hd (cs := #[.int .i64 0, .string (⟨#[]⟩ : ByteArray)]) (t := 54) ?hr ?_; (case hd => rfl); (case hg => rfl); (case hr => first | (go_simp; done) | (go_simp; rfl))
      intro gb140 hg w5 hbox hb
      have n0_ := Aside0.mk (blk_below (g := gb139) (o := .cells #[.string a0_0, .string a0_1, .string a0_2, .int .i64 a0_3, .int .i64 a0_4, .int .i64 a0_5, .bool a0_6] 30 (0, 0)) (by (with_reducible repeat (first | refine blk_drewN ?_ _ | refine blk_drew ?_ | refine blk_alloc ?_ _)); exact BK139.out) hb)
      have n1_ := Aside0.mk (below_step (by repeat (first | (with_reducible first | exact HB.out | apply below_alloc | apply pw_below_drewN | apply below_drew1 | refine below_set ?_ GE139.out) | exact HB.out)) hb)
      have n2_ := Aside0.mk (hbox)
      have n3_ := Aside0.mk ((by rw [hg]; exact (below_size (by repeat (first | (with_reducible first | exact HB.out | apply below_alloc | apply pw_below_drewN | apply below_drew1 | refine below_set ?_ GE139.out) | exact HB.out))) : w.heap.size ≤ gb140))
      have n4_ := Aside0.mk ((by rw [hg]; exact (below_size (by repeat (first | (with_reducible first | exact HB.out | apply below_alloc | apply pw_below_drewN | apply below_drew1 | refine below_set ?_ GE139.out) | exact HB.out))) : w.heap.size ≤ gb140))
      have n5_ := Aside0.mk ((by rw [hg]; exact Nat.ne_of_lt (blk_lt (g := gb139) (o := .cells #[.string a0_0, .string a0_1, .string a0_2, .int .i64 a0_3, .int .i64 a0_4, .int .i64 a0_5, .bool a0_6] 30 (0, 0)) (by (with_reducible repeat (first | refine blk_drewN ?_ _ | refine blk_drew ?_ | refine blk_alloc ?_ _)); exact BK139.out)) : gb139 ≠ gb140))
      have n6_ := Aside0.mk ((by rw [hg]; exact Nat.ne_of_gt (blk_lt (g := gb139) (o := .cells #[.string a0_0, .string a0_1, .string a0_2, .int .i64 a0_3, .int .i64 a0_4, .int .i64 a0_5, .bool a0_6] 30 (0, 0)) (by (with_reducible repeat (first | refine blk_drewN ?_ _ | refine blk_drew ?_ | refine blk_alloc ?_ _)); exact BK139.out)) : gb140 ≠ gb139))
      clear BK139
      clear HB
      have BK139 := n0_
      have HB := n1_
      have BK140 := n2_
      have GW140 := n3_
      have GE140 := n4_
      have NB139_140 := n5_
      have NB140_139 := n6_
      clear n0_ n1_ n2_ n3_ n4_ n5_ n6_
      clear hb hbox hg
      refine hK.out _ _ ⟨(blk_cell BK139.out 0).trans rfl, (blk_cell BK139.out 1).trans rfl, (blk_cell BK139.out 2).trans rfl, (blk_cell BK139.out 3).trans rfl, (blk_cell BK139.out 4).trans rfl, (blk_cell BK139.out 5).trans rfl, (blk_cell BK139.out 6).trans rfl⟩ (fun hHeld => ?_)
      clear hK K
      refine norm_ (a' := ?_) ?_ ?_
      rotate_left
      · show Act.put _ (some 3) _ = _
        simp only [Act.put, List.setIfInBounds_toArray, List.set_cons_zero, List.set_cons_succ, i64_w, i32_w]
        rfl
      refine one_ (i := 7) (N := some 4) #[true, true, true, true, true, true, true, true, false, false] rfl rfl (one_of HT_.out (by kernel_rfl)) (by decide) (fun K hK => ?_)
      refine box_step ?hg (N := 4) ?hd (cs := #[.int .i64 0, .string (⟨#[]⟩ : ByteArray)]) (t := 54) ?hr ?_; (case hd => rfl); (case hg => rfl); (case hr => first | (go_simp; done) | (go_simp; rfl))
      intro gb141 hg w6 hbox hb
      have n0_ := Aside0.mk (blk_below (g := gb139) (o := .cells #[.string a0_0, .string a0_1, .string a0_2, .int .i64 a0_3, .int .i64 a0_4, .int .i64 a0_5, .bool a0_6] 30 (0, 0)) (by (with_reducible repeat (first | refine blk_drewN ?_ _ | refine blk_drew ?_ | refine blk_alloc ?_ _)); exact BK139.out) hb)
      have n1_ := Aside0.mk (blk_below (g := gb140) (o := .cells #[.int .i64 0, .string (⟨#[]⟩ : ByteArray)] 54 (0, 0)) (by (with_reducible repeat (first | refine blk_drewN ?_ _ | refine blk_drew ?_ | refine blk_alloc ?_ _)); exact BK140.out) hb)
      have n2_ := Aside0.mk (below_step (by repeat (first | (with_reducible first | exact HB.out | apply below_alloc | apply pw_below_drewN | apply below_drew1 | refine below_set ?_ GE139.out | refine below_set ?_ GE140.out) | exact HB.out)) hb)
      have n3_ := Aside0.mk (hbox)
      have n4_ := Aside0.mk ((by rw [hg]; exact (below_size (by repeat (first | (with_reducible first | exact HB.out | apply below_alloc | apply pw_below_drewN | apply below_drew1 | refine below_set ?_ GE139.out | refine below_set ?_ GE140.out) | exact HB.out))) : w.heap.size ≤ gb141))
      have n5_ := Aside0.mk ((by rw [hg]; exact (below_size (by repeat (first | (with_reducible first | exact HB.out | apply below_alloc | apply pw_below_drewN | apply below_drew1 | refine below_set ?_ GE139.out | refine below_set ?_ GE140.out) | exact HB.out))) : w.heap.size ≤ gb141))
      have n6_ := Aside0.mk ((by rw [hg]; exact Nat.ne_of_lt (blk_lt (g := gb139) (o := .cells #[.string a0_0, .string a0_1, .string a0_2, .int .i64 a0_3, .int .i64 a0_4, .int .i64 a0_5, .bool a0_6] 30 (0, 0)) (by (with_reducible repeat (first | refine blk_drewN ?_ _ | refine blk_drew ?_ | refine blk_alloc ?_ _)); exact BK139.out)) : gb139 ≠ gb141))
      have n7_ := Aside0.mk ((by rw [hg]; exact Nat.ne_of_gt (blk_lt (g := gb139) (o := .cells #[.string a0_0, .string a0_1, .string a0_2, .int .i64 a0_3, .int .i64 a0_4, .int .i64 a0_5, .bool a0_6] 30 (0, 0)) (by (with_reducible repeat (first | refine blk_drewN ?_ _ | refine blk_drew ?_ | refine blk_alloc ?_ _)); exact BK139.out)) : gb141 ≠ gb139))
      have n8_ := Aside0.mk ((by rw [hg]; exact Nat.ne_of_lt (blk_lt (g := gb140) (o := .cells #[.int .i64 0, .string (⟨#[]⟩ : ByteArray)] 54 (0, 0)) (by (with_reducible repeat (first | refine blk_drewN ?_ _ | refine blk_drew ?_ | refine blk_alloc ?_ _)); exact BK140.out)) : gb140 ≠ gb141))
      have n9_ := Aside0.mk ((by rw [hg]; exact Nat.ne_of_gt (blk_lt (g := gb140) (o := .cells #[.int .i64 0, .string (⟨#[]⟩ : ByteArray)] 54 (0, 0)) (by (with_reducible repeat (first | refine blk_drewN ?_ _ | refine blk_drew ?_ | refine blk_alloc ?_ _)); exact BK140.out)) : gb141 ≠ gb140))
      clear BK139
      clear BK140
      clear HB
      have BK139 := n0_
      have BK140 := n1_
      have HB := n2_
      have BK141 := n3_
      have GW141 := n4_
      have GE141 := n5_
      have NB139_141 := n6_
      have NB141_139 := n7_
      have NB140_141 := n8_
      have NB141_140 := n9_
      clear n0_ n1_ n2_ n3_ n4_ n5_ n6_ n7_ n8_ n9_
      clear hb hbox hg
      refine hK.out _ _ ⟨(blk_cell BK139.out 0).trans rfl, (blk_cell BK139.out 1).trans rfl, (blk_cell BK139.out 2).trans rfl, (blk_cell BK139.out 3).trans rfl, (blk_cell BK139.out 4).trans rfl, (blk_cell BK139.out 5).trans rfl, (blk_cell BK139.out 6).trans rfl⟩ (fun hHeld => ?_)
      clear hK K
      refine norm_ (a' := ?_) ?_ ?_
      rotate_left
      · show Act.put _ (some 4) _ = _
        simp only [Act.put, List.setIfInBounds_toArray, List.set_cons_zero, List.set_cons_succ, i64_w, i32_w]
        rfl
      exact norm_ (by simp only [putAll, Act.put, List.setIfInBounds_toArray, List.set_cons_zero, List.set_cons_succ]) (hCont (gb140, gb141) _ ⟨hHeld, (by (with_reducible repeat (first | refine blk_drewN ?_ _ | refine blk_drew ?_ | refine blk_alloc ?_ _)); exact BK139.out), (by (with_reducible repeat (first | refine blk_drewN ?_ _ | refine blk_drew ?_ | refine blk_alloc ?_ _)); exact BK140.out), (by (with_reducible repeat (first | refine blk_drewN ?_ _ | refine blk_drew ?_ | refine blk_alloc ?_ _)); exact BK141.out), GW140.out, GE140.out, NB139_140.out, NB140_139.out, NB141_140.out, NB140_141.out, GW141.out, GE141.out, NB139_141.out, NB141_139.out, (by repeat (first | (with_reducible first | exact HB.out | apply below_alloc | apply pw_below_drewN | apply below_drew1 | refine below_set ?_ GE139.out | refine below_set ?_ GE140.out | refine below_set ?_ GE141.out) | exact HB.out))⟩)
    · skip
      refine box_step ?hg (N := 4) ?hd (cs := #[.int .i64 0, .string (⟨#[]⟩ : ByteArray)]) (t := 54) ?hr ?_; (case hd => rfl); (case hg => rfl); (case hr => first | (go_simp; done) | (go_simp; rfl))
      intro gb141 hg w5 hbox hb
      have n0_ := Aside0.mk (blk_below (g := gb139) (o := .cells #[.string a0_0, .string a0_1, .string a0_2, .int .i64 a0_3, .int .i64 a0_4, .int .i64 a0_5, .bool a0_6] 30 (0, 0)) (by (with_reducible repeat (first | refine blk_drewN ?_ _ | refine blk_drew ?_ | refine blk_alloc ?_ _)); exact BK139.out) hb)
      have n1_ := Aside0.mk (below_step (by repeat (first | (with_reducible first | exact HB.out | apply below_alloc | apply pw_below_drewN | apply below_drew1 | refine below_set ?_ GE139.out) | exact HB.out)) hb)
      have n2_ := Aside0.mk (hbox)
      have n3_ := Aside0.mk ((by rw [hg]; exact (below_size (by repeat (first | (with_reducible first | exact HB.out | apply below_alloc | apply pw_below_drewN | apply below_drew1 | refine below_set ?_ GE139.out) | exact HB.out))) : w.heap.size ≤ gb141))
      have n4_ := Aside0.mk ((by rw [hg]; exact (below_size (by repeat (first | (with_reducible first | exact HB.out | apply below_alloc | apply pw_below_drewN | apply below_drew1 | refine below_set ?_ GE139.out) | exact HB.out))) : w.heap.size ≤ gb141))
      have n5_ := Aside0.mk ((by rw [hg]; exact Nat.ne_of_lt (blk_lt (g := gb139) (o := .cells #[.string a0_0, .string a0_1, .string a0_2, .int .i64 a0_3, .int .i64 a0_4, .int .i64 a0_5, .bool a0_6] 30 (0, 0)) (by (with_reducible repeat (first | refine blk_drewN ?_ _ | refine blk_drew ?_ | refine blk_alloc ?_ _)); exact BK139.out)) : gb139 ≠ gb141))
      have n6_ := Aside0.mk ((by rw [hg]; exact Nat.ne_of_gt (blk_lt (g := gb139) (o := .cells #[.string a0_0, .string a0_1, .string a0_2, .int .i64 a0_3, .int .i64 a0_4, .int .i64 a0_5, .bool a0_6] 30 (0, 0)) (by (with_reducible repeat (first | refine blk_drewN ?_ _ | refine blk_drew ?_ | refine blk_alloc ?_ _)); exact BK139.out)) : gb141 ≠ gb139))
      clear BK139
      clear HB
      have BK139 := n0_
      have HB := n1_
      have BK141 := n2_
      have GW141 := n3_
      have GE141 := n4_
      have NB139_141 := n5_
      have NB141_139 := n6_
      clear n0_ n1_ n2_ n3_ n4_ n5_ n6_
      clear hb hbox hg
      refine hK.out _ _ ⟨(blk_cell BK139.out 0).trans rfl, (blk_cell BK139.out 1).trans rfl, (blk_cell BK139.out 2).trans rfl, (blk_cell BK139.out 3).trans rfl, (blk_cell BK139.out 4).trans rfl, (blk_cell BK139.out 5).trans rfl, (blk_cell BK139.out 6).trans rfl⟩ (fun hHeld => ?_)
      clear hK K
      refine norm_ (a' := ?_) ?_ ?_
      rotate_left
      · show Act.put _ (some 4) _ = _
        simp only [Act.put, List.setIfInBounds_toArray, List.set_cons_zero, List.set_cons_succ, i64_w, i32_w]
        rfl
      refine one_ (i := 6) (N := some 3) #[true, true, true, true, true, true, true, true, false, false] rfl rfl (one_of HT_.out (by kernel_rfl)) (by decide) (fun K hK => ?_)
      refine box_step ?hg (N := 3) ?hd (cs := #[.int .i64 0, .string (⟨#[]⟩ : ByteArray)]) (t := 54) ?hr ?_; (case hd => rfl); (case hg => rfl); (case hr => first | (go_simp; done) | (go_simp; rfl))
      intro gb140 hg w6 hbox hb
      have n0_ := Aside0.mk (blk_below (g := gb139) (o := .cells #[.string a0_0, .string a0_1, .string a0_2, .int .i64 a0_3, .int .i64 a0_4, .int .i64 a0_5, .bool a0_6] 30 (0, 0)) (by (with_reducible repeat (first | refine blk_drewN ?_ _ | refine blk_drew ?_ | refine blk_alloc ?_ _)); exact BK139.out) hb)
      have n1_ := Aside0.mk (blk_below (g := gb141) (o := .cells #[.int .i64 0, .string (⟨#[]⟩ : ByteArray)] 54 (0, 0)) (by (with_reducible repeat (first | refine blk_drewN ?_ _ | refine blk_drew ?_ | refine blk_alloc ?_ _)); exact BK141.out) hb)
      have n2_ := Aside0.mk (below_step (by repeat (first | (with_reducible first | exact HB.out | apply below_alloc | apply pw_below_drewN | apply below_drew1 | refine below_set ?_ GE139.out | refine below_set ?_ GE141.out) | exact HB.out)) hb)
      have n3_ := Aside0.mk (hbox)
      have n4_ := Aside0.mk ((by rw [hg]; exact (below_size (by repeat (first | (with_reducible first | exact HB.out | apply below_alloc | apply pw_below_drewN | apply below_drew1 | refine below_set ?_ GE139.out | refine below_set ?_ GE141.out) | exact HB.out))) : w.heap.size ≤ gb140))
      have n5_ := Aside0.mk ((by rw [hg]; exact (below_size (by repeat (first | (with_reducible first | exact HB.out | apply below_alloc | apply pw_below_drewN | apply below_drew1 | refine below_set ?_ GE139.out | refine below_set ?_ GE141.out) | exact HB.out))) : w.heap.size ≤ gb140))
      have n6_ := Aside0.mk ((by rw [hg]; exact Nat.ne_of_lt (blk_lt (g := gb139) (o := .cells #[.string a0_0, .string a0_1, .string a0_2, .int .i64 a0_3, .int .i64 a0_4, .int .i64 a0_5, .bool a0_6] 30 (0, 0)) (by (with_reducible repeat (first | refine blk_drewN ?_ _ | refine blk_drew ?_ | refine blk_alloc ?_ _)); exact BK139.out)) : gb139 ≠ gb140))
      have n7_ := Aside0.mk ((by rw [hg]; exact Nat.ne_of_gt (blk_lt (g := gb139) (o := .cells #[.string a0_0, .string a0_1, .string a0_2, .int .i64 a0_3, .int .i64 a0_4, .int .i64 a0_5, .bool a0_6] 30 (0, 0)) (by (with_reducible repeat (first | refine blk_drewN ?_ _ | refine blk_drew ?_ | refine blk_alloc ?_ _)); exact BK139.out)) : gb140 ≠ gb139))
      have n8_ := Aside0.mk ((by rw [hg]; exact Nat.ne_of_lt (blk_lt (g := gb141) (o := .cells #[.int .i64 0, .string (⟨#[]⟩ : ByteArray)] 54 (0, 0)) (by (with_reducible repeat (first | refine blk_drewN ?_ _ | refine blk_drew ?_ | refine blk_alloc ?_ _)); exact BK141.out)) : gb141 ≠ gb140))
      have n9_ := Aside0.mk ((by rw [hg]; exact Nat.ne_of_gt (blk_lt (g := gb141) (o := .cells #[.int .i64 0, .string (⟨#[]⟩ : ByteArray)] 54 (0, 0)) (by (with_reducible repeat (first | refine blk_drewN ?_ _ | refine blk_drew ?_ | refine blk_alloc ?_ _)); exact BK141.out)) : gb140 ≠ gb141))
      clear BK139
      clear BK141
      clear HB
      have BK139 := n0_
      have BK141 := n1_
      have HB := n2_
      have BK140 := n3_
      have GW140 := n4_
      have GE140 := n5_
      have NB139_140 := n6_
      have NB140_139 := n7_
      have NB141_140 := n8_
      have NB140_141 := n9_
      clear n0_ n1_ n2_ n3_ n4_ n5_ n6_ n7_ n8_ n9_
      clear hb hbox hg
      refine hK.out _ _ ⟨(blk_cell BK139.out 0).trans rfl, (blk_cell BK139.out 1).trans rfl, (blk_cell BK139.out 2).trans rfl, (blk_cell BK139.out 3).trans rfl, (blk_cell BK139.out 4).trans rfl, (blk_cell BK139.out 5).trans rfl, (blk_cell BK139.out 6).trans rfl⟩ (fun hHeld => ?_)
      clear hK K
      refine norm_ (a' := ?_) ?_ ?_
      rotate_left
      · show Act.put _ (some 3) _ = _
        simp only [Act.put, List.setIfInBounds_toArray, List.set_cons_zero, List.set_cons_succ, i64_w, i32_w]
        rfl
      exact norm_ (by simp only [putAll, Act.put, List.setIfInBounds_toArray, List.set_cons_zero, List.set_cons_succ]) (hCont (gb140, gb141) _ ⟨hHeld, (by (with_reducible repeat (first | refine blk_drewN ?_ _ | refine blk_drew ?_ | refine blk_alloc ?_ _)); exact BK139.out), (by (with_reducible repeat (first | refine blk_drewN ?_ _ | refine blk_drew ?_ | refine blk_alloc ?_ _)); exact BK140.out), (by (with_reducible repeat (first | refine blk_drewN ?_ _ | refine blk_drew ?_ | refine blk_alloc ?_ _)); exact BK141.out), GW140.out, GE140.out, NB139_140.out, NB140_139.out, NB141_140.out, NB140_141.out, GW141.out, GE141.out, NB139_141.out, NB141_139.out, (by repeat (first | (with_reducible first | exact HB.out | apply below_alloc | apply pw_below_drewN | apply below_drew1 | refine below_set ?_ GE139.out | refine below_set ?_ GE141.out | refine below_set ?_ GE140.out) | exact HB.out))⟩)
  rintro ⟨gb140, gb141⟩ w7 ⟨hS_, h0_, h1_, h2_, h3_, h4_, h5_, h6_, h7_, h8_, h9_, h10_, h11_, h12_, h13_⟩
  have n0_ : Aside0 (w7.heap[gb139]? = some (.cells #[.string a0_0, .string a0_1, .string a0_2, .int .i64 a0_3, .int .i64 a0_4, .int .i64 a0_5, .bool a0_6] 30 (0, 0))) := ⟨h0_⟩
  have n1_ : Aside0 (w7.heap[gb140]? = some (.cells #[.int .i64 0, .string (⟨#[]⟩ : ByteArray)] 54 (0, 0))) := ⟨h1_⟩
  have n2_ : Aside0 (w7.heap[gb141]? = some (.cells #[.int .i64 0, .string (⟨#[]⟩ : ByteArray)] 54 (0, 0))) := ⟨h2_⟩
  have n3_ : Aside0 (w.heap.size ≤ gb140) := ⟨h3_⟩
  have n4_ : Aside0 (w.heap.size ≤ gb140) := ⟨h4_⟩
  have n5_ : Aside0 (gb139 ≠ gb140) := ⟨h5_⟩
  have n6_ : Aside0 (gb140 ≠ gb139) := ⟨h6_⟩
  have n7_ : Aside0 (gb141 ≠ gb140) := ⟨h7_⟩
  have n8_ : Aside0 (gb140 ≠ gb141) := ⟨h8_⟩
  have n9_ : Aside0 (w.heap.size ≤ gb141) := ⟨h9_⟩
  have n10_ : Aside0 (w.heap.size ≤ gb141) := ⟨h10_⟩
  have n11_ : Aside0 (gb139 ≠ gb141) := ⟨h11_⟩
  have n12_ : Aside0 (gb141 ≠ gb139) := ⟨h12_⟩
  have n13_ : Aside0 (Below w.heap.size w w7) := ⟨h13_⟩
  clear BK139
  clear HB
  clear h0_ h1_ h2_ h3_ h4_ h5_ h6_ h7_ h8_ h9_ h10_ h11_ h12_ h13_
  have BK139 := n0_
  have BK140 := n1_
  have BK141 := n2_
  have GW140 := n3_
  have GE140 := n4_
  have NB139_140 := n5_
  have NB140_139 := n6_
  have NB141_140 := n7_
  have NB140_141 := n8_
  have GW141 := n9_
  have GE141 := n10_
  have NB139_141 := n11_
  have NB141_139 := n12_
  have HB := n13_
  clear n0_ n1_ n2_ n3_ n4_ n5_ n6_ n7_ n8_ n9_ n10_ n11_ n12_ n13_
  have hHeld : w7.cell? ⟨gb139, 0, none⟩ = some (.string a0_0) ∧ w7.cell? ⟨gb139, 1, none⟩ = some (.string a0_1) ∧ w7.cell? ⟨gb139, 2, none⟩ = some (.string a0_2) ∧ w7.cell? ⟨gb139, 3, none⟩ = some (.int .i64 a0_3) ∧ w7.cell? ⟨gb139, 4, none⟩ = some (.int .i64 a0_4) ∧ w7.cell? ⟨gb139, 5, none⟩ = some (.int .i64 a0_5) ∧ w7.cell? ⟨gb139, 6, none⟩ = some (.bool a0_6) := hS_
  refine norm_ (a' := ?_) ?_ ?_
  rotate_left
  · simp only [putAll, Act.put, List.setIfInBounds_toArray, List.set_cons_zero, List.set_cons_succ]
    rfl
  refine one_ (i := 8) (N := none) #[true, true, true, true, true, true, true, true, true, false] rfl rfl (one_of HT_.out (by kernel_rfl)) (by decide) (fun K hK => ?_)
  have hs8 : w7.cell? ⟨gb140, 0, none⟩ = some (.int .i64 0) := (blk_cell BK140.out 0).trans rfl
  have hfs8 := blk_frozen BK140.out 0
  have hns8_0 := NB139_140.out
  have hns8_2 := NB141_140.out
  have hms8_0 := NB140_139.out
  have hms8_2 := NB140_141.out
  have hs9 : w7.cell? ⟨gb140, 1, none⟩ = some (.string (⟨#[]⟩ : ByteArray)) := (blk_cell BK140.out 1).trans rfl
  have hfs9 := blk_frozen BK140.out 1
  have hns9_0 := NB139_140.out
  have hns9_2 := NB141_140.out
  have hms9_0 := NB140_139.out
  have hms9_2 := NB140_141.out
  refine skip_ (w1 := ?_) (by rfl) rfl ?_ ?_
  rotate_left
  · go_simp
    rfl
  refine hK.out _ _ ⟨((cell_far (p := ⟨gb140, _, none⟩) NB139_140.out _).trans (((cell_far (p := ⟨gb140, _, none⟩) NB139_140.out _).trans (hHeld.1)))), ((cell_far (p := ⟨gb140, _, none⟩) NB139_140.out _).trans (((cell_far (p := ⟨gb140, _, none⟩) NB139_140.out _).trans (hHeld.2.1)))), ((cell_far (p := ⟨gb140, _, none⟩) NB139_140.out _).trans (((cell_far (p := ⟨gb140, _, none⟩) NB139_140.out _).trans (hHeld.2.2.1)))), ((cell_far (p := ⟨gb140, _, none⟩) NB139_140.out _).trans (((cell_far (p := ⟨gb140, _, none⟩) NB139_140.out _).trans (hHeld.2.2.2.1)))), ((cell_far (p := ⟨gb140, _, none⟩) NB139_140.out _).trans (((cell_far (p := ⟨gb140, _, none⟩) NB139_140.out _).trans (hHeld.2.2.2.2.1)))), ((cell_far (p := ⟨gb140, _, none⟩) NB139_140.out _).trans (((cell_far (p := ⟨gb140, _, none⟩) NB139_140.out _).trans (hHeld.2.2.2.2.2.1)))), ((cell_far (p := ⟨gb140, _, none⟩) NB139_140.out _).trans (((cell_far (p := ⟨gb140, _, none⟩) NB139_140.out _).trans (hHeld.2.2.2.2.2.2))))⟩ (fun hHeld => ?_)
  clear hK K
  refine one_ (i := 9) (N := none) #[true, true, true, true, true, true, true, true, true, true] rfl rfl (one_of HT_.out (by kernel_rfl)) (by decide) (fun K hK => ?_)
  have hs10 : w7.cell? ⟨gb141, 0, none⟩ = some (.int .i64 0) := (blk_cell BK141.out 0).trans rfl
  have hfs10 := blk_frozen BK141.out 0
  have hns10_0 := NB139_141.out
  have hns10_1 := NB140_141.out
  have hms10_0 := NB141_139.out
  have hms10_1 := NB141_140.out
  have hs11 : w7.cell? ⟨gb141, 1, none⟩ = some (.string (⟨#[]⟩ : ByteArray)) := (blk_cell BK141.out 1).trans rfl
  have hfs11 := blk_frozen BK141.out 1
  have hns11_0 := NB139_141.out
  have hns11_1 := NB140_141.out
  have hms11_0 := NB141_139.out
  have hms11_1 := NB141_140.out
  refine skip_ (w1 := ?_) (by rfl) rfl ?_ ?_
  rotate_left
  · go_simp
    rfl
  refine hK.out _ _ ⟨((cell_far (p := ⟨gb141, _, none⟩) NB139_141.out _).trans (((cell_far (p := ⟨gb141, _, none⟩) NB139_141.out _).trans (hHeld.1)))), ((cell_far (p := ⟨gb141, _, none⟩) NB139_141.out _).trans (((cell_far (p := ⟨gb141, _, none⟩) NB139_141.out _).trans (hHeld.2.1)))), ((cell_far (p := ⟨gb141, _, none⟩) NB139_141.out _).trans (((cell_far (p := ⟨gb141, _, none⟩) NB139_141.out _).trans (hHeld.2.2.1)))), ((cell_far (p := ⟨gb141, _, none⟩) NB139_141.out _).trans (((cell_far (p := ⟨gb141, _, none⟩) NB139_141.out _).trans (hHeld.2.2.2.1)))), ((cell_far (p := ⟨gb141, _, none⟩) NB139_141.out _).trans (((cell_far (p := ⟨gb141, _, none⟩) NB139_141.out _).trans (hHeld.2.2.2.2.1)))), ((cell_far (p := ⟨gb141, _, none⟩) NB139_141.out _).trans (((cell_far (p := ⟨gb141, _, none⟩) NB139_141.out _).trans (hHeld.2.2.2.2.2.1)))), ((cell_far (p := ⟨gb141, _, none⟩) NB139_141.out _).trans (((cell_far (p := ⟨gb141, _, none⟩) NB139_141.out _).trans (hHeld.2.2.2.2.2.2))))⟩ (fun hHeld => ?_)
  clear hK K
  refine done_ (done_of HT_.out (by kernel_rfl)) ?_
  go_upto_region 2 with (fail)
  go_cut [30] (fun v30 wc => ∃ (kq : Nat) (x30_1 : Bool), v30 = .bool x30_1 ∧ Aside0 (hold_May_p.j0 kq x30_1 a0_0 a0_1 a0_2 a0_3 a0_4 a0_5 a0_6 = some r) ∧ Aside0 (kq ≤ k) ∧ Aside0 (wc.heap[gb139]? = some (.cells #[.string a0_0, .string a0_1, .string a0_2, .int .i64 a0_3, .int .i64 a0_4, .int .i64 a0_5, .bool a0_6] 30 (0, 0))) ∧ Aside0 (wc.heap[gb140]? = some (.cells #[.int .i64 1, .string a0_2] 54 (0, 0))) ∧ Aside0 (wc.heap[gb141]? = some (.cells #[.int .i64 2, .string a0_1] 54 (0, 0))) ∧ Aside0 (Below w.heap.size w wc))
  case first =>
    have H := HC2.out
    clear HC2
    replace H := Option.bind_eq_some_iff.mp H
    obtain ⟨t142, A120, H⟩ := H
    replace H : (if t142 = true then ((chart_May.f 1 a0_2).bind fun t143 => (if t143 = true then ((chart_May.f 2 a0_1).bind fun t144 => (if t144 = true then ((hold_until.f a0_5).bind fun t145 => (hold_May_p.j0 k (!t145) a0_0 a0_1 a0_2 a0_3 a0_4 a0_5 a0_6)) else (hold_May_p.j0 k true a0_0 a0_1 a0_2 a0_3 a0_4 a0_5 a0_6))) else (hold_May_p.j0 k true a0_0 a0_1 a0_2 a0_3 a0_4 a0_5 a0_6))) else (hold_May_p.j0 k true a0_0 a0_1 a0_2 a0_3 a0_4 a0_5 a0_6)) = some r := H
    have A12 := Aside0.mk A120
    clear A120
    by_cases c13 : t142 = true
    · subst c13
      have H1 : ((chart_May.f 1 a0_2).bind fun t143 => (if t143 = true then ((chart_May.f 2 a0_1).bind fun t144 => (if t144 = true then ((hold_until.f a0_5).bind fun t145 => (hold_May_p.j0 k (!t145) a0_0 a0_1 a0_2 a0_3 a0_4 a0_5 a0_6)) else (hold_May_p.j0 k true a0_0 a0_1 a0_2 a0_3 a0_4 a0_5 a0_6))) else (hold_May_p.j0 k true a0_0 a0_1 a0_2 a0_3 a0_4 a0_5 a0_6))) = some r := by rw [if_pos rfl] at H; exact H
      clear H
      have H := H1
      clear H1
      replace H := Option.bind_eq_some_iff.mp H
      obtain ⟨t143, A140, H⟩ := H
      replace H : (if t143 = true then ((chart_May.f 2 a0_1).bind fun t144 => (if t144 = true then ((hold_until.f a0_5).bind fun t145 => (hold_May_p.j0 k (!t145) a0_0 a0_1 a0_2 a0_3 a0_4 a0_5 a0_6)) else (hold_May_p.j0 k true a0_0 a0_1 a0_2 a0_3 a0_4 a0_5 a0_6))) else (hold_May_p.j0 k true a0_0 a0_1 a0_2 a0_3 a0_4 a0_5 a0_6)) = some r := H
      have A14 := Aside0.mk A140
      clear A140
      by_cases c15 : t143 = true
      · subst c15
        have H1 : ((chart_May.f 2 a0_1).bind fun t144 => (if t144 = true then ((hold_until.f a0_5).bind fun t145 => (hold_May_p.j0 k (!t145) a0_0 a0_1 a0_2 a0_3 a0_4 a0_5 a0_6)) else (hold_May_p.j0 k true a0_0 a0_1 a0_2 a0_3 a0_4 a0_5 a0_6))) = some r := by rw [if_pos rfl] at H; exact H
        clear H
        have H := H1
        clear H1
        replace H := Option.bind_eq_some_iff.mp H
        obtain ⟨t144, A160, H⟩ := H
        replace H : (if t144 = true then ((hold_until.f a0_5).bind fun t145 => (hold_May_p.j0 k (!t145) a0_0 a0_1 a0_2 a0_3 a0_4 a0_5 a0_6)) else (hold_May_p.j0 k true a0_0 a0_1 a0_2 a0_3 a0_4 a0_5 a0_6)) = some r := H
        have A16 := Aside0.mk A160
        clear A160
        by_cases c17 : t144 = true
        · subst c17
          have H1 : ((hold_until.f a0_5).bind fun t145 => (hold_May_p.j0 k (!t145) a0_0 a0_1 a0_2 a0_3 a0_4 a0_5 a0_6)) = some r := by rw [if_pos rfl] at H; exact H
          clear H
          have H := H1
          clear H1
          replace H := Option.bind_eq_some_iff.mp H
          obtain ⟨t145, A180, H⟩ := H
          replace H : (hold_May_p.j0 k (!t145) a0_0 a0_1 a0_2 a0_3 a0_4 a0_5 a0_6) = some r := H
          have A18 := Aside0.mk A180
          clear A180
          have H' := Aside0.mk H
          clear H
          have hnb19 := NB139_140.out
          have hnc19 := NB140_139.out
          have hnb20 := NB139_141.out
          have hnc20 := NB141_139.out
          have hcz21_0 := blk_cell BK139.out
          have hfz21_0 := blk_frozen BK139.out
          go_wp2_with (first | ((with_reducible refine gate_callee (f := 39) rfl ?_); refine goesL_ (some 13) rfl rfl Try.func39 (by kernel_rfl) rfl #[.string a0_0] rfl (by (try simp only [List.map_toArray, List.map_cons, List.map_nil]); first | done | rfl | (simp only [List.length_drop, List.length_take]; rfl)) ?_; (with_reducible refine (hold_Ref.calls a0_0 true _ A12.out).mono ?_); rintro e w' ⟨rfl, ⟨nd, rfl⟩⟩; refine ⟨_, rfl, ?_⟩; have hnb22 := NB140_141.out; have hnc22 := NB141_140.out; have hcz23_0 := blk_cell BK140.out; have hfz23_0 := blk_frozen BK140.out) | (go_at_call 40; (with_reducible refine (chart_May.calls 1 a0_2 true _ A14.out).mono ?_); rintro e w24 ⟨rfl, hb⟩; have n0_ := Aside0.mk (blk_below (g := gb139) (o := .cells #[.string a0_0, .string a0_1, .string a0_2, .int .i64 a0_3, .int .i64 a0_4, .int .i64 a0_5, .bool a0_6] 30 (0, 0)) (by (with_reducible repeat (first | refine blk_drewN ?_ _ | refine blk_drew ?_ | refine blk_alloc ?_ _)); refine blk_far ?_ NB139_141.out _; (with_reducible repeat (first | refine blk_drewN ?_ _ | refine blk_drew ?_ | refine blk_alloc ?_ _)); refine blk_far ?_ NB139_141.out _; (with_reducible repeat (first | refine blk_drewN ?_ _ | refine blk_drew ?_ | refine blk_alloc ?_ _)); refine blk_far ?_ NB139_140.out _; (with_reducible repeat (first | refine blk_drewN ?_ _ | refine blk_drew ?_ | refine blk_alloc ?_ _)); refine blk_far ?_ NB139_140.out _; (with_reducible repeat (first | refine blk_drewN ?_ _ | refine blk_drew ?_ | refine blk_alloc ?_ _)); exact BK139.out) hb); have n1_ := Aside0.mk (blk_below (g := gb140) (o := .cells #[.int .i64 1, .string a0_2] 54 (0, 0)) (by (with_reducible repeat (first | refine blk_drewN ?_ _ | refine blk_drew ?_ | refine blk_alloc ?_ _)); refine blk_far ?_ NB140_141.out _; (with_reducible repeat (first | refine blk_drewN ?_ _ | refine blk_drew ?_ | refine blk_alloc ?_ _)); refine blk_far ?_ NB140_141.out _; (with_reducible repeat (first | refine blk_drewN ?_ _ | refine blk_drew ?_ | refine blk_alloc ?_ _)); refine blk_put (cs := #[.int .i64 1, .string (⟨#[]⟩ : ByteArray)]) ?_ 1 _ rfl; (with_reducible repeat (first | refine blk_drewN ?_ _ | refine blk_drew ?_ | refine blk_alloc ?_ _)); refine blk_put (cs := #[.int .i64 0, .string (⟨#[]⟩ : ByteArray)]) ?_ 0 _ rfl; (with_reducible repeat (first | refine blk_drewN ?_ _ | refine blk_drew ?_ | refine blk_alloc ?_ _)); exact BK140.out) hb); have n2_ := Aside0.mk (blk_below (g := gb141) (o := .cells #[.int .i64 2, .string a0_1] 54 (0, 0)) (by (with_reducible repeat (first | refine blk_drewN ?_ _ | refine blk_drew ?_ | refine blk_alloc ?_ _)); refine blk_put (cs := #[.int .i64 2, .string (⟨#[]⟩ : ByteArray)]) ?_ 1 _ rfl; (with_reducible repeat (first | refine blk_drewN ?_ _ | refine blk_drew ?_ | refine blk_alloc ?_ _)); refine blk_put (cs := #[.int .i64 0, .string (⟨#[]⟩ : ByteArray)]) ?_ 0 _ rfl; (with_reducible repeat (first | refine blk_drewN ?_ _ | refine blk_drew ?_ | refine blk_alloc ?_ _)); refine blk_far ?_ NB141_140.out _; (with_reducible repeat (first | refine blk_drewN ?_ _ | refine blk_drew ?_ | refine blk_alloc ?_ _)); refine blk_far ?_ NB141_140.out _; (with_reducible repeat (first | refine blk_drewN ?_ _ | refine blk_drew ?_ | refine blk_alloc ?_ _)); exact BK141.out) hb); have n3_ := Aside0.mk (below_step (by repeat (first | (with_reducible first | exact HB.out | apply below_alloc | apply pw_below_drewN | apply below_drew1 | refine below_set ?_ GE139.out | refine below_set ?_ GE140.out | refine below_set ?_ GE141.out) | exact HB.out)) hb); clear BK139; clear BK140; clear BK141; clear HB; have BK139 := n0_; have BK140 := n1_; have BK141 := n2_; have HB := n3_; clear n0_ n1_ n2_ n3_; (try clear hb); (try clear hb2); (try clear hk); (try clear hi); have hcz25_0 := blk_cell BK141.out; have hfz25_0 := blk_frozen BK141.out) | (go_at_call 40; (with_reducible refine (chart_May.calls 2 a0_1 true _ A16.out).mono ?_); rintro e w26 ⟨rfl, hb⟩; have n0_ := Aside0.mk (blk_below (g := gb139) (o := .cells #[.string a0_0, .string a0_1, .string a0_2, .int .i64 a0_3, .int .i64 a0_4, .int .i64 a0_5, .bool a0_6] 30 (0, 0)) (by (with_reducible repeat (first | refine blk_drewN ?_ _ | refine blk_drew ?_ | refine blk_alloc ?_ _)); exact BK139.out) hb); have n1_ := Aside0.mk (blk_below (g := gb140) (o := .cells #[.int .i64 1, .string a0_2] 54 (0, 0)) (by (with_reducible repeat (first | refine blk_drewN ?_ _ | refine blk_drew ?_ | refine blk_alloc ?_ _)); exact BK140.out) hb); have n2_ := Aside0.mk (blk_below (g := gb141) (o := .cells #[.int .i64 2, .string a0_1] 54 (0, 0)) (by (with_reducible repeat (first | refine blk_drewN ?_ _ | refine blk_drew ?_ | refine blk_alloc ?_ _)); exact BK141.out) hb); have n3_ := Aside0.mk (below_step (by repeat (first | (with_reducible first | exact HB.out | apply below_alloc | apply pw_below_drewN | apply below_drew1 | refine below_set ?_ GE139.out | refine below_set ?_ GE140.out | refine below_set ?_ GE141.out) | exact HB.out)) hb); clear BK139; clear BK140; clear BK141; clear HB; have BK139 := n0_; have BK140 := n1_; have BK141 := n2_; have HB := n3_; clear n0_ n1_ n2_ n3_; (try clear hb); (try clear hb2); (try clear hk); (try clear hi); have hcz27_0 := blk_cell BK139.out; have hfz27_0 := blk_frozen BK139.out) | (go_at_call 41; (with_reducible refine (hold_until.calls a0_5 t145 _ A18.out).mono ?_); rintro e w' ⟨rfl, ⟨nd, rfl⟩⟩))
          go_meet
          case rel => exact ⟨_, (!t145), (by first | rfl | (simp; done) | (simp [*]; done) | (simp [Pu.bne_nil, Pu.beq_nil]; done)), H', ⟨by first | omega | exact Nat.le_refl _⟩, ⟨by (with_reducible repeat (first | refine blk_drewN ?_ _ | refine blk_drew ?_ | refine blk_alloc ?_ _)); exact BK139.out⟩, ⟨by (with_reducible repeat (first | refine blk_drewN ?_ _ | refine blk_drew ?_ | refine blk_alloc ?_ _)); exact BK140.out⟩, ⟨by (with_reducible repeat (first | refine blk_drewN ?_ _ | refine blk_drew ?_ | refine blk_alloc ?_ _)); exact BK141.out⟩, ⟨by repeat (first | (with_reducible first | exact HB.out | apply below_alloc | apply pw_below_drewN | apply below_drew1 | refine below_set ?_ GE139.out | refine below_set ?_ GE140.out | refine below_set ?_ GE141.out) | exact HB.out)⟩⟩
        · replace c17 := Bool.eq_false_iff.mpr c17
          subst c17
          have H1 : (hold_May_p.j0 k true a0_0 a0_1 a0_2 a0_3 a0_4 a0_5 a0_6) = some r := by rw [if_neg (show ¬ (false = true) by decide)] at H; exact H
          clear H
          have H := H1
          clear H1
          have H' := Aside0.mk H
          clear H
          have hnb28 := NB139_140.out
          have hnc28 := NB140_139.out
          have hnb29 := NB139_141.out
          have hnc29 := NB141_139.out
          have hcz30_0 := blk_cell BK139.out
          have hfz30_0 := blk_frozen BK139.out
          go_wp2_with (first | ((with_reducible refine gate_callee (f := 39) rfl ?_); refine goesL_ (some 13) rfl rfl Try.func39 (by kernel_rfl) rfl #[.string a0_0] rfl (by (try simp only [List.map_toArray, List.map_cons, List.map_nil]); first | done | rfl | (simp only [List.length_drop, List.length_take]; rfl)) ?_; (with_reducible refine (hold_Ref.calls a0_0 true _ A12.out).mono ?_); rintro e w' ⟨rfl, ⟨nd, rfl⟩⟩; refine ⟨_, rfl, ?_⟩; have hnb31 := NB140_141.out; have hnc31 := NB141_140.out; have hcz32_0 := blk_cell BK140.out; have hfz32_0 := blk_frozen BK140.out) | (go_at_call 40; (with_reducible refine (chart_May.calls 1 a0_2 true _ A14.out).mono ?_); rintro e w33 ⟨rfl, hb⟩; have n0_ := Aside0.mk (blk_below (g := gb139) (o := .cells #[.string a0_0, .string a0_1, .string a0_2, .int .i64 a0_3, .int .i64 a0_4, .int .i64 a0_5, .bool a0_6] 30 (0, 0)) (by (with_reducible repeat (first | refine blk_drewN ?_ _ | refine blk_drew ?_ | refine blk_alloc ?_ _)); refine blk_far ?_ NB139_141.out _; (with_reducible repeat (first | refine blk_drewN ?_ _ | refine blk_drew ?_ | refine blk_alloc ?_ _)); refine blk_far ?_ NB139_141.out _; (with_reducible repeat (first | refine blk_drewN ?_ _ | refine blk_drew ?_ | refine blk_alloc ?_ _)); refine blk_far ?_ NB139_140.out _; (with_reducible repeat (first | refine blk_drewN ?_ _ | refine blk_drew ?_ | refine blk_alloc ?_ _)); refine blk_far ?_ NB139_140.out _; (with_reducible repeat (first | refine blk_drewN ?_ _ | refine blk_drew ?_ | refine blk_alloc ?_ _)); exact BK139.out) hb); have n1_ := Aside0.mk (blk_below (g := gb140) (o := .cells #[.int .i64 1, .string a0_2] 54 (0, 0)) (by (with_reducible repeat (first | refine blk_drewN ?_ _ | refine blk_drew ?_ | refine blk_alloc ?_ _)); refine blk_far ?_ NB140_141.out _; (with_reducible repeat (first | refine blk_drewN ?_ _ | refine blk_drew ?_ | refine blk_alloc ?_ _)); refine blk_far ?_ NB140_141.out _; (with_reducible repeat (first | refine blk_drewN ?_ _ | refine blk_drew ?_ | refine blk_alloc ?_ _)); refine blk_put (cs := #[.int .i64 1, .string (⟨#[]⟩ : ByteArray)]) ?_ 1 _ rfl; (with_reducible repeat (first | refine blk_drewN ?_ _ | refine blk_drew ?_ | refine blk_alloc ?_ _)); refine blk_put (cs := #[.int .i64 0, .string (⟨#[]⟩ : ByteArray)]) ?_ 0 _ rfl; (with_reducible repeat (first | refine blk_drewN ?_ _ | refine blk_drew ?_ | refine blk_alloc ?_ _)); exact BK140.out) hb); have n2_ := Aside0.mk (blk_below (g := gb141) (o := .cells #[.int .i64 2, .string a0_1] 54 (0, 0)) (by (with_reducible repeat (first | refine blk_drewN ?_ _ | refine blk_drew ?_ | refine blk_alloc ?_ _)); refine blk_put (cs := #[.int .i64 2, .string (⟨#[]⟩ : ByteArray)]) ?_ 1 _ rfl; (with_reducible repeat (first | refine blk_drewN ?_ _ | refine blk_drew ?_ | refine blk_alloc ?_ _)); refine blk_put (cs := #[.int .i64 0, .string (⟨#[]⟩ : ByteArray)]) ?_ 0 _ rfl; (with_reducible repeat (first | refine blk_drewN ?_ _ | refine blk_drew ?_ | refine blk_alloc ?_ _)); refine blk_far ?_ NB141_140.out _; (with_reducible repeat (first | refine blk_drewN ?_ _ | refine blk_drew ?_ | refine blk_alloc ?_ _)); refine blk_far ?_ NB141_140.out _; (with_reducible repeat (first | refine blk_drewN ?_ _ | refine blk_drew ?_ | refine blk_alloc ?_ _)); exact BK141.out) hb); have n3_ := Aside0.mk (below_step (by repeat (first | (with_reducible first | exact HB.out | apply below_alloc | apply pw_below_drewN | apply below_drew1 | refine below_set ?_ GE139.out | refine below_set ?_ GE140.out | refine below_set ?_ GE141.out) | exact HB.out)) hb); clear BK139; clear BK140; clear BK141; clear HB; have BK139 := n0_; have BK140 := n1_; have BK141 := n2_; have HB := n3_; clear n0_ n1_ n2_ n3_; (try clear hb); (try clear hb2); (try clear hk); (try clear hi); have hcz34_0 := blk_cell BK141.out; have hfz34_0 := blk_frozen BK141.out) | (go_at_call 40; (with_reducible refine (chart_May.calls 2 a0_1 false _ A16.out).mono ?_); rintro e w35 ⟨rfl, hb⟩; have n0_ := Aside0.mk (blk_below (g := gb139) (o := .cells #[.string a0_0, .string a0_1, .string a0_2, .int .i64 a0_3, .int .i64 a0_4, .int .i64 a0_5, .bool a0_6] 30 (0, 0)) (by (with_reducible repeat (first | refine blk_drewN ?_ _ | refine blk_drew ?_ | refine blk_alloc ?_ _)); exact BK139.out) hb); have n1_ := Aside0.mk (blk_below (g := gb140) (o := .cells #[.int .i64 1, .string a0_2] 54 (0, 0)) (by (with_reducible repeat (first | refine blk_drewN ?_ _ | refine blk_drew ?_ | refine blk_alloc ?_ _)); exact BK140.out) hb); have n2_ := Aside0.mk (blk_below (g := gb141) (o := .cells #[.int .i64 2, .string a0_1] 54 (0, 0)) (by (with_reducible repeat (first | refine blk_drewN ?_ _ | refine blk_drew ?_ | refine blk_alloc ?_ _)); exact BK141.out) hb); have n3_ := Aside0.mk (below_step (by repeat (first | (with_reducible first | exact HB.out | apply below_alloc | apply pw_below_drewN | apply below_drew1 | refine below_set ?_ GE139.out | refine below_set ?_ GE140.out | refine below_set ?_ GE141.out) | exact HB.out)) hb); clear BK139; clear BK140; clear BK141; clear HB; have BK139 := n0_; have BK140 := n1_; have BK141 := n2_; have HB := n3_; clear n0_ n1_ n2_ n3_; (try clear hb); (try clear hb2); (try clear hk); (try clear hi)))
          go_meet
          case rel => exact ⟨_, (true), (by first | rfl | (simp; done) | (simp [*]; done) | (simp [Pu.bne_nil, Pu.beq_nil]; done)), H', ⟨by first | omega | exact Nat.le_refl _⟩, ⟨by (with_reducible repeat (first | refine blk_drewN ?_ _ | refine blk_drew ?_ | refine blk_alloc ?_ _)); exact BK139.out⟩, ⟨by (with_reducible repeat (first | refine blk_drewN ?_ _ | refine blk_drew ?_ | refine blk_alloc ?_ _)); exact BK140.out⟩, ⟨by (with_reducible repeat (first | refine blk_drewN ?_ _ | refine blk_drew ?_ | refine blk_alloc ?_ _)); exact BK141.out⟩, ⟨by repeat (first | (with_reducible first | exact HB.out | apply below_alloc | apply pw_below_drewN | apply below_drew1 | refine below_set ?_ GE139.out | refine below_set ?_ GE140.out | refine below_set ?_ GE141.out) | exact HB.out)⟩⟩
      · replace c15 := Bool.eq_false_iff.mpr c15
        subst c15
        have H1 : (hold_May_p.j0 k true a0_0 a0_1 a0_2 a0_3 a0_4 a0_5 a0_6) = some r := by rw [if_neg (show ¬ (false = true) by decide)] at H; exact H
        clear H
        have H := H1
        clear H1
        have H' := Aside0.mk H
        clear H
        have hnb36 := NB139_140.out
        have hnc36 := NB140_139.out
        have hnb37 := NB139_141.out
        have hnc37 := NB141_139.out
        have hcz38_0 := blk_cell BK139.out
        have hfz38_0 := blk_frozen BK139.out
        go_wp2_with (first | ((with_reducible refine gate_callee (f := 39) rfl ?_); refine goesL_ (some 13) rfl rfl Try.func39 (by kernel_rfl) rfl #[.string a0_0] rfl (by (try simp only [List.map_toArray, List.map_cons, List.map_nil]); first | done | rfl | (simp only [List.length_drop, List.length_take]; rfl)) ?_; (with_reducible refine (hold_Ref.calls a0_0 true _ A12.out).mono ?_); rintro e w' ⟨rfl, ⟨nd, rfl⟩⟩; refine ⟨_, rfl, ?_⟩; have hnb39 := NB140_141.out; have hnc39 := NB141_140.out; have hcz40_0 := blk_cell BK140.out; have hfz40_0 := blk_frozen BK140.out) | (go_at_call 40; (with_reducible refine (chart_May.calls 1 a0_2 false _ A14.out).mono ?_); rintro e w41 ⟨rfl, hb⟩; have n0_ := Aside0.mk (blk_below (g := gb139) (o := .cells #[.string a0_0, .string a0_1, .string a0_2, .int .i64 a0_3, .int .i64 a0_4, .int .i64 a0_5, .bool a0_6] 30 (0, 0)) (by (with_reducible repeat (first | refine blk_drewN ?_ _ | refine blk_drew ?_ | refine blk_alloc ?_ _)); refine blk_far ?_ NB139_141.out _; (with_reducible repeat (first | refine blk_drewN ?_ _ | refine blk_drew ?_ | refine blk_alloc ?_ _)); refine blk_far ?_ NB139_141.out _; (with_reducible repeat (first | refine blk_drewN ?_ _ | refine blk_drew ?_ | refine blk_alloc ?_ _)); refine blk_far ?_ NB139_140.out _; (with_reducible repeat (first | refine blk_drewN ?_ _ | refine blk_drew ?_ | refine blk_alloc ?_ _)); refine blk_far ?_ NB139_140.out _; (with_reducible repeat (first | refine blk_drewN ?_ _ | refine blk_drew ?_ | refine blk_alloc ?_ _)); exact BK139.out) hb); have n1_ := Aside0.mk (blk_below (g := gb140) (o := .cells #[.int .i64 1, .string a0_2] 54 (0, 0)) (by (with_reducible repeat (first | refine blk_drewN ?_ _ | refine blk_drew ?_ | refine blk_alloc ?_ _)); refine blk_far ?_ NB140_141.out _; (with_reducible repeat (first | refine blk_drewN ?_ _ | refine blk_drew ?_ | refine blk_alloc ?_ _)); refine blk_far ?_ NB140_141.out _; (with_reducible repeat (first | refine blk_drewN ?_ _ | refine blk_drew ?_ | refine blk_alloc ?_ _)); refine blk_put (cs := #[.int .i64 1, .string (⟨#[]⟩ : ByteArray)]) ?_ 1 _ rfl; (with_reducible repeat (first | refine blk_drewN ?_ _ | refine blk_drew ?_ | refine blk_alloc ?_ _)); refine blk_put (cs := #[.int .i64 0, .string (⟨#[]⟩ : ByteArray)]) ?_ 0 _ rfl; (with_reducible repeat (first | refine blk_drewN ?_ _ | refine blk_drew ?_ | refine blk_alloc ?_ _)); exact BK140.out) hb); have n2_ := Aside0.mk (blk_below (g := gb141) (o := .cells #[.int .i64 2, .string a0_1] 54 (0, 0)) (by (with_reducible repeat (first | refine blk_drewN ?_ _ | refine blk_drew ?_ | refine blk_alloc ?_ _)); refine blk_put (cs := #[.int .i64 2, .string (⟨#[]⟩ : ByteArray)]) ?_ 1 _ rfl; (with_reducible repeat (first | refine blk_drewN ?_ _ | refine blk_drew ?_ | refine blk_alloc ?_ _)); refine blk_put (cs := #[.int .i64 0, .string (⟨#[]⟩ : ByteArray)]) ?_ 0 _ rfl; (with_reducible repeat (first | refine blk_drewN ?_ _ | refine blk_drew ?_ | refine blk_alloc ?_ _)); refine blk_far ?_ NB141_140.out _; (with_reducible repeat (first | refine blk_drewN ?_ _ | refine blk_drew ?_ | refine blk_alloc ?_ _)); refine blk_far ?_ NB141_140.out _; (with_reducible repeat (first | refine blk_drewN ?_ _ | refine blk_drew ?_ | refine blk_alloc ?_ _)); exact BK141.out) hb); have n3_ := Aside0.mk (below_step (by repeat (first | (with_reducible first | exact HB.out | apply below_alloc | apply pw_below_drewN | apply below_drew1 | refine below_set ?_ GE139.out | refine below_set ?_ GE140.out | refine below_set ?_ GE141.out) | exact HB.out)) hb); clear BK139; clear BK140; clear BK141; clear HB; have BK139 := n0_; have BK140 := n1_; have BK141 := n2_; have HB := n3_; clear n0_ n1_ n2_ n3_; (try clear hb); (try clear hb2); (try clear hk); (try clear hi)))
        go_meet
        case rel => exact ⟨_, (true), (by first | rfl | (simp; done) | (simp [*]; done) | (simp [Pu.bne_nil, Pu.beq_nil]; done)), H', ⟨by first | omega | exact Nat.le_refl _⟩, ⟨by (with_reducible repeat (first | refine blk_drewN ?_ _ | refine blk_drew ?_ | refine blk_alloc ?_ _)); exact BK139.out⟩, ⟨by (with_reducible repeat (first | refine blk_drewN ?_ _ | refine blk_drew ?_ | refine blk_alloc ?_ _)); exact BK140.out⟩, ⟨by (with_reducible repeat (first | refine blk_drewN ?_ _ | refine blk_drew ?_ | refine blk_alloc ?_ _)); exact BK141.out⟩, ⟨by repeat (first | (with_reducible first | exact HB.out | apply below_alloc | apply pw_below_drewN | apply below_drew1 | refine below_set ?_ GE139.out | refine below_set ?_ GE140.out | refine below_set ?_ GE141.out) | exact HB.out)⟩⟩
    · replace c13 := Bool.eq_false_iff.mpr c13
      subst c13
      have H1 : (hold_May_p.j0 k true a0_0 a0_1 a0_2 a0_3 a0_4 a0_5 a0_6) = some r := by rw [if_neg (show ¬ (false = true) by decide)] at H; exact H
      clear H
      have H := H1
      clear H1
      have H' := Aside0.mk H
      clear H
      have hnb42 := NB139_140.out
      have hnc42 := NB140_139.out
      have hnb43 := NB139_141.out
      have hnc43 := NB141_139.out
      have hcz44_0 := blk_cell BK139.out
      have hfz44_0 := blk_frozen BK139.out
      go_wp2_with (first | ((with_reducible refine gate_callee (f := 39) rfl ?_); refine goesL_ (some 13) rfl rfl Try.func39 (by kernel_rfl) rfl #[.string a0_0] rfl (by (try simp only [List.map_toArray, List.map_cons, List.map_nil]); first | done | rfl | (simp only [List.length_drop, List.length_take]; rfl)) ?_; (with_reducible refine (hold_Ref.calls a0_0 false _ A12.out).mono ?_); rintro e w' ⟨rfl, ⟨nd, rfl⟩⟩; refine ⟨_, rfl, ?_⟩))
      go_meet
      case rel => exact ⟨_, (true), (by first | rfl | (simp; done) | (simp [*]; done) | (simp [Pu.bne_nil, Pu.beq_nil]; done)), H', ⟨by first | omega | exact Nat.le_refl _⟩, ⟨by (with_reducible repeat (first | refine blk_drewN ?_ _ | refine blk_drew ?_ | refine blk_alloc ?_ _)); refine blk_far ?_ NB139_141.out _; (with_reducible repeat (first | refine blk_drewN ?_ _ | refine blk_drew ?_ | refine blk_alloc ?_ _)); refine blk_far ?_ NB139_141.out _; (with_reducible repeat (first | refine blk_drewN ?_ _ | refine blk_drew ?_ | refine blk_alloc ?_ _)); refine blk_far ?_ NB139_140.out _; (with_reducible repeat (first | refine blk_drewN ?_ _ | refine blk_drew ?_ | refine blk_alloc ?_ _)); refine blk_far ?_ NB139_140.out _; (with_reducible repeat (first | refine blk_drewN ?_ _ | refine blk_drew ?_ | refine blk_alloc ?_ _)); exact BK139.out⟩, ⟨by (with_reducible repeat (first | refine blk_drewN ?_ _ | refine blk_drew ?_ | refine blk_alloc ?_ _)); refine blk_far ?_ NB140_141.out _; (with_reducible repeat (first | refine blk_drewN ?_ _ | refine blk_drew ?_ | refine blk_alloc ?_ _)); refine blk_far ?_ NB140_141.out _; (with_reducible repeat (first | refine blk_drewN ?_ _ | refine blk_drew ?_ | refine blk_alloc ?_ _)); refine blk_put (cs := #[.int .i64 1, .string (⟨#[]⟩ : ByteArray)]) ?_ 1 _ rfl; (with_reducible repeat (first | refine blk_drewN ?_ _ | refine blk_drew ?_ | refine blk_alloc ?_ _)); refine blk_put (cs := #[.int .i64 0, .string (⟨#[]⟩ : ByteArray)]) ?_ 0 _ rfl; (with_reducible repeat (first | refine blk_drewN ?_ _ | refine blk_drew ?_ | refine blk_alloc ?_ _)); exact BK140.out⟩, ⟨by (with_reducible repeat (first | refine blk_drewN ?_ _ | refine blk_drew ?_ | refine blk_alloc ?_ _)); refine blk_put (cs := #[.int .i64 2, .string (⟨#[]⟩ : ByteArray)]) ?_ 1 _ rfl; (with_reducible repeat (first | refine blk_drewN ?_ _ | refine blk_drew ?_ | refine blk_alloc ?_ _)); refine blk_put (cs := #[.int .i64 0, .string (⟨#[]⟩ : ByteArray)]) ?_ 0 _ rfl; (with_reducible repeat (first | refine blk_drewN ?_ _ | refine blk_drew ?_ | refine blk_alloc ?_ _)); refine blk_far ?_ NB141_140.out _; (with_reducible repeat (first | refine blk_drewN ?_ _ | refine blk_drew ?_ | refine blk_alloc ?_ _)); refine blk_far ?_ NB141_140.out _; (with_reducible repeat (first | refine blk_drewN ?_ _ | refine blk_drew ?_ | refine blk_alloc ?_ _)); exact BK141.out⟩, ⟨by repeat (first | (with_reducible first | exact HB.out | apply below_alloc | apply pw_below_drewN | apply below_drew1 | refine below_set ?_ GE139.out | refine below_set ?_ GE140.out | refine below_set ?_ GE141.out) | exact HB.out)⟩⟩
  case rest =>
    clear HC2
    try clear c1
    try clear c2
    try clear p2
    try clear c3
    try clear c4
    try clear c13
    try clear c15
    try clear c17
    try clear c19
    try clear c20
    try clear c22
    try clear c28
    try clear c29
    try clear c31
    try clear c36
    try clear c37
    try clear c39
    try clear c42
    try clear c43
    try clear hcz21_0
    try clear hcz23_0
    try clear hcz25_0
    try clear hcz27_0
    try clear hcz30_0
    try clear hcz32_0
    try clear hcz34_0
    try clear hcz38_0
    try clear hcz40_0
    try clear hcz44_0
    try clear hfz21_0
    try clear hfz23_0
    try clear hfz25_0
    try clear hfz27_0
    try clear hfz30_0
    try clear hfz32_0
    try clear hfz34_0
    try clear hfz38_0
    try clear hfz40_0
    try clear hfz44_0
    obtain ⟨kq, x30_1, rfl, HA, HJ1, BK139, BK140, BK141, HB⟩ := hcut
    cases kq with
    | zero => exact absurd HA.out (by simp [hold_May_p.j0])
    | succ kj1 =>
      have H := HA.out
      clear HA
      simp only [hold_May_p.j0] at H
      by_cases c45 : x30_1 = true
      · subst c45
        have H1 : (some false) = some r := by rw [if_pos rfl] at H; exact H
        clear H
        have H := H1
        clear H1
        obtain rfl := Option.some.inj H
        go_wp2
        go_ret
        exact ⟨by first | rfl | (simp [errW_none, errW_some] <;> rfl) | (simp [*, errW_none, errW_some] <;> rfl), by repeat (first | (with_reducible first | exact HB.out | apply below_alloc | apply pw_below_drewN | apply below_drew1 | refine below_set ?_ GE139.out | refine below_set ?_ GE140.out | refine below_set ?_ GE141.out) | exact HB.out)⟩
      · replace c45 := Bool.eq_false_iff.mpr c45
        subst c45
        have H1 : (if a0_4 ≥ 0 then (if a0_4 ≤ a0_3 then (if a0_6 = true then (some (decide (a0_4 < a0_3))) else (some true)) else (some false)) else (some false)) = some r := by rw [if_neg (show ¬ (false = true) by decide)] at H; exact H
        clear H
        have H := H1
        clear H1
        by_cases c46 : a0_4 ≥ 0
        · rw [if_pos c46] at H
          have c46b0 : decide (0 ≤ a0_4) = true := decide_eq_true c46
          clear c46
          by_cases c47 : a0_4 ≤ a0_3
          · rw [if_pos c47] at H
            have c47b0 : decide (a0_4 ≤ a0_3) = true := decide_eq_true c47
            clear c47
            by_cases c48 : a0_6 = true
            · subst c48
              have H1 : (some (decide (a0_4 < a0_3))) = some r := by rw [if_pos rfl] at H; exact H
              clear H
              have H := H1
              clear H1
              obtain rfl := Option.some.inj H
              have hnb49 := NB139_140.out
              have hnc49 := NB140_139.out
              have hnb50 := NB139_141.out
              have hnc50 := NB141_139.out
              have hcz51_0 := blk_cell BK139.out
              have hfz51_0 := blk_frozen BK139.out
              go_wp2
              go_ret
              exact ⟨by first | rfl | (simp [errW_none, errW_some] <;> rfl) | (simp [*, errW_none, errW_some] <;> rfl), by repeat (first | (with_reducible first | exact HB.out | apply below_alloc | apply pw_below_drewN | apply below_drew1 | refine below_set ?_ GE139.out | refine below_set ?_ GE140.out | refine below_set ?_ GE141.out) | exact HB.out)⟩
            · replace c48 := Bool.eq_false_iff.mpr c48
              subst c48
              have H1 : (some true) = some r := by rw [if_neg (show ¬ (false = true) by decide)] at H; exact H
              clear H
              have H := H1
              clear H1
              obtain rfl := Option.some.inj H
              have hnb52 := NB139_140.out
              have hnc52 := NB140_139.out
              have hnb53 := NB139_141.out
              have hnc53 := NB141_139.out
              have hcz54_0 := blk_cell BK139.out
              have hfz54_0 := blk_frozen BK139.out
              go_wp2
              go_ret
              exact ⟨by first | rfl | (simp [errW_none, errW_some] <;> rfl) | (simp [*, errW_none, errW_some] <;> rfl), by repeat (first | (with_reducible first | exact HB.out | apply below_alloc | apply pw_below_drewN | apply below_drew1 | refine below_set ?_ GE139.out | refine below_set ?_ GE140.out | refine below_set ?_ GE141.out) | exact HB.out)⟩
          · rw [if_neg c47] at H
            have c47b0 : decide (a0_4 ≤ a0_3) = false := decide_eq_false c47
            clear c47
            obtain rfl := Option.some.inj H
            have hnb55 := NB139_140.out
            have hnc55 := NB140_139.out
            have hnb56 := NB139_141.out
            have hnc56 := NB141_139.out
            have hcz57_0 := blk_cell BK139.out
            have hfz57_0 := blk_frozen BK139.out
            go_wp2
            go_ret
            exact ⟨by first | rfl | (simp [errW_none, errW_some] <;> rfl) | (simp [*, errW_none, errW_some] <;> rfl), by repeat (first | (with_reducible first | exact HB.out | apply below_alloc | apply pw_below_drewN | apply below_drew1 | refine below_set ?_ GE139.out | refine below_set ?_ GE140.out | refine below_set ?_ GE141.out) | exact HB.out)⟩
        · rw [if_neg c46] at H
          have c46b0 : decide (0 ≤ a0_4) = false := decide_eq_false c46
          clear c46
          obtain rfl := Option.some.inj H
          have hnb58 := NB139_140.out
          have hnc58 := NB140_139.out
          have hnb59 := NB139_141.out
          have hnc59 := NB141_139.out
          have hcz60_0 := blk_cell BK139.out
          have hfz60_0 := blk_frozen BK139.out
          go_wp2
          go_ret
          exact ⟨by first | rfl | (simp [errW_none, errW_some] <;> rfl) | (simp [*, errW_none, errW_some] <;> rfl), by repeat (first | (with_reducible first | exact HB.out | apply below_alloc | apply pw_below_drewN | apply below_drew1 | refine below_set ?_ GE139.out | refine below_set ?_ GE140.out | refine below_set ?_ GE141.out) | exact HB.out)⟩

end Go.Proofs.Ytaifcadnnmicnaa.XE
