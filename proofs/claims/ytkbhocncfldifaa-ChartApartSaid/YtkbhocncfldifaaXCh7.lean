-- Written by wip/xprint.py, a session's program: printed out of the translation, with hand-written functions. Lean checks it.
import Derived.Test.YtkbhocncfldifaaXCh0
import Derived.Test.YtkbhocncfldifaaXCh1
import Derived.Test.YtkbhocncfldifaaXCh2
import Derived.Test.YtkbhocncfldifaaXCh3
import Derived.Test.YtkbhocncfldifaaXCh6
namespace Go.Proofs.Ytkbhocncfldifaa.XCh
open Go.RowKit Go.Proofs.YtkbhocncfldifaaW.PrintWords Go.Proofs.YtkbhocncfldifaaW.PrintLast Go.Proofs.YtkbhocncfldifaaW.PrintMore
attribute [local go_sem] max2_int min2_int max_two min_two max_three min_three max_four min_four   -- for this text's walks alone
set_option linter.unusedVariables false
set_option linter.unusedSimpArgs false

attribute [local go_sem high] eqA23
/-! ### bursarlaw11_ChartApart: function 5 -/
def bursarlaw11_ChartApart.j0 : Nat → ByteArray → Int → ByteArray → Int → Bool → Int → ByteArray → Int → ByteArray → Option (Bool)
  | 0, _, _, _, _, _, _, _, _, _ => none
  | k + 1, x5, x6, x7, x8, x32, x189000, x189001, x190000, x190001 => if x32 = true then (if x6 = 0 then (if x8 = 0 then ((bursarlaw11_awake.f).bind fun t196 => (some t196)) else ((chart_May.f x190000 x190001).bind fun t197 => (if t197 = true then (some false) else ((bursarlaw11_awake.f).bind fun t198 => (some t198))))) else ((chart_May.f x189000 x189001).bind fun t199 => (if t199 = true then (some false) else (if x8 = 0 then ((bursarlaw11_awake.f).bind fun t200 => (some t200)) else ((chart_May.f x190000 x190001).bind fun t201 => (if t201 = true then (some false) else ((bursarlaw11_awake.f).bind fun t202 => (some t202)))))))) else (if ((x5.toList == x7.toList) == (x189000 == x190000 && (x189001.toList == x190001.toList))) = true then ((chart_Order.f x189000 x189001 x190000 x190001).bind fun t203 => (if t203 < 0 then (if (Op.bytesLess x5.toList x7.toList) = true then (if x189000 = 2 then (if x190000 = 1 then ((chart_Order.f x189000 x189001 x190000 x190001).bind fun t204 => ((bursarlaw11_awake.f).bind fun t205 => (some t205))) else ((bursarlaw11_awake.f).bind fun t206 => (some t206))) else ((bursarlaw11_awake.f).bind fun t207 => (some t207))) else (some false)) else (if (Op.bytesLess x5.toList x7.toList) = true then (some false) else (if x189000 = 2 then (if x190000 = 1 then ((chart_Order.f x189000 x189001 x190000 x190001).bind fun t208 => (some false)) else ((bursarlaw11_awake.f).bind fun t209 => (some t209))) else ((bursarlaw11_awake.f).bind fun t210 => (some t210)))))) else (some false))
def bursarlaw11_ChartApart.f (k : Nat) (a0_0 : Int) (a0_1 : ByteArray) (a1_0 : Int) (a1_1 : ByteArray) : Option (Bool) := (bursarlaw11_few.f a0_1).bind fun t190 => ((bursarlaw11_few.f a1_1).bind fun t191 => ((chart_Name.f a0_0 t190).bind fun bt192 => ((chart_Name.f a1_0 t191).bind fun bt194 => (if bt192.2 = 0 then (bursarlaw11_ChartApart.j0 k bt192.1 bt192.2 bt194.1 bt194.2 (bt194.2 != 0) a0_0 t190 a1_0 t191) else (bursarlaw11_ChartApart.j0 k bt192.1 bt192.2 bt194.1 bt194.2 true a0_0 t190 a1_0 t191)))))
theorem bursarlaw11_ChartApart.mono_l : ∀ k, (∀ y0 y1 y2 y3 y4 y5 y6 y7 y8, LeO (bursarlaw11_ChartApart.j0 k y0 y1 y2 y3 y4 y5 y6 y7 y8) (bursarlaw11_ChartApart.j0 (k + 1) y0 y1 y2 y3 y4 y5 y6 y7 y8))
  | 0 => fun _ _ _ _ _ _ _ _ _ r h => by simp [bursarlaw11_ChartApart.j0] at h
  | k + 1 => by
    have ih0 := bursarlaw11_ChartApart.mono_l k
    · intro y0 y1 y2 y3 y4 y5 y6 y7 y8
      unfold bursarlaw11_ChartApart.j0
      repeat' first
      | (with_reducible exact ih0 _ _ _ _ _ _ _ _ _)
      | (with_reducible exact LeO.refl _)
      | (with_reducible exact LeO.none _)
      | (with_reducible refine LeO.ite ?_ ?_)
      | (with_reducible refine LeO.bind ?_ (fun _ => ?_))
      | exact ih0 _ _ _ _ _ _ _ _ _
      | exact LeO.none _
      | refine LeO.ite ?_ ?_
      | refine LeO.bind ?_ (fun _ => ?_)
theorem bursarlaw11_ChartApart.mono : ∀ a0 a1 a2 a3 k, LeO (bursarlaw11_ChartApart.f k a0 a1 a2 a3) (bursarlaw11_ChartApart.f (k + 1) a0 a1 a2 a3) := by
  intro a0 a1 a2 a3 k
  have ih0 := bursarlaw11_ChartApart.mono_l k
  unfold bursarlaw11_ChartApart.f
  repeat' first
      | (with_reducible exact ih0 _ _ _ _ _ _ _ _ _)
      | (with_reducible exact LeO.refl _)
      | (with_reducible exact LeO.none _)
      | (with_reducible refine LeO.ite ?_ ?_)
      | (with_reducible refine LeO.bind ?_ (fun _ => ?_))
      | exact ih0 _ _ _ _ _ _ _ _ _
      | exact LeO.none _
      | refine LeO.ite ?_ ?_
      | refine LeO.bind ?_ (fun _ => ?_)
def bursarlaw11_ChartApart.T1 : Bool × List (List Nat × List Nat) := (true, [([], []), ([0], [0]), ([1], [1]), ([], []), ([3], [3]), ([4, 2], [4]), ([0, 1, 2], []), ([6, 2, 5, 0, 1, 2], [2, 6]), ([0, 1, 2, 3, 4, 5, 6, 7], []), ([8, 5, 7, 0, 1, 2, 3, 4, 5, 6, 7], [5, 8])])
def bursarlaw11_ChartApart.B1 : List Nat := [0, 1, 3, 0, 8, 31, 7, 127, 255, 511]
theorem bursarlaw11_ChartApart.tab1 : rtab .any (opsOf Try.f5 1) = bursarlaw11_ChartApart.T1 := by kernel_rfl
theorem bursarlaw11_ChartApart.bits1 : waitsOk bursarlaw11_ChartApart.T1.2 bursarlaw11_ChartApart.B1 = true := by kernel_rfl
set_option maxHeartbeats 8000000 in
set_option maxRecDepth 100000 in
theorem bursarlaw11_ChartApart.calls (k : Nat) (a0_0 : Int) (a0_1 : ByteArray) (a1_0 : Int) (a1_1 : ByteArray) (r : Bool) (w : World) (h : bursarlaw11_ChartApart.f k a0_0 a0_1 a1_0 a1_1 = some r) :
    Calls Try.prog 5 #[.agg #[.int .i64 a0_0, .string a0_1], .agg #[.int .i64 a1_0, .string a1_1]] w fun e w' => e = .returned (.bool r) ∧ Below w.heap.size w w' := by
  have hu23 := Try.underlying23
  have HB := Aside0.mk (Below.refl w.heap.size w)
  have H : ((bursarlaw11_few.f a0_1).bind fun t190 => ((bursarlaw11_few.f a1_1).bind fun t191 => ((chart_Name.f a0_0 t190).bind fun bt192 => ((chart_Name.f a1_0 t191).bind fun bt194 => (if bt192.2 = 0 then (bursarlaw11_ChartApart.j0 k bt192.1 bt192.2 bt194.1 bt194.2 (bt194.2 != 0) a0_0 t190 a1_0 t191) else (bursarlaw11_ChartApart.j0 k bt192.1 bt192.2 bt194.1 bt194.2 true a0_0 t190 a1_0 t191)))))) = some r := h
  clear h
  replace H := Option.bind_eq_some_iff.mp H
  obtain ⟨t190, A30, H⟩ := H
  replace H : ((bursarlaw11_few.f a1_1).bind fun t191 => ((chart_Name.f a0_0 t190).bind fun bt192 => ((chart_Name.f a1_0 t191).bind fun bt194 => (if bt192.2 = 0 then (bursarlaw11_ChartApart.j0 k bt192.1 bt192.2 bt194.1 bt194.2 (bt194.2 != 0) a0_0 t190 a1_0 t191) else (bursarlaw11_ChartApart.j0 k bt192.1 bt192.2 bt194.1 bt194.2 true a0_0 t190 a1_0 t191))))) = some r := H
  have A3 := Aside0.mk A30
  clear A30
  replace H := Option.bind_eq_some_iff.mp H
  obtain ⟨t191, A40, H⟩ := H
  replace H : ((chart_Name.f a0_0 t190).bind fun bt192 => ((chart_Name.f a1_0 t191).bind fun bt194 => (if bt192.2 = 0 then (bursarlaw11_ChartApart.j0 k bt192.1 bt192.2 bt194.1 bt194.2 (bt194.2 != 0) a0_0 t190 a1_0 t191) else (bursarlaw11_ChartApart.j0 k bt192.1 bt192.2 bt194.1 bt194.2 true a0_0 t190 a1_0 t191)))) = some r := H
  have A4 := Aside0.mk A40
  clear A40
  replace H := Option.bind_eq_some_iff.mp H
  obtain ⟨⟨t192, t193⟩, A50, H⟩ := H
  replace H : ((chart_Name.f a1_0 t191).bind fun bt194 => (if t193 = 0 then (bursarlaw11_ChartApart.j0 k t192 t193 bt194.1 bt194.2 (bt194.2 != 0) a0_0 t190 a1_0 t191) else (bursarlaw11_ChartApart.j0 k t192 t193 bt194.1 bt194.2 true a0_0 t190 a1_0 t191))) = some r := H
  have A5 := Aside0.mk A50
  clear A50
  replace H := Option.bind_eq_some_iff.mp H
  obtain ⟨⟨t194, t195⟩, A60, H⟩ := H
  replace H : (if t193 = 0 then (bursarlaw11_ChartApart.j0 k t192 t193 t194 t195 (t195 != 0) a0_0 t190 a1_0 t191) else (bursarlaw11_ChartApart.j0 k t192 t193 t194 t195 true a0_0 t190 a1_0 t191)) = some r := H
  have A6 := Aside0.mk A60
  clear A60
  have HC7 := Aside0.mk H
  clear H
  go_enter Try.func5, Try.ntmps5
  try go_wp2_with (first | ((with_reducible refine gate_dst (N := 2) rfl ?_); refine box_event ?hg (N := 2) ?hd (cs := #[.int .i64 a0_0, .string a0_1]) (t := 23) ?hr ?_; (case hd => rfl); (case hg => rfl); (case hr => first | (go_simp; done) | (go_simp; rfl)); intro gb188 hg w8 hbox hb; have n0_ := Aside0.mk (below_step (by repeat (first | (with_reducible first | exact HB.out | apply below_alloc | apply pw_below_drewN | apply below_drew1) | exact HB.out)) hb); have n1_ := Aside0.mk (hbox); have n2_ := Aside0.mk ((by rw [hg]; exact (below_size (by repeat (first | (with_reducible first | exact HB.out | apply below_alloc | apply pw_below_drewN | apply below_drew1) | exact HB.out))) : w.heap.size ≤ gb188)); have n3_ := Aside0.mk ((by rw [hg]; exact (below_size (by repeat (first | (with_reducible first | exact HB.out | apply below_alloc | apply pw_below_drewN | apply below_drew1) | exact HB.out))) : w.heap.size ≤ gb188)); clear HB; have HB := n0_; have BK188 := n1_; have GW188 := n2_; have GE188 := n3_; clear n0_ n1_ n2_ n3_; clear hb hbox hg) | ((with_reducible refine gate_dst (N := 3) rfl ?_); refine box_event ?hg (N := 3) ?hd (cs := #[.int .i64 a1_0, .string a1_1]) (t := 23) ?hr ?_; (case hd => rfl); (case hg => rfl); (case hr => first | (go_simp; done) | (go_simp; rfl)); intro gb189 hg w9 hbox hb; have n0_ := Aside0.mk (blk_below (g := gb188) (o := .cells #[.int .i64 a0_0, .string a0_1] 23 (0, 0)) (by (with_reducible repeat (first | refine blk_drewN ?_ _ | refine blk_drew ?_ | refine blk_alloc ?_ _)); exact BK188.out) hb); have n1_ := Aside0.mk (below_step (by repeat (first | (with_reducible first | exact HB.out | apply below_alloc | apply pw_below_drewN | apply below_drew1 | refine below_set ?_ GE188.out) | exact HB.out)) hb); have n2_ := Aside0.mk (hbox); have n3_ := Aside0.mk ((by rw [hg]; exact (below_size (by repeat (first | (with_reducible first | exact HB.out | apply below_alloc | apply pw_below_drewN | apply below_drew1 | refine below_set ?_ GE188.out) | exact HB.out))) : w.heap.size ≤ gb189)); have n4_ := Aside0.mk ((by rw [hg]; exact (below_size (by repeat (first | (with_reducible first | exact HB.out | apply below_alloc | apply pw_below_drewN | apply below_drew1 | refine below_set ?_ GE188.out) | exact HB.out))) : w.heap.size ≤ gb189)); have n5_ := Aside0.mk ((by rw [hg]; exact Nat.ne_of_lt (blk_lt (g := gb188) (o := .cells #[.int .i64 a0_0, .string a0_1] 23 (0, 0)) (by (with_reducible repeat (first | refine blk_drewN ?_ _ | refine blk_drew ?_ | refine blk_alloc ?_ _)); exact BK188.out)) : gb188 ≠ gb189)); have n6_ := Aside0.mk ((by rw [hg]; exact Nat.ne_of_gt (blk_lt (g := gb188) (o := .cells #[.int .i64 a0_0, .string a0_1] 23 (0, 0)) (by (with_reducible repeat (first | refine blk_drewN ?_ _ | refine blk_drew ?_ | refine blk_alloc ?_ _)); exact BK188.out)) : gb189 ≠ gb188)); clear BK188; clear HB; have BK188 := n0_; have HB := n1_; have BK189 := n2_; have GW189 := n3_; have GE189 := n4_; have NB188_189 := n5_; have NB189_188 := n6_; clear n0_ n1_ n2_ n3_ n4_ n5_ n6_; clear hb hbox hg))
  have n0_ := Aside0.mk (blk_drew BK188.out)
  have n1_ := Aside0.mk (blk_drew BK189.out)
  have n2_ := Aside0.mk (below_drew1 HB.out)
  clear BK188
  clear BK189
  clear HB
  have BK188 := n0_
  have BK189 := n1_
  have HB := n2_
  clear n0_ n1_ n2_
  refine start_ (n := 10) (S := fun w' => w'.cell? ⟨gb188, 0, none⟩ = some (.int .i64 a0_0) ∧ w'.cell? ⟨gb188, 1, none⟩ = some (.string a0_1) ∧ w'.cell? ⟨gb189, 0, none⟩ = some (.int .i64 a1_0) ∧ w'.cell? ⟨gb189, 1, none⟩ = some (.string a1_1)) (ds := [7, 9]) #[false, false, false, false, false, false, false, false, false, false] (by kernel_rfl) rfl rfl ⟨(blk_cell BK188.out 0).trans rfl, (blk_cell BK188.out 1).trans rfl, (blk_cell BK189.out 0).trans rfl, (blk_cell BK189.out 1).trans rfl⟩ (fun hHeld => ?_); refine with_tabW bursarlaw11_ChartApart.tab1 bursarlaw11_ChartApart.bits1 (fun HT_ HW_ => ?_)
  generalize w9.drew = w10 at BK188 BK189 HB hHeld ⊢
  refine pure_ (i := 0) (N := some 9) (v := ?_) (a' := ?_) #[true, false, false, false, false, false, false, false, false, false] rfl rfl (any_of HT_.out (by kernel_rfl)) (fun _ _ _ h => h) (Or.inl ⟨by rfl, ?_⟩) ?_ ?_
  rotate_left
  · intro w'
    go_simp
    with_reducible rfl
  rotate_left
  · simp only [Act.put, List.setIfInBounds_toArray, List.set_cons_zero, List.set_cons_succ, i64_w, i32_w]
    rfl
  refine pure_ (i := 3) (N := some 12) (v := ?_) (a' := ?_) #[true, false, false, true, false, false, false, false, false, false] rfl rfl (any_of HT_.out (by kernel_rfl)) (fun _ _ _ h => h) (Or.inl ⟨by rfl, ?_⟩) ?_ ?_
  rotate_left
  · intro w'
    go_simp
    with_reducible rfl
  rotate_left
  · simp only [Act.put, List.setIfInBounds_toArray, List.set_cons_zero, List.set_cons_succ, i64_w, i32_w]
    rfl
  refine take_ (i := 1) (N := some 10) (v := ?_) (a' := ?_) #[true, true, false, true, false, false, false, false, false, false] rfl rfl (take_ofW HT_.out HW_.out (by kernel_rfl)) (fun _ _ _ h => h) (Or.inl ⟨by rfl, ?_⟩) hHeld ?_ ?_
  rotate_left
  · rintro w' ⟨s0, s1, s2, s3⟩
    go_simp
    with_reducible rfl
  rotate_left
  · simp only [Act.put, List.setIfInBounds_toArray, List.set_cons_zero, List.set_cons_succ, i64_w, i32_w]
    rfl
  refine take_ (i := 4) (N := some 13) (v := ?_) (a' := ?_) #[true, true, false, true, true, false, false, false, false, false] rfl rfl (take_ofW HT_.out HW_.out (by kernel_rfl)) (fun _ _ _ h => h) (Or.inl ⟨by rfl, ?_⟩) hHeld ?_ ?_
  rotate_left
  · rintro w' ⟨s0, s1, s2, s3⟩
    go_simp
    with_reducible rfl
  rotate_left
  · simp only [Act.put, List.setIfInBounds_toArray, List.set_cons_zero, List.set_cons_succ, i64_w, i32_w]
    rfl
  refine one_ (i := 2) (N := some 11) #[true, true, true, true, true, false, false, false, false, false] rfl rfl (one_of HT_.out (by kernel_rfl)) (by decide) (fun K hK => ?_)
  refine goes_ Try.func14 (by kernel_rfl) rfl #[.string a0_1] (by rfl) rfl rfl (by (try simp only [List.map_toArray, List.map_cons, List.map_nil]); first | done | rfl | (simp only [List.length_drop, List.length_take]; rfl)) ?_
  with_reducible refine (bursarlaw11_few.calls a0_1 t190 _ A3.out).mono ?_
  rintro e w' ⟨rfl, ⟨nd, rfl⟩⟩
  refine ⟨_, rfl, ?_⟩
  refine hK.out _ _ ⟨(blk_cell BK188.out 0).trans rfl, (blk_cell BK188.out 1).trans rfl, (blk_cell BK189.out 0).trans rfl, (blk_cell BK189.out 1).trans rfl⟩ (fun hHeld => ?_)
  clear hK K
  refine norm_ (a' := ?_) ?_ ?_
  rotate_left
  · show Act.put _ (some 11) _ = _
    simp only [Act.put, List.setIfInBounds_toArray, List.set_cons_zero, List.set_cons_succ, i64_w, i32_w]
    rfl
  refine pure_ (i := 6) (N := some 15) (v := ?_) (a' := ?_) #[true, true, true, true, true, false, true, false, false, false] rfl rfl (any_of HT_.out (by kernel_rfl)) (fun _ _ _ h => h) (Or.inl ⟨by rfl, ?_⟩) ?_ ?_
  rotate_left
  · intro w'
    go_simp
    with_reducible rfl
  rotate_left
  · simp only [Act.put, List.setIfInBounds_toArray, List.set_cons_zero, List.set_cons_succ, i64_w, i32_w]
    rfl
  refine one_ (i := 5) (N := some 14) #[true, true, true, true, true, true, true, false, false, false] rfl rfl (one_of HT_.out (by kernel_rfl)) (by decide) (fun K hK => ?_)
  refine goes_ Try.func14 (by kernel_rfl) rfl #[.string a1_1] (by rfl) rfl rfl (by (try simp only [List.map_toArray, List.map_cons, List.map_nil]); first | done | rfl | (simp only [List.length_drop, List.length_take]; rfl)) ?_
  with_reducible refine (bursarlaw11_few.calls a1_1 t191 _ A4.out).mono ?_
  rintro e w' ⟨rfl, ⟨nd, rfl⟩⟩
  refine ⟨_, rfl, ?_⟩
  refine hK.out _ _ ⟨(blk_cell BK188.out 0).trans rfl, (blk_cell BK188.out 1).trans rfl, (blk_cell BK189.out 0).trans rfl, (blk_cell BK189.out 1).trans rfl⟩ (fun hHeld => ?_)
  clear hK K
  refine norm_ (a' := ?_) ?_ ?_
  rotate_left
  · show Act.put _ (some 14) _ = _
    simp only [Act.put, List.setIfInBounds_toArray, List.set_cons_zero, List.set_cons_succ, i64_w, i32_w]
    rfl
  refine last_ (i := 7) (N := none) #[true, true, true, true, true, true, true, true, false, false] rfl rfl (one_of HT_.out (by kernel_rfl)) (by decide) (fun K hK => ?_)
  have hs11 : w10.cell? ⟨gb188, 1, none⟩ = some (.string a0_1) := (blk_cell BK188.out 1).trans rfl
  have hfs11 := blk_frozen BK188.out 1
  have hns11_1 := NB189_188.out
  have hms11_1 := NB188_189.out
  refine skip_ (w1 := ?_) (by rfl) rfl ?_ ?_
  rotate_left
  · go_simp
    rfl
  refine hK.out _ _ ?_
  clear hK K
  refine pure_ (i := 8) (N := some 16) (v := ?_) (a' := ?_) #[true, true, true, true, true, true, true, true, true, false] rfl rfl (any_of HT_.out (by kernel_rfl)) (fun _ _ _ h => h) (Or.inl ⟨by rfl, ?_⟩) ?_ ?_
  rotate_left
  · intro w'
    go_simp
    with_reducible rfl
  rotate_left
  · simp only [Act.put, List.setIfInBounds_toArray, List.set_cons_zero, List.set_cons_succ, i64_w, i32_w]
    rfl
  refine last_ (i := 9) (N := none) #[true, true, true, true, true, true, true, true, true, true] rfl rfl (one_of HT_.out (by kernel_rfl)) (by decide) (fun K hK => ?_)
  have hs12 : w10.cell? ⟨gb189, 1, none⟩ = some (.string a1_1) := (blk_cell BK189.out 1).trans rfl
  have hfs12 := blk_frozen BK189.out 1
  have hns12_0 := NB188_189.out
  have hms12_0 := NB189_188.out
  refine skip_ (w1 := ?_) (by rfl) rfl ?_ ?_
  rotate_left
  · go_simp
    rfl
  refine hK.out _ _ ?_
  clear hK K
  refine done_ (done_of HT_.out (by kernel_rfl)) ?_
  have hnb13 := NB188_189.out
  have hnc13 := NB189_188.out
  have hcz14_0 : w10.cell? ⟨gb188, 0, none⟩ = some (.int .i64 a0_0) := (blk_cell BK188.out 0).trans rfl
  have hcz14_1 : w10.cell? ⟨gb188, 1, none⟩ = some (.string a0_1) := (blk_cell BK188.out 1).trans rfl
  have hfz14_0 := blk_frozen BK188.out 0
  have hfz14_1 := blk_frozen BK188.out 1
  go_upto_region 4 with (first | ((with_reducible refine gate_callee (f := 15) rfl ?_); refine goesL_ (some 19) rfl rfl Try.func15 (by kernel_rfl) rfl #[.agg #[.int .i64 a0_0, .string t190]] rfl (by (try simp only [List.map_toArray, List.map_cons, List.map_nil]); first | done | rfl | (simp only [List.length_drop, List.length_take]; rfl)) ?_; (with_reducible refine (chart_Name.calls a0_0 t190 t192 t193 _ A5.out).mono ?_); rintro e w15 ⟨rfl, hb⟩; refine ⟨_, rfl, ?_⟩; have n0_ := Aside0.mk (blk_below (g := gb188) (o := .cells #[.int .i64 a0_0, .string t190] 23 (0, 0)) (by (with_reducible repeat (first | refine blk_drewN ?_ _ | refine blk_drew ?_ | refine blk_alloc ?_ _)); refine blk_far ?_ NB188_189.out _; (with_reducible repeat (first | refine blk_drewN ?_ _ | refine blk_drew ?_ | refine blk_alloc ?_ _)); refine blk_put (cs := #[.int .i64 a0_0, .string a0_1]) ?_ 1 _ rfl; (with_reducible repeat (first | refine blk_drewN ?_ _ | refine blk_drew ?_ | refine blk_alloc ?_ _)); exact BK188.out) hb); have n1_ := Aside0.mk (blk_below (g := gb189) (o := .cells #[.int .i64 a1_0, .string t191] 23 (0, 0)) (by (with_reducible repeat (first | refine blk_drewN ?_ _ | refine blk_drew ?_ | refine blk_alloc ?_ _)); refine blk_put (cs := #[.int .i64 a1_0, .string a1_1]) ?_ 1 _ rfl; (with_reducible repeat (first | refine blk_drewN ?_ _ | refine blk_drew ?_ | refine blk_alloc ?_ _)); refine blk_far ?_ NB189_188.out _; (with_reducible repeat (first | refine blk_drewN ?_ _ | refine blk_drew ?_ | refine blk_alloc ?_ _)); exact BK189.out) hb); have n2_ := Aside0.mk (below_step (by repeat (first | (with_reducible first | exact HB.out | apply below_alloc | apply pw_below_drewN | apply below_drew1 | refine below_set ?_ GE188.out | refine below_set ?_ GE189.out) | exact HB.out)) hb); clear BK188; clear BK189; clear HB; have BK188 := n0_; have BK189 := n1_; have HB := n2_; clear n0_ n1_ n2_; (try clear hb); (try clear hb2); (try clear hk); (try clear hi); have hcz16_0 : w15.cell? ⟨gb189, 0, none⟩ = some (.int .i64 a1_0) := (blk_cell BK189.out 0).trans rfl; have hcz16_1 : w15.cell? ⟨gb189, 1, none⟩ = some (.string t191) := (blk_cell BK189.out 1).trans rfl; have hfz16_0 := blk_frozen BK189.out 0; have hfz16_1 := blk_frozen BK189.out 1) | ((with_reducible refine gate_callee (f := 15) rfl ?_); refine goesL_ (some 24) rfl rfl Try.func15 (by kernel_rfl) rfl #[.agg #[.int .i64 a1_0, .string t191]] rfl (by (try simp only [List.map_toArray, List.map_cons, List.map_nil]); first | done | rfl | (simp only [List.length_drop, List.length_take]; rfl)) ?_; (with_reducible refine (chart_Name.calls a1_0 t191 t194 t195 _ A6.out).mono ?_); rintro e w17 ⟨rfl, hb⟩; refine ⟨_, rfl, ?_⟩; have n0_ := Aside0.mk (blk_below (g := gb188) (o := .cells #[.int .i64 a0_0, .string t190] 23 (0, 0)) (by (with_reducible repeat (first | refine blk_drewN ?_ _ | refine blk_drew ?_ | refine blk_alloc ?_ _)); exact BK188.out) hb); have n1_ := Aside0.mk (blk_below (g := gb189) (o := .cells #[.int .i64 a1_0, .string t191] 23 (0, 0)) (by (with_reducible repeat (first | refine blk_drewN ?_ _ | refine blk_drew ?_ | refine blk_alloc ?_ _)); exact BK189.out) hb); have n2_ := Aside0.mk (below_step (by repeat (first | (with_reducible first | exact HB.out | apply below_alloc | apply pw_below_drewN | apply below_drew1 | refine below_set ?_ GE188.out | refine below_set ?_ GE189.out) | exact HB.out)) hb); clear BK188; clear BK189; clear HB; have BK188 := n0_; have BK189 := n1_; have HB := n2_; clear n0_ n1_ n2_; (try clear hb); (try clear hb2); (try clear hk); (try clear hi)))
  (try simp only [Act.put, List.setIfInBounds_toArray, List.set_cons_zero, List.set_cons_succ])
  go_cut [32] (fun v32 wc => ∃ (kq : Nat) (x32_6 : Bool), v32 = .bool x32_6 ∧ Aside0 (bursarlaw11_ChartApart.j0 kq t192 t193 t194 t195 x32_6 a0_0 t190 a1_0 t191 = some r) ∧ Aside0 (kq ≤ k) ∧ Aside0 (wc.heap[gb188]? = some (.cells #[.int .i64 a0_0, .string t190] 23 (0, 0))) ∧ Aside0 (wc.heap[gb189]? = some (.cells #[.int .i64 a1_0, .string t191] 23 (0, 0))) ∧ Aside0 (Below w.heap.size w wc))
  case first =>
    have H := HC7.out
    clear HC7
    by_cases c18 : t193 = 0
    · rw [if_pos c18] at H
      have c18b0 : (t193 == 0) = true := beq_iff_eq.mpr c18
      have c18b1 : (t193 != 0) = false := bne_eq_false_iff_eq.mpr c18
      clear c18
      (first | rw [c18b0] | (simp only [i64_w, i32_w]; rw [c18b0]) | skip)
      have H' := Aside0.mk H
      clear H
      go_wp2
      go_meet
      case rel => exact ⟨_, ((t195 != 0)), (by first | rfl | (simp; done) | (simp [*]; done) | (simp [Pu.bne_nil, Pu.beq_nil]; done)), H', ⟨by first | omega | exact Nat.le_refl _⟩, ⟨by (with_reducible repeat (first | refine blk_drewN ?_ _ | refine blk_drew ?_ | refine blk_alloc ?_ _)); exact BK188.out⟩, ⟨by (with_reducible repeat (first | refine blk_drewN ?_ _ | refine blk_drew ?_ | refine blk_alloc ?_ _)); exact BK189.out⟩, ⟨by repeat (first | (with_reducible first | exact HB.out | apply below_alloc | apply pw_below_drewN | apply below_drew1 | refine below_set ?_ GE188.out | refine below_set ?_ GE189.out) | exact HB.out)⟩⟩
    · rw [if_neg c18] at H
      have c18b0 : (t193 == 0) = false := beq_eq_false_iff_ne.mpr c18
      have c18b1 : (t193 != 0) = true := bne_iff_ne.mpr c18
      (first | rw [c18b0] | (simp only [i64_w, i32_w]; rw [c18b0]) | skip)
      have H' := Aside0.mk H
      clear H
      go_wp2
      go_meet
      case rel => exact ⟨_, (true), (by first | rfl | (simp; done) | (simp [*]; done) | (simp [Pu.bne_nil, Pu.beq_nil]; done)), H', ⟨by first | omega | exact Nat.le_refl _⟩, ⟨by (with_reducible repeat (first | refine blk_drewN ?_ _ | refine blk_drew ?_ | refine blk_alloc ?_ _)); exact BK188.out⟩, ⟨by (with_reducible repeat (first | refine blk_drewN ?_ _ | refine blk_drew ?_ | refine blk_alloc ?_ _)); exact BK189.out⟩, ⟨by repeat (first | (with_reducible first | exact HB.out | apply below_alloc | apply pw_below_drewN | apply below_drew1 | refine below_set ?_ GE188.out | refine below_set ?_ GE189.out) | exact HB.out)⟩⟩
  case rest =>
    clear HC7
    try clear c1
    try clear p2
    try clear c5
    try clear c13
    try clear c14
    try clear c15
    try clear c18
    try clear c18b0
    try clear c18b1
    try clear hcz14_0
    try clear hcz14_1
    try clear hcz16_0
    try clear hcz16_1
    try clear hfz14_0
    try clear hfz14_1
    try clear hfz16_0
    try clear hfz16_1
    obtain ⟨kq, x32_6, rfl, HA, HJ6, BK188, BK189, HB⟩ := hcut
    cases kq with
    | zero => exact absurd HA.out (by simp [bursarlaw11_ChartApart.j0])
    | succ kj6 =>
      have H := HA.out
      clear HA
      simp only [bursarlaw11_ChartApart.j0] at H
      by_cases c19 : x32_6 = true
      · subst c19
        have H1 : (if t193 = 0 then (if t195 = 0 then ((bursarlaw11_awake.f).bind fun t196 => (some t196)) else ((chart_May.f a1_0 t191).bind fun t197 => (if t197 = true then (some false) else ((bursarlaw11_awake.f).bind fun t198 => (some t198))))) else ((chart_May.f a0_0 t190).bind fun t199 => (if t199 = true then (some false) else (if t195 = 0 then ((bursarlaw11_awake.f).bind fun t200 => (some t200)) else ((chart_May.f a1_0 t191).bind fun t201 => (if t201 = true then (some false) else ((bursarlaw11_awake.f).bind fun t202 => (some t202)))))))) = some r := by rw [if_pos rfl] at H; exact H
        clear H
        have H := H1
        clear H1
        by_cases c20 : t193 = 0
        · rw [if_pos c20] at H
          have c20b0 : (t193 == 0) = true := beq_iff_eq.mpr c20
          have c20b1 : (t193 != 0) = false := bne_eq_false_iff_eq.mpr c20
          clear c20
          by_cases c21 : t195 = 0
          · rw [if_pos c21] at H
            have c21b0 : (t195 == 0) = true := beq_iff_eq.mpr c21
            have c21b1 : (t195 != 0) = false := bne_eq_false_iff_eq.mpr c21
            clear c21
            replace H := Option.bind_eq_some_iff.mp H
            obtain ⟨t196, A220, H⟩ := H
            replace H : (some t196) = some r := H
            have A22 := Aside0.mk A220
            clear A220
            obtain rfl := Option.some.inj H
            go_wp2_with (first | (go_at_call 19; (with_reducible refine (bursarlaw11_awake.calls  t196 _ A22.out).mono ?_); rintro e w23 ⟨rfl, hb⟩; have n0_ := Aside0.mk (blk_below (g := gb188) (o := .cells #[.int .i64 a0_0, .string t190] 23 (0, 0)) (by (with_reducible repeat (first | refine blk_drewN ?_ _ | refine blk_drew ?_ | refine blk_alloc ?_ _)); exact BK188.out) hb); have n1_ := Aside0.mk (blk_below (g := gb189) (o := .cells #[.int .i64 a1_0, .string t191] 23 (0, 0)) (by (with_reducible repeat (first | refine blk_drewN ?_ _ | refine blk_drew ?_ | refine blk_alloc ?_ _)); exact BK189.out) hb); have n2_ := Aside0.mk (below_step (by repeat (first | (with_reducible first | exact HB.out | apply below_alloc | apply pw_below_drewN | apply below_drew1 | refine below_set ?_ GE188.out | refine below_set ?_ GE189.out) | exact HB.out)) hb); clear BK188; clear BK189; clear HB; have BK188 := n0_; have BK189 := n1_; have HB := n2_; clear n0_ n1_ n2_; (try clear hb); (try clear hb2); (try clear hk); (try clear hi)))
            go_ret
            exact ⟨by first | rfl | (simp [errW_none, errW_some] <;> rfl) | (simp [*, errW_none, errW_some] <;> rfl), by repeat (first | (with_reducible first | exact HB.out | apply below_alloc | apply pw_below_drewN | apply below_drew1 | refine below_set ?_ GE188.out | refine below_set ?_ GE189.out) | exact HB.out)⟩
          · rw [if_neg c21] at H
            have c21b0 : (t195 == 0) = false := beq_eq_false_iff_ne.mpr c21
            have c21b1 : (t195 != 0) = true := bne_iff_ne.mpr c21
            replace H := Option.bind_eq_some_iff.mp H
            obtain ⟨t197, A240, H⟩ := H
            replace H : (if t197 = true then (some false) else ((bursarlaw11_awake.f).bind fun t198 => (some t198))) = some r := H
            have A24 := Aside0.mk A240
            clear A240
            by_cases c25 : t197 = true
            · subst c25
              have H1 : (some false) = some r := by rw [if_pos rfl] at H; exact H
              clear H
              have H := H1
              clear H1
              obtain rfl := Option.some.inj H
              have hnb26 := NB189_188.out
              have hnc26 := NB188_189.out
              have hcz27_0 : wc.cell? ⟨gb189, 0, none⟩ = some (.int .i64 a1_0) := (blk_cell BK189.out 0).trans rfl
              have hcz27_1 : wc.cell? ⟨gb189, 1, none⟩ = some (.string t191) := (blk_cell BK189.out 1).trans rfl
              have hfz27_0 := blk_frozen BK189.out 0
              have hfz27_1 := blk_frozen BK189.out 1
              go_wp2_with (first | (go_at_call 17; (with_reducible refine (chart_May.calls a1_0 t191 true _ A24.out).mono ?_); rintro e w28 ⟨rfl, hb⟩; have n0_ := Aside0.mk (blk_below (g := gb188) (o := .cells #[.int .i64 a0_0, .string t190] 23 (0, 0)) (by (with_reducible repeat (first | refine blk_drewN ?_ _ | refine blk_drew ?_ | refine blk_alloc ?_ _)); exact BK188.out) hb); have n1_ := Aside0.mk (blk_below (g := gb189) (o := .cells #[.int .i64 a1_0, .string t191] 23 (0, 0)) (by (with_reducible repeat (first | refine blk_drewN ?_ _ | refine blk_drew ?_ | refine blk_alloc ?_ _)); exact BK189.out) hb); have n2_ := Aside0.mk (below_step (by repeat (first | (with_reducible first | exact HB.out | apply below_alloc | apply pw_below_drewN | apply below_drew1 | refine below_set ?_ GE188.out | refine below_set ?_ GE189.out) | exact HB.out)) hb); clear BK188; clear BK189; clear HB; have BK188 := n0_; have BK189 := n1_; have HB := n2_; clear n0_ n1_ n2_; (try clear hb); (try clear hb2); (try clear hk); (try clear hi)))
              go_ret
              exact ⟨by first | rfl | (simp [errW_none, errW_some] <;> rfl) | (simp [*, errW_none, errW_some] <;> rfl), by repeat (first | (with_reducible first | exact HB.out | apply below_alloc | apply pw_below_drewN | apply below_drew1 | refine below_set ?_ GE188.out | refine below_set ?_ GE189.out) | exact HB.out)⟩
            · replace c25 := Bool.eq_false_iff.mpr c25
              subst c25
              have H1 : ((bursarlaw11_awake.f).bind fun t198 => (some t198)) = some r := by rw [if_neg (show ¬ (false = true) by decide)] at H; exact H
              clear H
              have H := H1
              clear H1
              replace H := Option.bind_eq_some_iff.mp H
              obtain ⟨t198, A290, H⟩ := H
              replace H : (some t198) = some r := H
              have A29 := Aside0.mk A290
              clear A290
              obtain rfl := Option.some.inj H
              have hnb30 := NB189_188.out
              have hnc30 := NB188_189.out
              have hcz31_0 : wc.cell? ⟨gb189, 0, none⟩ = some (.int .i64 a1_0) := (blk_cell BK189.out 0).trans rfl
              have hcz31_1 : wc.cell? ⟨gb189, 1, none⟩ = some (.string t191) := (blk_cell BK189.out 1).trans rfl
              have hfz31_0 := blk_frozen BK189.out 0
              have hfz31_1 := blk_frozen BK189.out 1
              go_wp2_with (first | (go_at_call 17; (with_reducible refine (chart_May.calls a1_0 t191 false _ A24.out).mono ?_); rintro e w32 ⟨rfl, hb⟩; have n0_ := Aside0.mk (blk_below (g := gb188) (o := .cells #[.int .i64 a0_0, .string t190] 23 (0, 0)) (by (with_reducible repeat (first | refine blk_drewN ?_ _ | refine blk_drew ?_ | refine blk_alloc ?_ _)); exact BK188.out) hb); have n1_ := Aside0.mk (blk_below (g := gb189) (o := .cells #[.int .i64 a1_0, .string t191] 23 (0, 0)) (by (with_reducible repeat (first | refine blk_drewN ?_ _ | refine blk_drew ?_ | refine blk_alloc ?_ _)); exact BK189.out) hb); have n2_ := Aside0.mk (below_step (by repeat (first | (with_reducible first | exact HB.out | apply below_alloc | apply pw_below_drewN | apply below_drew1 | refine below_set ?_ GE188.out | refine below_set ?_ GE189.out) | exact HB.out)) hb); clear BK188; clear BK189; clear HB; have BK188 := n0_; have BK189 := n1_; have HB := n2_; clear n0_ n1_ n2_; (try clear hb); (try clear hb2); (try clear hk); (try clear hi)) | (go_at_call 19; (with_reducible refine (bursarlaw11_awake.calls  t198 _ A29.out).mono ?_); rintro e w33 ⟨rfl, hb⟩; have n0_ := Aside0.mk (blk_below (g := gb188) (o := .cells #[.int .i64 a0_0, .string t190] 23 (0, 0)) (by (with_reducible repeat (first | refine blk_drewN ?_ _ | refine blk_drew ?_ | refine blk_alloc ?_ _)); exact BK188.out) hb); have n1_ := Aside0.mk (blk_below (g := gb189) (o := .cells #[.int .i64 a1_0, .string t191] 23 (0, 0)) (by (with_reducible repeat (first | refine blk_drewN ?_ _ | refine blk_drew ?_ | refine blk_alloc ?_ _)); exact BK189.out) hb); have n2_ := Aside0.mk (below_step (by repeat (first | (with_reducible first | exact HB.out | apply below_alloc | apply pw_below_drewN | apply below_drew1 | refine below_set ?_ GE188.out | refine below_set ?_ GE189.out) | exact HB.out)) hb); clear BK188; clear BK189; clear HB; have BK188 := n0_; have BK189 := n1_; have HB := n2_; clear n0_ n1_ n2_; (try clear hb); (try clear hb2); (try clear hk); (try clear hi)))
              go_ret
              exact ⟨by first | rfl | (simp [errW_none, errW_some] <;> rfl) | (simp [*, errW_none, errW_some] <;> rfl), by repeat (first | (with_reducible first | exact HB.out | apply below_alloc | apply pw_below_drewN | apply below_drew1 | refine below_set ?_ GE188.out | refine below_set ?_ GE189.out) | exact HB.out)⟩
        · rw [if_neg c20] at H
          have c20b0 : (t193 == 0) = false := beq_eq_false_iff_ne.mpr c20
          have c20b1 : (t193 != 0) = true := bne_iff_ne.mpr c20
          replace H := Option.bind_eq_some_iff.mp H
          obtain ⟨t199, A340, H⟩ := H
          replace H : (if t199 = true then (some false) else (if t195 = 0 then ((bursarlaw11_awake.f).bind fun t200 => (some t200)) else ((chart_May.f a1_0 t191).bind fun t201 => (if t201 = true then (some false) else ((bursarlaw11_awake.f).bind fun t202 => (some t202)))))) = some r := H
          have A34 := Aside0.mk A340
          clear A340
          by_cases c35 : t199 = true
          · subst c35
            have H1 : (some false) = some r := by rw [if_pos rfl] at H; exact H
            clear H
            have H := H1
            clear H1
            obtain rfl := Option.some.inj H
            have hnb36 := NB188_189.out
            have hnc36 := NB189_188.out
            have hcz37_0 : wc.cell? ⟨gb188, 0, none⟩ = some (.int .i64 a0_0) := (blk_cell BK188.out 0).trans rfl
            have hcz37_1 : wc.cell? ⟨gb188, 1, none⟩ = some (.string t190) := (blk_cell BK188.out 1).trans rfl
            have hfz37_0 := blk_frozen BK188.out 0
            have hfz37_1 := blk_frozen BK188.out 1
            go_wp2_with (first | (go_at_call 17; (with_reducible refine (chart_May.calls a0_0 t190 true _ A34.out).mono ?_); rintro e w38 ⟨rfl, hb⟩; have n0_ := Aside0.mk (blk_below (g := gb188) (o := .cells #[.int .i64 a0_0, .string t190] 23 (0, 0)) (by (with_reducible repeat (first | refine blk_drewN ?_ _ | refine blk_drew ?_ | refine blk_alloc ?_ _)); exact BK188.out) hb); have n1_ := Aside0.mk (blk_below (g := gb189) (o := .cells #[.int .i64 a1_0, .string t191] 23 (0, 0)) (by (with_reducible repeat (first | refine blk_drewN ?_ _ | refine blk_drew ?_ | refine blk_alloc ?_ _)); exact BK189.out) hb); have n2_ := Aside0.mk (below_step (by repeat (first | (with_reducible first | exact HB.out | apply below_alloc | apply pw_below_drewN | apply below_drew1 | refine below_set ?_ GE188.out | refine below_set ?_ GE189.out) | exact HB.out)) hb); clear BK188; clear BK189; clear HB; have BK188 := n0_; have BK189 := n1_; have HB := n2_; clear n0_ n1_ n2_; (try clear hb); (try clear hb2); (try clear hk); (try clear hi)))
            go_ret
            exact ⟨by first | rfl | (simp [errW_none, errW_some] <;> rfl) | (simp [*, errW_none, errW_some] <;> rfl), by repeat (first | (with_reducible first | exact HB.out | apply below_alloc | apply pw_below_drewN | apply below_drew1 | refine below_set ?_ GE188.out | refine below_set ?_ GE189.out) | exact HB.out)⟩
          · replace c35 := Bool.eq_false_iff.mpr c35
            subst c35
            have H1 : (if t195 = 0 then ((bursarlaw11_awake.f).bind fun t200 => (some t200)) else ((chart_May.f a1_0 t191).bind fun t201 => (if t201 = true then (some false) else ((bursarlaw11_awake.f).bind fun t202 => (some t202))))) = some r := by rw [if_neg (show ¬ (false = true) by decide)] at H; exact H
            clear H
            have H := H1
            clear H1
            by_cases c39 : t195 = 0
            · rw [if_pos c39] at H
              have c39b0 : (t195 == 0) = true := beq_iff_eq.mpr c39
              have c39b1 : (t195 != 0) = false := bne_eq_false_iff_eq.mpr c39
              clear c39
              replace H := Option.bind_eq_some_iff.mp H
              obtain ⟨t200, A400, H⟩ := H
              replace H : (some t200) = some r := H
              have A40 := Aside0.mk A400
              clear A400
              obtain rfl := Option.some.inj H
              have hnb41 := NB188_189.out
              have hnc41 := NB189_188.out
              have hcz42_0 : wc.cell? ⟨gb188, 0, none⟩ = some (.int .i64 a0_0) := (blk_cell BK188.out 0).trans rfl
              have hcz42_1 : wc.cell? ⟨gb188, 1, none⟩ = some (.string t190) := (blk_cell BK188.out 1).trans rfl
              have hfz42_0 := blk_frozen BK188.out 0
              have hfz42_1 := blk_frozen BK188.out 1
              go_wp2_with (first | (go_at_call 17; (with_reducible refine (chart_May.calls a0_0 t190 false _ A34.out).mono ?_); rintro e w43 ⟨rfl, hb⟩; have n0_ := Aside0.mk (blk_below (g := gb188) (o := .cells #[.int .i64 a0_0, .string t190] 23 (0, 0)) (by (with_reducible repeat (first | refine blk_drewN ?_ _ | refine blk_drew ?_ | refine blk_alloc ?_ _)); exact BK188.out) hb); have n1_ := Aside0.mk (blk_below (g := gb189) (o := .cells #[.int .i64 a1_0, .string t191] 23 (0, 0)) (by (with_reducible repeat (first | refine blk_drewN ?_ _ | refine blk_drew ?_ | refine blk_alloc ?_ _)); exact BK189.out) hb); have n2_ := Aside0.mk (below_step (by repeat (first | (with_reducible first | exact HB.out | apply below_alloc | apply pw_below_drewN | apply below_drew1 | refine below_set ?_ GE188.out | refine below_set ?_ GE189.out) | exact HB.out)) hb); clear BK188; clear BK189; clear HB; have BK188 := n0_; have BK189 := n1_; have HB := n2_; clear n0_ n1_ n2_; (try clear hb); (try clear hb2); (try clear hk); (try clear hi)) | (go_at_call 19; (with_reducible refine (bursarlaw11_awake.calls  t200 _ A40.out).mono ?_); rintro e w44 ⟨rfl, hb⟩; have n0_ := Aside0.mk (blk_below (g := gb188) (o := .cells #[.int .i64 a0_0, .string t190] 23 (0, 0)) (by (with_reducible repeat (first | refine blk_drewN ?_ _ | refine blk_drew ?_ | refine blk_alloc ?_ _)); exact BK188.out) hb); have n1_ := Aside0.mk (blk_below (g := gb189) (o := .cells #[.int .i64 a1_0, .string t191] 23 (0, 0)) (by (with_reducible repeat (first | refine blk_drewN ?_ _ | refine blk_drew ?_ | refine blk_alloc ?_ _)); exact BK189.out) hb); have n2_ := Aside0.mk (below_step (by repeat (first | (with_reducible first | exact HB.out | apply below_alloc | apply pw_below_drewN | apply below_drew1 | refine below_set ?_ GE188.out | refine below_set ?_ GE189.out) | exact HB.out)) hb); clear BK188; clear BK189; clear HB; have BK188 := n0_; have BK189 := n1_; have HB := n2_; clear n0_ n1_ n2_; (try clear hb); (try clear hb2); (try clear hk); (try clear hi)))
              go_ret
              exact ⟨by first | rfl | (simp [errW_none, errW_some] <;> rfl) | (simp [*, errW_none, errW_some] <;> rfl), by repeat (first | (with_reducible first | exact HB.out | apply below_alloc | apply pw_below_drewN | apply below_drew1 | refine below_set ?_ GE188.out | refine below_set ?_ GE189.out) | exact HB.out)⟩
            · rw [if_neg c39] at H
              have c39b0 : (t195 == 0) = false := beq_eq_false_iff_ne.mpr c39
              have c39b1 : (t195 != 0) = true := bne_iff_ne.mpr c39
              replace H := Option.bind_eq_some_iff.mp H
              obtain ⟨t201, A450, H⟩ := H
              replace H : (if t201 = true then (some false) else ((bursarlaw11_awake.f).bind fun t202 => (some t202))) = some r := H
              have A45 := Aside0.mk A450
              clear A450
              by_cases c46 : t201 = true
              · subst c46
                have H1 : (some false) = some r := by rw [if_pos rfl] at H; exact H
                clear H
                have H := H1
                clear H1
                obtain rfl := Option.some.inj H
                have hnb47 := NB188_189.out
                have hnc47 := NB189_188.out
                have hcz48_0 : wc.cell? ⟨gb188, 0, none⟩ = some (.int .i64 a0_0) := (blk_cell BK188.out 0).trans rfl
                have hcz48_1 : wc.cell? ⟨gb188, 1, none⟩ = some (.string t190) := (blk_cell BK188.out 1).trans rfl
                have hfz48_0 := blk_frozen BK188.out 0
                have hfz48_1 := blk_frozen BK188.out 1
                go_wp2_with (first | (go_at_call 17; (with_reducible refine (chart_May.calls a0_0 t190 false _ A34.out).mono ?_); rintro e w49 ⟨rfl, hb⟩; have n0_ := Aside0.mk (blk_below (g := gb188) (o := .cells #[.int .i64 a0_0, .string t190] 23 (0, 0)) (by (with_reducible repeat (first | refine blk_drewN ?_ _ | refine blk_drew ?_ | refine blk_alloc ?_ _)); exact BK188.out) hb); have n1_ := Aside0.mk (blk_below (g := gb189) (o := .cells #[.int .i64 a1_0, .string t191] 23 (0, 0)) (by (with_reducible repeat (first | refine blk_drewN ?_ _ | refine blk_drew ?_ | refine blk_alloc ?_ _)); exact BK189.out) hb); have n2_ := Aside0.mk (below_step (by repeat (first | (with_reducible first | exact HB.out | apply below_alloc | apply pw_below_drewN | apply below_drew1 | refine below_set ?_ GE188.out | refine below_set ?_ GE189.out) | exact HB.out)) hb); clear BK188; clear BK189; clear HB; have BK188 := n0_; have BK189 := n1_; have HB := n2_; clear n0_ n1_ n2_; (try clear hb); (try clear hb2); (try clear hk); (try clear hi); have hcz50_0 : w49.cell? ⟨gb189, 0, none⟩ = some (.int .i64 a1_0) := (blk_cell BK189.out 0).trans rfl; have hcz50_1 : w49.cell? ⟨gb189, 1, none⟩ = some (.string t191) := (blk_cell BK189.out 1).trans rfl; have hfz50_0 := blk_frozen BK189.out 0; have hfz50_1 := blk_frozen BK189.out 1) | (go_at_call 17; (with_reducible refine (chart_May.calls a1_0 t191 true _ A45.out).mono ?_); rintro e w51 ⟨rfl, hb⟩; have n0_ := Aside0.mk (blk_below (g := gb188) (o := .cells #[.int .i64 a0_0, .string t190] 23 (0, 0)) (by (with_reducible repeat (first | refine blk_drewN ?_ _ | refine blk_drew ?_ | refine blk_alloc ?_ _)); exact BK188.out) hb); have n1_ := Aside0.mk (blk_below (g := gb189) (o := .cells #[.int .i64 a1_0, .string t191] 23 (0, 0)) (by (with_reducible repeat (first | refine blk_drewN ?_ _ | refine blk_drew ?_ | refine blk_alloc ?_ _)); exact BK189.out) hb); have n2_ := Aside0.mk (below_step (by repeat (first | (with_reducible first | exact HB.out | apply below_alloc | apply pw_below_drewN | apply below_drew1 | refine below_set ?_ GE188.out | refine below_set ?_ GE189.out) | exact HB.out)) hb); clear BK188; clear BK189; clear HB; have BK188 := n0_; have BK189 := n1_; have HB := n2_; clear n0_ n1_ n2_; (try clear hb); (try clear hb2); (try clear hk); (try clear hi)))
                go_ret
                exact ⟨by first | rfl | (simp [errW_none, errW_some] <;> rfl) | (simp [*, errW_none, errW_some] <;> rfl), by repeat (first | (with_reducible first | exact HB.out | apply below_alloc | apply pw_below_drewN | apply below_drew1 | refine below_set ?_ GE188.out | refine below_set ?_ GE189.out) | exact HB.out)⟩
              · replace c46 := Bool.eq_false_iff.mpr c46
                subst c46
                have H1 : ((bursarlaw11_awake.f).bind fun t202 => (some t202)) = some r := by rw [if_neg (show ¬ (false = true) by decide)] at H; exact H
                clear H
                have H := H1
                clear H1
                replace H := Option.bind_eq_some_iff.mp H
                obtain ⟨t202, A520, H⟩ := H
                replace H : (some t202) = some r := H
                have A52 := Aside0.mk A520
                clear A520
                obtain rfl := Option.some.inj H
                have hnb53 := NB188_189.out
                have hnc53 := NB189_188.out
                have hcz54_0 : wc.cell? ⟨gb188, 0, none⟩ = some (.int .i64 a0_0) := (blk_cell BK188.out 0).trans rfl
                have hcz54_1 : wc.cell? ⟨gb188, 1, none⟩ = some (.string t190) := (blk_cell BK188.out 1).trans rfl
                have hfz54_0 := blk_frozen BK188.out 0
                have hfz54_1 := blk_frozen BK188.out 1
                go_wp2_with (first | (go_at_call 17; (with_reducible refine (chart_May.calls a0_0 t190 false _ A34.out).mono ?_); rintro e w55 ⟨rfl, hb⟩; have n0_ := Aside0.mk (blk_below (g := gb188) (o := .cells #[.int .i64 a0_0, .string t190] 23 (0, 0)) (by (with_reducible repeat (first | refine blk_drewN ?_ _ | refine blk_drew ?_ | refine blk_alloc ?_ _)); exact BK188.out) hb); have n1_ := Aside0.mk (blk_below (g := gb189) (o := .cells #[.int .i64 a1_0, .string t191] 23 (0, 0)) (by (with_reducible repeat (first | refine blk_drewN ?_ _ | refine blk_drew ?_ | refine blk_alloc ?_ _)); exact BK189.out) hb); have n2_ := Aside0.mk (below_step (by repeat (first | (with_reducible first | exact HB.out | apply below_alloc | apply pw_below_drewN | apply below_drew1 | refine below_set ?_ GE188.out | refine below_set ?_ GE189.out) | exact HB.out)) hb); clear BK188; clear BK189; clear HB; have BK188 := n0_; have BK189 := n1_; have HB := n2_; clear n0_ n1_ n2_; (try clear hb); (try clear hb2); (try clear hk); (try clear hi); have hcz56_0 : w55.cell? ⟨gb189, 0, none⟩ = some (.int .i64 a1_0) := (blk_cell BK189.out 0).trans rfl; have hcz56_1 : w55.cell? ⟨gb189, 1, none⟩ = some (.string t191) := (blk_cell BK189.out 1).trans rfl; have hfz56_0 := blk_frozen BK189.out 0; have hfz56_1 := blk_frozen BK189.out 1) | (go_at_call 17; (with_reducible refine (chart_May.calls a1_0 t191 false _ A45.out).mono ?_); rintro e w57 ⟨rfl, hb⟩; have n0_ := Aside0.mk (blk_below (g := gb188) (o := .cells #[.int .i64 a0_0, .string t190] 23 (0, 0)) (by (with_reducible repeat (first | refine blk_drewN ?_ _ | refine blk_drew ?_ | refine blk_alloc ?_ _)); exact BK188.out) hb); have n1_ := Aside0.mk (blk_below (g := gb189) (o := .cells #[.int .i64 a1_0, .string t191] 23 (0, 0)) (by (with_reducible repeat (first | refine blk_drewN ?_ _ | refine blk_drew ?_ | refine blk_alloc ?_ _)); exact BK189.out) hb); have n2_ := Aside0.mk (below_step (by repeat (first | (with_reducible first | exact HB.out | apply below_alloc | apply pw_below_drewN | apply below_drew1 | refine below_set ?_ GE188.out | refine below_set ?_ GE189.out) | exact HB.out)) hb); clear BK188; clear BK189; clear HB; have BK188 := n0_; have BK189 := n1_; have HB := n2_; clear n0_ n1_ n2_; (try clear hb); (try clear hb2); (try clear hk); (try clear hi)) | (go_at_call 19; (with_reducible refine (bursarlaw11_awake.calls  t202 _ A52.out).mono ?_); rintro e w58 ⟨rfl, hb⟩; have n0_ := Aside0.mk (blk_below (g := gb188) (o := .cells #[.int .i64 a0_0, .string t190] 23 (0, 0)) (by (with_reducible repeat (first | refine blk_drewN ?_ _ | refine blk_drew ?_ | refine blk_alloc ?_ _)); exact BK188.out) hb); have n1_ := Aside0.mk (blk_below (g := gb189) (o := .cells #[.int .i64 a1_0, .string t191] 23 (0, 0)) (by (with_reducible repeat (first | refine blk_drewN ?_ _ | refine blk_drew ?_ | refine blk_alloc ?_ _)); exact BK189.out) hb); have n2_ := Aside0.mk (below_step (by repeat (first | (with_reducible first | exact HB.out | apply below_alloc | apply pw_below_drewN | apply below_drew1 | refine below_set ?_ GE188.out | refine below_set ?_ GE189.out) | exact HB.out)) hb); clear BK188; clear BK189; clear HB; have BK188 := n0_; have BK189 := n1_; have HB := n2_; clear n0_ n1_ n2_; (try clear hb); (try clear hb2); (try clear hk); (try clear hi)))
                go_ret
                exact ⟨by first | rfl | (simp [errW_none, errW_some] <;> rfl) | (simp [*, errW_none, errW_some] <;> rfl), by repeat (first | (with_reducible first | exact HB.out | apply below_alloc | apply pw_below_drewN | apply below_drew1 | refine below_set ?_ GE188.out | refine below_set ?_ GE189.out) | exact HB.out)⟩
      · replace c19 := Bool.eq_false_iff.mpr c19
        subst c19
        have H1 : (if ((t192.toList == t194.toList) == (a0_0 == a1_0 && (t190.toList == t191.toList))) = true then ((chart_Order.f a0_0 t190 a1_0 t191).bind fun t203 => (if t203 < 0 then (if (Op.bytesLess t192.toList t194.toList) = true then (if a0_0 = 2 then (if a1_0 = 1 then ((chart_Order.f a0_0 t190 a1_0 t191).bind fun t204 => ((bursarlaw11_awake.f).bind fun t205 => (some t205))) else ((bursarlaw11_awake.f).bind fun t206 => (some t206))) else ((bursarlaw11_awake.f).bind fun t207 => (some t207))) else (some false)) else (if (Op.bytesLess t192.toList t194.toList) = true then (some false) else (if a0_0 = 2 then (if a1_0 = 1 then ((chart_Order.f a0_0 t190 a1_0 t191).bind fun t208 => (some false)) else ((bursarlaw11_awake.f).bind fun t209 => (some t209))) else ((bursarlaw11_awake.f).bind fun t210 => (some t210)))))) else (some false)) = some r := by rw [if_neg (show ¬ (false = true) by decide)] at H; exact H
        clear H
        have H := H1
        clear H1
        by_cases c59 : ((t192.toList == t194.toList) == (a0_0 == a1_0 && (t190.toList == t191.toList))) = true
        · rw [if_pos c59] at H
          have c59b0 : ((t192.toList == t194.toList) == (a0_0 == a1_0 && (t190.toList == t191.toList))) = true := c59
          (try (have c59b1 : decide ((t192.toList == t194.toList) = (a0_0 == a1_0 && (t190.toList == t191.toList))) = true := by simpa using c59))
          (try (have c59b2 : ((t192.toList == t194.toList) == (a0_0 == a1_0 && (t190.toList == t191.toList))) = true := by simpa using c59))
          (try (have c59b3 : (((t192.toList = t194.toList) = (a0_0 = a1_0 ∧ (t190.toList = t191.toList))) = True) := eq_true (by first | (simpa using c59; done) | (intro h_; have g_ := c59; simp [h_] at g_; done) | (have g_ := c59; simp at g_; exact g_))))
          (try (have c59b4 : ((t192.toList == t194.toList) == (a0_0 == a1_0)) = true := (by first | (have g_ := c59; simp at g_; simp [g_]; done) | (have g_ := c59; simp [Pu.beq_nil] at g_ ⊢; simp [g_]; done) | (have g_ := c59; simp [Pu.beq_nil] at g_ ⊢; exact g_))))
          (try (have c59b5 : ((t190.toList == t191.toList)) = true := (by first | (have g_ := c59; simp at g_; simp [g_]; done) | (have g_ := c59; simp [Pu.beq_nil] at g_ ⊢; simp [g_]; done) | (have g_ := c59; simp [Pu.beq_nil] at g_ ⊢; exact g_))))
          clear c59
          replace H := Option.bind_eq_some_iff.mp H
          obtain ⟨t203, A600, H⟩ := H
          replace H : (if t203 < 0 then (if (Op.bytesLess t192.toList t194.toList) = true then (if a0_0 = 2 then (if a1_0 = 1 then ((chart_Order.f a0_0 t190 a1_0 t191).bind fun t204 => ((bursarlaw11_awake.f).bind fun t205 => (some t205))) else ((bursarlaw11_awake.f).bind fun t206 => (some t206))) else ((bursarlaw11_awake.f).bind fun t207 => (some t207))) else (some false)) else (if (Op.bytesLess t192.toList t194.toList) = true then (some false) else (if a0_0 = 2 then (if a1_0 = 1 then ((chart_Order.f a0_0 t190 a1_0 t191).bind fun t208 => (some false)) else ((bursarlaw11_awake.f).bind fun t209 => (some t209))) else ((bursarlaw11_awake.f).bind fun t210 => (some t210))))) = some r := H
          have A60 := Aside0.mk A600
          clear A600
          by_cases c61 : t203 < 0
          · rw [if_pos c61] at H
            have c61b0 : decide (t203 < 0) = true := decide_eq_true c61
            clear c61
            by_cases c62 : (Op.bytesLess t192.toList t194.toList) = true
            · rw [if_pos c62] at H
              have c62b0 : (Op.bytesLess t192.toList t194.toList) = true := c62
              clear c62
              by_cases c63 : a0_0 = 2
              · rw [if_pos c63] at H
                have c63b0 : (a0_0 == 2) = true := beq_iff_eq.mpr c63
                have c63b1 : (a0_0 != 2) = false := bne_eq_false_iff_eq.mpr c63
                clear c63
                by_cases c64 : a1_0 = 1
                · rw [if_pos c64] at H
                  have c64b0 : (a1_0 == 1) = true := beq_iff_eq.mpr c64
                  have c64b1 : (a1_0 != 1) = false := bne_eq_false_iff_eq.mpr c64
                  clear c64
                  replace H := Option.bind_eq_some_iff.mp H
                  obtain ⟨t204, A650, H⟩ := H
                  replace H : ((bursarlaw11_awake.f).bind fun t205 => (some t205)) = some r := H
                  have A65 := Aside0.mk A650
                  clear A650
                  replace H := Option.bind_eq_some_iff.mp H
                  obtain ⟨t205, A660, H⟩ := H
                  replace H : (some t205) = some r := H
                  have A66 := Aside0.mk A660
                  clear A660
                  obtain rfl := Option.some.inj H
                  have hnb67 := NB188_189.out
                  have hnc67 := NB189_188.out
                  have hcz68_0 : wc.cell? ⟨gb188, 0, none⟩ = some (.int .i64 a0_0) := (blk_cell BK188.out 0).trans rfl
                  have hcz68_1 : wc.cell? ⟨gb188, 1, none⟩ = some (.string t190) := (blk_cell BK188.out 1).trans rfl
                  have hfz68_0 := blk_frozen BK188.out 0
                  have hfz68_1 := blk_frozen BK188.out 1
                  have hcz69_0 : wc.cell? ⟨gb189, 0, none⟩ = some (.int .i64 a1_0) := (blk_cell BK189.out 0).trans rfl
                  have hcz69_1 : wc.cell? ⟨gb189, 1, none⟩ = some (.string t191) := (blk_cell BK189.out 1).trans rfl
                  have hfz69_0 := blk_frozen BK189.out 0
                  have hfz69_1 := blk_frozen BK189.out 1
                  go_wp2_with (first | (go_at_call 23; (with_reducible refine (chart_Order.calls a0_0 t190 a1_0 t191 t203 _ A60.out).mono ?_); rintro e w70 ⟨rfl, hb⟩; have n0_ := Aside0.mk (blk_below (g := gb188) (o := .cells #[.int .i64 a0_0, .string t190] 23 (0, 0)) (by (with_reducible repeat (first | refine blk_drewN ?_ _ | refine blk_drew ?_ | refine blk_alloc ?_ _)); exact BK188.out) hb); have n1_ := Aside0.mk (blk_below (g := gb189) (o := .cells #[.int .i64 a1_0, .string t191] 23 (0, 0)) (by (with_reducible repeat (first | refine blk_drewN ?_ _ | refine blk_drew ?_ | refine blk_alloc ?_ _)); exact BK189.out) hb); have n2_ := Aside0.mk (below_step (by repeat (first | (with_reducible first | exact HB.out | apply below_alloc | apply pw_below_drewN | apply below_drew1 | refine below_set ?_ GE188.out | refine below_set ?_ GE189.out) | exact HB.out)) hb); clear BK188; clear BK189; clear HB; have BK188 := n0_; have BK189 := n1_; have HB := n2_; clear n0_ n1_ n2_; (try clear hb); (try clear hb2); (try clear hk); (try clear hi); have hcz71_0 : w70.cell? ⟨gb188, 0, none⟩ = some (.int .i64 a0_0) := (blk_cell BK188.out 0).trans rfl; have hcz71_1 : w70.cell? ⟨gb188, 1, none⟩ = some (.string t190) := (blk_cell BK188.out 1).trans rfl; have hfz71_0 := blk_frozen BK188.out 0; have hfz71_1 := blk_frozen BK188.out 1; have hcz72_0 : w70.cell? ⟨gb189, 0, none⟩ = some (.int .i64 a1_0) := (blk_cell BK189.out 0).trans rfl; have hcz72_1 : w70.cell? ⟨gb189, 1, none⟩ = some (.string t191) := (blk_cell BK189.out 1).trans rfl; have hfz72_0 := blk_frozen BK189.out 0; have hfz72_1 := blk_frozen BK189.out 1) | (go_at_call 23; (with_reducible refine (chart_Order.calls a0_0 t190 a1_0 t191 t204 _ A65.out).mono ?_); rintro e w73 ⟨rfl, hb⟩; have n0_ := Aside0.mk (blk_below (g := gb188) (o := .cells #[.int .i64 a0_0, .string t190] 23 (0, 0)) (by (with_reducible repeat (first | refine blk_drewN ?_ _ | refine blk_drew ?_ | refine blk_alloc ?_ _)); exact BK188.out) hb); have n1_ := Aside0.mk (blk_below (g := gb189) (o := .cells #[.int .i64 a1_0, .string t191] 23 (0, 0)) (by (with_reducible repeat (first | refine blk_drewN ?_ _ | refine blk_drew ?_ | refine blk_alloc ?_ _)); exact BK189.out) hb); have n2_ := Aside0.mk (below_step (by repeat (first | (with_reducible first | exact HB.out | apply below_alloc | apply pw_below_drewN | apply below_drew1 | refine below_set ?_ GE188.out | refine below_set ?_ GE189.out) | exact HB.out)) hb); clear BK188; clear BK189; clear HB; have BK188 := n0_; have BK189 := n1_; have HB := n2_; clear n0_ n1_ n2_; (try clear hb); (try clear hb2); (try clear hk); (try clear hi)) | (go_at_call 19; (with_reducible refine (bursarlaw11_awake.calls  t205 _ A66.out).mono ?_); rintro e w74 ⟨rfl, hb⟩; have n0_ := Aside0.mk (blk_below (g := gb188) (o := .cells #[.int .i64 a0_0, .string t190] 23 (0, 0)) (by (with_reducible repeat (first | refine blk_drewN ?_ _ | refine blk_drew ?_ | refine blk_alloc ?_ _)); exact BK188.out) hb); have n1_ := Aside0.mk (blk_below (g := gb189) (o := .cells #[.int .i64 a1_0, .string t191] 23 (0, 0)) (by (with_reducible repeat (first | refine blk_drewN ?_ _ | refine blk_drew ?_ | refine blk_alloc ?_ _)); exact BK189.out) hb); have n2_ := Aside0.mk (below_step (by repeat (first | (with_reducible first | exact HB.out | apply below_alloc | apply pw_below_drewN | apply below_drew1 | refine below_set ?_ GE188.out | refine below_set ?_ GE189.out) | exact HB.out)) hb); clear BK188; clear BK189; clear HB; have BK188 := n0_; have BK189 := n1_; have HB := n2_; clear n0_ n1_ n2_; (try clear hb); (try clear hb2); (try clear hk); (try clear hi)))
                  go_ret
                  exact ⟨by first | rfl | (simp [errW_none, errW_some] <;> rfl) | (simp [*, errW_none, errW_some] <;> rfl), by repeat (first | (with_reducible first | exact HB.out | apply below_alloc | apply pw_below_drewN | apply below_drew1 | refine below_set ?_ GE188.out | refine below_set ?_ GE189.out) | exact HB.out)⟩
                · rw [if_neg c64] at H
                  have c64b0 : (a1_0 == 1) = false := beq_eq_false_iff_ne.mpr c64
                  have c64b1 : (a1_0 != 1) = true := bne_iff_ne.mpr c64
                  replace H := Option.bind_eq_some_iff.mp H
                  obtain ⟨t206, A750, H⟩ := H
                  replace H : (some t206) = some r := H
                  have A75 := Aside0.mk A750
                  clear A750
                  obtain rfl := Option.some.inj H
                  have hnb76 := NB188_189.out
                  have hnc76 := NB189_188.out
                  have hcz77_0 : wc.cell? ⟨gb188, 0, none⟩ = some (.int .i64 a0_0) := (blk_cell BK188.out 0).trans rfl
                  have hcz77_1 : wc.cell? ⟨gb188, 1, none⟩ = some (.string t190) := (blk_cell BK188.out 1).trans rfl
                  have hfz77_0 := blk_frozen BK188.out 0
                  have hfz77_1 := blk_frozen BK188.out 1
                  have hcz78_0 : wc.cell? ⟨gb189, 0, none⟩ = some (.int .i64 a1_0) := (blk_cell BK189.out 0).trans rfl
                  have hcz78_1 : wc.cell? ⟨gb189, 1, none⟩ = some (.string t191) := (blk_cell BK189.out 1).trans rfl
                  have hfz78_0 := blk_frozen BK189.out 0
                  have hfz78_1 := blk_frozen BK189.out 1
                  go_wp2_with (first | (go_at_call 23; (with_reducible refine (chart_Order.calls a0_0 t190 a1_0 t191 t203 _ A60.out).mono ?_); rintro e w79 ⟨rfl, hb⟩; have n0_ := Aside0.mk (blk_below (g := gb188) (o := .cells #[.int .i64 a0_0, .string t190] 23 (0, 0)) (by (with_reducible repeat (first | refine blk_drewN ?_ _ | refine blk_drew ?_ | refine blk_alloc ?_ _)); exact BK188.out) hb); have n1_ := Aside0.mk (blk_below (g := gb189) (o := .cells #[.int .i64 a1_0, .string t191] 23 (0, 0)) (by (with_reducible repeat (first | refine blk_drewN ?_ _ | refine blk_drew ?_ | refine blk_alloc ?_ _)); exact BK189.out) hb); have n2_ := Aside0.mk (below_step (by repeat (first | (with_reducible first | exact HB.out | apply below_alloc | apply pw_below_drewN | apply below_drew1 | refine below_set ?_ GE188.out | refine below_set ?_ GE189.out) | exact HB.out)) hb); clear BK188; clear BK189; clear HB; have BK188 := n0_; have BK189 := n1_; have HB := n2_; clear n0_ n1_ n2_; (try clear hb); (try clear hb2); (try clear hk); (try clear hi); have hcz80_0 : w79.cell? ⟨gb188, 0, none⟩ = some (.int .i64 a0_0) := (blk_cell BK188.out 0).trans rfl; have hcz80_1 : w79.cell? ⟨gb188, 1, none⟩ = some (.string t190) := (blk_cell BK188.out 1).trans rfl; have hfz80_0 := blk_frozen BK188.out 0; have hfz80_1 := blk_frozen BK188.out 1; have hcz81_0 : w79.cell? ⟨gb189, 0, none⟩ = some (.int .i64 a1_0) := (blk_cell BK189.out 0).trans rfl; have hcz81_1 : w79.cell? ⟨gb189, 1, none⟩ = some (.string t191) := (blk_cell BK189.out 1).trans rfl; have hfz81_0 := blk_frozen BK189.out 0; have hfz81_1 := blk_frozen BK189.out 1) | (go_at_call 19; (with_reducible refine (bursarlaw11_awake.calls  t206 _ A75.out).mono ?_); rintro e w82 ⟨rfl, hb⟩; have n0_ := Aside0.mk (blk_below (g := gb188) (o := .cells #[.int .i64 a0_0, .string t190] 23 (0, 0)) (by (with_reducible repeat (first | refine blk_drewN ?_ _ | refine blk_drew ?_ | refine blk_alloc ?_ _)); exact BK188.out) hb); have n1_ := Aside0.mk (blk_below (g := gb189) (o := .cells #[.int .i64 a1_0, .string t191] 23 (0, 0)) (by (with_reducible repeat (first | refine blk_drewN ?_ _ | refine blk_drew ?_ | refine blk_alloc ?_ _)); exact BK189.out) hb); have n2_ := Aside0.mk (below_step (by repeat (first | (with_reducible first | exact HB.out | apply below_alloc | apply pw_below_drewN | apply below_drew1 | refine below_set ?_ GE188.out | refine below_set ?_ GE189.out) | exact HB.out)) hb); clear BK188; clear BK189; clear HB; have BK188 := n0_; have BK189 := n1_; have HB := n2_; clear n0_ n1_ n2_; (try clear hb); (try clear hb2); (try clear hk); (try clear hi)))
                  go_ret
                  exact ⟨by first | rfl | (simp [errW_none, errW_some] <;> rfl) | (simp [*, errW_none, errW_some] <;> rfl), by repeat (first | (with_reducible first | exact HB.out | apply below_alloc | apply pw_below_drewN | apply below_drew1 | refine below_set ?_ GE188.out | refine below_set ?_ GE189.out) | exact HB.out)⟩
              · rw [if_neg c63] at H
                have c63b0 : (a0_0 == 2) = false := beq_eq_false_iff_ne.mpr c63
                have c63b1 : (a0_0 != 2) = true := bne_iff_ne.mpr c63
                replace H := Option.bind_eq_some_iff.mp H
                obtain ⟨t207, A830, H⟩ := H
                replace H : (some t207) = some r := H
                have A83 := Aside0.mk A830
                clear A830
                obtain rfl := Option.some.inj H
                have hnb84 := NB188_189.out
                have hnc84 := NB189_188.out
                have hcz85_0 : wc.cell? ⟨gb188, 0, none⟩ = some (.int .i64 a0_0) := (blk_cell BK188.out 0).trans rfl
                have hcz85_1 : wc.cell? ⟨gb188, 1, none⟩ = some (.string t190) := (blk_cell BK188.out 1).trans rfl
                have hfz85_0 := blk_frozen BK188.out 0
                have hfz85_1 := blk_frozen BK188.out 1
                have hcz86_0 : wc.cell? ⟨gb189, 0, none⟩ = some (.int .i64 a1_0) := (blk_cell BK189.out 0).trans rfl
                have hcz86_1 : wc.cell? ⟨gb189, 1, none⟩ = some (.string t191) := (blk_cell BK189.out 1).trans rfl
                have hfz86_0 := blk_frozen BK189.out 0
                have hfz86_1 := blk_frozen BK189.out 1
                go_wp2_with (first | (go_at_call 23; (with_reducible refine (chart_Order.calls a0_0 t190 a1_0 t191 t203 _ A60.out).mono ?_); rintro e w87 ⟨rfl, hb⟩; have n0_ := Aside0.mk (blk_below (g := gb188) (o := .cells #[.int .i64 a0_0, .string t190] 23 (0, 0)) (by (with_reducible repeat (first | refine blk_drewN ?_ _ | refine blk_drew ?_ | refine blk_alloc ?_ _)); exact BK188.out) hb); have n1_ := Aside0.mk (blk_below (g := gb189) (o := .cells #[.int .i64 a1_0, .string t191] 23 (0, 0)) (by (with_reducible repeat (first | refine blk_drewN ?_ _ | refine blk_drew ?_ | refine blk_alloc ?_ _)); exact BK189.out) hb); have n2_ := Aside0.mk (below_step (by repeat (first | (with_reducible first | exact HB.out | apply below_alloc | apply pw_below_drewN | apply below_drew1 | refine below_set ?_ GE188.out | refine below_set ?_ GE189.out) | exact HB.out)) hb); clear BK188; clear BK189; clear HB; have BK188 := n0_; have BK189 := n1_; have HB := n2_; clear n0_ n1_ n2_; (try clear hb); (try clear hb2); (try clear hk); (try clear hi); have hcz88_0 : w87.cell? ⟨gb188, 0, none⟩ = some (.int .i64 a0_0) := (blk_cell BK188.out 0).trans rfl; have hcz88_1 : w87.cell? ⟨gb188, 1, none⟩ = some (.string t190) := (blk_cell BK188.out 1).trans rfl; have hfz88_0 := blk_frozen BK188.out 0; have hfz88_1 := blk_frozen BK188.out 1) | (go_at_call 19; (with_reducible refine (bursarlaw11_awake.calls  t207 _ A83.out).mono ?_); rintro e w89 ⟨rfl, hb⟩; have n0_ := Aside0.mk (blk_below (g := gb188) (o := .cells #[.int .i64 a0_0, .string t190] 23 (0, 0)) (by (with_reducible repeat (first | refine blk_drewN ?_ _ | refine blk_drew ?_ | refine blk_alloc ?_ _)); exact BK188.out) hb); have n1_ := Aside0.mk (blk_below (g := gb189) (o := .cells #[.int .i64 a1_0, .string t191] 23 (0, 0)) (by (with_reducible repeat (first | refine blk_drewN ?_ _ | refine blk_drew ?_ | refine blk_alloc ?_ _)); exact BK189.out) hb); have n2_ := Aside0.mk (below_step (by repeat (first | (with_reducible first | exact HB.out | apply below_alloc | apply pw_below_drewN | apply below_drew1 | refine below_set ?_ GE188.out | refine below_set ?_ GE189.out) | exact HB.out)) hb); clear BK188; clear BK189; clear HB; have BK188 := n0_; have BK189 := n1_; have HB := n2_; clear n0_ n1_ n2_; (try clear hb); (try clear hb2); (try clear hk); (try clear hi)))
                go_ret
                exact ⟨by first | rfl | (simp [errW_none, errW_some] <;> rfl) | (simp [*, errW_none, errW_some] <;> rfl), by repeat (first | (with_reducible first | exact HB.out | apply below_alloc | apply pw_below_drewN | apply below_drew1 | refine below_set ?_ GE188.out | refine below_set ?_ GE189.out) | exact HB.out)⟩
            · rw [if_neg c62] at H
              have c62b0 : (Op.bytesLess t192.toList t194.toList) = false := by simpa using c62
              clear c62
              obtain rfl := Option.some.inj H
              have hnb90 := NB188_189.out
              have hnc90 := NB189_188.out
              have hcz91_0 : wc.cell? ⟨gb188, 0, none⟩ = some (.int .i64 a0_0) := (blk_cell BK188.out 0).trans rfl
              have hcz91_1 : wc.cell? ⟨gb188, 1, none⟩ = some (.string t190) := (blk_cell BK188.out 1).trans rfl
              have hfz91_0 := blk_frozen BK188.out 0
              have hfz91_1 := blk_frozen BK188.out 1
              have hcz92_0 : wc.cell? ⟨gb189, 0, none⟩ = some (.int .i64 a1_0) := (blk_cell BK189.out 0).trans rfl
              have hcz92_1 : wc.cell? ⟨gb189, 1, none⟩ = some (.string t191) := (blk_cell BK189.out 1).trans rfl
              have hfz92_0 := blk_frozen BK189.out 0
              have hfz92_1 := blk_frozen BK189.out 1
              go_wp2_with (first | (go_at_call 23; (with_reducible refine (chart_Order.calls a0_0 t190 a1_0 t191 t203 _ A60.out).mono ?_); rintro e w93 ⟨rfl, hb⟩; have n0_ := Aside0.mk (blk_below (g := gb188) (o := .cells #[.int .i64 a0_0, .string t190] 23 (0, 0)) (by (with_reducible repeat (first | refine blk_drewN ?_ _ | refine blk_drew ?_ | refine blk_alloc ?_ _)); exact BK188.out) hb); have n1_ := Aside0.mk (blk_below (g := gb189) (o := .cells #[.int .i64 a1_0, .string t191] 23 (0, 0)) (by (with_reducible repeat (first | refine blk_drewN ?_ _ | refine blk_drew ?_ | refine blk_alloc ?_ _)); exact BK189.out) hb); have n2_ := Aside0.mk (below_step (by repeat (first | (with_reducible first | exact HB.out | apply below_alloc | apply pw_below_drewN | apply below_drew1 | refine below_set ?_ GE188.out | refine below_set ?_ GE189.out) | exact HB.out)) hb); clear BK188; clear BK189; clear HB; have BK188 := n0_; have BK189 := n1_; have HB := n2_; clear n0_ n1_ n2_; (try clear hb); (try clear hb2); (try clear hk); (try clear hi)))
              go_ret
              exact ⟨by first | rfl | (simp [errW_none, errW_some] <;> rfl) | (simp [*, errW_none, errW_some] <;> rfl), by repeat (first | (with_reducible first | exact HB.out | apply below_alloc | apply pw_below_drewN | apply below_drew1 | refine below_set ?_ GE188.out | refine below_set ?_ GE189.out) | exact HB.out)⟩
          · rw [if_neg c61] at H
            have c61b0 : decide (t203 < 0) = false := decide_eq_false c61
            clear c61
            by_cases c94 : (Op.bytesLess t192.toList t194.toList) = true
            · rw [if_pos c94] at H
              have c94b0 : (Op.bytesLess t192.toList t194.toList) = true := c94
              clear c94
              obtain rfl := Option.some.inj H
              have hnb95 := NB188_189.out
              have hnc95 := NB189_188.out
              have hcz96_0 : wc.cell? ⟨gb188, 0, none⟩ = some (.int .i64 a0_0) := (blk_cell BK188.out 0).trans rfl
              have hcz96_1 : wc.cell? ⟨gb188, 1, none⟩ = some (.string t190) := (blk_cell BK188.out 1).trans rfl
              have hfz96_0 := blk_frozen BK188.out 0
              have hfz96_1 := blk_frozen BK188.out 1
              have hcz97_0 : wc.cell? ⟨gb189, 0, none⟩ = some (.int .i64 a1_0) := (blk_cell BK189.out 0).trans rfl
              have hcz97_1 : wc.cell? ⟨gb189, 1, none⟩ = some (.string t191) := (blk_cell BK189.out 1).trans rfl
              have hfz97_0 := blk_frozen BK189.out 0
              have hfz97_1 := blk_frozen BK189.out 1
              go_wp2_with (first | (go_at_call 23; (with_reducible refine (chart_Order.calls a0_0 t190 a1_0 t191 t203 _ A60.out).mono ?_); rintro e w98 ⟨rfl, hb⟩; have n0_ := Aside0.mk (blk_below (g := gb188) (o := .cells #[.int .i64 a0_0, .string t190] 23 (0, 0)) (by (with_reducible repeat (first | refine blk_drewN ?_ _ | refine blk_drew ?_ | refine blk_alloc ?_ _)); exact BK188.out) hb); have n1_ := Aside0.mk (blk_below (g := gb189) (o := .cells #[.int .i64 a1_0, .string t191] 23 (0, 0)) (by (with_reducible repeat (first | refine blk_drewN ?_ _ | refine blk_drew ?_ | refine blk_alloc ?_ _)); exact BK189.out) hb); have n2_ := Aside0.mk (below_step (by repeat (first | (with_reducible first | exact HB.out | apply below_alloc | apply pw_below_drewN | apply below_drew1 | refine below_set ?_ GE188.out | refine below_set ?_ GE189.out) | exact HB.out)) hb); clear BK188; clear BK189; clear HB; have BK188 := n0_; have BK189 := n1_; have HB := n2_; clear n0_ n1_ n2_; (try clear hb); (try clear hb2); (try clear hk); (try clear hi)))
              go_ret
              exact ⟨by first | rfl | (simp [errW_none, errW_some] <;> rfl) | (simp [*, errW_none, errW_some] <;> rfl), by repeat (first | (with_reducible first | exact HB.out | apply below_alloc | apply pw_below_drewN | apply below_drew1 | refine below_set ?_ GE188.out | refine below_set ?_ GE189.out) | exact HB.out)⟩
            · rw [if_neg c94] at H
              have c94b0 : (Op.bytesLess t192.toList t194.toList) = false := by simpa using c94
              clear c94
              by_cases c99 : a0_0 = 2
              · rw [if_pos c99] at H
                have c99b0 : (a0_0 == 2) = true := beq_iff_eq.mpr c99
                have c99b1 : (a0_0 != 2) = false := bne_eq_false_iff_eq.mpr c99
                clear c99
                by_cases c100 : a1_0 = 1
                · rw [if_pos c100] at H
                  have c100b0 : (a1_0 == 1) = true := beq_iff_eq.mpr c100
                  have c100b1 : (a1_0 != 1) = false := bne_eq_false_iff_eq.mpr c100
                  clear c100
                  replace H := Option.bind_eq_some_iff.mp H
                  obtain ⟨t208, A1010, H⟩ := H
                  replace H : (some false) = some r := H
                  have A101 := Aside0.mk A1010
                  clear A1010
                  obtain rfl := Option.some.inj H
                  have hnb102 := NB188_189.out
                  have hnc102 := NB189_188.out
                  have hcz103_0 : wc.cell? ⟨gb188, 0, none⟩ = some (.int .i64 a0_0) := (blk_cell BK188.out 0).trans rfl
                  have hcz103_1 : wc.cell? ⟨gb188, 1, none⟩ = some (.string t190) := (blk_cell BK188.out 1).trans rfl
                  have hfz103_0 := blk_frozen BK188.out 0
                  have hfz103_1 := blk_frozen BK188.out 1
                  have hcz104_0 : wc.cell? ⟨gb189, 0, none⟩ = some (.int .i64 a1_0) := (blk_cell BK189.out 0).trans rfl
                  have hcz104_1 : wc.cell? ⟨gb189, 1, none⟩ = some (.string t191) := (blk_cell BK189.out 1).trans rfl
                  have hfz104_0 := blk_frozen BK189.out 0
                  have hfz104_1 := blk_frozen BK189.out 1
                  go_wp2_with (first | (go_at_call 23; (with_reducible refine (chart_Order.calls a0_0 t190 a1_0 t191 t203 _ A60.out).mono ?_); rintro e w105 ⟨rfl, hb⟩; have n0_ := Aside0.mk (blk_below (g := gb188) (o := .cells #[.int .i64 a0_0, .string t190] 23 (0, 0)) (by (with_reducible repeat (first | refine blk_drewN ?_ _ | refine blk_drew ?_ | refine blk_alloc ?_ _)); exact BK188.out) hb); have n1_ := Aside0.mk (blk_below (g := gb189) (o := .cells #[.int .i64 a1_0, .string t191] 23 (0, 0)) (by (with_reducible repeat (first | refine blk_drewN ?_ _ | refine blk_drew ?_ | refine blk_alloc ?_ _)); exact BK189.out) hb); have n2_ := Aside0.mk (below_step (by repeat (first | (with_reducible first | exact HB.out | apply below_alloc | apply pw_below_drewN | apply below_drew1 | refine below_set ?_ GE188.out | refine below_set ?_ GE189.out) | exact HB.out)) hb); clear BK188; clear BK189; clear HB; have BK188 := n0_; have BK189 := n1_; have HB := n2_; clear n0_ n1_ n2_; (try clear hb); (try clear hb2); (try clear hk); (try clear hi); have hcz106_0 : w105.cell? ⟨gb188, 0, none⟩ = some (.int .i64 a0_0) := (blk_cell BK188.out 0).trans rfl; have hcz106_1 : w105.cell? ⟨gb188, 1, none⟩ = some (.string t190) := (blk_cell BK188.out 1).trans rfl; have hfz106_0 := blk_frozen BK188.out 0; have hfz106_1 := blk_frozen BK188.out 1; have hcz107_0 : w105.cell? ⟨gb189, 0, none⟩ = some (.int .i64 a1_0) := (blk_cell BK189.out 0).trans rfl; have hcz107_1 : w105.cell? ⟨gb189, 1, none⟩ = some (.string t191) := (blk_cell BK189.out 1).trans rfl; have hfz107_0 := blk_frozen BK189.out 0; have hfz107_1 := blk_frozen BK189.out 1) | (go_at_call 23; (with_reducible refine (chart_Order.calls a0_0 t190 a1_0 t191 t208 _ A101.out).mono ?_); rintro e w108 ⟨rfl, hb⟩; have n0_ := Aside0.mk (blk_below (g := gb188) (o := .cells #[.int .i64 a0_0, .string t190] 23 (0, 0)) (by (with_reducible repeat (first | refine blk_drewN ?_ _ | refine blk_drew ?_ | refine blk_alloc ?_ _)); exact BK188.out) hb); have n1_ := Aside0.mk (blk_below (g := gb189) (o := .cells #[.int .i64 a1_0, .string t191] 23 (0, 0)) (by (with_reducible repeat (first | refine blk_drewN ?_ _ | refine blk_drew ?_ | refine blk_alloc ?_ _)); exact BK189.out) hb); have n2_ := Aside0.mk (below_step (by repeat (first | (with_reducible first | exact HB.out | apply below_alloc | apply pw_below_drewN | apply below_drew1 | refine below_set ?_ GE188.out | refine below_set ?_ GE189.out) | exact HB.out)) hb); clear BK188; clear BK189; clear HB; have BK188 := n0_; have BK189 := n1_; have HB := n2_; clear n0_ n1_ n2_; (try clear hb); (try clear hb2); (try clear hk); (try clear hi)))
                  go_ret
                  exact ⟨by first | rfl | (simp [errW_none, errW_some] <;> rfl) | (simp [*, errW_none, errW_some] <;> rfl), by repeat (first | (with_reducible first | exact HB.out | apply below_alloc | apply pw_below_drewN | apply below_drew1 | refine below_set ?_ GE188.out | refine below_set ?_ GE189.out) | exact HB.out)⟩
                · rw [if_neg c100] at H
                  have c100b0 : (a1_0 == 1) = false := beq_eq_false_iff_ne.mpr c100
                  have c100b1 : (a1_0 != 1) = true := bne_iff_ne.mpr c100
                  replace H := Option.bind_eq_some_iff.mp H
                  obtain ⟨t209, A1090, H⟩ := H
                  replace H : (some t209) = some r := H
                  have A109 := Aside0.mk A1090
                  clear A1090
                  obtain rfl := Option.some.inj H
                  have hnb110 := NB188_189.out
                  have hnc110 := NB189_188.out
                  have hcz111_0 : wc.cell? ⟨gb188, 0, none⟩ = some (.int .i64 a0_0) := (blk_cell BK188.out 0).trans rfl
                  have hcz111_1 : wc.cell? ⟨gb188, 1, none⟩ = some (.string t190) := (blk_cell BK188.out 1).trans rfl
                  have hfz111_0 := blk_frozen BK188.out 0
                  have hfz111_1 := blk_frozen BK188.out 1
                  have hcz112_0 : wc.cell? ⟨gb189, 0, none⟩ = some (.int .i64 a1_0) := (blk_cell BK189.out 0).trans rfl
                  have hcz112_1 : wc.cell? ⟨gb189, 1, none⟩ = some (.string t191) := (blk_cell BK189.out 1).trans rfl
                  have hfz112_0 := blk_frozen BK189.out 0
                  have hfz112_1 := blk_frozen BK189.out 1
                  go_wp2_with (first | (go_at_call 23; (with_reducible refine (chart_Order.calls a0_0 t190 a1_0 t191 t203 _ A60.out).mono ?_); rintro e w113 ⟨rfl, hb⟩; have n0_ := Aside0.mk (blk_below (g := gb188) (o := .cells #[.int .i64 a0_0, .string t190] 23 (0, 0)) (by (with_reducible repeat (first | refine blk_drewN ?_ _ | refine blk_drew ?_ | refine blk_alloc ?_ _)); exact BK188.out) hb); have n1_ := Aside0.mk (blk_below (g := gb189) (o := .cells #[.int .i64 a1_0, .string t191] 23 (0, 0)) (by (with_reducible repeat (first | refine blk_drewN ?_ _ | refine blk_drew ?_ | refine blk_alloc ?_ _)); exact BK189.out) hb); have n2_ := Aside0.mk (below_step (by repeat (first | (with_reducible first | exact HB.out | apply below_alloc | apply pw_below_drewN | apply below_drew1 | refine below_set ?_ GE188.out | refine below_set ?_ GE189.out) | exact HB.out)) hb); clear BK188; clear BK189; clear HB; have BK188 := n0_; have BK189 := n1_; have HB := n2_; clear n0_ n1_ n2_; (try clear hb); (try clear hb2); (try clear hk); (try clear hi); have hcz114_0 : w113.cell? ⟨gb188, 0, none⟩ = some (.int .i64 a0_0) := (blk_cell BK188.out 0).trans rfl; have hcz114_1 : w113.cell? ⟨gb188, 1, none⟩ = some (.string t190) := (blk_cell BK188.out 1).trans rfl; have hfz114_0 := blk_frozen BK188.out 0; have hfz114_1 := blk_frozen BK188.out 1; have hcz115_0 : w113.cell? ⟨gb189, 0, none⟩ = some (.int .i64 a1_0) := (blk_cell BK189.out 0).trans rfl; have hcz115_1 : w113.cell? ⟨gb189, 1, none⟩ = some (.string t191) := (blk_cell BK189.out 1).trans rfl; have hfz115_0 := blk_frozen BK189.out 0; have hfz115_1 := blk_frozen BK189.out 1) | (go_at_call 19; (with_reducible refine (bursarlaw11_awake.calls  t209 _ A109.out).mono ?_); rintro e w116 ⟨rfl, hb⟩; have n0_ := Aside0.mk (blk_below (g := gb188) (o := .cells #[.int .i64 a0_0, .string t190] 23 (0, 0)) (by (with_reducible repeat (first | refine blk_drewN ?_ _ | refine blk_drew ?_ | refine blk_alloc ?_ _)); exact BK188.out) hb); have n1_ := Aside0.mk (blk_below (g := gb189) (o := .cells #[.int .i64 a1_0, .string t191] 23 (0, 0)) (by (with_reducible repeat (first | refine blk_drewN ?_ _ | refine blk_drew ?_ | refine blk_alloc ?_ _)); exact BK189.out) hb); have n2_ := Aside0.mk (below_step (by repeat (first | (with_reducible first | exact HB.out | apply below_alloc | apply pw_below_drewN | apply below_drew1 | refine below_set ?_ GE188.out | refine below_set ?_ GE189.out) | exact HB.out)) hb); clear BK188; clear BK189; clear HB; have BK188 := n0_; have BK189 := n1_; have HB := n2_; clear n0_ n1_ n2_; (try clear hb); (try clear hb2); (try clear hk); (try clear hi)))
                  go_ret
                  exact ⟨by first | rfl | (simp [errW_none, errW_some] <;> rfl) | (simp [*, errW_none, errW_some] <;> rfl), by repeat (first | (with_reducible first | exact HB.out | apply below_alloc | apply pw_below_drewN | apply below_drew1 | refine below_set ?_ GE188.out | refine below_set ?_ GE189.out) | exact HB.out)⟩
              · rw [if_neg c99] at H
                have c99b0 : (a0_0 == 2) = false := beq_eq_false_iff_ne.mpr c99
                have c99b1 : (a0_0 != 2) = true := bne_iff_ne.mpr c99
                replace H := Option.bind_eq_some_iff.mp H
                obtain ⟨t210, A1170, H⟩ := H
                replace H : (some t210) = some r := H
                have A117 := Aside0.mk A1170
                clear A1170
                obtain rfl := Option.some.inj H
                have hnb118 := NB188_189.out
                have hnc118 := NB189_188.out
                have hcz119_0 : wc.cell? ⟨gb188, 0, none⟩ = some (.int .i64 a0_0) := (blk_cell BK188.out 0).trans rfl
                have hcz119_1 : wc.cell? ⟨gb188, 1, none⟩ = some (.string t190) := (blk_cell BK188.out 1).trans rfl
                have hfz119_0 := blk_frozen BK188.out 0
                have hfz119_1 := blk_frozen BK188.out 1
                have hcz120_0 : wc.cell? ⟨gb189, 0, none⟩ = some (.int .i64 a1_0) := (blk_cell BK189.out 0).trans rfl
                have hcz120_1 : wc.cell? ⟨gb189, 1, none⟩ = some (.string t191) := (blk_cell BK189.out 1).trans rfl
                have hfz120_0 := blk_frozen BK189.out 0
                have hfz120_1 := blk_frozen BK189.out 1
                go_wp2_with (first | (go_at_call 23; (with_reducible refine (chart_Order.calls a0_0 t190 a1_0 t191 t203 _ A60.out).mono ?_); rintro e w121 ⟨rfl, hb⟩; have n0_ := Aside0.mk (blk_below (g := gb188) (o := .cells #[.int .i64 a0_0, .string t190] 23 (0, 0)) (by (with_reducible repeat (first | refine blk_drewN ?_ _ | refine blk_drew ?_ | refine blk_alloc ?_ _)); exact BK188.out) hb); have n1_ := Aside0.mk (blk_below (g := gb189) (o := .cells #[.int .i64 a1_0, .string t191] 23 (0, 0)) (by (with_reducible repeat (first | refine blk_drewN ?_ _ | refine blk_drew ?_ | refine blk_alloc ?_ _)); exact BK189.out) hb); have n2_ := Aside0.mk (below_step (by repeat (first | (with_reducible first | exact HB.out | apply below_alloc | apply pw_below_drewN | apply below_drew1 | refine below_set ?_ GE188.out | refine below_set ?_ GE189.out) | exact HB.out)) hb); clear BK188; clear BK189; clear HB; have BK188 := n0_; have BK189 := n1_; have HB := n2_; clear n0_ n1_ n2_; (try clear hb); (try clear hb2); (try clear hk); (try clear hi); have hcz122_0 : w121.cell? ⟨gb188, 0, none⟩ = some (.int .i64 a0_0) := (blk_cell BK188.out 0).trans rfl; have hcz122_1 : w121.cell? ⟨gb188, 1, none⟩ = some (.string t190) := (blk_cell BK188.out 1).trans rfl; have hfz122_0 := blk_frozen BK188.out 0; have hfz122_1 := blk_frozen BK188.out 1) | (go_at_call 19; (with_reducible refine (bursarlaw11_awake.calls  t210 _ A117.out).mono ?_); rintro e w123 ⟨rfl, hb⟩; have n0_ := Aside0.mk (blk_below (g := gb188) (o := .cells #[.int .i64 a0_0, .string t190] 23 (0, 0)) (by (with_reducible repeat (first | refine blk_drewN ?_ _ | refine blk_drew ?_ | refine blk_alloc ?_ _)); exact BK188.out) hb); have n1_ := Aside0.mk (blk_below (g := gb189) (o := .cells #[.int .i64 a1_0, .string t191] 23 (0, 0)) (by (with_reducible repeat (first | refine blk_drewN ?_ _ | refine blk_drew ?_ | refine blk_alloc ?_ _)); exact BK189.out) hb); have n2_ := Aside0.mk (below_step (by repeat (first | (with_reducible first | exact HB.out | apply below_alloc | apply pw_below_drewN | apply below_drew1 | refine below_set ?_ GE188.out | refine below_set ?_ GE189.out) | exact HB.out)) hb); clear BK188; clear BK189; clear HB; have BK188 := n0_; have BK189 := n1_; have HB := n2_; clear n0_ n1_ n2_; (try clear hb); (try clear hb2); (try clear hk); (try clear hi)))
                go_ret
                exact ⟨by first | rfl | (simp [errW_none, errW_some] <;> rfl) | (simp [*, errW_none, errW_some] <;> rfl), by repeat (first | (with_reducible first | exact HB.out | apply below_alloc | apply pw_below_drewN | apply below_drew1 | refine below_set ?_ GE188.out | refine below_set ?_ GE189.out) | exact HB.out)⟩
        · rw [if_neg c59] at H
          have c59b0 : ((t192.toList == t194.toList) == (a0_0 == a1_0 && (t190.toList == t191.toList))) = false := by simpa using c59
          (try (have c59b1 : decide ((t192.toList == t194.toList) = (a0_0 == a1_0 && (t190.toList == t191.toList))) = false := by simpa using c59))
          (try (have c59b2 : ((t192.toList == t194.toList) == (a0_0 == a1_0 && (t190.toList == t191.toList))) = false := by simpa using c59))
          (try (have c59b3 : ¬ ((t192.toList == t194.toList) = (a0_0 == a1_0 && (t190.toList == t191.toList))) := by simpa using c59))
          (try (have c59b4 : (((t192.toList = t194.toList) = (a0_0 = a1_0 ∧ (t190.toList = t191.toList))) = False) := eq_false (by first | (simpa using c59; done) | (intro h_; have g_ := c59; simp [h_] at g_; done) | (have g_ := c59; simp at g_; exact g_))))
          (try (have c59b5 : ((((!(t192.toList == t194.toList) == (a0_0 == a1_0)) = true) ∨ ((!(t190.toList == t191.toList)) = true)) = True) := (by have g_ := c59; cases g1_ : (t192.toList == t194.toList) == (a0_0 == a1_0) <;> cases g2_ : (t190.toList == t191.toList) <;> first | (simp; done) | (exfalso; revert g_; simp [Pu.beq_nil] at g1_ g2_ ⊢; simp [g1_, g2_]; done))))
          (try (have c59b6 : ((((!(t192.toList == t194.toList) == (a0_0 == a1_0)) = false) ∧ ((!(t190.toList == t191.toList)) = false)) = False) := (by have g_ := c59; cases g1_ : (t192.toList == t194.toList) == (a0_0 == a1_0) <;> cases g2_ : (t190.toList == t191.toList) <;> first | (simp; done) | (exfalso; revert g_; simp [Pu.beq_nil] at g1_ g2_ ⊢; simp [g1_, g2_]; done))))
          clear c59
          obtain rfl := Option.some.inj H
          have hnb124 := NB188_189.out
          have hnc124 := NB189_188.out
          have hcz125_0 : wc.cell? ⟨gb188, 0, none⟩ = some (.int .i64 a0_0) := (blk_cell BK188.out 0).trans rfl
          have hcz125_1 : wc.cell? ⟨gb188, 1, none⟩ = some (.string t190) := (blk_cell BK188.out 1).trans rfl
          have hfz125_0 := blk_frozen BK188.out 0
          have hfz125_1 := blk_frozen BK188.out 1
          have hcz126_0 : wc.cell? ⟨gb189, 0, none⟩ = some (.int .i64 a1_0) := (blk_cell BK189.out 0).trans rfl
          have hcz126_1 : wc.cell? ⟨gb189, 1, none⟩ = some (.string t191) := (blk_cell BK189.out 1).trans rfl
          have hfz126_0 := blk_frozen BK189.out 0
          have hfz126_1 := blk_frozen BK189.out 1
          go_wp2
          go_ret
          exact ⟨by first | rfl | (simp [errW_none, errW_some] <;> rfl) | (simp [*, errW_none, errW_some] <;> rfl), by repeat (first | (with_reducible first | exact HB.out | apply below_alloc | apply pw_below_drewN | apply below_drew1 | refine below_set ?_ GE188.out | refine below_set ?_ GE189.out) | exact HB.out)⟩

end Go.Proofs.Ytkbhocncfldifaa.XCh
