-- Written by wip/xprint.py, a session's program: printed out of the translation, with hand-written functions. Lean checks it.
import Derived.Test.YtmifpifhiiommaaDoorXT0
import Derived.Test.YtmifpifhiiommaaDoorXT13
import Derived.Test.YtmifpifhiiommaaDoorXT15
namespace Go.Proofs.YtmifpifhiiommaaDoor.XT
open Go.RowKit Go.Proofs.YtmifpifhiiommaaDoorW.PrintWords Go.Proofs.YtmifpifhiiommaaDoorW.PrintLast Go.Proofs.YtmifpifhiiommaaDoorW.PrintMore
attribute [local go_sem] max2_int min2_int max_two min_two max_three min_three max_four min_four   -- for this text's walks alone
set_option linter.unusedVariables false
set_option linter.unusedSimpArgs false

/-! ### bursarlaw21_some: function 18 -/
def bursarlaw21_some.f (a0 : Int) (a1 : Int) : Option (Int × ByteArray × ByteArray × ByteArray × Int) := (some (([a1] : List Int) : List Int)).bind fun y158 => (if 34 + (strOfNums y158).size ≤ 9223372036854775807 then (some (a0, (⟨#[49, 48, 48, 48, 48, 48, 55, 65, 66, 67, 48, 48, 48, 48, 48, 48, 48, 48, 49, 49, 50, 51, 52, 53, 54, 48, 49, 48, 50, 48, 51, 48, 52, 48]⟩ : ByteArray) ++ (strOfNums y158), (⟨#[48, 48]⟩ : ByteArray), (⟨#[48, 48, 48, 48, 48, 49]⟩ : ByteArray), 10)) else (none))
set_option maxHeartbeats 8000000 in
set_option maxRecDepth 100000 in
theorem bursarlaw21_some.calls (a0 : Int) (a1 : Int) (r1 : Int) (r2 : ByteArray) (r3 : ByteArray) (r4 : ByteArray) (r5 : Int) (w : World) (h : bursarlaw21_some.f a0 a1 = some (r1, r2, r3, r4, r5)) :
    Calls Tryd.prog 18 #[.int .i64 a0, .int .u8 a1] w fun e w' => e = .returned (.agg #[.int .i64 r1, .string r2, .string r3, .string r4, .int .i64 r5]) ∧ Below w.heap.size w w' := by
  have hu23 := Tryd.underlying23
  have HB := Aside0.mk (Below.refl w.heap.size w)
  have H : ((some (([a1] : List Int) : List Int)).bind fun y158 => (if 34 + (strOfNums y158).size ≤ 9223372036854775807 then (some (a0, (⟨#[49, 48, 48, 48, 48, 48, 55, 65, 66, 67, 48, 48, 48, 48, 48, 48, 48, 48, 49, 49, 50, 51, 52, 53, 54, 48, 49, 48, 50, 48, 51, 48, 52, 48]⟩ : ByteArray) ++ (strOfNums y158), (⟨#[48, 48]⟩ : ByteArray), (⟨#[48, 48, 48, 48, 48, 49]⟩ : ByteArray), 10)) else (none))) = some (r1, r2, r3, r4, r5) := h
  clear h
  obtain ⟨y158, hy158⟩ : ∃ y_ : List Int, y_ = (([a1] : List Int)) := ⟨_, rfl⟩
  replace H : (if 34 + (strOfNums y158).size ≤ 9223372036854775807 then (some (a0, (⟨#[49, 48, 48, 48, 48, 48, 55, 65, 66, 67, 48, 48, 48, 48, 48, 48, 48, 48, 49, 49, 50, 51, 52, 53, 54, 48, 49, 48, 50, 48, 51, 48, 52, 48]⟩ : ByteArray) ++ (strOfNums y158), (⟨#[48, 48]⟩ : ByteArray), (⟨#[48, 48, 48, 48, 48, 49]⟩ : ByteArray), 10)) else (none)) = some (r1, r2, r3, r4, r5) := by first | (rw [hy158]; with_reducible exact H) | (have H2_ := (Option.bind_some _ _).symm.trans H; rw [hy158]; with_reducible exact H2_) | (have H2_ := (Option.bind_some _ _).symm.trans H; with_reducible exact H2_) | with_reducible exact H | (rw [hy158]; exact H) | exact H
  have Ny158 := Aside0.mk hy158
  clear hy158
  by_cases c3 : 34 + (strOfNums y158).size ≤ 9223372036854775807
  · rw [if_pos c3] at H
    have c3b0 := eq_true c3
    have c3b1 : decide (34 + (strOfNums y158).size ≤ 9223372036854775807) = true := decide_eq_true c3
    try have c3b2 : (9223372036854775807 < 34 + (strOfNums y158).size) = False := eq_false (Nat.not_lt.2 c3)
    simp only [Option.some.injEq, Prod.mk.injEq] at H
    obtain ⟨rfl, rfl, rfl, rfl, rfl⟩ := H
    go_enter Tryd.func18, Tryd.ntmps18
    go_wp2_with (first | ((with_reducible refine gate_dst (N := 4) rfl ?_); refine box_event ?hg (N := 4) ?hd (cs := #[.int .i64 0, .string (⟨#[]⟩ : ByteArray), .string (⟨#[]⟩ : ByteArray), .string (⟨#[]⟩ : ByteArray), .int .i64 0]) (t := 23) ?hr ?_; (case hd => rfl); (case hg => rfl); (case hr => first | (go_simp; done) | (go_simp; rfl)); intro gb157 hg w4 hbox hb; have n0_ := Aside0.mk (below_step (by repeat (first | (with_reducible first | exact HB.out | apply below_alloc | apply pw_below_drewN | apply below_drew1) | exact HB.out)) hb); have n1_ := Aside0.mk (hbox); have n2_ := Aside0.mk ((by rw [hg]; exact (below_size (by repeat (first | (with_reducible first | exact HB.out | apply below_alloc | apply pw_below_drewN | apply below_drew1) | exact HB.out))) : w.heap.size ≤ gb157)); have n3_ := Aside0.mk ((by rw [hg]; exact (below_size (by repeat (first | (with_reducible first | exact HB.out | apply below_alloc | apply pw_below_drewN | apply below_drew1) | exact HB.out))) : w.heap.size ≤ gb157)); clear HB; have HB := n0_; have BK157 := n1_; have GW157 := n2_; have GE157 := n3_; clear n0_ n1_ n2_ n3_; clear hb hbox hg) | ((with_reducible refine gate_dst (N := 7) rfl ?_); refine Kd.R_lit (Kd.int .u8) _ 5 ?hg (N := 7) ?hd (xs := ([a1] : List Int)) (inner := [.int .u8 a1]) (ok := fun _ => True) (okp := fun _ => True) ?hr ?hp (fun _ hk => hk) trivial (Below.refl _ _) (Nat.le_refl _) (by simp) ?_; (case hd => rfl); (case hg => rfl); (case hr => first | (go_simp; done) | (go_simp; rfl)); (case hp => exact (Reps.one (show Kd.M (Kd.int .u8) _ _ _ a1 [.int .u8 a1] from rfl) (Reps.none _ _))); intro v159 w5 ho6 hb hg_ hnew_; clear hg_ hnew_; (first | rw [← Ny158.out] at ho6 | (simp only [Int.reduceToNat] at ho6; rw [← Ny158.out] at ho6)); have n0_ := Aside0.mk (Kd.R_lower ho6 (below_size (by repeat (first | (with_reducible first | exact HB.out | apply below_alloc | apply pw_below_drewN | apply below_drew1 | refine below_set ?_ GE157.out) | exact HB.out)))); have n1_ := Aside0.mk (blk_below (g := gb157) (o := .cells #[.int .i64 0, .string (⟨#[]⟩ : ByteArray), .string (⟨#[]⟩ : ByteArray), .string (⟨#[]⟩ : ByteArray), .int .i64 0] 23 (0, 0)) (by (with_reducible repeat (first | refine blk_drewN ?_ _ | refine blk_drew ?_ | refine blk_alloc ?_ _)); exact BK157.out) hb); have n2_ := Aside0.mk (below_step (by repeat (first | (with_reducible first | exact HB.out | apply below_alloc | apply pw_below_drewN | apply below_drew1 | refine below_set ?_ GE157.out) | exact HB.out)) hb); clear BK157; clear HB; have HO160 := n0_; have BK157 := n1_; have HB := n2_; clear n0_ n1_ n2_; clear hb ho6; have hcv7 := own_string (P := Tryd.prog) Tryd.underlying58 Tryd.underlying5 Tryd.underlying9 (Kd.own_of_R HO160.out); have hcz8_0 := blk_cell BK157.out; have hfz8_0 := blk_frozen BK157.out))
    refine bodyPost_ret (results_cell_row rfl _ _ gb157 23 #[.int .i64 a0, .string ((⟨#[49, 48, 48, 48, 48, 48, 55, 65, 66, 67, 48, 48, 48, 48, 48, 48, 48, 48, 49, 49, 50, 51, 52, 53, 54, 48, 49, 48, 50, 48, 51, 48, 52, 48]⟩ : ByteArray) ++ (strOfNums y158)), .string (⟨#[48, 48]⟩ : ByteArray), .string (⟨#[48, 48, 48, 48, 48, 49]⟩ : ByteArray), .int .i64 10] (0, 0) _ rfl (by (with_reducible repeat (first | refine blk_drewN ?_ _ | refine blk_drew ?_ | refine blk_alloc ?_ _)); refine blk_put (cs := #[.int .i64 a0, .string ((⟨#[49, 48, 48, 48, 48, 48, 55, 65, 66, 67, 48, 48, 48, 48, 48, 48, 48, 48, 49, 49, 50, 51, 52, 53, 54, 48, 49, 48, 50, 48, 51, 48, 52, 48]⟩ : ByteArray) ++ (strOfNums y158)), .string (⟨#[48, 48]⟩ : ByteArray), .string (⟨#[48, 48, 48, 48, 48, 49]⟩ : ByteArray), .int .i64 0]) ?_ 4 _ rfl; (with_reducible repeat (first | refine blk_drewN ?_ _ | refine blk_drew ?_ | refine blk_alloc ?_ _)); refine blk_put (cs := #[.int .i64 a0, .string ((⟨#[49, 48, 48, 48, 48, 48, 55, 65, 66, 67, 48, 48, 48, 48, 48, 48, 48, 48, 49, 49, 50, 51, 52, 53, 54, 48, 49, 48, 50, 48, 51, 48, 52, 48]⟩ : ByteArray) ++ (strOfNums y158)), .string (⟨#[48, 48]⟩ : ByteArray), .string (⟨#[]⟩ : ByteArray), .int .i64 0]) ?_ 3 _ rfl; (with_reducible repeat (first | refine blk_drewN ?_ _ | refine blk_drew ?_ | refine blk_alloc ?_ _)); refine blk_put (cs := #[.int .i64 a0, .string ((⟨#[49, 48, 48, 48, 48, 48, 55, 65, 66, 67, 48, 48, 48, 48, 48, 48, 48, 48, 49, 49, 50, 51, 52, 53, 54, 48, 49, 48, 50, 48, 51, 48, 52, 48]⟩ : ByteArray) ++ (strOfNums y158)), .string (⟨#[]⟩ : ByteArray), .string (⟨#[]⟩ : ByteArray), .int .i64 0]) ?_ 2 _ rfl; (with_reducible repeat (first | refine blk_drewN ?_ _ | refine blk_drew ?_ | refine blk_alloc ?_ _)); refine blk_put (cs := #[.int .i64 a0, .string (⟨#[]⟩ : ByteArray), .string (⟨#[]⟩ : ByteArray), .string (⟨#[]⟩ : ByteArray), .int .i64 0]) ?_ 1 _ rfl; (with_reducible repeat (first | refine blk_drewN ?_ _ | refine blk_drew ?_ | refine blk_alloc ?_ _)); refine blk_put (cs := #[.int .i64 0, .string (⟨#[]⟩ : ByteArray), .string (⟨#[]⟩ : ByteArray), .string (⟨#[]⟩ : ByteArray), .int .i64 0]) ?_ 0 _ rfl; (with_reducible repeat (first | refine blk_drewN ?_ _ | refine blk_drew ?_ | refine blk_alloc ?_ _)); exact BK157.out) Tryd.underlying23 rfl (by kernel_rfl)) rfl ?_
    exact ⟨by first | rfl | (simp [errW_none, errW_some] <;> rfl) | (simp [*, errW_none, errW_some] <;> rfl), by repeat (first | (with_reducible first | exact HB.out | apply below_alloc | apply pw_below_drewN | apply below_drew1 | refine below_set ?_ GE157.out) | exact HB.out)⟩
  · rw [if_neg c3] at H
    exact absurd H (by simp)

-- NOT PRINTED: function 31 (api_Dup_31)

/-! ### dup_Sweep: function 20 -/
def dup_old (t : Int) (x : S23) : Bool := decide (0 < t) && decide (x.f4 < t - 50)
theorem sweep_pred (t : Int) (ht : t ≤ 9223372036854775807) (B : Nat) (x : S23) (W : World) (hB : W.cell? ⟨B, 0, none⟩ = some (.int .i64 t)) :
    Calls Tryd.prog 32 (#[enc24 x] ++ #[.pointer (some ⟨B, 0, none⟩)]) W fun e w' => e = .returned (.bool (dup_old t x)) ∧ Below W.heap.size W w' := by
  show Calls Tryd.prog 32 #[.agg #[.int .i64 x.f0, .string x.f1, .string x.f2, .string x.f3, .int .i64 x.f4], .pointer (some ⟨B, 0, none⟩)] W _
  have hBW : B < W.heap.size := World.block_lt_of_cell? W _ hB
  have hne : B ≠ W.heap.size := by omega
  unfold dup_old
  by_cases h1 : 0 < t
  · have hw : wrap64 (t - 50) = t - 50 := by unfold wrap64; omega
    by_cases h2 : x.f4 < t - 50
    · rw [decide_eq_true h1, decide_eq_true h2]
      go_enter Tryd.func32, Tryd.ntmps32
      go_wp2
      go_ret
      exact ⟨by first | rfl | simp, (Below.refl _ _).alloc (Nat.le_refl _) _⟩
    · rw [decide_eq_true h1, decide_eq_false h2]
      go_enter Tryd.func32, Tryd.ntmps32
      go_wp2
      go_ret
      exact ⟨by first | rfl | simp, (Below.refl _ _).alloc (Nat.le_refl _) _⟩
  · rw [decide_eq_false h1]
    go_enter Tryd.func32, Tryd.ntmps32
    go_wp2
    go_ret
    exact ⟨by first | rfl | simp, (Below.refl _ _).alloc (Nat.le_refl _) _⟩
theorem zero5_list (n : Nat) : (Builtin.zeroCells (Value.agg #[.int .i64 0, .string ⟨#[]⟩, .string ⟨#[]⟩, .string ⟨#[]⟩, .int .i64 0]).cells n).toList.length = n * 5 ∧
    ∀ v ∈ (Builtin.zeroCells (Value.agg #[.int .i64 0, .string ⟨#[]⟩, .string ⟨#[]⟩, .string ⟨#[]⟩, .int .i64 0]).cells n).toList, v.oneCell' = true := by
  constructor
  · simp [Builtin.zeroCells, Value.cells]
  · intro v hv
    simp [Builtin.zeroCells, Value.cells] at hv
    obtain ⟨i, hi, rfl⟩ := hv
    have : i % 5 < 5 := Nat.mod_lt _ (by omega)
    rcases (show i % 5 = 0 ∨ i % 5 = 1 ∨ i % 5 = 2 ∨ i % 5 = 3 ∨ i % 5 = 4 by omega) with h | h | h | h | h <;> rw [h] <;> rfl
/-- 'clear(s[i:])' of an own row: what lies ahead of it stays. -/
theorem clear_row {W : World} {base g n cap i : Nat} {ys : List S23} (HR : Kd.R k23 23 W base (fun _ => True) (.slice (some ⟨g, 0, none⟩) n cap) ys) (hi : i < n) :
    ∃ w1, (Builtin.clear_ #[44] 0 #[.slice (some ⟨g, i * 5, none⟩) (n - i) (cap - i)]).run Tryd.prog W = .ok (.tuple #[]) w1 ∧
      Kd.R k23 23 w1 base (fun _ => True) (.slice (some ⟨g, 0, none⟩) i cap) (ys.take i) ∧ W.grownBy w1 (some g) := by
  obtain ⟨hn, hnc, -⟩ := Kd.R_reads' HR
  have HT := Kd.R_take HR (show i ≤ ys.length by omega)
  have hgb : base ≤ g := Kd.R_base HR g (by simp [Value.ownBlock])
  obtain ⟨hok, inner, ⟨hlen, ho⟩, hr⟩ := HT
  have hnl := (Kd.R_own HR)
  rcases ho with ⟨h, _⟩ | ⟨g', cap', cur, he, hb, hh, hic, hcm, hcs, htk⟩
  · cases h
  obtain ⟨hg', hcap'⟩ : g = g' ∧ cap = cap' := by
    injection he with h1 h2 h3
    injection h1 with h1
    injection h1 with h1
    exact ⟨h1, h3⟩
  subst hg'; subst hcap'
  have h5 : k23.sz = 5 := rfl
  have hl : (ys.take i).length = i := by rw [List.length_take]; omega
  rw [h5] at hcs htk hlen
  rw [hl] at htk hic hlen
  obtain ⟨hz1, hz2⟩ := zero5_list (n - i)
  have hcell : ∀ j, j < (n - i) * 5 → (W.cell? ⟨g, i * 5 + 0 + j, none⟩).isSome = true := fun j hj => by
    rw [blk_cell hh]
    have : i * 5 + 0 + j < cur.size := by rw [hcs]; omega
    rw [Array.getElem?_eq_getElem this]; rfl
  have hrun := run_storeCells_cells (P := Tryd.prog) g (i * 5) _ 0 W (by rw [hz1]; exact hcell) (fun j _ => blk_frozen hh _) hz2
  obtain ⟨cur', h1, h2, h3⟩ := setCells_row (g := g) (e := 23) (Builtin.zeroCells (Value.agg #[.int .i64 0, .string ⟨#[]⟩, .string ⟨#[]⟩, .string ⟨#[]⟩, .int .i64 0]).cells (n - i)).toList (i * 5) W cur hh (by rw [hz1, hcs]; omega)
  obtain ⟨s1, s2, s3, s4⟩ := setCells_same g (Builtin.zeroCells (Value.agg #[.int .i64 0, .string ⟨#[]⟩, .string ⟨#[]⟩, .string ⟨#[]⟩, .int .i64 0]).cells (n - i)).toList (i * 5) W
  refine ⟨_, ?_, ⟨fun _ _ => trivial, inner, ⟨by rw [hl, h5]; exact hlen, .inr ⟨g, cap, cur', by rw [hl], hb, h1, by rw [hl]; exact hic, hcm, by rw [h2, hcs, h5], ?_⟩⟩, hr.imp_ (fun x cs hm => by obtain rfl := k23_openM hm; exact k23_mkM _ _ _ _)⟩, ⟨s1, s2, s3, by rw [s4]; exact Nat.le_refl _, fun k hk hne => setCells_far _ _ k (by simpa using hne)⟩⟩
  · obtain ⟨m, hm⟩ : ∃ m, n - i = m + 1 := ⟨n - i - 1, by omega⟩
    rw [Nat.add_zero] at hrun
    rw [hm] at hrun ⊢
    simp [Builtin.clear_, run_underlying Tryd.underlying44, Tryd.zeroValue23, hrun]
  · rw [hl, h5, h3, List.append_assoc, List.take_append_of_le_length (by rw [List.length_take, Array.length_toList, hcs]; omega), List.take_take, Nat.min_self]
    rw [← htk]
/-- One own row's element: its cells. -/
theorem own5 {W : World} {base g n cap : Nat} {ys : List S23} (HR : Kd.R k23 23 W base (fun _ => True) (.slice (some ⟨g, 0, none⟩) n cap) ys) (j : Nat) (hj : j < n) :
    W.cell? ⟨g, j * 5, none⟩ = some (.int .i64 (rd_T23 ys j).f0) ∧ W.cell? ⟨g, j * 5 + 1, none⟩ = some (.string (rd_T23 ys j).f1) ∧ W.cell? ⟨g, j * 5 + 2, none⟩ = some (.string (rd_T23 ys j).f2) ∧ W.cell? ⟨g, j * 5 + 3, none⟩ = some (.string (rd_T23 ys j).f3) ∧ W.cell? ⟨g, j * 5 + 4, none⟩ = some (.int .i64 (rd_T23 ys j).f4) ∧ (∀ k, W.frozen? ⟨g, j * 5 + k, none⟩ = false) ∧
    ∀ x : S23, Kd.R k23 23 (W.setCells g (j * 5) [.int .i64 x.f0, .string x.f1, .string x.f2, .string x.f3, .int .i64 x.f4]) base (fun _ => True) (.slice (some ⟨g, 0, none⟩) n cap) (ys.set j x) ∧ W.grownBy (W.setCells g (j * 5) [.int .i64 x.f0, .string x.f1, .string x.f2, .string x.f3, .int .i64 x.f4]) (some g) := by
  obtain ⟨c, hcl, hM, hcc, hf⟩ := Kd.R_elem HR z23 (j : Int) (by omega) (by omega)
  have hseg := fun (x : S23) => Kd.R_seg HR (j : Int) (by omega) (by omega) (seg := [.int .i64 x.f0, .string x.f1, .string x.f2, .string x.f3, .int .i64 x.f4]) (j := 0) (okp := fun _ => False) hcl hcc (by show 5 ≤ 5; omega) (x' := x) (by
    have e : c.length = 5 := hcl
    have : c.take 0 ++ [.int .i64 x.f0, .string x.f1, .string x.f2, .string x.f3, .int .i64 x.f4] ++ c.drop (0 + [Value.int .i64 x.f0, .string x.f1, .string x.f2, .string x.f3, .int .i64 x.f4].length) = [.int .i64 x.f0, .string x.f1, .string x.f2, .string x.f3, .int .i64 x.f4] := by
      rw [List.drop_eq_nil_of_le (by simp [e])]; simp
    rw [this]; exact k23_mkM _ _ _ _) (fun _ h => h.elim)
  have hc := k23_openM hM
  subst hc
  rw [Int.toNat_natCast] at hcc hf hseg
  exact ⟨hcc 0 _ rfl, hcc 1 _ rfl, hcc 2 _ rfl, hcc 3 _ rfl, hcc 4 _ rfl, hf, fun x => hseg x⟩
theorem rd_take_snoc (l : List S23) (j : Nat) (hj : j < l.length) : l.take (j + 1) = l.take j ++ [rd_T23 l j] := by
  rw [rd_get l j hj, List.take_add_one, List.getElem?_eq_getElem hj]; rfl
set_option maxHeartbeats 4000000 in
theorem del_walk (t : Int) (ht : t ≤ 9223372036854775807) (T base g n cap : Nat) (l : List S23) (w : World) (HR0 : Kd.R k23 23 w base (fun _ => True) (.slice (some ⟨g, 0, none⟩) n cap) l) (hT : w.cell? ⟨T, 0, none⟩ = some (.int .i64 t)) (hTb : T < base) (hbase : base ≤ w.heap.size) (hsmall : n ≤ 1000) :
    Calls Tryd.prog 31 #[.slice (some ⟨g, 0, none⟩) n cap, .func (.func 32) #[] #[.pointer (some ⟨T, 0, none⟩)]] w fun e w' => ∃ v, e = .returned v ∧ Kd.R k23 23 w' base (fun _ => True) v (l.filter fun x => !dup_old t x) ∧ Below base w w' := by
  obtain ⟨hn, hnc, hC0⟩ := Kd.R_reads' HR0
  have hgb : base ≤ g := Kd.R_base HR0 g (by simp [Value.ownBlock])
  have hgl : g < w.heap.size := by
    obtain ⟨inner, ho⟩ := Kd.R_own HR0
    exact own_lt ho g (by simp [Value.ownBlock])
  have eg : ∀ args w, (callFunc 32 args).run Tryd.prog w = .ok (.enter 32 args) w := enters_of Tryd.func32 (by kernel_rfl) rfl
  have hs : ∀ (W : World) (k : Nat), k < l.length → Below w.heap.size w W → Calls Tryd.prog 32 (#[enc24 (rd_T23 l k)] ++ #[.pointer (some ⟨T, 0, none⟩)]) W fun e w' => e = .returned (.bool (dup_old t (rd_T23 l k))) ∧ (dup_old t (rd_T23 l k) = false → Below w.heap.size w w') ∧ (dup_old t (rd_T23 l k) = true → Below w.heap.size w w') := fun W k hk hb => by
    refine (sweep_pred t ht T _ W ((hb.cell (p := ⟨T, 0, none⟩) (by show T < w.heap.size; omega)).trans hT)).mono ?_
    rintro e w' ⟨rfl, hb2⟩
    exact ⟨rfl, fun _ => hb.trans (hb2.mono hb.size), fun _ => hb.trans (hb2.mono hb.size)⟩
  subst hn
  have HR := Lib.hid HR0
  have HT := Lib.hid hT
  have HC := Lib.hid hC0
  rcases least_or (fun k => dup_old t (rd_T23 l (k : Int))) l.length with ⟨i, hi, hp, hpj⟩ | hpj
  · have hcall := idx_hit 32 _ eg (fun k => dup_old t (rd_T23 l (k : Int))) (some ⟨g, 0, none⟩) cap l w (fun _ W => Below w.heap.size w W) (fun _ W => Below w.heap.size w W) (Below.refl _ _) (fun W k h => Kd.C_below HC.out h) hs i hi hp hpj
    clear HR0 hT hC0 hs
    have HP := Lib.hid hp
    have HPJ := Lib.hid hpj
    clear hp hpj
    go_enter Tryd.func31, Tryd.ntmps31
    go_wp2_with (go_at_call 46; refine hcall.mono ?_; rintro e w1 ⟨rfl, hb1⟩)
    have hB0 := HR.out
    have hBr1 : Below base w w1 := hb1.mono hbase
    have HR1 := Lib.hid (Kd.R_below HR.out hb1)
    have HB1 := Lib.hid hBr1
    have HTK0 : Hid (l.take i = (l.take (i + 1)).filter fun x => !dup_old t x) := Lib.hid (by
      rw [rd_take_snoc l i hi, List.filter_append]
      have h1 : (l.take i).filter (fun x => !dup_old t x) = l.take i := List.filter_eq_self.mpr (fun x hx => by
        obtain ⟨k, hk, rfl⟩ := List.mem_iff_getElem.mp hx
        rw [List.length_take] at hk
        have := HPJ.out k (by omega)
        rw [rd_get l k (by omega)] at this
        rw [List.getElem_take, this]; rfl)
      have h2 := HP.out
      rw [h1, List.filter_cons_of_neg (by rw [h2]; simp), List.filter_nil, List.append_nil])
    clear hcall hB0 hBr1 hb1
    go_loopg [5, 6] l.length (fun gg s5 s6 wr => ∃ (a b : Nat) (ys : List S23), s5 = .int .i64 a ∧ s6 = .int .i64 b ∧ a < b ∧ b ≤ l.length ∧ l.length - b ≤ gg ∧ ys.length = l.length ∧ Hid (Kd.R k23 23 wr base (fun _ => True) (.slice (some ⟨g, 0, none⟩) l.length cap) ys) ∧ Hid (Below base w wr) ∧ Hid (ys.take a = (l.take b).filter fun x => !dup_old t x) ∧ Hid (∀ k, b ≤ k → k < l.length → rd_T23 ys (k : Int) = rd_T23 l (k : Int)))
    case atStart => exact ⟨i, i + 1, l, rfl, by simp, by omega, by omega, by omega, rfl, HR1, HB1, HTK0, Lib.hid fun _ _ _ => rfl⟩
    case round =>
      obtain ⟨a, b, ys, rfl, rfl, hab, hbn, hg, hyl, HRY, HBY, HTK, HRD⟩ := hrel
      by_cases hlt : b < l.length
      · have hltz : (b : Int) < (l.length : Int) := by omega
        obtain ⟨l0, l1, l2, l3, l4, hf, -⟩ := own5 HRY.out b hlt
        rw [HRD.out b (Nat.le_refl _) hlt] at l0 l1 l2 l3 l4
        obtain ⟨x, hx⟩ : ∃ x, x = rd_T23 l (b : Int) := ⟨_, rfl⟩
        rw [← hx] at l0 l1 l2 l3 l4
        have HX := Lib.hid hx
        have hTr : wr.cell? ⟨T, 0, none⟩ = some (.int .i64 t) := (HBY.out.cell (p := ⟨T, 0, none⟩) hTb).trans HT.out
        have hpred := sweep_pred t ht T x (wr.alloc (.cells #[.int .i64 x.f0, .string x.f1, .string x.f2, .string x.f3, .int .i64 x.f4] 23 (0, 0))) (Lib.cell?_alloc_some _ hTr)
        unfold enc24 at hpred
        have hbw := HBY.out.size
        have HAl := Lib.hid ((Below.refl wr.heap.size wr).alloc (Nat.le_refl _) (.cells #[.int .i64 x.f0, .string x.f1, .string x.f2, .string x.f3, .int .i64 x.f4] 23 (0, 0)))
        clear hx hf
        cases hq : dup_old t x with
        | true =>
          go_wp2_with (go_at_fn 32; refine hpred.mono ?_; rintro e w3 ⟨rfl, hb3⟩)
          have hb4 := HAl.out.trans (hb3.mono HAl.out.size)
          go_roundg (l.length - (b + 1))
          case measure => omega
          case rel =>
            refine ⟨a, b + 1, ys, rfl, by simp, by omega, by omega, by omega, hyl, Lib.hid (Kd.R_below HRY.out hb4), Lib.hid (HBY.out.trans (hb4.mono (by omega))), Lib.hid ?_, Lib.hid fun k h1 h2 => HRD.out k (by omega) h2⟩
            rw [rd_take_snoc l b hlt, List.filter_append, ← HTK.out, List.filter_cons_of_neg (by rw [← HX.out, hq]; simp), List.filter_nil, List.append_nil]
        | false =>
          have hal : a < l.length := by omega
          have halz : (a : Int) < (l.length : Int) := by omega
          go_wp2_with (go_at_fn 32; refine hpred.mono ?_; rintro e w3 ⟨rfl, hb3⟩; have hb4 := Lib.hid (HAl.out.trans (hb3.mono HAl.out.size)); have hbx := blk_below (blk_new wr (.cells #[.int .i64 x.f0, .string x.f1, .string x.f2, .string x.f3, .int .i64 x.f4] 23 (0, 0))) hb3; obtain ⟨v0, v1, v2, v3, v4, -, -, -, -, -⟩ := open5 hbx; have HR3 := Lib.hid (Kd.R_below HRY.out hb4.out); obtain ⟨m0, m1, m2, m3, m4, mf, -⟩ := own5 HR3.out a hal; have f0 := mf 0; have f1 := mf 1; have f2 := mf 2; have f3 := mf 3; have f4 := mf 4; rw [Nat.add_zero] at f0; clear mf hbx hb3)
          obtain ⟨-, -, -, -, -, -, hset⟩ := own5 HR3.out a hal
          obtain ⟨hR4, hg4⟩ := hset x
          have hB4 : Below base w (w3.setCells g (a * 5) [.int .i64 x.f0, .string x.f1, .string x.f2, .string x.f3, .int .i64 x.f4]) := (HBY.out.trans (hb4.out.mono (by omega))).grown hg4 (by have := hb4.out.size; omega) (fun k hk => by cases hk; exact hgb)
          have HR4 := Lib.hid hR4
          have HB4 := Lib.hid hB4
          clear hR4 hg4 hB4 hset l0 l1 l2 l3 l4 m0 m1 m2 m3 m4 f0 f1 f2 f3 f4 v0 v1 v2 v3 v4
          go_roundg (l.length - (b + 1))
          case measure => omega
          case rel =>
            refine ⟨a + 1, b + 1, ys.set a x, by simp, by simp, by omega, by omega, by omega, by simpa using hyl, HR4, HB4, Lib.hid ?_, Lib.hid fun k h1 h2 => ?_⟩
            · rw [rd_take_snoc l b hlt, List.filter_append, ← HTK.out, List.filter_cons_of_pos (by rw [← HX.out, hq]; rfl), List.filter_nil, List.take_set, ← HX.out]
              rw [List.take_add_one, List.getElem?_eq_getElem (by omega)]
              rw [List.set_append_right _ _ (by rw [List.length_take]; omega)]
              rw [show a - (ys.take a).length = 0 by rw [List.length_take]; omega]; rfl
            · rw [← HRD.out k (by omega) h2, rd_get _ _ (by simpa [hyl] using h2), rd_get _ _ (by rw [hyl]; exact h2), List.getElem_set_ne (by omega)]
      · obtain rfl : b = l.length := by omega
        have hge : ¬ (l.length : Int) < (l.length : Int) := by omega
        obtain ⟨w5, hrun, hR5, hg5⟩ := clear_row HRY.out hab
        have HR5 := Lib.hid hR5
        have HG5 := Lib.hid hg5
        have hi1 : (a : Int) ≤ (l.length : Int) := by omega
        clear hR5 hg5
        go_upto_region 12 with fail
        have hac : a ≤ cap := by omega
        go_wp2
        go_ret
        have hfl : l.filter (fun x => !dup_old t x) = ys.take a := by rw [HTK.out, List.take_length]
        exact ⟨_, rfl, by rw [hfl]; exact HR5.out, HBY.out.grown HG5.out (by have := HBY.out.size; omega) (fun k hk => by cases hk; exact hgb)⟩
  · have hcall := idx_miss 32 _ eg (fun k => dup_old t (rd_T23 l (k : Int))) (some ⟨g, 0, none⟩) cap l w (fun _ W => Below w.heap.size w W) (fun _ W => Below w.heap.size w W) (Below.refl _ _) (fun W k h => Kd.C_below HC.out h) hs hpj
    have hfil : l.filter (fun x => !dup_old t x) = l := List.filter_eq_self.mpr (fun x hx => by
      obtain ⟨k, hk, rfl⟩ := List.mem_iff_getElem.mp hx
      have := hpj k hk
      rw [rd_get l k hk] at this
      rw [this]; rfl)
    have HF := Lib.hid hfil
    clear HR0 hT hC0 hs hpj hfil
    go_enter Tryd.func31, Tryd.ntmps31
    go_wp2_with (go_at_call 46; refine hcall.mono ?_; rintro e w1 ⟨rfl, hb1⟩)
    go_ret
    exact ⟨_, rfl, by rw [HF.out]; exact Kd.R_below HR.out hb1, hb1.mono hbase⟩
theorem del_any (t : Int) (ht : t ≤ 9223372036854775807) (T base : Nat) (v : Value) (l : List S23) (w : World) (HR0 : Kd.R k23 23 w base (fun _ => True) v l) (hT : w.cell? ⟨T, 0, none⟩ = some (.int .i64 t)) (hTb : T < base) (hbase : base ≤ w.heap.size) (hsmall : l.length ≤ 1000) :
    Calls Tryd.prog 31 #[v, .func (.func 32) #[] #[.pointer (some ⟨T, 0, none⟩)]] w fun e w' => ∃ v, e = .returned v ∧ Kd.R k23 23 w' base (fun _ => True) v (l.filter fun x => !dup_old t x) ∧ Below base w w' := by
  obtain ⟨inner, ho⟩ := Kd.R_own HR0
  rcases ho.2 with ⟨rfl, h0⟩ | ⟨g, cap, cur, rfl, _⟩
  · obtain rfl := List.eq_nil_of_length_eq_zero h0
    have eg : ∀ args w, (callFunc 32 args).run Tryd.prog w = .ok (.enter 32 args) w := enters_of Tryd.func32 (by kernel_rfl) rfl
    have hcall := idx_miss 32 #[.pointer (some ⟨T, 0, none⟩)] eg (fun _ => false) none 0 [] w (fun _ W => Below w.heap.size w W) (fun _ W => Below w.heap.size w W) (Below.refl _ _) (fun W k h => ⟨rfl, by omega, fun h => absurd h (Nat.lt_irrefl 0)⟩) (fun W k hk => absurd hk (Nat.not_lt_zero _)) (fun _ _ => rfl)
    rw [List.length_nil] at hcall
    clear HR0 hT ho
    go_enter Tryd.func31, Tryd.ntmps31
    go_wp2_with (go_at_call 46; refine hcall.mono ?_; rintro e w1 ⟨rfl, hb1⟩)
    go_ret
    exact ⟨_, rfl, Kd.R_nil _ _ _ _ _, hb1.mono hbase⟩
  · exact del_walk t ht T base g l.length cap l w HR0 hT hTb hbase hsmall
def dup_Sweep.f (l0 : List S23) (a1 : Int) : Option (List S23) := if l0.length ≤ 1000 ∧ a1 ≤ 9223372036854775807 then some (l0.filter fun x => !dup_old a1 x) else none
set_option maxHeartbeats 2000000 in
theorem dup_Sweep.calls (A0 : Option Addr) (c0 : Nat) (l0 : List (S23)) (a1 : Int) (r : List (S23)) (w : World) (hr0 : Kd.C k23 w A0 l0.length l0) (hc0 : l0.length ≤ c0) (h : dup_Sweep.f l0 a1 = some r) :
    Calls Tryd.prog 20 #[.slice A0 l0.length c0, .int .i64 a1] w fun e w' => ∃ v0_ : Value, e = .returned v0_ ∧ Kd.R k23 23 w' w.heap.size (fun _ => True) v0_ r ∧ Below w.heap.size w w' := by
  unfold dup_Sweep.f at h
  split at h
  case isFalse => cases h
  case isTrue hl =>
  obtain ⟨hl, ht⟩ := hl
  obtain rfl := Option.some.inj h
  have hB1 := (Below.refl w.heap.size w).alloc (Nat.le_refl _) (.cells #[.int .i64 a1] 3 (0, 0))
  have hT1 := blk_new w (.cells #[.int .i64 a1] 3 (0, 0))
  have hz1 : (w.alloc (.cells #[.int .i64 a1] 3 (0, 0))).heap.size = w.heap.size + 1 := by simp [World.alloc, -World.alloc_eq]
  have hcl := api_Dup_28.calls A0 c0 l0 l0 _ (Kd.C_below hr0 hB1) hc0 (by unfold api_Dup_28.f; rw [if_pos hl])
  have HB1 := Lib.hid hB1
  have HT1 := Lib.hid hT1
  clear h hr0 hB1 hT1
  rw [hz1] at hcl
  go_enter Tryd.func20, Tryd.ntmps20
  go_wp2_with (first
    | (go_at_call 28; refine hcl.mono ?_; rintro e w2 ⟨v, rfl, hR2, hb2⟩; have hdel := del_any a1 ht w.heap.size (w.heap.size + 1) v l0 w2 hR2 ((blk_cell ((hb2.block _ (by omega)).trans HT1.out) 0).trans rfl) (by omega) (by have := hb2.size; omega) hl; have HB2 := Lib.hid hb2; clear hR2 hb2)
    | (go_at_call 31; refine hdel.mono ?_; rintro e w3 ⟨v3, rfl, hR3, hb3⟩))
  go_ret
  exact ⟨_, rfl, Kd.R_lower hR3 (by omega), HB1.out.trans ((HB2.out.mono (by omega)).trans (hb3.mono (by omega)))⟩


end Go.Proofs.YtmifpifhiiommaaDoor.XT
