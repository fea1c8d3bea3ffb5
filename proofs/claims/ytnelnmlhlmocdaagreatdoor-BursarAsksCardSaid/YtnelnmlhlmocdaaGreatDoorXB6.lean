-- Written by wip/xprint.py, a session's program: printed out of the translation, with hand-written functions. Lean checks it.
import Derived.Test.YtnelnmlhlmocdaaGreatDoorXB0
import Derived.Test.YtnelnmlhlmocdaaGreatDoorXB2
import Derived.Test.YtnelnmlhlmocdaaGreatDoorXB4
import Derived.Test.YtnelnmlhlmocdaaGreatDoorXB5
namespace Go.Proofs.YtnelnmlhlmocdaaGreatDoor.XB
open Go.RowKit Go.Proofs.YtnelnmlhlmocdaaGreatDoorW.PrintWords Go.Proofs.YtnelnmlhlmocdaaGreatDoorW.PrintLast Go.Proofs.YtnelnmlhlmocdaaGreatDoorW.PrintMore
attribute [local go_sem] max2_int min2_int max_two min_two max_three min_three max_four min_four   -- for this text's walks alone
set_option linter.unusedVariables false
set_option linter.unusedSimpArgs false

/-! ### iso_pack: function 27 -/
def iso_pack.l0 : Nat → ByteArray → List (S56) → Int → Int → Option (ByteArray × Int)
  | 0, _, _, _, _ => none
  | k + 1, x8, x36, x37, x38 => if x38 < x37 then (if 0 ≤ x38 then (if x38 < (x36.length : Int) then ((spec_Pack.f ((rd_T56 x36 x38).f0) ((rd_T56 x36 x38).f1)).bind fun bt171 => (if bt171.2 = 0 then (if x8.size + bt171.1.size ≤ 9223372036854775807 then (iso_pack.l0 k (x8 ++ bt171.1) x36 x37 (wrap64 (x38 + 1))) else (none)) else (some ((⟨#[]⟩ : ByteArray), 16)))) else (none)) else (none)) else (some (x8, 0))
def iso_pack.f (k : Nat) (a0_0 : ByteArray) (l0_1 : List (S56)) : Option (ByteArray × Int) := (mti_Parse.f a0_0).bind fun bt158 => (if bt158.2.2.2.2 = 0 then ((iso_numbers.f k l0_1).bind fun t164 => ((bitmap_Map.f k t164).bind fun bt167 => (if bt167.2 = 0 then (if a0_0.size + bt167.1.size ≤ 9223372036854775807 then (iso_pack.l0 k (a0_0 ++ bt167.1) l0_1 (l0_1.length : Int) 0) else (none)) else (some ((⟨#[]⟩ : ByteArray), 16))))) else (some ((⟨#[]⟩ : ByteArray), bt158.2.2.2.2)))
theorem iso_pack.mono_l : ∀ k, (∀ y0 y1 y2 y3, LeO (iso_pack.l0 k y0 y1 y2 y3) (iso_pack.l0 (k + 1) y0 y1 y2 y3))
  | 0 => fun _ _ _ _ r h => by simp [iso_pack.l0] at h
  | k + 1 => by
    have ih0 := iso_pack.mono_l k
    · intro y0 y1 y2 y3
      unfold iso_pack.l0
      repeat' first
      | (with_reducible exact ih0 _ _ _ _)
      | (with_reducible exact bitmap_Map.mono _ _)
      | (with_reducible exact iso_numbers.mono _ _)
      | (with_reducible exact LeO.refl _)
      | (with_reducible exact LeO.none _)
      | (with_reducible refine LeO.ite ?_ ?_)
      | (with_reducible refine LeO.bind ?_ (fun _ => ?_))
      | exact ih0 _ _ _ _
      | exact bitmap_Map.mono _ _
      | exact iso_numbers.mono _ _
      | exact LeO.none _
      | refine LeO.ite ?_ ?_
      | refine LeO.bind ?_ (fun _ => ?_)
theorem iso_pack.mono : ∀ a0 a1 k, LeO (iso_pack.f k a0 a1) (iso_pack.f (k + 1) a0 a1) := by
  intro a0 a1 k
  have ih0 := iso_pack.mono_l k
  unfold iso_pack.f
  repeat' first
      | (with_reducible exact ih0 _ _ _ _)
      | (with_reducible exact bitmap_Map.mono _ _)
      | (with_reducible exact iso_numbers.mono _ _)
      | (with_reducible exact LeO.refl _)
      | (with_reducible exact LeO.none _)
      | (with_reducible refine LeO.ite ?_ ?_)
      | (with_reducible refine LeO.bind ?_ (fun _ => ?_))
      | exact ih0 _ _ _ _
      | exact bitmap_Map.mono _ _
      | exact iso_numbers.mono _ _
      | exact LeO.none _
      | refine LeO.ite ?_ ?_
      | refine LeO.bind ?_ (fun _ => ?_)
set_option maxHeartbeats 8000000 in
set_option maxRecDepth 100000 in
theorem iso_pack.calls (k : Nat) (a0_0 : ByteArray) (A0_1 : Option Addr) (c0_1 : Nat) (l0_1 : List (S56)) (r1 : ByteArray) (r2 : Int) (w : World) (hr0_1 : Kd.C k56 w A0_1 l0_1.length l0_1) (hc0_1 : l0_1.length ≤ c0_1) (h : iso_pack.f k a0_0 l0_1 = some (r1, r2)) (HT0 : As.Env w) :
    Calls Tryz.prog 27 #[.agg #[.string a0_0, .slice A0_1 l0_1.length c0_1]] w fun e w' => e = .returned (.tuple #[.string r1, .int .i64 r2]) ∧ Below w.heap.size w w' := by
  have hu32 := Tryz.underlying32
  have hu62 := Tryz.underlying62
  have hu56 := Tryz.underlying56
  have HR0_1 := Aside0.mk hr0_1
  have HC0_1 := Aside0.mk hc0_1
  clear hr0_1 hc0_1
  have HT := Aside0.mk HT0
  clear HT0
  have HB := Aside0.mk (Below.refl w.heap.size w)
  have H : ((mti_Parse.f a0_0).bind fun bt158 => (if bt158.2.2.2.2 = 0 then ((iso_numbers.f k l0_1).bind fun t164 => ((bitmap_Map.f k t164).bind fun bt167 => (if bt167.2 = 0 then (if a0_0.size + bt167.1.size ≤ 9223372036854775807 then (iso_pack.l0 k (a0_0 ++ bt167.1) l0_1 (l0_1.length : Int) 0) else (none)) else (some ((⟨#[]⟩ : ByteArray), 16))))) else (some ((⟨#[]⟩ : ByteArray), bt158.2.2.2.2)))) = some (r1, r2) := h
  clear h
  replace H := Option.bind_eq_some_iff.mp H
  obtain ⟨⟨t158, t159, t160, t161, t162⟩, A20, H⟩ := H
  replace H : (if t162 = 0 then ((iso_numbers.f k l0_1).bind fun t164 => ((bitmap_Map.f k t164).bind fun bt167 => (if bt167.2 = 0 then (if a0_0.size + bt167.1.size ≤ 9223372036854775807 then (iso_pack.l0 k (a0_0 ++ bt167.1) l0_1 (l0_1.length : Int) 0) else (none)) else (some ((⟨#[]⟩ : ByteArray), 16))))) else (some ((⟨#[]⟩ : ByteArray), t162))) = some (r1, r2) := H
  have A2 := Aside0.mk A20
  clear A20
  by_cases c3 : t162 = 0
  · rw [if_pos c3] at H
    have c3b0 : (t162 == 0) = true := beq_iff_eq.mpr c3
    have c3b1 : (t162 != 0) = false := bne_eq_false_iff_eq.mpr c3
    clear c3
    replace H := Option.bind_eq_some_iff.mp H
    obtain ⟨t164, A40, H⟩ := H
    replace H : ((bitmap_Map.f k t164).bind fun bt167 => (if bt167.2 = 0 then (if a0_0.size + bt167.1.size ≤ 9223372036854775807 then (iso_pack.l0 k (a0_0 ++ bt167.1) l0_1 (l0_1.length : Int) 0) else (none)) else (some ((⟨#[]⟩ : ByteArray), 16)))) = some (r1, r2) := H
    have A4 := Aside0.mk A40
    clear A40
    replace H := Option.bind_eq_some_iff.mp H
    obtain ⟨⟨t167, t168⟩, A50, H⟩ := H
    replace H : (if t168 = 0 then (if a0_0.size + t167.size ≤ 9223372036854775807 then (iso_pack.l0 k (a0_0 ++ t167) l0_1 (l0_1.length : Int) 0) else (none)) else (some ((⟨#[]⟩ : ByteArray), 16))) = some (r1, r2) := H
    have A5 := Aside0.mk A50
    clear A50
    by_cases c6 : t168 = 0
    · rw [if_pos c6] at H
      have c6b0 : (t168 == 0) = true := beq_iff_eq.mpr c6
      have c6b1 : (t168 != 0) = false := bne_eq_false_iff_eq.mpr c6
      clear c6
      by_cases c7 : a0_0.size + t167.size ≤ 9223372036854775807
      · rw [if_pos c7] at H
        have c7b0 := eq_true c7
        have c7b1 : decide (a0_0.size + t167.size ≤ 9223372036854775807) = true := decide_eq_true c7
        try have c7b2 : (9223372036854775807 < a0_0.size + t167.size) = False := eq_false (Nat.not_lt.2 c7)
        have H' := Aside0.mk H
        clear H
        go_enter Tryz.func27, Tryz.ntmps27
        go_wp2_with (first | ((with_reducible refine gate_dst (N := 1) rfl ?_); refine box_event ?hg (N := 1) ?hd (cs := #[.string a0_0, .slice A0_1 l0_1.length c0_1]) (t := 32) ?hr ?_; (case hd => rfl); (case hg => rfl); (case hr => first | (go_simp; done) | (go_simp; rfl)); intro gb157 hg w8 hbox hb; have n0_ := Aside0.mk (below_step (by repeat (first | (with_reducible first | exact HB.out | apply below_alloc | apply pw_below_drewN | apply below_drew1) | exact HB.out)) hb); have n1_ := Aside0.mk (hbox); have n2_ := Aside0.mk ((by rw [hg]; exact (below_size (by repeat (first | (with_reducible first | exact HB.out | apply below_alloc | apply pw_below_drewN | apply below_drew1) | exact HB.out))) : w.heap.size ≤ gb157)); have n3_ := Aside0.mk ((by rw [hg]; exact (below_size (by repeat (first | (with_reducible first | exact HB.out | apply below_alloc | apply pw_below_drewN | apply below_drew1) | exact HB.out))) : w.heap.size ≤ gb157)); clear HB; have HB := n0_; have BK157 := n1_; have GW157 := n2_; have GE157 := n3_; clear n0_ n1_ n2_ n3_; clear hb hbox hg; have hcz9_0 := blk_cell BK157.out; have hfz9_0 := blk_frozen BK157.out) | ((with_reducible refine gate_callee (f := 28) rfl ?_); refine goesL_ (some 16) rfl rfl Tryz.func28 (by kernel_rfl) rfl #[.string a0_0] rfl (by (try simp only [List.map_toArray, List.map_cons, List.map_nil]); first | done | rfl | (simp only [List.length_drop, List.length_take]; rfl)) ?_; (with_reducible refine (mti_Parse.calls a0_0 t158 t159 t160 t161 t162 _ A2.out).mono ?_); rintro e w10 ⟨rfl, hb⟩; refine ⟨_, rfl, ?_⟩; have n0_ := Aside0.mk (blk_below (g := gb157) (o := .cells #[.string a0_0, .slice A0_1 l0_1.length c0_1] 32 (0, 0)) (by (with_reducible repeat (first | refine blk_drewN ?_ _ | refine blk_drew ?_ | refine blk_alloc ?_ _)); exact BK157.out) hb); have n1_ := Aside0.mk (below_step (by repeat (first | (with_reducible first | exact HB.out | apply below_alloc | apply pw_below_drewN | apply below_drew1 | refine below_set ?_ GE157.out) | exact HB.out)) hb); clear BK157; clear HB; have BK157 := n0_; have HB := n1_; clear n0_ n1_; (try clear hb); (try clear hb2); (try clear hk); (try clear hi)) | ((with_reducible refine gate_dst (N := 4) rfl ?_); refine box_event ?hg (N := 4) ?hd (cs := #[.int .i64 0, .bool false, .bool false, .bool false]) (t := 62) ?hr ?_; (case hd => rfl); (case hg => rfl); (case hr => first | (go_simp; done) | (go_simp; rfl)); intro gb163 hg w11 hbox hb; have n0_ := Aside0.mk (blk_below (g := gb157) (o := .cells #[.string a0_0, .slice A0_1 l0_1.length c0_1] 32 (0, 0)) (by (with_reducible repeat (first | refine blk_drewN ?_ _ | refine blk_drew ?_ | refine blk_alloc ?_ _)); exact BK157.out) hb); have n1_ := Aside0.mk (below_step (by repeat (first | (with_reducible first | exact HB.out | apply below_alloc | apply pw_below_drewN | apply below_drew1 | refine below_set ?_ GE157.out) | exact HB.out)) hb); have n2_ := Aside0.mk (hbox); have n3_ := Aside0.mk ((by rw [hg]; exact (below_size (by repeat (first | (with_reducible first | exact HB.out | apply below_alloc | apply pw_below_drewN | apply below_drew1 | refine below_set ?_ GE157.out) | exact HB.out))) : w.heap.size ≤ gb163)); have n4_ := Aside0.mk ((by rw [hg]; exact (below_size (by repeat (first | (with_reducible first | exact HB.out | apply below_alloc | apply pw_below_drewN | apply below_drew1 | refine below_set ?_ GE157.out) | exact HB.out))) : w.heap.size ≤ gb163)); have n5_ := Aside0.mk ((by rw [hg]; exact Nat.ne_of_lt (blk_lt (g := gb157) (o := .cells #[.string a0_0, .slice A0_1 l0_1.length c0_1] 32 (0, 0)) (by (with_reducible repeat (first | refine blk_drewN ?_ _ | refine blk_drew ?_ | refine blk_alloc ?_ _)); exact BK157.out)) : gb157 ≠ gb163)); have n6_ := Aside0.mk ((by rw [hg]; exact Nat.ne_of_gt (blk_lt (g := gb157) (o := .cells #[.string a0_0, .slice A0_1 l0_1.length c0_1] 32 (0, 0)) (by (with_reducible repeat (first | refine blk_drewN ?_ _ | refine blk_drew ?_ | refine blk_alloc ?_ _)); exact BK157.out)) : gb163 ≠ gb157)); clear BK157; clear HB; have BK157 := n0_; have HB := n1_; have BK163 := n2_; have GW163 := n3_; have GE163 := n4_; have NB157_163 := n5_; have NB163_157 := n6_; clear n0_ n1_ n2_ n3_ n4_ n5_ n6_; clear hb hbox hg; have hnb12 := NB163_157.out; have hnc12 := NB157_163.out; have hcz13_0 := blk_cell BK163.out; have hfz13_0 := blk_frozen BK163.out; have hcz14_0 := blk_cell BK157.out; have hfz14_0 := blk_frozen BK157.out) | ((with_reducible refine gate_callee (f := 51) rfl ?_); refine goesL_ (some 25) rfl rfl Tryz.func51 (by kernel_rfl) rfl #[.slice A0_1 l0_1.length c0_1] rfl (by (try simp only [List.map_toArray, List.map_cons, List.map_nil]); first | done | rfl | (simp only [List.length_drop, List.length_take]; rfl)) ?_; (with_reducible refine (iso_numbers.calls k _ _ l0_1 t164 _ ?side1 ?side2 A4.out).mono ?_); (case side1 => exact Kd.C_below HR0_1.out (by repeat (first | (with_reducible first | exact HB.out | apply below_alloc | apply pw_below_drewN | apply below_drew1 | refine below_set ?_ GE157.out | refine below_set ?_ GE163.out) | exact HB.out))); (case side2 => exact HC0_1.out); rintro e w15 ⟨v165, rfl, ho0, hb⟩; refine ⟨_, rfl, ?_⟩; have n0_ := Aside0.mk (Kd.R_lower ho0 (below_size (by repeat (first | (with_reducible first | exact HB.out | apply below_alloc | apply pw_below_drewN | apply below_drew1 | refine below_set ?_ GE157.out | refine below_set ?_ GE163.out) | exact HB.out)))); have n1_ := Aside0.mk (blk_below (g := gb157) (o := .cells #[.string a0_0, .slice A0_1 l0_1.length c0_1] 32 (0, 0)) (by (with_reducible repeat (first | refine blk_drewN ?_ _ | refine blk_drew ?_ | refine blk_alloc ?_ _)); refine blk_far ?_ NB157_163.out _; (with_reducible repeat (first | refine blk_drewN ?_ _ | refine blk_drew ?_ | refine blk_alloc ?_ _)); refine blk_far ?_ NB157_163.out _; (with_reducible repeat (first | refine blk_drewN ?_ _ | refine blk_drew ?_ | refine blk_alloc ?_ _)); refine blk_far ?_ NB157_163.out _; (with_reducible repeat (first | refine blk_drewN ?_ _ | refine blk_drew ?_ | refine blk_alloc ?_ _)); refine blk_far ?_ NB157_163.out _; (with_reducible repeat (first | refine blk_drewN ?_ _ | refine blk_drew ?_ | refine blk_alloc ?_ _)); exact BK157.out) hb); have n2_ := Aside0.mk (blk_below (g := gb163) (o := .cells #[.int .i64 t158, .bool t159, .bool t160, .bool t161] 62 (0, 0)) (by (with_reducible repeat (first | refine blk_drewN ?_ _ | refine blk_drew ?_ | refine blk_alloc ?_ _)); refine blk_put (cs := #[.int .i64 t158, .bool t159, .bool t160, .bool false]) ?_ 3 _ rfl; (with_reducible repeat (first | refine blk_drewN ?_ _ | refine blk_drew ?_ | refine blk_alloc ?_ _)); refine blk_put (cs := #[.int .i64 t158, .bool t159, .bool false, .bool false]) ?_ 2 _ rfl; (with_reducible repeat (first | refine blk_drewN ?_ _ | refine blk_drew ?_ | refine blk_alloc ?_ _)); refine blk_put (cs := #[.int .i64 t158, .bool false, .bool false, .bool false]) ?_ 1 _ rfl; (with_reducible repeat (first | refine blk_drewN ?_ _ | refine blk_drew ?_ | refine blk_alloc ?_ _)); refine blk_put (cs := #[.int .i64 0, .bool false, .bool false, .bool false]) ?_ 0 _ rfl; (with_reducible repeat (first | refine blk_drewN ?_ _ | refine blk_drew ?_ | refine blk_alloc ?_ _)); exact BK163.out) hb); have n3_ := Aside0.mk (below_step (by repeat (first | (with_reducible first | exact HB.out | apply below_alloc | apply pw_below_drewN | apply below_drew1 | refine below_set ?_ GE157.out | refine below_set ?_ GE163.out) | exact HB.out)) hb); clear BK157; clear BK163; clear HB; have HO166 := n0_; have BK157 := n1_; have BK163 := n2_; have HB := n3_; clear n0_ n1_ n2_ n3_; (try clear hb); (try clear hb2); (try clear hk); (try clear hi); (try clear ho0); obtain ⟨Ao16, co16, eo16⟩ := Kd.R_slice HO166.out; subst eo16) | ((with_reducible refine gate_callee (f := 50) rfl ?_); refine goesL_ (some 26) rfl rfl Tryz.func50 (by kernel_rfl) rfl #[.slice Ao16 t164.length co16] rfl (by (try simp only [List.map_toArray, List.map_cons, List.map_nil]); first | done | rfl | (simp only [List.length_drop, List.length_take]; rfl)) ?_; (with_reducible refine (bitmap_Map.calls k _ _ t164 t167 t168 _ ?side1 ?side2 A5.out (HT.out.below (by repeat (first | (with_reducible first | exact HB.out | apply below_alloc | apply pw_below_drewN | apply below_drew1 | refine below_set ?_ GE157.out | refine below_set ?_ GE163.out) | exact HB.out)))).mono ?_); (case side1 => repeat (first | exact (Kd.R_reads' HO166.out).2.2 | (with_reducible refine Kd.C_alloc ?_ _) | (with_reducible refine Kd.C_drewN ?_ _) | (with_reducible refine Kd.C_drew ?_))); (case side2 => exact (Kd.R_reads' HO166.out).2.1); rintro e w17 ⟨rfl, hb⟩; refine ⟨_, rfl, ?_⟩; have n0_ := Aside0.mk (Kd.R_below (by (with_reducible repeat (first | apply Kd.R_alloc | apply Kd.R_drewN | apply Kd.R_drew)); exact HO166.out) hb); have n1_ := Aside0.mk (blk_below (g := gb157) (o := .cells #[.string a0_0, .slice A0_1 l0_1.length c0_1] 32 (0, 0)) (by (with_reducible repeat (first | refine blk_drewN ?_ _ | refine blk_drew ?_ | refine blk_alloc ?_ _)); exact BK157.out) hb); have n2_ := Aside0.mk (blk_below (g := gb163) (o := .cells #[.int .i64 t158, .bool t159, .bool t160, .bool t161] 62 (0, 0)) (by (with_reducible repeat (first | refine blk_drewN ?_ _ | refine blk_drew ?_ | refine blk_alloc ?_ _)); exact BK163.out) hb); have n3_ := Aside0.mk (below_step (by repeat (first | (with_reducible first | exact HB.out | apply below_alloc | apply pw_below_drewN | apply below_drew1 | refine below_set ?_ GE157.out | refine below_set ?_ GE163.out) | exact HB.out)) hb); clear HO166; clear BK157; clear BK163; clear HB; have HO166 := n0_; have BK157 := n1_; have BK163 := n2_; have HB := n3_; clear n0_ n1_ n2_ n3_; (try clear hb); (try clear hb2); (try clear hk); (try clear hi); have hcz18_0 := blk_cell BK157.out; have hfz18_0 := blk_frozen BK157.out))
        go_loopg [8, 38] k (fun kq v8 v38 w' => ∃ (x8_1 : ByteArray) (x38_1 : Int), v8 = .string x8_1 ∧ v38 = .int .i64 x38_1 ∧ Aside0 (iso_pack.l0 kq x8_1 l0_1 (l0_1.length : Int) x38_1 = some (r1, r2)) ∧ Aside0 (kq ≤ k) ∧ Aside0 (w'.heap[gb157]? = some (.cells #[.string a0_0, (.slice A0_1 l0_1.length c0_1)] 32 (0, 0))) ∧ Aside0 (w'.heap[gb163]? = some (.cells #[.int .i64 t158, .bool t159, .bool t160, .bool t161] 62 (0, 0))) ∧ Aside0 (Below w.heap.size w w'))
        case atStart => exact ⟨(a0_0 ++ t167), (0), (by first | rfl | (simp; done) | (simp [*]; done) | (simp [Pu.bne_nil, Pu.beq_nil]; done)), (by first | rfl | (simp; done) | (simp [*]; done) | (simp [Pu.bne_nil, Pu.beq_nil]; done)), H', ⟨Nat.le_refl _⟩, ⟨by (with_reducible repeat (first | refine blk_drewN ?_ _ | refine blk_drew ?_ | refine blk_alloc ?_ _)); exact BK157.out⟩, ⟨by (with_reducible repeat (first | refine blk_drewN ?_ _ | refine blk_drew ?_ | refine blk_alloc ?_ _)); exact BK163.out⟩, ⟨by repeat (first | (with_reducible first | exact HB.out | apply below_alloc | apply pw_below_drewN | apply below_drew1 | refine below_set ?_ GE157.out | refine below_set ?_ GE163.out) | exact HB.out)⟩⟩
        case round =>
          clear H'
          try clear c1
          try clear c2
          try clear p2
          try clear c3
          try clear c3b0
          try clear c3b1
          try clear c5
          try clear c6
          try clear c6b0
          try clear c6b1
          try clear c7
          try clear c7b0
          try clear c7b1
          try clear c7b2
          try clear c12
          try clear hcz13_0
          try clear hcz14_0
          try clear hcz18_0
          try clear hcz9_0
          try clear hfz13_0
          try clear hfz14_0
          try clear hfz18_0
          try clear hfz9_0
          obtain ⟨x8_1, x38_1, rfl, rfl, HA, HK1, BK157, BK163, HB⟩ := hrel
          cases gk with
          | zero => exact absurd HA.out (by simp [iso_pack.l0])
          | succ k1 =>
            have H := HA.out
            clear HA
            simp only [iso_pack.l0] at H
            by_cases c19 : x38_1 < (l0_1.length : Int)
            · rw [if_pos c19] at H
              have c19b0 : decide (x38_1 < (l0_1.length : Int)) = true := decide_eq_true c19
              clear c19
              by_cases c20 : 0 ≤ x38_1
              · rw [if_pos c20] at H
                have c20b0 : decide (0 ≤ x38_1) = true := decide_eq_true c20
                clear c20
                by_cases c21 : x38_1 < (l0_1.length : Int)
                · rw [if_pos c21] at H
                  have c21b0 : decide (x38_1 < (l0_1.length : Int)) = true := decide_eq_true c21
                  clear c21
                  replace H := Option.bind_eq_some_iff.mp H
                  obtain ⟨⟨t171, t172⟩, A220, H⟩ := H
                  replace H : (if t172 = 0 then (if x8_1.size + t171.size ≤ 9223372036854775807 then (iso_pack.l0 k1 (x8_1 ++ t171) l0_1 (l0_1.length : Int) (wrap64 (x38_1 + 1))) else (none)) else (some ((⟨#[]⟩ : ByteArray), 16))) = some (r1, r2) := H
                  have A22 := Aside0.mk A220
                  clear A220
                  by_cases c23 : t172 = 0
                  · rw [if_pos c23] at H
                    have c23b0 : (t172 == 0) = true := beq_iff_eq.mpr c23
                    have c23b1 : (t172 != 0) = false := bne_eq_false_iff_eq.mpr c23
                    clear c23
                    by_cases c24 : x8_1.size + t171.size ≤ 9223372036854775807
                    · rw [if_pos c24] at H
                      have c24b0 := eq_true c24
                      have c24b1 : decide (x8_1.size + t171.size ≤ 9223372036854775807) = true := decide_eq_true c24
                      try have c24b2 : (9223372036854775807 < x8_1.size + t171.size) = False := eq_false (Nat.not_lt.2 c24)
                      have H' := Aside0.mk H
                      clear H
                      have p169 : 0 ≤ (x38_1 : Int) := of_decide_eq_true (by first | (with_reducible assumption) | assumption)
                      have q169 : x38_1 < (l0_1.length : Int) := of_decide_eq_true (by first | (with_reducible assumption) | assumption)
                      obtain ⟨ad169, e169, hx169_0, hx169_1⟩ := at_T56 HR0_1.out x38_1 p169 q169
                      cases e169
                      replace hx169_0 := (HB.out.cell (World.block_lt_of_cell? w _ hx169_0)).trans hx169_0
                      replace hx169_1 := (HB.out.cell (World.block_lt_of_cell? w _ hx169_1)).trans hx169_1
                      replace p169 := eq_true p169
                      replace q169 := eq_true q169
                      go_wp2_with (first | ((with_reducible refine gate_dst (N := 10) rfl ?_); refine box_event ?hg (N := 10) ?hd (cs := #[.int .i64 0, .string (⟨#[]⟩ : ByteArray)]) (t := 56) ?hr ?_; (case hd => rfl); (case hg => rfl); (case hr => first | (go_simp; done) | (go_simp; rfl)); intro gb170 hg w25 hbox hb; have n0_ := Aside0.mk (blk_below (g := gb157) (o := .cells #[.string a0_0, .slice (some ad169) l0_1.length c0_1] 32 (0, 0)) (by (with_reducible repeat (first | refine blk_drewN ?_ _ | refine blk_drew ?_ | refine blk_alloc ?_ _)); exact BK157.out) hb); have n1_ := Aside0.mk (blk_below (g := gb163) (o := .cells #[.int .i64 t158, .bool t159, .bool t160, .bool t161] 62 (0, 0)) (by (with_reducible repeat (first | refine blk_drewN ?_ _ | refine blk_drew ?_ | refine blk_alloc ?_ _)); exact BK163.out) hb); have n2_ := Aside0.mk (below_step (by repeat (first | (with_reducible first | exact HB.out | apply below_alloc | apply pw_below_drewN | apply below_drew1 | refine below_set ?_ GE157.out | refine below_set ?_ GE163.out) | exact HB.out)) hb); have n3_ := Aside0.mk (hbox); have n4_ := Aside0.mk ((by rw [hg]; exact (below_size (by repeat (first | (with_reducible first | exact HB.out | apply below_alloc | apply pw_below_drewN | apply below_drew1 | refine below_set ?_ GE157.out | refine below_set ?_ GE163.out) | exact HB.out))) : w.heap.size ≤ gb170)); have n5_ := Aside0.mk ((by rw [hg]; exact (below_size (by repeat (first | (with_reducible first | exact HB.out | apply below_alloc | apply pw_below_drewN | apply below_drew1 | refine below_set ?_ GE157.out | refine below_set ?_ GE163.out) | exact HB.out))) : w.heap.size ≤ gb170)); have n6_ := Aside0.mk ((by rw [hg]; exact Nat.ne_of_lt (blk_lt (g := gb157) (o := .cells #[.string a0_0, .slice (some ad169) l0_1.length c0_1] 32 (0, 0)) (by (with_reducible repeat (first | refine blk_drewN ?_ _ | refine blk_drew ?_ | refine blk_alloc ?_ _)); exact BK157.out)) : gb157 ≠ gb170)); have n7_ := Aside0.mk ((by rw [hg]; exact Nat.ne_of_gt (blk_lt (g := gb157) (o := .cells #[.string a0_0, .slice (some ad169) l0_1.length c0_1] 32 (0, 0)) (by (with_reducible repeat (first | refine blk_drewN ?_ _ | refine blk_drew ?_ | refine blk_alloc ?_ _)); exact BK157.out)) : gb170 ≠ gb157)); have n8_ := Aside0.mk ((by rw [hg]; exact Nat.ne_of_lt (blk_lt (g := gb163) (o := .cells #[.int .i64 t158, .bool t159, .bool t160, .bool t161] 62 (0, 0)) (by (with_reducible repeat (first | refine blk_drewN ?_ _ | refine blk_drew ?_ | refine blk_alloc ?_ _)); exact BK163.out)) : gb163 ≠ gb170)); have n9_ := Aside0.mk ((by rw [hg]; exact Nat.ne_of_gt (blk_lt (g := gb163) (o := .cells #[.int .i64 t158, .bool t159, .bool t160, .bool t161] 62 (0, 0)) (by (with_reducible repeat (first | refine blk_drewN ?_ _ | refine blk_drew ?_ | refine blk_alloc ?_ _)); exact BK163.out)) : gb170 ≠ gb163)); clear BK157; clear BK163; clear HB; have BK157 := n0_; have BK163 := n1_; have HB := n2_; have BK170 := n3_; have GW170 := n4_; have GE170 := n5_; have NB157_170 := n6_; have NB170_157 := n7_; have NB163_170 := n8_; have NB170_163 := n9_; clear n0_ n1_ n2_ n3_ n4_ n5_ n6_ n7_ n8_ n9_; clear hb hbox hg; have hnb26 := NB170_157.out; have hnc26 := NB157_170.out; have hnb27 := NB170_163.out; have hnc27 := NB163_170.out; have hcz28_0 := blk_cell BK170.out; have hfz28_0 := blk_frozen BK170.out) | ((with_reducible refine gate_callee (f := 52) rfl ?_); refine goesL_ (some 47) rfl rfl Tryz.func52 (by kernel_rfl) rfl #[.int .i64 ((rd_T56 l0_1 x38_1).f0), .string ((rd_T56 l0_1 x38_1).f1)] rfl (by (try simp only [List.map_toArray, List.map_cons, List.map_nil]); first | done | rfl | (simp only [List.length_drop, List.length_take]; rfl)) ?_; (with_reducible refine (spec_Pack.calls ((rd_T56 l0_1 x38_1).f0) ((rd_T56 l0_1 x38_1).f1) t171 t172 _ A22.out (HT.out.below (by repeat (first | (with_reducible first | exact HB.out | apply below_alloc | apply pw_below_drewN | apply below_drew1 | refine below_set ?_ GE157.out | refine below_set ?_ GE163.out | refine below_set ?_ GE170.out) | exact HB.out)))).mono ?_); rintro e w29 ⟨rfl, hb⟩; refine ⟨_, rfl, ?_⟩; have n0_ := Aside0.mk (blk_below (g := gb157) (o := .cells #[.string a0_0, .slice (some ad169) l0_1.length c0_1] 32 (0, 0)) (by (with_reducible repeat (first | refine blk_drewN ?_ _ | refine blk_drew ?_ | refine blk_alloc ?_ _)); refine blk_far ?_ NB157_170.out _; (with_reducible repeat (first | refine blk_drewN ?_ _ | refine blk_drew ?_ | refine blk_alloc ?_ _)); refine blk_far ?_ NB157_170.out _; (with_reducible repeat (first | refine blk_drewN ?_ _ | refine blk_drew ?_ | refine blk_alloc ?_ _)); exact BK157.out) hb); have n1_ := Aside0.mk (blk_below (g := gb163) (o := .cells #[.int .i64 t158, .bool t159, .bool t160, .bool t161] 62 (0, 0)) (by (with_reducible repeat (first | refine blk_drewN ?_ _ | refine blk_drew ?_ | refine blk_alloc ?_ _)); refine blk_far ?_ NB163_170.out _; (with_reducible repeat (first | refine blk_drewN ?_ _ | refine blk_drew ?_ | refine blk_alloc ?_ _)); refine blk_far ?_ NB163_170.out _; (with_reducible repeat (first | refine blk_drewN ?_ _ | refine blk_drew ?_ | refine blk_alloc ?_ _)); exact BK163.out) hb); have n2_ := Aside0.mk (blk_below (g := gb170) (o := .cells #[.int .i64 ((rd_T56 l0_1 x38_1).f0), .string ((rd_T56 l0_1 x38_1).f1)] 56 (0, 0)) (by (with_reducible repeat (first | refine blk_drewN ?_ _ | refine blk_drew ?_ | refine blk_alloc ?_ _)); refine blk_put (cs := #[.int .i64 ((rd_T56 l0_1 x38_1).f0), .string (⟨#[]⟩ : ByteArray)]) ?_ 1 _ rfl; (with_reducible repeat (first | refine blk_drewN ?_ _ | refine blk_drew ?_ | refine blk_alloc ?_ _)); refine blk_put (cs := #[.int .i64 0, .string (⟨#[]⟩ : ByteArray)]) ?_ 0 _ rfl; (with_reducible repeat (first | refine blk_drewN ?_ _ | refine blk_drew ?_ | refine blk_alloc ?_ _)); exact BK170.out) hb); have n3_ := Aside0.mk (below_step (by repeat (first | (with_reducible first | exact HB.out | apply below_alloc | apply pw_below_drewN | apply below_drew1 | refine below_set ?_ GE157.out | refine below_set ?_ GE163.out | refine below_set ?_ GE170.out) | exact HB.out)) hb); clear BK157; clear BK163; clear BK170; clear HB; have BK157 := n0_; have BK163 := n1_; have BK170 := n2_; have HB := n3_; clear n0_ n1_ n2_ n3_; (try clear hb); (try clear hb2); (try clear hk); (try clear hi)))
                      go_roundg k1
                      case measure => have := HK1.out; omega
                      case rel => exact ⟨(x8_1 ++ t171), (wrap64 (x38_1 + 1)), (by first | rfl | (simp; done) | (simp [*]; done) | (simp [Pu.bne_nil, Pu.beq_nil]; done)), (by first | rfl | (simp; done) | (simp [*]; done) | (simp [Pu.bne_nil, Pu.beq_nil]; done)), H', ⟨by have := HK1.out; omega⟩, ⟨by (with_reducible repeat (first | refine blk_drewN ?_ _ | refine blk_drew ?_ | refine blk_alloc ?_ _)); exact BK157.out⟩, ⟨by (with_reducible repeat (first | refine blk_drewN ?_ _ | refine blk_drew ?_ | refine blk_alloc ?_ _)); exact BK163.out⟩, ⟨by repeat (first | (with_reducible first | exact HB.out | apply below_alloc | apply pw_below_drewN | apply below_drew1 | refine below_set ?_ GE157.out | refine below_set ?_ GE163.out | refine below_set ?_ GE170.out) | exact HB.out)⟩⟩
                    · rw [if_neg c24] at H
                      exact absurd H (by simp)
                  · rw [if_neg c23] at H
                    have c23b0 : (t172 == 0) = false := beq_eq_false_iff_ne.mpr c23
                    have c23b1 : (t172 != 0) = true := bne_iff_ne.mpr c23
                    simp only [Option.some.injEq, Prod.mk.injEq] at H
                    obtain ⟨rfl, rfl⟩ := H
                    have p169 : 0 ≤ (x38_1 : Int) := of_decide_eq_true (by first | (with_reducible assumption) | assumption)
                    have q169 : x38_1 < (l0_1.length : Int) := of_decide_eq_true (by first | (with_reducible assumption) | assumption)
                    obtain ⟨ad169, e169, hx169_0, hx169_1⟩ := at_T56 HR0_1.out x38_1 p169 q169
                    cases e169
                    replace hx169_0 := (HB.out.cell (World.block_lt_of_cell? w _ hx169_0)).trans hx169_0
                    replace hx169_1 := (HB.out.cell (World.block_lt_of_cell? w _ hx169_1)).trans hx169_1
                    replace p169 := eq_true p169
                    replace q169 := eq_true q169
                    go_wp2_with (first | ((with_reducible refine gate_dst (N := 10) rfl ?_); refine box_event ?hg (N := 10) ?hd (cs := #[.int .i64 0, .string (⟨#[]⟩ : ByteArray)]) (t := 56) ?hr ?_; (case hd => rfl); (case hg => rfl); (case hr => first | (go_simp; done) | (go_simp; rfl)); intro gb170 hg w30 hbox hb; have n0_ := Aside0.mk (blk_below (g := gb157) (o := .cells #[.string a0_0, .slice (some ad169) l0_1.length c0_1] 32 (0, 0)) (by (with_reducible repeat (first | refine blk_drewN ?_ _ | refine blk_drew ?_ | refine blk_alloc ?_ _)); exact BK157.out) hb); have n1_ := Aside0.mk (blk_below (g := gb163) (o := .cells #[.int .i64 t158, .bool t159, .bool t160, .bool t161] 62 (0, 0)) (by (with_reducible repeat (first | refine blk_drewN ?_ _ | refine blk_drew ?_ | refine blk_alloc ?_ _)); exact BK163.out) hb); have n2_ := Aside0.mk (below_step (by repeat (first | (with_reducible first | exact HB.out | apply below_alloc | apply pw_below_drewN | apply below_drew1 | refine below_set ?_ GE157.out | refine below_set ?_ GE163.out) | exact HB.out)) hb); have n3_ := Aside0.mk (hbox); have n4_ := Aside0.mk ((by rw [hg]; exact (below_size (by repeat (first | (with_reducible first | exact HB.out | apply below_alloc | apply pw_below_drewN | apply below_drew1 | refine below_set ?_ GE157.out | refine below_set ?_ GE163.out) | exact HB.out))) : w.heap.size ≤ gb170)); have n5_ := Aside0.mk ((by rw [hg]; exact (below_size (by repeat (first | (with_reducible first | exact HB.out | apply below_alloc | apply pw_below_drewN | apply below_drew1 | refine below_set ?_ GE157.out | refine below_set ?_ GE163.out) | exact HB.out))) : w.heap.size ≤ gb170)); have n6_ := Aside0.mk ((by rw [hg]; exact Nat.ne_of_lt (blk_lt (g := gb157) (o := .cells #[.string a0_0, .slice (some ad169) l0_1.length c0_1] 32 (0, 0)) (by (with_reducible repeat (first | refine blk_drewN ?_ _ | refine blk_drew ?_ | refine blk_alloc ?_ _)); exact BK157.out)) : gb157 ≠ gb170)); have n7_ := Aside0.mk ((by rw [hg]; exact Nat.ne_of_gt (blk_lt (g := gb157) (o := .cells #[.string a0_0, .slice (some ad169) l0_1.length c0_1] 32 (0, 0)) (by (with_reducible repeat (first | refine blk_drewN ?_ _ | refine blk_drew ?_ | refine blk_alloc ?_ _)); exact BK157.out)) : gb170 ≠ gb157)); have n8_ := Aside0.mk ((by rw [hg]; exact Nat.ne_of_lt (blk_lt (g := gb163) (o := .cells #[.int .i64 t158, .bool t159, .bool t160, .bool t161] 62 (0, 0)) (by (with_reducible repeat (first | refine blk_drewN ?_ _ | refine blk_drew ?_ | refine blk_alloc ?_ _)); exact BK163.out)) : gb163 ≠ gb170)); have n9_ := Aside0.mk ((by rw [hg]; exact Nat.ne_of_gt (blk_lt (g := gb163) (o := .cells #[.int .i64 t158, .bool t159, .bool t160, .bool t161] 62 (0, 0)) (by (with_reducible repeat (first | refine blk_drewN ?_ _ | refine blk_drew ?_ | refine blk_alloc ?_ _)); exact BK163.out)) : gb170 ≠ gb163)); clear BK157; clear BK163; clear HB; have BK157 := n0_; have BK163 := n1_; have HB := n2_; have BK170 := n3_; have GW170 := n4_; have GE170 := n5_; have NB157_170 := n6_; have NB170_157 := n7_; have NB163_170 := n8_; have NB170_163 := n9_; clear n0_ n1_ n2_ n3_ n4_ n5_ n6_ n7_ n8_ n9_; clear hb hbox hg; have hnb31 := NB170_157.out; have hnc31 := NB157_170.out; have hnb32 := NB170_163.out; have hnc32 := NB163_170.out; have hcz33_0 := blk_cell BK170.out; have hfz33_0 := blk_frozen BK170.out) | ((with_reducible refine gate_callee (f := 52) rfl ?_); refine goesL_ (some 47) rfl rfl Tryz.func52 (by kernel_rfl) rfl #[.int .i64 ((rd_T56 l0_1 x38_1).f0), .string ((rd_T56 l0_1 x38_1).f1)] rfl (by (try simp only [List.map_toArray, List.map_cons, List.map_nil]); first | done | rfl | (simp only [List.length_drop, List.length_take]; rfl)) ?_; (with_reducible refine (spec_Pack.calls ((rd_T56 l0_1 x38_1).f0) ((rd_T56 l0_1 x38_1).f1) t171 t172 _ A22.out (HT.out.below (by repeat (first | (with_reducible first | exact HB.out | apply below_alloc | apply pw_below_drewN | apply below_drew1 | refine below_set ?_ GE157.out | refine below_set ?_ GE163.out | refine below_set ?_ GE170.out) | exact HB.out)))).mono ?_); rintro e w34 ⟨rfl, hb⟩; refine ⟨_, rfl, ?_⟩; have n0_ := Aside0.mk (blk_below (g := gb157) (o := .cells #[.string a0_0, .slice (some ad169) l0_1.length c0_1] 32 (0, 0)) (by (with_reducible repeat (first | refine blk_drewN ?_ _ | refine blk_drew ?_ | refine blk_alloc ?_ _)); refine blk_far ?_ NB157_170.out _; (with_reducible repeat (first | refine blk_drewN ?_ _ | refine blk_drew ?_ | refine blk_alloc ?_ _)); refine blk_far ?_ NB157_170.out _; (with_reducible repeat (first | refine blk_drewN ?_ _ | refine blk_drew ?_ | refine blk_alloc ?_ _)); exact BK157.out) hb); have n1_ := Aside0.mk (blk_below (g := gb163) (o := .cells #[.int .i64 t158, .bool t159, .bool t160, .bool t161] 62 (0, 0)) (by (with_reducible repeat (first | refine blk_drewN ?_ _ | refine blk_drew ?_ | refine blk_alloc ?_ _)); refine blk_far ?_ NB163_170.out _; (with_reducible repeat (first | refine blk_drewN ?_ _ | refine blk_drew ?_ | refine blk_alloc ?_ _)); refine blk_far ?_ NB163_170.out _; (with_reducible repeat (first | refine blk_drewN ?_ _ | refine blk_drew ?_ | refine blk_alloc ?_ _)); exact BK163.out) hb); have n2_ := Aside0.mk (blk_below (g := gb170) (o := .cells #[.int .i64 ((rd_T56 l0_1 x38_1).f0), .string ((rd_T56 l0_1 x38_1).f1)] 56 (0, 0)) (by (with_reducible repeat (first | refine blk_drewN ?_ _ | refine blk_drew ?_ | refine blk_alloc ?_ _)); refine blk_put (cs := #[.int .i64 ((rd_T56 l0_1 x38_1).f0), .string (⟨#[]⟩ : ByteArray)]) ?_ 1 _ rfl; (with_reducible repeat (first | refine blk_drewN ?_ _ | refine blk_drew ?_ | refine blk_alloc ?_ _)); refine blk_put (cs := #[.int .i64 0, .string (⟨#[]⟩ : ByteArray)]) ?_ 0 _ rfl; (with_reducible repeat (first | refine blk_drewN ?_ _ | refine blk_drew ?_ | refine blk_alloc ?_ _)); exact BK170.out) hb); have n3_ := Aside0.mk (below_step (by repeat (first | (with_reducible first | exact HB.out | apply below_alloc | apply pw_below_drewN | apply below_drew1 | refine below_set ?_ GE157.out | refine below_set ?_ GE163.out | refine below_set ?_ GE170.out) | exact HB.out)) hb); clear BK157; clear BK163; clear BK170; clear HB; have BK157 := n0_; have BK163 := n1_; have BK170 := n2_; have HB := n3_; clear n0_ n1_ n2_ n3_; (try clear hb); (try clear hb2); (try clear hk); (try clear hi)))
                    go_ret2
                    exact ⟨by first | rfl | (simp [errW_none, errW_some] <;> rfl) | (simp [*, errW_none, errW_some] <;> rfl), by repeat (first | (with_reducible first | exact HB.out | apply below_alloc | apply pw_below_drewN | apply below_drew1 | refine below_set ?_ GE157.out | refine below_set ?_ GE163.out | refine below_set ?_ GE170.out) | exact HB.out)⟩
                · rw [if_neg c21] at H
                  exact absurd H (by simp)
              · rw [if_neg c20] at H
                exact absurd H (by simp)
            · rw [if_neg c19] at H
              have c19b0 : decide (x38_1 < (l0_1.length : Int)) = false := decide_eq_false c19
              clear c19
              simp only [Option.some.injEq, Prod.mk.injEq] at H
              obtain ⟨rfl, rfl⟩ := H
              go_wp2
              go_ret2
              exact ⟨by first | rfl | (simp [errW_none, errW_some] <;> rfl) | (simp [*, errW_none, errW_some] <;> rfl), by repeat (first | (with_reducible first | exact HB.out | apply below_alloc | apply pw_below_drewN | apply below_drew1 | refine below_set ?_ GE157.out | refine below_set ?_ GE163.out) | exact HB.out)⟩
      · rw [if_neg c7] at H
        exact absurd H (by simp)
    · rw [if_neg c6] at H
      have c6b0 : (t168 == 0) = false := beq_eq_false_iff_ne.mpr c6
      have c6b1 : (t168 != 0) = true := bne_iff_ne.mpr c6
      simp only [Option.some.injEq, Prod.mk.injEq] at H
      obtain ⟨rfl, rfl⟩ := H
      go_enter Tryz.func27, Tryz.ntmps27
      go_wp2_with (first | ((with_reducible refine gate_dst (N := 1) rfl ?_); refine box_event ?hg (N := 1) ?hd (cs := #[.string a0_0, .slice A0_1 l0_1.length c0_1]) (t := 32) ?hr ?_; (case hd => rfl); (case hg => rfl); (case hr => first | (go_simp; done) | (go_simp; rfl)); intro gb157 hg w35 hbox hb; have n0_ := Aside0.mk (below_step (by repeat (first | (with_reducible first | exact HB.out | apply below_alloc | apply pw_below_drewN | apply below_drew1) | exact HB.out)) hb); have n1_ := Aside0.mk (hbox); have n2_ := Aside0.mk ((by rw [hg]; exact (below_size (by repeat (first | (with_reducible first | exact HB.out | apply below_alloc | apply pw_below_drewN | apply below_drew1) | exact HB.out))) : w.heap.size ≤ gb157)); have n3_ := Aside0.mk ((by rw [hg]; exact (below_size (by repeat (first | (with_reducible first | exact HB.out | apply below_alloc | apply pw_below_drewN | apply below_drew1) | exact HB.out))) : w.heap.size ≤ gb157)); clear HB; have HB := n0_; have BK157 := n1_; have GW157 := n2_; have GE157 := n3_; clear n0_ n1_ n2_ n3_; clear hb hbox hg; have hcz36_0 := blk_cell BK157.out; have hfz36_0 := blk_frozen BK157.out) | ((with_reducible refine gate_callee (f := 28) rfl ?_); refine goesL_ (some 16) rfl rfl Tryz.func28 (by kernel_rfl) rfl #[.string a0_0] rfl (by (try simp only [List.map_toArray, List.map_cons, List.map_nil]); first | done | rfl | (simp only [List.length_drop, List.length_take]; rfl)) ?_; (with_reducible refine (mti_Parse.calls a0_0 t158 t159 t160 t161 t162 _ A2.out).mono ?_); rintro e w37 ⟨rfl, hb⟩; refine ⟨_, rfl, ?_⟩; have n0_ := Aside0.mk (blk_below (g := gb157) (o := .cells #[.string a0_0, .slice A0_1 l0_1.length c0_1] 32 (0, 0)) (by (with_reducible repeat (first | refine blk_drewN ?_ _ | refine blk_drew ?_ | refine blk_alloc ?_ _)); exact BK157.out) hb); have n1_ := Aside0.mk (below_step (by repeat (first | (with_reducible first | exact HB.out | apply below_alloc | apply pw_below_drewN | apply below_drew1 | refine below_set ?_ GE157.out) | exact HB.out)) hb); clear BK157; clear HB; have BK157 := n0_; have HB := n1_; clear n0_ n1_; (try clear hb); (try clear hb2); (try clear hk); (try clear hi)) | ((with_reducible refine gate_dst (N := 4) rfl ?_); refine box_event ?hg (N := 4) ?hd (cs := #[.int .i64 0, .bool false, .bool false, .bool false]) (t := 62) ?hr ?_; (case hd => rfl); (case hg => rfl); (case hr => first | (go_simp; done) | (go_simp; rfl)); intro gb163 hg w38 hbox hb; have n0_ := Aside0.mk (blk_below (g := gb157) (o := .cells #[.string a0_0, .slice A0_1 l0_1.length c0_1] 32 (0, 0)) (by (with_reducible repeat (first | refine blk_drewN ?_ _ | refine blk_drew ?_ | refine blk_alloc ?_ _)); exact BK157.out) hb); have n1_ := Aside0.mk (below_step (by repeat (first | (with_reducible first | exact HB.out | apply below_alloc | apply pw_below_drewN | apply below_drew1 | refine below_set ?_ GE157.out) | exact HB.out)) hb); have n2_ := Aside0.mk (hbox); have n3_ := Aside0.mk ((by rw [hg]; exact (below_size (by repeat (first | (with_reducible first | exact HB.out | apply below_alloc | apply pw_below_drewN | apply below_drew1 | refine below_set ?_ GE157.out) | exact HB.out))) : w.heap.size ≤ gb163)); have n4_ := Aside0.mk ((by rw [hg]; exact (below_size (by repeat (first | (with_reducible first | exact HB.out | apply below_alloc | apply pw_below_drewN | apply below_drew1 | refine below_set ?_ GE157.out) | exact HB.out))) : w.heap.size ≤ gb163)); have n5_ := Aside0.mk ((by rw [hg]; exact Nat.ne_of_lt (blk_lt (g := gb157) (o := .cells #[.string a0_0, .slice A0_1 l0_1.length c0_1] 32 (0, 0)) (by (with_reducible repeat (first | refine blk_drewN ?_ _ | refine blk_drew ?_ | refine blk_alloc ?_ _)); exact BK157.out)) : gb157 ≠ gb163)); have n6_ := Aside0.mk ((by rw [hg]; exact Nat.ne_of_gt (blk_lt (g := gb157) (o := .cells #[.string a0_0, .slice A0_1 l0_1.length c0_1] 32 (0, 0)) (by (with_reducible repeat (first | refine blk_drewN ?_ _ | refine blk_drew ?_ | refine blk_alloc ?_ _)); exact BK157.out)) : gb163 ≠ gb157)); clear BK157; clear HB; have BK157 := n0_; have HB := n1_; have BK163 := n2_; have GW163 := n3_; have GE163 := n4_; have NB157_163 := n5_; have NB163_157 := n6_; clear n0_ n1_ n2_ n3_ n4_ n5_ n6_; clear hb hbox hg; have hnb39 := NB163_157.out; have hnc39 := NB157_163.out; have hcz40_0 := blk_cell BK163.out; have hfz40_0 := blk_frozen BK163.out; have hcz41_0 := blk_cell BK157.out; have hfz41_0 := blk_frozen BK157.out) | ((with_reducible refine gate_callee (f := 51) rfl ?_); refine goesL_ (some 25) rfl rfl Tryz.func51 (by kernel_rfl) rfl #[.slice A0_1 l0_1.length c0_1] rfl (by (try simp only [List.map_toArray, List.map_cons, List.map_nil]); first | done | rfl | (simp only [List.length_drop, List.length_take]; rfl)) ?_; (with_reducible refine (iso_numbers.calls k _ _ l0_1 t164 _ ?side1 ?side2 A4.out).mono ?_); (case side1 => exact Kd.C_below HR0_1.out (by repeat (first | (with_reducible first | exact HB.out | apply below_alloc | apply pw_below_drewN | apply below_drew1 | refine below_set ?_ GE157.out | refine below_set ?_ GE163.out) | exact HB.out))); (case side2 => exact HC0_1.out); rintro e w42 ⟨v165, rfl, ho0, hb⟩; refine ⟨_, rfl, ?_⟩; have n0_ := Aside0.mk (Kd.R_lower ho0 (below_size (by repeat (first | (with_reducible first | exact HB.out | apply below_alloc | apply pw_below_drewN | apply below_drew1 | refine below_set ?_ GE157.out | refine below_set ?_ GE163.out) | exact HB.out)))); have n1_ := Aside0.mk (blk_below (g := gb157) (o := .cells #[.string a0_0, .slice A0_1 l0_1.length c0_1] 32 (0, 0)) (by (with_reducible repeat (first | refine blk_drewN ?_ _ | refine blk_drew ?_ | refine blk_alloc ?_ _)); refine blk_far ?_ NB157_163.out _; (with_reducible repeat (first | refine blk_drewN ?_ _ | refine blk_drew ?_ | refine blk_alloc ?_ _)); refine blk_far ?_ NB157_163.out _; (with_reducible repeat (first | refine blk_drewN ?_ _ | refine blk_drew ?_ | refine blk_alloc ?_ _)); refine blk_far ?_ NB157_163.out _; (with_reducible repeat (first | refine blk_drewN ?_ _ | refine blk_drew ?_ | refine blk_alloc ?_ _)); refine blk_far ?_ NB157_163.out _; (with_reducible repeat (first | refine blk_drewN ?_ _ | refine blk_drew ?_ | refine blk_alloc ?_ _)); exact BK157.out) hb); have n2_ := Aside0.mk (blk_below (g := gb163) (o := .cells #[.int .i64 t158, .bool t159, .bool t160, .bool t161] 62 (0, 0)) (by (with_reducible repeat (first | refine blk_drewN ?_ _ | refine blk_drew ?_ | refine blk_alloc ?_ _)); refine blk_put (cs := #[.int .i64 t158, .bool t159, .bool t160, .bool false]) ?_ 3 _ rfl; (with_reducible repeat (first | refine blk_drewN ?_ _ | refine blk_drew ?_ | refine blk_alloc ?_ _)); refine blk_put (cs := #[.int .i64 t158, .bool t159, .bool false, .bool false]) ?_ 2 _ rfl; (with_reducible repeat (first | refine blk_drewN ?_ _ | refine blk_drew ?_ | refine blk_alloc ?_ _)); refine blk_put (cs := #[.int .i64 t158, .bool false, .bool false, .bool false]) ?_ 1 _ rfl; (with_reducible repeat (first | refine blk_drewN ?_ _ | refine blk_drew ?_ | refine blk_alloc ?_ _)); refine blk_put (cs := #[.int .i64 0, .bool false, .bool false, .bool false]) ?_ 0 _ rfl; (with_reducible repeat (first | refine blk_drewN ?_ _ | refine blk_drew ?_ | refine blk_alloc ?_ _)); exact BK163.out) hb); have n3_ := Aside0.mk (below_step (by repeat (first | (with_reducible first | exact HB.out | apply below_alloc | apply pw_below_drewN | apply below_drew1 | refine below_set ?_ GE157.out | refine below_set ?_ GE163.out) | exact HB.out)) hb); clear BK157; clear BK163; clear HB; have HO166 := n0_; have BK157 := n1_; have BK163 := n2_; have HB := n3_; clear n0_ n1_ n2_ n3_; (try clear hb); (try clear hb2); (try clear hk); (try clear hi); (try clear ho0); obtain ⟨Ao43, co43, eo43⟩ := Kd.R_slice HO166.out; subst eo43) | ((with_reducible refine gate_callee (f := 50) rfl ?_); refine goesL_ (some 26) rfl rfl Tryz.func50 (by kernel_rfl) rfl #[.slice Ao43 t164.length co43] rfl (by (try simp only [List.map_toArray, List.map_cons, List.map_nil]); first | done | rfl | (simp only [List.length_drop, List.length_take]; rfl)) ?_; (with_reducible refine (bitmap_Map.calls k _ _ t164 t167 t168 _ ?side1 ?side2 A5.out (HT.out.below (by repeat (first | (with_reducible first | exact HB.out | apply below_alloc | apply pw_below_drewN | apply below_drew1 | refine below_set ?_ GE157.out | refine below_set ?_ GE163.out) | exact HB.out)))).mono ?_); (case side1 => repeat (first | exact (Kd.R_reads' HO166.out).2.2 | (with_reducible refine Kd.C_alloc ?_ _) | (with_reducible refine Kd.C_drewN ?_ _) | (with_reducible refine Kd.C_drew ?_))); (case side2 => exact (Kd.R_reads' HO166.out).2.1); rintro e w44 ⟨rfl, hb⟩; refine ⟨_, rfl, ?_⟩; have n0_ := Aside0.mk (Kd.R_below (by (with_reducible repeat (first | apply Kd.R_alloc | apply Kd.R_drewN | apply Kd.R_drew)); exact HO166.out) hb); have n1_ := Aside0.mk (blk_below (g := gb157) (o := .cells #[.string a0_0, .slice A0_1 l0_1.length c0_1] 32 (0, 0)) (by (with_reducible repeat (first | refine blk_drewN ?_ _ | refine blk_drew ?_ | refine blk_alloc ?_ _)); exact BK157.out) hb); have n2_ := Aside0.mk (blk_below (g := gb163) (o := .cells #[.int .i64 t158, .bool t159, .bool t160, .bool t161] 62 (0, 0)) (by (with_reducible repeat (first | refine blk_drewN ?_ _ | refine blk_drew ?_ | refine blk_alloc ?_ _)); exact BK163.out) hb); have n3_ := Aside0.mk (below_step (by repeat (first | (with_reducible first | exact HB.out | apply below_alloc | apply pw_below_drewN | apply below_drew1 | refine below_set ?_ GE157.out | refine below_set ?_ GE163.out) | exact HB.out)) hb); clear HO166; clear BK157; clear BK163; clear HB; have HO166 := n0_; have BK157 := n1_; have BK163 := n2_; have HB := n3_; clear n0_ n1_ n2_ n3_; (try clear hb); (try clear hb2); (try clear hk); (try clear hi)))
      go_ret2
      exact ⟨by first | rfl | (simp [errW_none, errW_some] <;> rfl) | (simp [*, errW_none, errW_some] <;> rfl), by repeat (first | (with_reducible first | exact HB.out | apply below_alloc | apply pw_below_drewN | apply below_drew1 | refine below_set ?_ GE157.out | refine below_set ?_ GE163.out) | exact HB.out)⟩
  · rw [if_neg c3] at H
    have c3b0 : (t162 == 0) = false := beq_eq_false_iff_ne.mpr c3
    have c3b1 : (t162 != 0) = true := bne_iff_ne.mpr c3
    simp only [Option.some.injEq, Prod.mk.injEq] at H
    obtain ⟨rfl, rfl⟩ := H
    go_enter Tryz.func27, Tryz.ntmps27
    go_wp2_with (first | ((with_reducible refine gate_dst (N := 1) rfl ?_); refine box_event ?hg (N := 1) ?hd (cs := #[.string a0_0, .slice A0_1 l0_1.length c0_1]) (t := 32) ?hr ?_; (case hd => rfl); (case hg => rfl); (case hr => first | (go_simp; done) | (go_simp; rfl)); intro gb157 hg w45 hbox hb; have n0_ := Aside0.mk (below_step (by repeat (first | (with_reducible first | exact HB.out | apply below_alloc | apply pw_below_drewN | apply below_drew1) | exact HB.out)) hb); have n1_ := Aside0.mk (hbox); have n2_ := Aside0.mk ((by rw [hg]; exact (below_size (by repeat (first | (with_reducible first | exact HB.out | apply below_alloc | apply pw_below_drewN | apply below_drew1) | exact HB.out))) : w.heap.size ≤ gb157)); have n3_ := Aside0.mk ((by rw [hg]; exact (below_size (by repeat (first | (with_reducible first | exact HB.out | apply below_alloc | apply pw_below_drewN | apply below_drew1) | exact HB.out))) : w.heap.size ≤ gb157)); clear HB; have HB := n0_; have BK157 := n1_; have GW157 := n2_; have GE157 := n3_; clear n0_ n1_ n2_ n3_; clear hb hbox hg; have hcz46_0 := blk_cell BK157.out; have hfz46_0 := blk_frozen BK157.out) | ((with_reducible refine gate_callee (f := 28) rfl ?_); refine goesL_ (some 16) rfl rfl Tryz.func28 (by kernel_rfl) rfl #[.string a0_0] rfl (by (try simp only [List.map_toArray, List.map_cons, List.map_nil]); first | done | rfl | (simp only [List.length_drop, List.length_take]; rfl)) ?_; (with_reducible refine (mti_Parse.calls a0_0 t158 t159 t160 t161 t162 _ A2.out).mono ?_); rintro e w47 ⟨rfl, hb⟩; refine ⟨_, rfl, ?_⟩; have n0_ := Aside0.mk (blk_below (g := gb157) (o := .cells #[.string a0_0, .slice A0_1 l0_1.length c0_1] 32 (0, 0)) (by (with_reducible repeat (first | refine blk_drewN ?_ _ | refine blk_drew ?_ | refine blk_alloc ?_ _)); exact BK157.out) hb); have n1_ := Aside0.mk (below_step (by repeat (first | (with_reducible first | exact HB.out | apply below_alloc | apply pw_below_drewN | apply below_drew1 | refine below_set ?_ GE157.out) | exact HB.out)) hb); clear BK157; clear HB; have BK157 := n0_; have HB := n1_; clear n0_ n1_; (try clear hb); (try clear hb2); (try clear hk); (try clear hi)) | ((with_reducible refine gate_dst (N := 4) rfl ?_); refine box_event ?hg (N := 4) ?hd (cs := #[.int .i64 0, .bool false, .bool false, .bool false]) (t := 62) ?hr ?_; (case hd => rfl); (case hg => rfl); (case hr => first | (go_simp; done) | (go_simp; rfl)); intro gb163 hg w48 hbox hb; have n0_ := Aside0.mk (blk_below (g := gb157) (o := .cells #[.string a0_0, .slice A0_1 l0_1.length c0_1] 32 (0, 0)) (by (with_reducible repeat (first | refine blk_drewN ?_ _ | refine blk_drew ?_ | refine blk_alloc ?_ _)); exact BK157.out) hb); have n1_ := Aside0.mk (below_step (by repeat (first | (with_reducible first | exact HB.out | apply below_alloc | apply pw_below_drewN | apply below_drew1 | refine below_set ?_ GE157.out) | exact HB.out)) hb); have n2_ := Aside0.mk (hbox); have n3_ := Aside0.mk ((by rw [hg]; exact (below_size (by repeat (first | (with_reducible first | exact HB.out | apply below_alloc | apply pw_below_drewN | apply below_drew1 | refine below_set ?_ GE157.out) | exact HB.out))) : w.heap.size ≤ gb163)); have n4_ := Aside0.mk ((by rw [hg]; exact (below_size (by repeat (first | (with_reducible first | exact HB.out | apply below_alloc | apply pw_below_drewN | apply below_drew1 | refine below_set ?_ GE157.out) | exact HB.out))) : w.heap.size ≤ gb163)); have n5_ := Aside0.mk ((by rw [hg]; exact Nat.ne_of_lt (blk_lt (g := gb157) (o := .cells #[.string a0_0, .slice A0_1 l0_1.length c0_1] 32 (0, 0)) (by (with_reducible repeat (first | refine blk_drewN ?_ _ | refine blk_drew ?_ | refine blk_alloc ?_ _)); exact BK157.out)) : gb157 ≠ gb163)); have n6_ := Aside0.mk ((by rw [hg]; exact Nat.ne_of_gt (blk_lt (g := gb157) (o := .cells #[.string a0_0, .slice A0_1 l0_1.length c0_1] 32 (0, 0)) (by (with_reducible repeat (first | refine blk_drewN ?_ _ | refine blk_drew ?_ | refine blk_alloc ?_ _)); exact BK157.out)) : gb163 ≠ gb157)); clear BK157; clear HB; have BK157 := n0_; have HB := n1_; have BK163 := n2_; have GW163 := n3_; have GE163 := n4_; have NB157_163 := n5_; have NB163_157 := n6_; clear n0_ n1_ n2_ n3_ n4_ n5_ n6_; clear hb hbox hg; have hnb49 := NB163_157.out; have hnc49 := NB157_163.out; have hcz50_0 := blk_cell BK163.out; have hfz50_0 := blk_frozen BK163.out))
    go_ret2
    exact ⟨by first | rfl | (simp [errW_none, errW_some] <;> rfl) | (simp [*, errW_none, errW_some] <;> rfl), by repeat (first | (with_reducible first | exact HB.out | apply below_alloc | apply pw_below_drewN | apply below_drew1 | refine below_set ?_ GE157.out | refine below_set ?_ GE163.out) | exact HB.out)⟩

/-! ### iso_Pack: function 7 -/
def iso_Pack.f (k : Nat) (a0_0 : ByteArray) (l0_1 : List (S56)) : Option (ByteArray × Int) := (iso_pack.f k a0_0 l0_1).bind fun bt174 => (if bt174.2 = 0 then (if (bt174.1.size : Int) > 4000 then (some ((⟨#[]⟩ : ByteArray), 9)) else (some (bt174.1, bt174.2))) else (some (bt174.1, bt174.2)))
theorem iso_Pack.mono : ∀ a0 a1 k, LeO (iso_Pack.f k a0 a1) (iso_Pack.f (k + 1) a0 a1) := by
  intro a0 a1 k
  unfold iso_Pack.f
  repeat' first
      | (with_reducible exact iso_pack.mono _ _ _)
      | (with_reducible exact LeO.refl _)
      | (with_reducible exact LeO.none _)
      | (with_reducible refine LeO.ite ?_ ?_)
      | (with_reducible refine LeO.bind ?_ (fun _ => ?_))
      | exact iso_pack.mono _ _ _
      | exact LeO.none _
      | refine LeO.ite ?_ ?_
      | refine LeO.bind ?_ (fun _ => ?_)
set_option maxHeartbeats 8000000 in
set_option maxRecDepth 100000 in
theorem iso_Pack.calls (k : Nat) (a0_0 : ByteArray) (A0_1 : Option Addr) (c0_1 : Nat) (l0_1 : List (S56)) (r1 : ByteArray) (r2 : Int) (w : World) (hr0_1 : Kd.C k56 w A0_1 l0_1.length l0_1) (hc0_1 : l0_1.length ≤ c0_1) (h : iso_Pack.f k a0_0 l0_1 = some (r1, r2)) (HT0 : As.Env w) :
    Calls Tryz.prog 7 #[.agg #[.string a0_0, .slice A0_1 l0_1.length c0_1]] w fun e w' => e = .returned (.tuple #[.string r1, .int .i64 r2]) ∧ Below w.heap.size w w' := by
  have hu32 := Tryz.underlying32
  have HR0_1 := Aside0.mk hr0_1
  have HC0_1 := Aside0.mk hc0_1
  clear hr0_1 hc0_1
  have HT := Aside0.mk HT0
  clear HT0
  have HB := Aside0.mk (Below.refl w.heap.size w)
  have H : ((iso_pack.f k a0_0 l0_1).bind fun bt174 => (if bt174.2 = 0 then (if (bt174.1.size : Int) > 4000 then (some ((⟨#[]⟩ : ByteArray), 9)) else (some (bt174.1, bt174.2))) else (some (bt174.1, bt174.2)))) = some (r1, r2) := h
  clear h
  replace H := Option.bind_eq_some_iff.mp H
  obtain ⟨⟨t174, t175⟩, A20, H⟩ := H
  replace H : (if t175 = 0 then (if (t174.size : Int) > 4000 then (some ((⟨#[]⟩ : ByteArray), 9)) else (some (t174, t175))) else (some (t174, t175))) = some (r1, r2) := H
  have A2 := Aside0.mk A20
  clear A20
  by_cases c3 : t175 = 0
  · rw [if_pos c3] at H
    have c3b0 : (t175 == 0) = true := beq_iff_eq.mpr c3
    have c3b1 : (t175 != 0) = false := bne_eq_false_iff_eq.mpr c3
    clear c3
    by_cases c4 : (t174.size : Int) > 4000
    · rw [if_pos c4] at H
      have c4b0 : decide (4000 < (t174.size : Int)) = true := decide_eq_true c4
      have c4b1 : decide (4000 < t174.size) = true := decide_eq_true (by omega)
      clear c4
      simp only [Option.some.injEq, Prod.mk.injEq] at H
      obtain ⟨rfl, rfl⟩ := H
      go_enter Tryz.func7, Tryz.ntmps7
      go_wp2_with (first | ((with_reducible refine gate_dst (N := 1) rfl ?_); (try (refine gate_guard (by rfl) ?_; dsimp only)); refine box_event ?hg (N := 1) ?hd (cs := #[.string a0_0, .slice A0_1 l0_1.length c0_1]) (t := 32) ?hr ?_; (case hd => rfl); (case hg => rfl); (case hr => first | (go_simp; done) | (go_simp; rfl)); intro gb173 hg w5 hbox hb; have n0_ := Aside0.mk (below_step (by repeat (first | (with_reducible first | exact HB.out | apply below_alloc | apply pw_below_drewN | apply below_drew1) | exact HB.out)) hb); have n1_ := Aside0.mk (hbox); have n2_ := Aside0.mk ((by rw [hg]; exact (below_size (by repeat (first | (with_reducible first | exact HB.out | apply below_alloc | apply pw_below_drewN | apply below_drew1) | exact HB.out))) : w.heap.size ≤ gb173)); have n3_ := Aside0.mk ((by rw [hg]; exact (below_size (by repeat (first | (with_reducible first | exact HB.out | apply below_alloc | apply pw_below_drewN | apply below_drew1) | exact HB.out))) : w.heap.size ≤ gb173)); clear HB; have HB := n0_; have BK173 := n1_; have GW173 := n2_; have GE173 := n3_; clear n0_ n1_ n2_ n3_; clear hb hbox hg; have hcz6_0 := blk_cell BK173.out; have hfz6_0 := blk_frozen BK173.out) | ((with_reducible refine gate_callee (f := 27) rfl ?_); refine goesL_ (some 8) rfl rfl Tryz.func27 (by kernel_rfl) rfl #[.agg #[.string a0_0, .slice A0_1 l0_1.length c0_1]] rfl (by (try simp only [List.map_toArray, List.map_cons, List.map_nil]); first | done | rfl | (simp only [List.length_drop, List.length_take]; rfl)) ?_; (with_reducible refine (iso_pack.calls k a0_0 _ _ l0_1 t174 t175 _ ?side1 ?side2 A2.out (HT.out.below (by repeat (first | (with_reducible first | exact HB.out | apply below_alloc | apply pw_below_drewN | apply below_drew1 | refine below_set ?_ GE173.out) | exact HB.out)))).mono ?_); (case side1 => repeat (first | exact (Kd.C_below HR0_1.out HB.out) | (with_reducible refine Kd.C_alloc ?_ _) | (with_reducible refine Kd.C_drewN ?_ _) | (with_reducible refine Kd.C_drew ?_))); (case side2 => exact HC0_1.out); rintro e w7 ⟨rfl, hb⟩; refine ⟨_, rfl, ?_⟩; have n0_ := Aside0.mk (blk_below (g := gb173) (o := .cells #[.string a0_0, .slice A0_1 l0_1.length c0_1] 32 (0, 0)) (by (with_reducible repeat (first | refine blk_drewN ?_ _ | refine blk_drew ?_ | refine blk_alloc ?_ _)); exact BK173.out) hb); have n1_ := Aside0.mk (below_step (by repeat (first | (with_reducible first | exact HB.out | apply below_alloc | apply pw_below_drewN | apply below_drew1 | refine below_set ?_ GE173.out) | exact HB.out)) hb); clear BK173; clear HB; have BK173 := n0_; have HB := n1_; clear n0_ n1_; (try clear hb); (try clear hb2); (try clear hk); (try clear hi)))
      go_ret2
      exact ⟨by first | rfl | (simp [errW_none, errW_some] <;> rfl) | (simp [*, errW_none, errW_some] <;> rfl), by repeat (first | (with_reducible first | exact HB.out | apply below_alloc | apply pw_below_drewN | apply below_drew1 | refine below_set ?_ GE173.out) | exact HB.out)⟩
    · rw [if_neg c4] at H
      have c4b0 : decide (4000 < (t174.size : Int)) = false := decide_eq_false c4
      have c4b1 : decide (4000 < t174.size) = false := decide_eq_false (by omega)
      clear c4
      simp only [Option.some.injEq, Prod.mk.injEq] at H
      obtain ⟨rfl, rfl⟩ := H
      go_enter Tryz.func7, Tryz.ntmps7
      go_wp2_with (first | ((with_reducible refine gate_dst (N := 1) rfl ?_); (try (refine gate_guard (by rfl) ?_; dsimp only)); refine box_event ?hg (N := 1) ?hd (cs := #[.string a0_0, .slice A0_1 l0_1.length c0_1]) (t := 32) ?hr ?_; (case hd => rfl); (case hg => rfl); (case hr => first | (go_simp; done) | (go_simp; rfl)); intro gb173 hg w8 hbox hb; have n0_ := Aside0.mk (below_step (by repeat (first | (with_reducible first | exact HB.out | apply below_alloc | apply pw_below_drewN | apply below_drew1) | exact HB.out)) hb); have n1_ := Aside0.mk (hbox); have n2_ := Aside0.mk ((by rw [hg]; exact (below_size (by repeat (first | (with_reducible first | exact HB.out | apply below_alloc | apply pw_below_drewN | apply below_drew1) | exact HB.out))) : w.heap.size ≤ gb173)); have n3_ := Aside0.mk ((by rw [hg]; exact (below_size (by repeat (first | (with_reducible first | exact HB.out | apply below_alloc | apply pw_below_drewN | apply below_drew1) | exact HB.out))) : w.heap.size ≤ gb173)); clear HB; have HB := n0_; have BK173 := n1_; have GW173 := n2_; have GE173 := n3_; clear n0_ n1_ n2_ n3_; clear hb hbox hg; have hcz9_0 := blk_cell BK173.out; have hfz9_0 := blk_frozen BK173.out) | ((with_reducible refine gate_callee (f := 27) rfl ?_); refine goesL_ (some 8) rfl rfl Tryz.func27 (by kernel_rfl) rfl #[.agg #[.string a0_0, .slice A0_1 l0_1.length c0_1]] rfl (by (try simp only [List.map_toArray, List.map_cons, List.map_nil]); first | done | rfl | (simp only [List.length_drop, List.length_take]; rfl)) ?_; (with_reducible refine (iso_pack.calls k a0_0 _ _ l0_1 t174 t175 _ ?side1 ?side2 A2.out (HT.out.below (by repeat (first | (with_reducible first | exact HB.out | apply below_alloc | apply pw_below_drewN | apply below_drew1 | refine below_set ?_ GE173.out) | exact HB.out)))).mono ?_); (case side1 => repeat (first | exact (Kd.C_below HR0_1.out HB.out) | (with_reducible refine Kd.C_alloc ?_ _) | (with_reducible refine Kd.C_drewN ?_ _) | (with_reducible refine Kd.C_drew ?_))); (case side2 => exact HC0_1.out); rintro e w10 ⟨rfl, hb⟩; refine ⟨_, rfl, ?_⟩; have n0_ := Aside0.mk (blk_below (g := gb173) (o := .cells #[.string a0_0, .slice A0_1 l0_1.length c0_1] 32 (0, 0)) (by (with_reducible repeat (first | refine blk_drewN ?_ _ | refine blk_drew ?_ | refine blk_alloc ?_ _)); exact BK173.out) hb); have n1_ := Aside0.mk (below_step (by repeat (first | (with_reducible first | exact HB.out | apply below_alloc | apply pw_below_drewN | apply below_drew1 | refine below_set ?_ GE173.out) | exact HB.out)) hb); clear BK173; clear HB; have BK173 := n0_; have HB := n1_; clear n0_ n1_; (try clear hb); (try clear hb2); (try clear hk); (try clear hi)))
      go_ret2
      exact ⟨by first | rfl | (simp [errW_none, errW_some] <;> rfl) | (simp [*, errW_none, errW_some] <;> rfl), by repeat (first | (with_reducible first | exact HB.out | apply below_alloc | apply pw_below_drewN | apply below_drew1 | refine below_set ?_ GE173.out) | exact HB.out)⟩
  · rw [if_neg c3] at H
    have c3b0 : (t175 == 0) = false := beq_eq_false_iff_ne.mpr c3
    have c3b1 : (t175 != 0) = true := bne_iff_ne.mpr c3
    simp only [Option.some.injEq, Prod.mk.injEq] at H
    obtain ⟨rfl, rfl⟩ := H
    go_enter Tryz.func7, Tryz.ntmps7
    go_wp2_with (first | ((with_reducible refine gate_dst (N := 1) rfl ?_); (try (refine gate_guard (by rfl) ?_; dsimp only)); refine box_event ?hg (N := 1) ?hd (cs := #[.string a0_0, .slice A0_1 l0_1.length c0_1]) (t := 32) ?hr ?_; (case hd => rfl); (case hg => rfl); (case hr => first | (go_simp; done) | (go_simp; rfl)); intro gb173 hg w11 hbox hb; have n0_ := Aside0.mk (below_step (by repeat (first | (with_reducible first | exact HB.out | apply below_alloc | apply pw_below_drewN | apply below_drew1) | exact HB.out)) hb); have n1_ := Aside0.mk (hbox); have n2_ := Aside0.mk ((by rw [hg]; exact (below_size (by repeat (first | (with_reducible first | exact HB.out | apply below_alloc | apply pw_below_drewN | apply below_drew1) | exact HB.out))) : w.heap.size ≤ gb173)); have n3_ := Aside0.mk ((by rw [hg]; exact (below_size (by repeat (first | (with_reducible first | exact HB.out | apply below_alloc | apply pw_below_drewN | apply below_drew1) | exact HB.out))) : w.heap.size ≤ gb173)); clear HB; have HB := n0_; have BK173 := n1_; have GW173 := n2_; have GE173 := n3_; clear n0_ n1_ n2_ n3_; clear hb hbox hg; have hcz12_0 := blk_cell BK173.out; have hfz12_0 := blk_frozen BK173.out) | ((with_reducible refine gate_callee (f := 27) rfl ?_); refine goesL_ (some 8) rfl rfl Tryz.func27 (by kernel_rfl) rfl #[.agg #[.string a0_0, .slice A0_1 l0_1.length c0_1]] rfl (by (try simp only [List.map_toArray, List.map_cons, List.map_nil]); first | done | rfl | (simp only [List.length_drop, List.length_take]; rfl)) ?_; (with_reducible refine (iso_pack.calls k a0_0 _ _ l0_1 t174 t175 _ ?side1 ?side2 A2.out (HT.out.below (by repeat (first | (with_reducible first | exact HB.out | apply below_alloc | apply pw_below_drewN | apply below_drew1 | refine below_set ?_ GE173.out) | exact HB.out)))).mono ?_); (case side1 => repeat (first | exact (Kd.C_below HR0_1.out HB.out) | (with_reducible refine Kd.C_alloc ?_ _) | (with_reducible refine Kd.C_drewN ?_ _) | (with_reducible refine Kd.C_drew ?_))); (case side2 => exact HC0_1.out); rintro e w13 ⟨rfl, hb⟩; refine ⟨_, rfl, ?_⟩; have n0_ := Aside0.mk (blk_below (g := gb173) (o := .cells #[.string a0_0, .slice A0_1 l0_1.length c0_1] 32 (0, 0)) (by (with_reducible repeat (first | refine blk_drewN ?_ _ | refine blk_drew ?_ | refine blk_alloc ?_ _)); exact BK173.out) hb); have n1_ := Aside0.mk (below_step (by repeat (first | (with_reducible first | exact HB.out | apply below_alloc | apply pw_below_drewN | apply below_drew1 | refine below_set ?_ GE173.out) | exact HB.out)) hb); clear BK173; clear HB; have BK173 := n0_; have HB := n1_; clear n0_ n1_; (try clear hb); (try clear hb2); (try clear hk); (try clear hi)))
    go_ret2
    exact ⟨by first | rfl | (simp [errW_none, errW_some] <;> rfl) | (simp [*, errW_none, errW_some] <;> rfl), by repeat (first | (with_reducible first | exact HB.out | apply below_alloc | apply pw_below_drewN | apply below_drew1 | refine below_set ?_ GE173.out) | exact HB.out)⟩

-- NOT PRINTED: function 55 (bitmap_bits)

/-! ### bitmap_Read: function 29 -/
section
attribute [local go_sem] Oper.semAt_some
/-- the map of the fields 2, 3, 4, 7, 11, 32, 37 -/
def hdT : ByteArray := ⟨#[114, 32, 0, 1, 8, 0, 0, 0]⟩
def hdL : List Int := [2, 3, 4, 7, 11, 32, 37]
def mskT (n : Nat) : Int := shr .u8 128 (((n - 1) % 8 : Nat) : Int)
def bitT (n : Nat) : Bool := decide ((n : Int) ∈ hdL)
def hdPre (k : Nat) : List Int := hdL.filter fun x => decide (x < (k : Int))
theorem mskT_all : (List.range 64).all (fun n => (mskT (n + 1) == shr .u8 128 (Int.tmod (wrap64 ((n + 1 : Nat) - 1)) 8)) && ((wrap64 (Int.tdiv (wrap64 ((n + 1 : Nat) - 1)) 8)) == ((n / 8 : Nat) : Int)) && ((bits BinOp.and IntKind.u8 ((hdT.data.getD (n / 8) 0).toNat : Int) (mskT (n + 1)) != 0) == bitT (n + 1)) && (decide (hdPre (n + 1 + 1) = hdPre (n + 1) ++ (if bitT (n + 1) then [((n + 1 : Nat) : Int)] else [])))) = true := by kernel_rfl
theorem mskT_at (n : Nat) (h1 : 1 ≤ n) (h2 : n ≤ 64) : mskT n = shr .u8 128 (Int.tmod (wrap64 ((n : Int) - 1)) 8) ∧ wrap64 (Int.tdiv (wrap64 ((n : Int) - 1)) 8) = (((n - 1) / 8 : Nat) : Int) ∧ (∀ h : (n - 1) / 8 < hdT.size, (bits BinOp.and IntKind.u8 ((hdT[(n - 1) / 8]'h).toNat : Int) (mskT n) != 0) = bitT n) ∧ hdPre (n + 1) = hdPre n ++ (if bitT n then [(n : Int)] else []) := by
  have h := List.all_eq_true.mp mskT_all (n - 1) (List.mem_range.mpr (by omega))
  rw [Bool.and_eq_true, Bool.and_eq_true, Bool.and_eq_true, beq_iff_eq, beq_iff_eq, beq_iff_eq, decide_eq_true_iff, show n - 1 + 1 = n by omega] at h
  obtain ⟨⟨⟨a, b⟩, c⟩, d⟩ := h
  refine ⟨a, b, fun hh => ?_, d⟩
  rw [← c]
  have e : hdT.data.getD ((n - 1) / 8) 0 = hdT[(n - 1) / 8]'hh := by
    rw [Array.getD_eq_getD_getElem?, Array.getElem?_eq_getElem (by exact hh)]; rfl
  rw [e]
theorem hdPre_all : (List.range 66).all (fun k => (hdPre k).isPrefixOf hdL) = true := by kernel_rfl
theorem hdPre_prefix (k : Nat) (h : k ≤ 65) : hdPre k <+: hdL := List.isPrefixOf_iff_prefix.mp (List.all_eq_true.mp hdPre_all k (List.mem_range.mpr (by omega)))
/-- what a round must keep for the iterator: the text that it has captured -/
def KeepC (b : Nat) (A B : World) : Prop := ∀ v, A.cell? ⟨b, 0, none⟩ = some v → B.cell? ⟨b, 0, none⟩ = some v
theorem keepC_b (b : Nat) (W : World) (l : Nat) (o o' : Obj) (hl : W.heap[l]? = some o) (ho : o.isCells = false) : KeepC b W (W.putObj l o') := fun v hv =>
  cell_kept hv (grownBy_putObj' W l o') (fun r e => by cases e; exact ⟨o, hl, ho⟩)
set_option maxRecDepth 100000 in
set_option maxHeartbeats 2000000 in
theorem bits1_in (l Bs : Nat) (J Jx : List Int → World → Prop)
    (hY : ∀ pre x W, J pre W → pre.length < 7 → YieldAt Fence.wide 2 Tryz.prog l #[.int .i64 x] W fun e W' =>
      (e = .returned (.bool true) ∧ J (pre ++ [x]) W' ∧ KeepC Bs W W') ∨ (e = .returned (.bool false) ∧ Jx (pre ++ [x]) W'))
    (W : World) (hJD : ∀ pre A B, J pre A → Drawn0 A B → J pre B) (hBs : W.cell? ⟨Bs, 0, none⟩ = some (.string hdT)) (h0 : J [] W) :
    CallsIn Fence.wide 3 Tryz.prog 83 #[.func (.yield l) #[] #[], .pointer (some ⟨Bs, 0, none⟩)] W fun e W' => (∃ v, e = .returned v) ∧
      ((∃ ys, ys = hdL ∧ J ys W') ∨ (∃ pre, pre <+: hdL ∧ Jx pre W')) := by
  refine callsIn_of_wp Tryz.func83 rfl trivial ?_ rfl
  simp only [Tryz.ntmps83, List.size_toArray, List.length_cons, List.length_nil, Nat.reduceAdd, Nat.reduceSub, Array.replicate_succ, Array.replicate_zero, List.push_toArray, List.append_toArray, List.nil_append, List.cons_append]
  gi_wp2
  gi_loopw [3] (fun i wr => ∃ k : Nat, 1 ≤ k ∧ k ≤ 65 ∧ i = .int .i64 k ∧ J (hdPre k) wr ∧ wr.cell? ⟨Bs, 0, none⟩ = some (.string hdT))
    (fun i _ => 65 - (intOf i).toNat)
  case atStart => exact ⟨1, by omega, by omega, rfl, h0, hBs⟩
  case round =>
    obtain ⟨k, hk1, hk2, rfl, hJs, hcx⟩ := hrel
    by_cases hlt : k ≤ 64
    · obtain ⟨hm1, hm2, hm3, hm4⟩ := mskT_at k hk1 hlt
      have hA : (k - 1) / 8 < 8 := by omega
      have hbit : ∀ V : World, Calls Tryz.prog 80 #[.int .i64 (k : Int)] V fun e V' => e = .returned (.tuple #[.int .i64 (((k - 1) / 8 : Nat) : Int), .int .u8 (mskT k)]) ∧ Drawn0 V V' := fun V => by
        refine bitmap_bit.calls (k : Int) _ _ V ?_
        unfold bitmap_bit.f
        rw [hm2, ← hm1, if_pos (by have : wrap64 ((k : Int) - 1) = (k : Int) - 1 := by unfold wrap64; omega
                                   rw [this]; exact Int.tmod_nonneg _ (by omega))]
      generalize hAe : (k - 1) / 8 = A at hA hm3 hbit
      generalize mskT k = M at hm3 hbit
      have hk8 : (k : Int) ≤ 64 := by omega
      have hm3' := hm3 hA
      have hsz : hdT.size = 8 := rfl
      clear hm1 hm2 hm3 hAe
      have HM4 := Lib.hid hm4
      clear hm4
      cases hq : bitT k with
      | true =>
        rw [hq] at hm3'
        have hz : ¬ bits BinOp.and IntKind.u8 ((hdT[A]'hA).toNat : Int) M = 0 := by
          intro h0; rw [h0] at hm3'; cases hm3'
        have hlen : (hdPre k).length < 7 := by
          have h := HM4.out
          rw [hq, if_pos rfl] at h
          have h2 : (hdPre (k + 1)).length ≤ 7 := List.length_filter_le _ _
          rw [h, List.length_append] at h2
          exact h2
        have HQ := Lib.hid hq
        clear hq
        gi_wp2_with (refine ⟨trivial, ?_⟩; gi_at_call 80; refine (callsIn_wide.2 (hbit _)).mono ?_; rintro e w1 ⟨rfl, hD⟩; have hJ1 := hJD _ _ _ hJs hD; have hcx1 : w1.cell? ⟨Bs, 0, none⟩ = some (.string hdT) := (by obtain ⟨⟨q, rfl⟩⟩ := hD; exact hcx); clear hD; obtain ⟨fn, tmps, assign, body, hy, hR⟩ := hY _ (k : Int) w1 hJ1 hlen)
        refine hR.mono ?_
        rintro e W3 (⟨rfl, hJ3, hk3⟩ | ⟨rfl, hJx3⟩)
        · gi_wp2
          go_roundw
          case rel => exact ⟨k + 1, by omega, by omega, by simp, by rw [HM4.out, HQ.out, if_pos rfl]; exact hJ3, hk3 _ hcx1⟩
          case measure => simp [intOf]; omega
        · gi_wp2
          refine bodyPost_ret (results_none rfl _ _ _) rfl ?_
          exact ⟨⟨_, rfl⟩, .inr ⟨hdPre (k + 1), hdPre_prefix (k + 1) (by omega), by rw [HM4.out, HQ.out, if_pos rfl]; exact hJx3⟩⟩
      | false =>
        rw [hq] at hm3'
        have hz : bits BinOp.and IntKind.u8 ((hdT[A]'hA).toNat : Int) M = 0 := by
          rcases Decidable.em (bits BinOp.and IntKind.u8 ((hdT[A]'hA).toNat : Int) M = 0) with h | h
          · exact h
          · rw [bne_iff_ne.mpr h] at hm3'; cases hm3'
        have HQ := Lib.hid hq
        clear hq
        gi_wp2_with (refine ⟨trivial, ?_⟩; gi_at_call 80; refine (callsIn_wide.2 (hbit _)).mono ?_; rintro e w1 ⟨rfl, hD⟩; have hJ1 := hJD _ _ _ hJs hD; have hcx1 : w1.cell? ⟨Bs, 0, none⟩ = some (.string hdT) := (by obtain ⟨⟨q, rfl⟩⟩ := hD; exact hcx); clear hD)
        refine ⟨fun _ h => (by cases h), ?_⟩
        gi_wp2
        go_roundw
        case rel => exact ⟨k + 1, by omega, by omega, by simp, by rw [HM4.out, HQ.out, if_neg (by simp), List.append_nil]; exact hJ1, hcx1⟩
        case measure => simp [intOf]; omega
    · obtain rfl : k = 65 := by omega
      have hsz : hdT.size = 8 := rfl
      gi_wp2
      go_end0
      exact ⟨⟨_, rfl⟩, .inl ⟨_, rfl, hJs⟩⟩
theorem bits_stops (Bs : Nat) (w : World) (hb : Bs < w.heap.size) (hc : w.cell? ⟨Bs, 0, none⟩ = some (.string hdT)) :
    SeqStopsK Fence.wide 3 Tryz.prog 83 #[.pointer (some ⟨Bs, 0, none⟩)] (fun x : Int => #[Value.int .i64 x]) (KeepC Bs) (fun ys => ys = hdL) (fun pre => pre <+: hdL) 7 w := fun l J Jx W hW hJ _ hY h0 =>
  bits1_in l Bs J Jx hY W (fun pre A B hA hD => by obtain ⟨⟨q, rfl⟩⟩ := hD; exact hJ pre A _ none hA ⟨rfl, rfl, rfl, Nat.le_refl _, fun _ _ _ => rfl⟩ (fun r e => by cases e)) ((hW.cell (p := ⟨Bs, 0, none⟩) hb).trans hc) h0
theorem info3_ : (Tryz.prog.info? 3).map (fun i => (i.zero, i.size, i.bytes)) = some (some (.int .i64 0), 1, 8) := by kernel_rfl
theorem map_hd : bitmap_Map.f 20 hdL = some (hdT, 0) := by kernel_rfl
theorem reps_ints : ∀ (W : World) (base : Nat) (ok : Nat → Prop) (xs : List Int), Reps (Kd.M (Kd.int .i64) W base ok) 1 xs (xs.map (Value.int .i64)) := by
  intro W base ok xs
  refine ⟨by simp, fun m p hm => ?_⟩
  have hlt : m < xs.length := (List.getElem?_eq_some_iff.mp hm).1
  obtain rfl : xs[m] = p := (List.getElem?_eq_some_iff.mp hm).2
  rw [Nat.mul_one, ← List.map_drop, ← List.map_take, List.drop_eq_getElem_cons hlt]
  rfl
theorem R_ints {W : World} {base : Nat} {v : Value} {xs : List Int} (h : W.ownsRow base 3 1 v xs.length (xs.map (Value.int .i64))) : Kd.R (Kd.int .i64) 3 W base (fun _ => True) v xs :=
  ⟨fun _ _ => trivial, _, h, reps_ints _ _ _ _⟩
def bposF (pre : List Int) : List Int := pre.filter fun x => decide (1 < x)
theorem bpos_hit (pre : List Int) {x : Int} (h : 1 < x) : bposF (pre ++ [x]) = bposF pre ++ [x] := by simp [bposF, h]
theorem bpos_miss (pre : List Int) {x : Int} (h : ¬ 1 < x) : bposF (pre ++ [x]) = bposF pre := by simp [bposF, h]
theorem bits_w (W : World) : Calls Tryz.prog 55 #[.string hdT] W fun e W' => e = .returned (.func (.func 83) #[] #[.pointer (some ⟨W.heap.size, 0, none⟩)]) ∧ W' = W.alloc (.cells #[.string hdT] 9) := by
  go_enter Tryz.func55, Tryz.ntmps55
  go_wp2
  go_ret
  exact ⟨rfl, rfl⟩
set_option maxRecDepth 100000 in
set_option maxHeartbeats 4000000 in
theorem bread_in (s : ByteArray) (h8 : 8 ≤ s.size) (hsm : s.size ≤ 100000) (hx : s.extract 0 8 = hdT) (w : World) (HT0 : As.Env w) :
    CallsIn Fence.wide 4 Tryz.prog 29 #[.string s] w fun e W' => ∃ v, e = .returned (.tuple #[v, .int .i64 8, .int .i64 0]) ∧ W'.ownsRow w.heap.size 3 1 v 7 (hdL.map (Value.int .i64)) ∧ Below w.heap.size w W' := by
  obtain ⟨i0, hi, hz0, hz1, hz2⟩ := info_parts info3_
  obtain ⟨hn1, hn2, hn3⟩ := x_nil_no (s := s) (by omega)
  have hb0 : (((s[0]'(by omega)).toNat : Nat) : Int) = 114 := by
    have h := congrArg (fun b : ByteArray => b.data[0]?) hx
    simp only [ByteArray.data_extract, Array.getElem?_extract] at h
    rw [if_pos (by have : s.data.size = s.size := rfl; omega)] at h
    rw [Nat.zero_add, Array.getElem?_eq_getElem (show 0 < s.data.size by have : s.data.size = s.size := rfl; omega)] at h
    have h2 := Option.some.inj h
    show (((s.data[0]'(show 0 < s.data.size by have : s.data.size = s.size := rfl; omega)).toNat : Nat) : Int) = 114
    rw [h2]; rfl
  have hbit : bits BinOp.and IntKind.u8 114 128 = 0 := by kernel_rfl
  have hlt8 : ¬ (s.size : Int) < 8 := by omega
  have hle8 : (8 : Int) ≤ (s.size : Int) := by omega
  refine callsIn_of_wp_marks Tryz.func29 rfl trivial ?_ rfl
  simp only [Tryz.ntmps29, List.size_toArray, List.length_cons, List.length_nil, Nat.reduceAdd, Nat.reduceSub, Array.replicate_succ, Array.replicate_zero, List.push_toArray, List.append_toArray, List.nil_append, List.cons_append]
  gi_wp2_with (refine ⟨trivial, ?_⟩; gi_at_call 55; refine (callsIn_wide.2 (bits_w _)).mono ?_; rintro e w' ⟨rfl, rfl⟩)
  have bO := Boxed.new w 65 (.slice none 0 0)
  have bN := Boxed.new (w.alloc (.cells #[.slice none 0 0] 65)) 9 (.string hdT)
  rw [World.size_alloc] at bN
  have hB0 : Below w.heap.size w ((w.alloc (.cells #[.slice none 0 0] 65)).alloc (.cells #[.string hdT] 9)) := ((Below.refl _ w).alloc (Nat.le_refl _) _).alloc (by simp) _
  refine wpIn_rangeFunc_ownG rfl (by omega) (gf := 83) (lb := #[.pointer (some ⟨w.heap.size + 1, 0, none⟩)]) rfl trivial (enters_of Tryz.func83 (by kernel_rfl) rfl)
    (bits_stops (w.heap.size + 1) _ (by simp) bN.cell) (fun h1 h2 v hv => h2 v (h1 v hv)) (fun W l o o' _ hl ho _ => keepC_b _ W l o o' hl ho) (Below.refl _ _) (fun _ => rfl)
    (fun pre W => ((∃ v, Boxed W w.heap.size 65 v ∧ W.ownsRow w.heap.size 3 1 v (bposF pre).length ((bposF pre).map (Value.int .i64)) ∧ (v = .slice none 0 0 ↔ bposF pre = [])) ∧ Boxed W (w.heap.size + 1) 9 (.string hdT)) ∧ Below w.heap.size w W)
    (fun _ _ _ => False)
    (OwnFrom.and (OwnFrom.and (Own.from (holdsRow_own w.heap.size w.heap.size 65 3 1 (fun pre => (bposF pre).length) (fun pre => (bposF pre).map (Value.int .i64)) (fun pre v => v = .slice none 0 0 ↔ bposF pre = [])) _) (Own.from (boxed_own (w.heap.size + 1) 9 (fun _ => .string hdT)) _)) (ownFrom_below (Nat.le_refl _) (by simp; omega)))
    (fun _ _ _ _ _ hs _ _ => hs)
    ⟨⟨⟨_, bO.alloc _, World.ownsRow_nil _ _ _ _, by simp [bposF]⟩, bN⟩, hB0⟩
    (fun x => { tmps := #[.string s, undef, .slice none 0 0, .int .i64 0, .int .i64 0, .int .i64 8, .pointer (some ⟨w.heap.size, 0, none⟩), .int .i64 x, undef, undef, .string s, .bool true, .bool true, .string s, .int .u8 114, .int .u8 0, .bool false, .bool false, undef, undef, .string s, .int .i64 s.size, .int .i64 8, .bool false, .string s, .int .i64 8, .string hdT, .func (.func 83) #[] #[.pointer (some ⟨w.heap.size + 1, 0, none⟩)], .int .i64 x, undef, undef, undef, undef, undef, undef, undef, undef, undef, undef, undef, undef, undef, undef, undef, undef, undef, undef, undef, undef, undef, undef], defers := [] }) ?assign ?body ?done ?stop
  case assign =>
    intro l x W K hK
    gi_wp2
    exact hK
  case body =>
    rintro l pre x W ⟨⟨⟨v, hv, hrow, hnil⟩, hN⟩, hB⟩ hlt
    have hc := hv.cell
    have hpl : (bposF pre).length ≤ pre.length := List.length_filter_le _ _
    gi_wp2_with (gi_at_builtin; refine wpListIn_append_own _ rfl _ _ 65 rfl w.heap.size 3 i0 (.int .i64 0) 1 8 Tryz.underlying65 hi hz0 hz1 hz2 rfl (by decide) _ _ _ rfl (hrow.alloc _) ⟨W.heap.size, 0, none⟩ 1 1 [.int .i64 x] rfl rfl (cell_one_new _ _ _) (by simp [Value.oneCell']) (by unfold maxLen; omega) (by omega) (by have := hB.size; simp; omega) ?_; intro v' w1 hown' hgrow _; obtain ⟨g', cap', rfl⟩ := ownsRow_succ hown'; have hN1 := (hN.alloc _).kept hgrow (hN.not_row (by decide) hrow); obtain ⟨hv1, hv2, hr2, hk2, hb2⟩ := hv.appended (by decide) hrow hB.size (Nat.le_refl _) hown' hgrow; have hc1 := hv1.cell; have hf1 := hv1.frozen)
    · have hx : 1 < x := by assumption
      have hN2 := hN1.other (B' := w.heap.size) (by omega) (.slice (some ⟨g', 0, none⟩) ((bposF pre).length + 1) cap')
      exact ⟨hk2.from _, (fun u hu => by rw [hN.cell] at hu; cases hu; exact hN2.cell), ⟨⟨_, hv2, by rw [bpos_hit pre hx]; simpa using hr2, by rw [bpos_hit pre hx]; simp⟩, hN2⟩, hB.trans hb2⟩
    · have hx : x ≤ 1 := by assumption
      exact ⟨KeepsFrom.refl _ _, (fun u hu => hu), ⟨⟨v, hv, by rw [bpos_miss pre (by omega)]; exact hrow, by rw [bpos_miss pre (by omega)]; exact hnil⟩, hN⟩, hB⟩
  case done =>
    rintro D ys W hD rfl ⟨⟨⟨v, hv, hrow, hnil⟩, hN⟩, hB⟩ hK
    rw [show bposF hdL = hdL from by decide] at hrow
    have hR := R_ints hrow
    obtain ⟨g', cap', rfl⟩ := ownsRow_succ (k := 6) hrow
    obtain ⟨-, hnc, hC⟩ := Kd.R_reads' hR
    have hHT := HT0.below hB
    have hmap := bitmap_Map.calls 20 (some ⟨g', 0, none⟩) cap' hdL hdT 0 W hC hnc map_hd hHT
    have hc := hv.cell
    clear hR hC hnil
    have HROW := Lib.hid hrow
    have HV := Lib.hid hv
    have HB := Lib.hid hB
    have HK := Lib.hid hK
    clear hrow hv hB hK hN
    gi_wp2_with (refine ⟨trivial, ?_⟩; gi_at_call 50; refine (callsIn_wide.2 hmap).mono ?_; rintro e w1 ⟨rfl, hb1⟩; have hc1 : w1.cell? ⟨w.heap.size, 0, none⟩ = some (.slice (some ⟨g', 0, none⟩) 7 cap') := (hb1.cell (p := ⟨w.heap.size, 0, none⟩) (HV.out.lt)).trans HV.out.cell; have HB1 := Lib.hid hb1; clear hb1)
    have hDW : D < W.heap.size := (Array.getElem?_eq_some_iff.1 HK.out).1
    have hK1 : w1.heap[D]? = some (.deferred (some [])) := (HB1.out.block D hDW).trans HK.out
    have hrow1 := pw_own_below HROW.out HB1.out
    refine ⟨by simp, .inl ⟨_, _, rfl, run_takeDeferred hK1, ?_⟩⟩
    refine ⟨.tuple #[.slice (some ⟨g', 0, none⟩) 7 cap', .int .i64 8, .int .i64 0], results_list (rs := [.tmp 2, .tmp 3, .tmp 4]) (vs := [.slice (some ⟨g', 0, none⟩) 7 cap', .int .i64 8, .int .i64 0]) rfl (by simp) ?_, .slice (some ⟨g', 0, none⟩) 7 cap', rfl, ownsRow_putObj hrow1 _ hK1 rfl, (HB.out.trans (HB1.out.mono HB.out.size)).trans (belowK_b (w := w) (Nat.le_refl _) w1 D _ _ (by simp at hD; omega) hK1 rfl rfl)⟩
    exact .tmp (.tmp (.tmp .nil))
  case stop =>
    rintro D c pre W _ _ h _
    exact h.elim
end
def bitmap_Read.f (a0 : ByteArray) : Option (List Int × Int × Int) := if 8 ≤ a0.size ∧ a0.size ≤ 100000 ∧ a0.extract 0 8 = hdT then some (hdL, 8, 0) else none
theorem bitmap_Read.calls (a0 : ByteArray) (r1 : List Int) (r2 : Int) (r3 : Int) (w : World) (h : bitmap_Read.f a0 = some (r1, r2, r3)) (HT0 : As.Env w) :
    Calls Tryz.prog 29 #[.string a0] w fun e w' => ∃ v0_ : Value, e = .returned (.tuple #[v0_, .int .i64 r2, .int .i64 r3]) ∧ Kd.R (Kd.int .i64) 3 w' w.heap.size (fun _ => True) v0_ r1 ∧ Below w.heap.size w w' := by
  unfold bitmap_Read.f at h
  split at h
  case isFalse => cases h
  case isTrue hb =>
  obtain ⟨h8, hsm, hx⟩ := hb
  have h1 := congrArg Prod.fst (Option.some.inj h)
  have h2 := congrArg (fun x => x.2.1) (Option.some.inj h)
  have h3 := congrArg (fun x => x.2.2) (Option.some.inj h)
  simp only at h1 h2 h3
  rw [← h1, ← h2, ← h3]
  refine (callsIn_wide.1 (bread_in a0 h8 hsm hx w HT0)).mono ?_
  rintro e w' ⟨v, rfl, ho, hB⟩
  exact ⟨v, rfl, R_ints ho, hB⟩


end Go.Proofs.YtnelnmlhlmocdaaGreatDoor.XB
