-- Written by wip/xprint.py, a session's program: printed out of the translation, with hand-written functions. Lean checks it.
import Derived.Test.YtkfpocggjbfomaaDoorXT0
import Derived.Test.YtkfpocggjbfomaaDoorXT1
import Derived.Test.YtkfpocggjbfomaaDoorXT2
import Derived.Test.YtkfpocggjbfomaaDoorXT4
import Derived.Test.YtkfpocggjbfomaaDoorXT8
import Derived.Test.YtkfpocggjbfomaaDoorXT9
import Derived.Test.YtkfpocggjbfomaaDoorXT16
import Derived.Test.YtkfpocggjbfomaaDoorXT17
namespace Go.Proofs.YtkfpocggjbfomaaDoor.XT
open Go.RowKit Go.Proofs.YtkfpocggjbfomaaDoorW.PrintWords Go.Proofs.YtkfpocggjbfomaaDoorW.PrintLast Go.Proofs.YtkfpocggjbfomaaDoorW.PrintMore
attribute [local go_sem] max2_int min2_int max_two min_two max_three min_three max_four min_four   -- for this text's walks alone
set_option linter.unusedVariables false
set_option linter.unusedSimpArgs false

attribute [local go_sem high] eqA23
/-! ### bursarlaw26_DisputeTexts: function 3 -/
mutual
def bursarlaw26_DisputeTexts.j0 : Nat → Int → Bool → ByteArray → ByteArray → ByteArray → Int → Int → Int → ByteArray → ByteArray → ByteArray → Int → Int → Int → ByteArray → ByteArray → ByteArray → Int → Int → Int → Option (Bool)
  | 0, _, _, _, _, _, _, _, _, _, _, _, _, _, _, _, _, _, _, _, _ => none
  | k + 1, x6, x8, x345000, x345001, x345002, x345003, x345004, x345005, x360000, x360001, x360002, x360003, x360004, x360005, x368000, x368001, x368002, x368003, x368004, x368005 => if (!(x360000.toList == x368000.toList) || (!(x360001.toList == x368001.toList) || (!(x360002.toList == x368002.toList) || (!(x360003 == x368003) || (!(x360004 == x368004) || (!(x360005 == x368005))))))) = true then (bursarlaw26_DisputeTexts.j1 k true x345000 x345001 x345002 x345003 x345004 x345005) else (if ((x6 == 0) != x8) = true then (bursarlaw26_DisputeTexts.j1 k true x345000 x345001 x345002 x345003 x345004 x345005) else (if x8 = true then (bursarlaw26_DisputeTexts.j1 k false x345000 x345001 x345002 x345003 x345004 x345005) else (bursarlaw26_DisputeTexts.j1 k (x6 != 4) x345000 x345001 x345002 x345003 x345004 x345005)))
def bursarlaw26_DisputeTexts.j1 : Nat → Bool → ByteArray → ByteArray → ByteArray → Int → Int → Int → Option (Bool)
  | 0, _, _, _, _, _, _, _ => none
  | k + 1, x54, x345000, x345001, x345002, x345003, x345004, x345005 => if x54 = true then (none) else ((dispute_Text.f x345000 x345001 x345002 x345003 x345004 x345005).bind fun bt368 => ((bursarref26_May.f x345000 x345001 x345002 x345003 x345004 x345005).bind fun t370 => (if t370 = true then ((dispute_Parse.f x345000 x345001 bt368.1).bind fun bt371 => ((bursarref26_Text.f k x345000 x345001 x345002 x345003 x345004 x345005).bind fun t379 => (if bt368.1.toList = t379.toList then (if bt368.2 = 0 then (if (bt371.1.toList == x345000.toList && (bt371.2.1.toList == x345001.toList && (bt371.2.2.1.toList == x345002.toList && (bt371.2.2.2.1 == x345003 && (bt371.2.2.2.2.1 == x345004 && (bt371.2.2.2.2.2.1 == x345005)))))) = true then (if bt371.2.2.2.2.2.2 = 0 then ((bursarlaw26_awake.f k).bind fun t380 => (some t380)) else (none)) else (none)) else (none)) else (none)))) else (if bt368.1.toList = ([] : List UInt8) then (if bt368.2 = 1 then ((bursarlaw26_awake.f k).bind fun t381 => (some t381)) else (none)) else (none)))))
end
def bursarlaw26_DisputeTexts.f (k : Nat) (a0_0 : ByteArray) (a0_1 : ByteArray) (a0_2 : ByteArray) (a0_3 : Int) (a0_4 : Int) (a0_5 : Int) (a1 : ByteArray) : Option (Bool) := (bursarlaw26_few.f a0_0 a0_1 a0_2 a0_3 a0_4 a0_5).bind fun bt345 => ((bursarlaw26_text.f a1).bind fun t351 => ((dispute_Parse.f bt345.1 bt345.2.1 t351).bind fun bt352 => ((bursarref26_Parse.f k bt345.1 bt345.2.1 t351).bind fun bt360 => (if bt360.2.2.2.2.2.2 = true then (bursarlaw26_DisputeTexts.j0 k bt352.2.2.2.2.2.2 bt360.2.2.2.2.2.2 bt345.1 bt345.2.1 bt345.2.2.1 bt345.2.2.2.1 bt345.2.2.2.2.1 bt345.2.2.2.2.2 bt352.1 bt352.2.1 bt352.2.2.1 bt352.2.2.2.1 bt352.2.2.2.2.1 bt352.2.2.2.2.2.1 bt360.1 bt360.2.1 bt360.2.2.1 bt360.2.2.2.1 bt360.2.2.2.2.1 bt360.2.2.2.2.2.1) else (bursarlaw26_DisputeTexts.j0 k bt352.2.2.2.2.2.2 bt360.2.2.2.2.2.2 bt345.1 bt345.2.1 bt345.2.2.1 bt345.2.2.2.1 bt345.2.2.2.2.1 bt345.2.2.2.2.2 bt352.1 bt352.2.1 bt352.2.2.1 bt352.2.2.2.1 bt352.2.2.2.2.1 bt352.2.2.2.2.2.1 (⟨#[]⟩ : ByteArray) (⟨#[]⟩ : ByteArray) (⟨#[]⟩ : ByteArray) 0 0 0)))))
theorem bursarlaw26_DisputeTexts.mono_l : ∀ k, (∀ y0 y1 y2 y3 y4 y5 y6 y7 y8 y9 y10 y11 y12 y13 y14 y15 y16 y17 y18 y19, LeO (bursarlaw26_DisputeTexts.j0 k y0 y1 y2 y3 y4 y5 y6 y7 y8 y9 y10 y11 y12 y13 y14 y15 y16 y17 y18 y19) (bursarlaw26_DisputeTexts.j0 (k + 1) y0 y1 y2 y3 y4 y5 y6 y7 y8 y9 y10 y11 y12 y13 y14 y15 y16 y17 y18 y19)) ∧ (∀ y0 y1 y2 y3 y4 y5 y6, LeO (bursarlaw26_DisputeTexts.j1 k y0 y1 y2 y3 y4 y5 y6) (bursarlaw26_DisputeTexts.j1 (k + 1) y0 y1 y2 y3 y4 y5 y6))
  | 0 => ⟨fun _ _ _ _ _ _ _ _ _ _ _ _ _ _ _ _ _ _ _ _ r h => by simp [bursarlaw26_DisputeTexts.j0] at h, fun _ _ _ _ _ _ _ r h => by simp [bursarlaw26_DisputeTexts.j1] at h⟩
  | k + 1 => by
    obtain ⟨ih0, ih1⟩ := bursarlaw26_DisputeTexts.mono_l k
    refine ⟨?_, ?_⟩
    all_goals
      intros
      first
      | unfold bursarlaw26_DisputeTexts.j0
      | unfold bursarlaw26_DisputeTexts.j1
      repeat' first
      | (with_reducible exact ih0 _ _ _ _ _ _ _ _ _ _ _ _ _ _ _ _ _ _ _ _)
      | (with_reducible exact ih1 _ _ _ _ _ _ _)
      | (with_reducible exact bursarlaw26_awake.mono _)
      | (with_reducible exact bursarref26_Parse.mono _ _ _ _)
      | (with_reducible exact bursarref26_Text.mono _ _ _ _ _ _ _)
      | (with_reducible exact LeO.refl _)
      | (with_reducible exact LeO.none _)
      | (with_reducible refine LeO.ite ?_ ?_)
      | (with_reducible refine LeO.bind ?_ (fun _ => ?_))
      | exact ih0 _ _ _ _ _ _ _ _ _ _ _ _ _ _ _ _ _ _ _ _
      | exact ih1 _ _ _ _ _ _ _
      | exact bursarlaw26_awake.mono _
      | exact bursarref26_Parse.mono _ _ _ _
      | exact bursarref26_Text.mono _ _ _ _ _ _ _
      | exact LeO.none _
      | refine LeO.ite ?_ ?_
      | refine LeO.bind ?_ (fun _ => ?_)
theorem bursarlaw26_DisputeTexts.mono : ∀ a0 a1 a2 a3 a4 a5 a6 k, LeO (bursarlaw26_DisputeTexts.f k a0 a1 a2 a3 a4 a5 a6) (bursarlaw26_DisputeTexts.f (k + 1) a0 a1 a2 a3 a4 a5 a6) := by
  intro a0 a1 a2 a3 a4 a5 a6 k
  obtain ⟨ih0, ih1⟩ := bursarlaw26_DisputeTexts.mono_l k
  unfold bursarlaw26_DisputeTexts.f
  repeat' first
      | (with_reducible exact ih0 _ _ _ _ _ _ _ _ _ _ _ _ _ _ _ _ _ _ _ _)
      | (with_reducible exact ih1 _ _ _ _ _ _ _)
      | (with_reducible exact bursarlaw26_awake.mono _)
      | (with_reducible exact bursarref26_Parse.mono _ _ _ _)
      | (with_reducible exact bursarref26_Text.mono _ _ _ _ _ _ _)
      | (with_reducible exact LeO.refl _)
      | (with_reducible exact LeO.none _)
      | (with_reducible refine LeO.ite ?_ ?_)
      | (with_reducible refine LeO.bind ?_ (fun _ => ?_))
      | exact ih0 _ _ _ _ _ _ _ _ _ _ _ _ _ _ _ _ _ _ _ _
      | exact ih1 _ _ _ _ _ _ _
      | exact bursarlaw26_awake.mono _
      | exact bursarref26_Parse.mono _ _ _ _
      | exact bursarref26_Text.mono _ _ _ _ _ _ _
      | exact LeO.none _
      | refine LeO.ite ?_ ?_
      | refine LeO.bind ?_ (fun _ => ?_)
set_option maxHeartbeats 8000000 in
set_option maxRecDepth 100000 in
theorem bursarlaw26_DisputeTexts.calls (k : Nat) (a0_0 : ByteArray) (a0_1 : ByteArray) (a0_2 : ByteArray) (a0_3 : Int) (a0_4 : Int) (a0_5 : Int) (a1 : ByteArray) (r : Bool) (w : World) (h : bursarlaw26_DisputeTexts.f k a0_0 a0_1 a0_2 a0_3 a0_4 a0_5 a1 = some r) (HT0 : Fu.Tab w) :
    Calls Tryd.prog 3 #[.agg #[.string a0_0, .string a0_1, .string a0_2, .int .i64 a0_3, .int .i64 a0_4, .int .i64 a0_5], .string a1] w fun e w' => e = .returned (.bool r) ∧ Below w.heap.size w w' := by
  have hu23 := Tryd.underlying23
  have HT := Aside0.mk HT0
  clear HT0
  have HB := Aside0.mk (Below.refl w.heap.size w)
  have H : ((bursarlaw26_few.f a0_0 a0_1 a0_2 a0_3 a0_4 a0_5).bind fun bt345 => ((bursarlaw26_text.f a1).bind fun t351 => ((dispute_Parse.f bt345.1 bt345.2.1 t351).bind fun bt352 => ((bursarref26_Parse.f k bt345.1 bt345.2.1 t351).bind fun bt360 => (if bt360.2.2.2.2.2.2 = true then (bursarlaw26_DisputeTexts.j0 k bt352.2.2.2.2.2.2 bt360.2.2.2.2.2.2 bt345.1 bt345.2.1 bt345.2.2.1 bt345.2.2.2.1 bt345.2.2.2.2.1 bt345.2.2.2.2.2 bt352.1 bt352.2.1 bt352.2.2.1 bt352.2.2.2.1 bt352.2.2.2.2.1 bt352.2.2.2.2.2.1 bt360.1 bt360.2.1 bt360.2.2.1 bt360.2.2.2.1 bt360.2.2.2.2.1 bt360.2.2.2.2.2.1) else (bursarlaw26_DisputeTexts.j0 k bt352.2.2.2.2.2.2 bt360.2.2.2.2.2.2 bt345.1 bt345.2.1 bt345.2.2.1 bt345.2.2.2.1 bt345.2.2.2.2.1 bt345.2.2.2.2.2 bt352.1 bt352.2.1 bt352.2.2.1 bt352.2.2.2.1 bt352.2.2.2.2.1 bt352.2.2.2.2.2.1 (⟨#[]⟩ : ByteArray) (⟨#[]⟩ : ByteArray) (⟨#[]⟩ : ByteArray) 0 0 0)))))) = some r := h
  clear h
  replace H := Option.bind_eq_some_iff.mp H
  obtain ⟨⟨t345, t346, t347, t348, t349, t350⟩, A30, H⟩ := H
  replace H : ((bursarlaw26_text.f a1).bind fun t351 => ((dispute_Parse.f t345 t346 t351).bind fun bt352 => ((bursarref26_Parse.f k t345 t346 t351).bind fun bt360 => (if bt360.2.2.2.2.2.2 = true then (bursarlaw26_DisputeTexts.j0 k bt352.2.2.2.2.2.2 bt360.2.2.2.2.2.2 t345 t346 t347 t348 t349 t350 bt352.1 bt352.2.1 bt352.2.2.1 bt352.2.2.2.1 bt352.2.2.2.2.1 bt352.2.2.2.2.2.1 bt360.1 bt360.2.1 bt360.2.2.1 bt360.2.2.2.1 bt360.2.2.2.2.1 bt360.2.2.2.2.2.1) else (bursarlaw26_DisputeTexts.j0 k bt352.2.2.2.2.2.2 bt360.2.2.2.2.2.2 t345 t346 t347 t348 t349 t350 bt352.1 bt352.2.1 bt352.2.2.1 bt352.2.2.2.1 bt352.2.2.2.2.1 bt352.2.2.2.2.2.1 (⟨#[]⟩ : ByteArray) (⟨#[]⟩ : ByteArray) (⟨#[]⟩ : ByteArray) 0 0 0))))) = some r := H
  have A3 := Aside0.mk A30
  clear A30
  replace H := Option.bind_eq_some_iff.mp H
  obtain ⟨t351, A40, H⟩ := H
  replace H : ((dispute_Parse.f t345 t346 t351).bind fun bt352 => ((bursarref26_Parse.f k t345 t346 t351).bind fun bt360 => (if bt360.2.2.2.2.2.2 = true then (bursarlaw26_DisputeTexts.j0 k bt352.2.2.2.2.2.2 bt360.2.2.2.2.2.2 t345 t346 t347 t348 t349 t350 bt352.1 bt352.2.1 bt352.2.2.1 bt352.2.2.2.1 bt352.2.2.2.2.1 bt352.2.2.2.2.2.1 bt360.1 bt360.2.1 bt360.2.2.1 bt360.2.2.2.1 bt360.2.2.2.2.1 bt360.2.2.2.2.2.1) else (bursarlaw26_DisputeTexts.j0 k bt352.2.2.2.2.2.2 bt360.2.2.2.2.2.2 t345 t346 t347 t348 t349 t350 bt352.1 bt352.2.1 bt352.2.2.1 bt352.2.2.2.1 bt352.2.2.2.2.1 bt352.2.2.2.2.2.1 (⟨#[]⟩ : ByteArray) (⟨#[]⟩ : ByteArray) (⟨#[]⟩ : ByteArray) 0 0 0)))) = some r := H
  have A4 := Aside0.mk A40
  clear A40
  replace H := Option.bind_eq_some_iff.mp H
  obtain ⟨⟨t352, t353, t354, t355, t356, t357, t358⟩, A50, H⟩ := H
  replace H : ((bursarref26_Parse.f k t345 t346 t351).bind fun bt360 => (if bt360.2.2.2.2.2.2 = true then (bursarlaw26_DisputeTexts.j0 k t358 bt360.2.2.2.2.2.2 t345 t346 t347 t348 t349 t350 t352 t353 t354 t355 t356 t357 bt360.1 bt360.2.1 bt360.2.2.1 bt360.2.2.2.1 bt360.2.2.2.2.1 bt360.2.2.2.2.2.1) else (bursarlaw26_DisputeTexts.j0 k t358 bt360.2.2.2.2.2.2 t345 t346 t347 t348 t349 t350 t352 t353 t354 t355 t356 t357 (⟨#[]⟩ : ByteArray) (⟨#[]⟩ : ByteArray) (⟨#[]⟩ : ByteArray) 0 0 0))) = some r := H
  have A5 := Aside0.mk A50
  clear A50
  replace H := Option.bind_eq_some_iff.mp H
  obtain ⟨⟨t360, t361, t362, t363, t364, t365, t366⟩, A60, H⟩ := H
  replace H : (if t366 = true then (bursarlaw26_DisputeTexts.j0 k t358 t366 t345 t346 t347 t348 t349 t350 t352 t353 t354 t355 t356 t357 t360 t361 t362 t363 t364 t365) else (bursarlaw26_DisputeTexts.j0 k t358 t366 t345 t346 t347 t348 t349 t350 t352 t353 t354 t355 t356 t357 (⟨#[]⟩ : ByteArray) (⟨#[]⟩ : ByteArray) (⟨#[]⟩ : ByteArray) 0 0 0)) = some r := H
  have A6 := Aside0.mk A60
  clear A60
  have HC7 := Aside0.mk H
  clear H
  go_enter Tryd.func3, Tryd.ntmps3
  go_upto_if 36 with (first | ((with_reducible refine gate_dst (N := 2) rfl ?_); refine box_event ?hg (N := 2) ?hd (cs := #[.string a0_0, .string a0_1, .string a0_2, .int .i64 a0_3, .int .i64 a0_4, .int .i64 a0_5]) (t := 23) ?hr ?_; (case hd => rfl); (case hg => rfl); (case hr => first | (go_simp; done) | (go_simp; rfl)); intro gb344 hg w8 hbox hb; have n0_ := Aside0.mk (below_step (by repeat (first | (with_reducible first | exact HB.out | apply below_alloc | apply pw_below_drewN | apply below_drew1) | exact HB.out)) hb); have n1_ := Aside0.mk (hbox); have n2_ := Aside0.mk ((by rw [hg]; exact (below_size (by repeat (first | (with_reducible first | exact HB.out | apply below_alloc | apply pw_below_drewN | apply below_drew1) | exact HB.out))) : w.heap.size ≤ gb344)); have n3_ := Aside0.mk ((by rw [hg]; exact (below_size (by repeat (first | (with_reducible first | exact HB.out | apply below_alloc | apply pw_below_drewN | apply below_drew1) | exact HB.out))) : w.heap.size ≤ gb344)); clear HB; have HB := n0_; have BK344 := n1_; have GW344 := n2_; have GE344 := n3_; clear n0_ n1_ n2_ n3_; clear hb hbox hg; have hcz9_0 := blk_cell BK344.out; have hfz9_0 := blk_frozen BK344.out) | ((with_reducible refine gate_callee (f := 4) rfl ?_); refine goesL_ (some 14) rfl rfl Tryd.func4 (by kernel_rfl) rfl #[.agg #[.string a0_0, .string a0_1, .string a0_2, .int .i64 a0_3, .int .i64 a0_4, .int .i64 a0_5]] rfl (by (try simp only [List.map_toArray, List.map_cons, List.map_nil]); first | done | rfl | (simp only [List.length_drop, List.length_take]; rfl)) ?_; (with_reducible refine (bursarlaw26_few.calls a0_0 a0_1 a0_2 a0_3 a0_4 a0_5 t345 t346 t347 t348 t349 t350 _ A3.out).mono ?_); rintro e w10 ⟨rfl, hb⟩; refine ⟨_, rfl, ?_⟩; have n0_ := Aside0.mk (blk_below (g := gb344) (o := .cells #[.string a0_0, .string a0_1, .string a0_2, .int .i64 a0_3, .int .i64 a0_4, .int .i64 a0_5] 23 (0, 0)) (by (with_reducible repeat (first | refine blk_drewN ?_ _ | refine blk_drew ?_ | refine blk_alloc ?_ _)); exact BK344.out) hb); have n1_ := Aside0.mk (below_step (by repeat (first | (with_reducible first | exact HB.out | apply below_alloc | apply pw_below_drewN | apply below_drew1 | refine below_set ?_ GE344.out) | exact HB.out)) hb); clear BK344; clear HB; have BK344 := n0_; have HB := n1_; clear n0_ n1_; (try clear hb); (try clear hb2); (try clear hk); (try clear hi)) | ((with_reducible refine gate_callee (f := 5) rfl ?_); refine goesL_ (some 16) rfl rfl Tryd.func5 (by kernel_rfl) rfl #[.string a1] rfl (by (try simp only [List.map_toArray, List.map_cons, List.map_nil]); first | done | rfl | (simp only [List.length_drop, List.length_take]; rfl)) ?_; (with_reducible refine (bursarlaw26_text.calls a1 t351 _ A4.out).mono ?_); rintro e w' ⟨rfl, ⟨nd, rfl⟩⟩; refine ⟨_, rfl, ?_⟩; (try (rw [drewN_self w10]; generalize hq_ : World.drewN w10 _ = w10; have n0_ : Aside0 (w10.heap[gb344]? = some (.cells #[.string a0_0, .string a0_1, .string a0_2, .int .i64 a0_3, .int .i64 a0_4, .int .i64 a0_5] 23 (0, 0))) := ⟨by rw [← hq_]; exact (by (with_reducible repeat (first | refine blk_drewN ?_ _ | refine blk_drew ?_ | refine blk_alloc ?_ _)); exact BK344.out)⟩; have n1_ : Aside0 (Below w.heap.size w w10) := ⟨by rw [← hq_]; exact (by repeat (first | (with_reducible first | exact HB.out | apply below_alloc | apply pw_below_drewN | apply below_drew1 | refine below_set ?_ GE344.out) | exact HB.out))⟩; clear BK344 HB hq_; have BK344 := n0_; have HB := n1_; clear n0_ n1_)); have hcz11_0 := blk_cell BK344.out; have hfz11_0 := blk_frozen BK344.out) | ((with_reducible refine gate_store (t := 23) (p := 2) rfl ?_); refine Pu.x_store (t := 23) (p := 2) (v := ?vo_w12) (g := gb344) (cs := #[.string a0_0, .string a0_1, .string a0_2, .int .i64 a0_3, .int .i64 a0_4, .int .i64 a0_5]) (vs := #[.string t345, .string t346, .string t347, .int .i64 t348, .int .i64 t349, .int .i64 t350]) (e := 23) ?hg ?ho ?hn ?hp ?hv ?hb ?hs ?ht ?h1 ?_; (case ho => rfl); (case hg => rfl); (case hn => rfl); (case hp => rfl); (case hv => rfl); (case hb => exact (by (with_reducible repeat (first | refine blk_drewN ?_ _ | refine blk_drew ?_ | refine blk_alloc ?_ _)); exact BK344.out)); (case hs => rfl); (case ht => kernel_rfl); (case h1 => rfl); intro w12 hk1_ hk2_ hk3_ hk4_ hk5_ hk6_; have n0_ : Aside0 (w12.heap[gb344]? = some (.cells #[.string t345, .string t346, .string t347, .int .i64 t348, .int .i64 t349, .int .i64 t350] 23 (0, 0))) := ⟨hk1_⟩; have n1_ : Aside0 (Below w.heap.size w w12) := ⟨Pu.below_stored (by repeat (first | exact HB.out | apply below_alloc | apply pw_below_drewN | apply below_drew1)) GE344.out hk2_ hk3_ hk4_ hk5_ hk6_⟩; clear hk1_ hk2_ hk3_ hk4_ hk5_ hk6_; clear BK344; clear HB; have BK344 := n0_; have HB := n1_; clear n0_ n1_; have hcz13_0 := blk_cell BK344.out; have hfz13_0 := blk_frozen BK344.out) | ((with_reducible refine gate_callee (f := 6) rfl ?_); refine goesL_ (some 23) rfl rfl Tryd.func6 (by kernel_rfl) rfl #[.string t345, .string t346, .string t351] rfl (by (try simp only [List.map_toArray, List.map_cons, List.map_nil]); first | done | rfl | (simp only [List.length_drop, List.length_take]; rfl)) ?_; (with_reducible refine (dispute_Parse.calls t345 t346 t351 t352 t353 t354 t355 t356 t357 t358 _ A5.out (Fu.tab_below HT.out (by repeat (first | (with_reducible first | exact HB.out | apply below_alloc | apply pw_below_drewN | apply below_drew1 | refine below_set ?_ GE344.out) | exact HB.out)))).mono ?_); rintro e w14 ⟨rfl, hb⟩; refine ⟨_, rfl, ?_⟩; have n0_ := Aside0.mk (blk_below (g := gb344) (o := .cells #[.string t345, .string t346, .string t347, .int .i64 t348, .int .i64 t349, .int .i64 t350] 23 (0, 0)) (by (with_reducible repeat (first | refine blk_drewN ?_ _ | refine blk_drew ?_ | refine blk_alloc ?_ _)); exact BK344.out) hb); have n1_ := Aside0.mk (below_step (by repeat (first | (with_reducible first | exact HB.out | apply below_alloc | apply pw_below_drewN | apply below_drew1 | refine below_set ?_ GE344.out) | exact HB.out)) hb); clear BK344; clear HB; have BK344 := n0_; have HB := n1_; clear n0_ n1_; (try clear hb); (try clear hb2); (try clear hk); (try clear hi)) | ((with_reducible refine gate_dst (N := 5) rfl ?_); refine box_event ?hg (N := 5) ?hd (cs := #[.string (⟨#[]⟩ : ByteArray), .string (⟨#[]⟩ : ByteArray), .string (⟨#[]⟩ : ByteArray), .int .i64 0, .int .i64 0, .int .i64 0]) (t := 23) ?hr ?_; (case hd => rfl); (case hg => rfl); (case hr => first | (go_simp; done) | (go_simp; rfl)); intro gb359 hg w15 hbox hb; have n0_ := Aside0.mk (blk_below (g := gb344) (o := .cells #[.string t345, .string t346, .string t347, .int .i64 t348, .int .i64 t349, .int .i64 t350] 23 (0, 0)) (by (with_reducible repeat (first | refine blk_drewN ?_ _ | refine blk_drew ?_ | refine blk_alloc ?_ _)); exact BK344.out) hb); have n1_ := Aside0.mk (below_step (by repeat (first | (with_reducible first | exact HB.out | apply below_alloc | apply pw_below_drewN | apply below_drew1 | refine below_set ?_ GE344.out) | exact HB.out)) hb); have n2_ := Aside0.mk (hbox); have n3_ := Aside0.mk ((by rw [hg]; exact (below_size (by repeat (first | (with_reducible first | exact HB.out | apply below_alloc | apply pw_below_drewN | apply below_drew1 | refine below_set ?_ GE344.out) | exact HB.out))) : w.heap.size ≤ gb359)); have n4_ := Aside0.mk ((by rw [hg]; exact (below_size (by repeat (first | (with_reducible first | exact HB.out | apply below_alloc | apply pw_below_drewN | apply below_drew1 | refine below_set ?_ GE344.out) | exact HB.out))) : w.heap.size ≤ gb359)); have n5_ := Aside0.mk ((by rw [hg]; exact Nat.ne_of_lt (blk_lt (g := gb344) (o := .cells #[.string t345, .string t346, .string t347, .int .i64 t348, .int .i64 t349, .int .i64 t350] 23 (0, 0)) (by (with_reducible repeat (first | refine blk_drewN ?_ _ | refine blk_drew ?_ | refine blk_alloc ?_ _)); exact BK344.out)) : gb344 ≠ gb359)); have n6_ := Aside0.mk ((by rw [hg]; exact Nat.ne_of_gt (blk_lt (g := gb344) (o := .cells #[.string t345, .string t346, .string t347, .int .i64 t348, .int .i64 t349, .int .i64 t350] 23 (0, 0)) (by (with_reducible repeat (first | refine blk_drewN ?_ _ | refine blk_drew ?_ | refine blk_alloc ?_ _)); exact BK344.out)) : gb359 ≠ gb344)); clear BK344; clear HB; have BK344 := n0_; have HB := n1_; have BK359 := n2_; have GW359 := n3_; have GE359 := n4_; have NB344_359 := n5_; have NB359_344 := n6_; clear n0_ n1_ n2_ n3_ n4_ n5_ n6_; clear hb hbox hg; have hnb16 := NB359_344.out; have hnc16 := NB344_359.out; have hcz17_0 := blk_cell BK359.out; have hfz17_0 := blk_frozen BK359.out) | ((with_reducible refine gate_store (t := 23) (p := 5) rfl ?_); refine Pu.x_store (t := 23) (p := 5) (v := ?vo_w18) (g := gb359) (cs := #[.string (⟨#[]⟩ : ByteArray), .string (⟨#[]⟩ : ByteArray), .string (⟨#[]⟩ : ByteArray), .int .i64 0, .int .i64 0, .int .i64 0]) (vs := #[.string t352, .string t353, .string t354, .int .i64 t355, .int .i64 t356, .int .i64 t357]) (e := 23) ?hg ?ho ?hn ?hp ?hv ?hb ?hs ?ht ?h1 ?_; (case ho => rfl); (case hg => rfl); (case hn => rfl); (case hp => rfl); (case hv => rfl); (case hb => exact (by (with_reducible repeat (first | refine blk_drewN ?_ _ | refine blk_drew ?_ | refine blk_alloc ?_ _)); exact BK359.out)); (case hs => rfl); (case ht => kernel_rfl); (case h1 => rfl); intro w18 hk1_ hk2_ hk3_ hk4_ hk5_ hk6_; have n0_ : Aside0 (w18.heap[gb359]? = some (.cells #[.string t352, .string t353, .string t354, .int .i64 t355, .int .i64 t356, .int .i64 t357] 23 (0, 0))) := ⟨hk1_⟩; have n1_ : Aside0 (w18.heap[gb344]? = some (.cells #[.string t345, .string t346, .string t347, .int .i64 t348, .int .i64 t349, .int .i64 t350] 23 (0, 0))) := ⟨(hk2_ _ NB344_359.out).trans (by (with_reducible repeat (first | refine blk_drewN ?_ _ | refine blk_drew ?_ | refine blk_alloc ?_ _)); exact BK344.out)⟩; have n2_ : Aside0 (Below w.heap.size w w18) := ⟨Pu.below_stored (by repeat (first | exact HB.out | apply below_alloc | apply pw_below_drewN | apply below_drew1)) GE359.out hk2_ hk3_ hk4_ hk5_ hk6_⟩; clear hk1_ hk2_ hk3_ hk4_ hk5_ hk6_; clear BK359; clear BK344; clear HB; have BK359 := n0_; have BK344 := n1_; have HB := n2_; clear n0_ n1_ n2_; have hcz19_0 := blk_cell BK344.out; have hfz19_0 := blk_frozen BK344.out) | ((with_reducible refine gate_callee (f := 7) rfl ?_); refine goesL_ (some 32) rfl rfl Tryd.func7 (by kernel_rfl) rfl #[.string t345, .string t346, .string t351] rfl (by (try simp only [List.map_toArray, List.map_cons, List.map_nil]); first | done | rfl | (simp only [List.length_drop, List.length_take]; rfl)) ?_; (with_reducible refine (bursarref26_Parse.calls k t345 t346 t351 t360 t361 t362 t363 t364 t365 t366 _ A6.out).mono ?_); rintro e w20 ⟨rfl, hb⟩; refine ⟨_, rfl, ?_⟩; have n0_ := Aside0.mk (blk_below (g := gb344) (o := .cells #[.string t345, .string t346, .string t347, .int .i64 t348, .int .i64 t349, .int .i64 t350] 23 (0, 0)) (by (with_reducible repeat (first | refine blk_drewN ?_ _ | refine blk_drew ?_ | refine blk_alloc ?_ _)); exact BK344.out) hb); have n1_ := Aside0.mk (blk_below (g := gb359) (o := .cells #[.string t352, .string t353, .string t354, .int .i64 t355, .int .i64 t356, .int .i64 t357] 23 (0, 0)) (by (with_reducible repeat (first | refine blk_drewN ?_ _ | refine blk_drew ?_ | refine blk_alloc ?_ _)); exact BK359.out) hb); have n2_ := Aside0.mk (below_step (by repeat (first | (with_reducible first | exact HB.out | apply below_alloc | apply pw_below_drewN | apply below_drew1 | refine below_set ?_ GE344.out | refine below_set ?_ GE359.out) | exact HB.out)) hb); clear BK344; clear BK359; clear HB; have BK344 := n0_; have BK359 := n1_; have HB := n2_; clear n0_ n1_ n2_; (try clear hb); (try clear hb2); (try clear hk); (try clear hi)) | ((with_reducible refine gate_dst (N := 7) rfl ?_); refine box_event ?hg (N := 7) ?hd (cs := #[.string (⟨#[]⟩ : ByteArray), .string (⟨#[]⟩ : ByteArray), .string (⟨#[]⟩ : ByteArray), .int .i64 0, .int .i64 0, .int .i64 0]) (t := 23) ?hr ?_; (case hd => rfl); (case hg => rfl); (case hr => first | (go_simp; done) | (go_simp; rfl)); intro gb367 hg w21 hbox hb; have n0_ := Aside0.mk (blk_below (g := gb344) (o := .cells #[.string t345, .string t346, .string t347, .int .i64 t348, .int .i64 t349, .int .i64 t350] 23 (0, 0)) (by (with_reducible repeat (first | refine blk_drewN ?_ _ | refine blk_drew ?_ | refine blk_alloc ?_ _)); exact BK344.out) hb); have n1_ := Aside0.mk (blk_below (g := gb359) (o := .cells #[.string t352, .string t353, .string t354, .int .i64 t355, .int .i64 t356, .int .i64 t357] 23 (0, 0)) (by (with_reducible repeat (first | refine blk_drewN ?_ _ | refine blk_drew ?_ | refine blk_alloc ?_ _)); exact BK359.out) hb); have n2_ := Aside0.mk (below_step (by repeat (first | (with_reducible first | exact HB.out | apply below_alloc | apply pw_below_drewN | apply below_drew1 | refine below_set ?_ GE344.out | refine below_set ?_ GE359.out) | exact HB.out)) hb); have n3_ := Aside0.mk (hbox); have n4_ := Aside0.mk ((by rw [hg]; exact (below_size (by repeat (first | (with_reducible first | exact HB.out | apply below_alloc | apply pw_below_drewN | apply below_drew1 | refine below_set ?_ GE344.out | refine below_set ?_ GE359.out) | exact HB.out))) : w.heap.size ≤ gb367)); have n5_ := Aside0.mk ((by rw [hg]; exact (below_size (by repeat (first | (with_reducible first | exact HB.out | apply below_alloc | apply pw_below_drewN | apply below_drew1 | refine below_set ?_ GE344.out | refine below_set ?_ GE359.out) | exact HB.out))) : w.heap.size ≤ gb367)); have n6_ := Aside0.mk ((by rw [hg]; exact Nat.ne_of_lt (blk_lt (g := gb344) (o := .cells #[.string t345, .string t346, .string t347, .int .i64 t348, .int .i64 t349, .int .i64 t350] 23 (0, 0)) (by (with_reducible repeat (first | refine blk_drewN ?_ _ | refine blk_drew ?_ | refine blk_alloc ?_ _)); exact BK344.out)) : gb344 ≠ gb367)); have n7_ := Aside0.mk ((by rw [hg]; exact Nat.ne_of_gt (blk_lt (g := gb344) (o := .cells #[.string t345, .string t346, .string t347, .int .i64 t348, .int .i64 t349, .int .i64 t350] 23 (0, 0)) (by (with_reducible repeat (first | refine blk_drewN ?_ _ | refine blk_drew ?_ | refine blk_alloc ?_ _)); exact BK344.out)) : gb367 ≠ gb344)); have n8_ := Aside0.mk ((by rw [hg]; exact Nat.ne_of_lt (blk_lt (g := gb359) (o := .cells #[.string t352, .string t353, .string t354, .int .i64 t355, .int .i64 t356, .int .i64 t357] 23 (0, 0)) (by (with_reducible repeat (first | refine blk_drewN ?_ _ | refine blk_drew ?_ | refine blk_alloc ?_ _)); exact BK359.out)) : gb359 ≠ gb367)); have n9_ := Aside0.mk ((by rw [hg]; exact Nat.ne_of_gt (blk_lt (g := gb359) (o := .cells #[.string t352, .string t353, .string t354, .int .i64 t355, .int .i64 t356, .int .i64 t357] 23 (0, 0)) (by (with_reducible repeat (first | refine blk_drewN ?_ _ | refine blk_drew ?_ | refine blk_alloc ?_ _)); exact BK359.out)) : gb367 ≠ gb359)); clear BK344; clear BK359; clear HB; have BK344 := n0_; have BK359 := n1_; have HB := n2_; have BK367 := n3_; have GW367 := n4_; have GE367 := n5_; have NB344_367 := n6_; have NB367_344 := n7_; have NB359_367 := n8_; have NB367_359 := n9_; clear n0_ n1_ n2_ n3_ n4_ n5_ n6_ n7_ n8_ n9_; clear hb hbox hg; have hnb22 := NB367_344.out; have hnc22 := NB344_367.out; have hnb23 := NB367_359.out; have hnc23 := NB359_367.out; have hcz24_0 := blk_cell BK367.out; have hfz24_0 := blk_frozen BK367.out) | ((with_reducible refine gate_store (t := 23) (p := 7) rfl ?_); refine Pu.x_store (t := 23) (p := 7) (v := ?vo_w25) (g := gb367) (cs := #[.string (⟨#[]⟩ : ByteArray), .string (⟨#[]⟩ : ByteArray), .string (⟨#[]⟩ : ByteArray), .int .i64 0, .int .i64 0, .int .i64 0]) (vs := #[.string t360, .string t361, .string t362, .int .i64 t363, .int .i64 t364, .int .i64 t365]) (e := 23) ?hg ?ho ?hn ?hp ?hv ?hb ?hs ?ht ?h1 ?_; (case ho => rfl); (case hg => rfl); (case hn => rfl); (case hp => rfl); (case hv => rfl); (case hb => exact (by (with_reducible repeat (first | refine blk_drewN ?_ _ | refine blk_drew ?_ | refine blk_alloc ?_ _)); exact BK367.out)); (case hs => rfl); (case ht => kernel_rfl); (case h1 => rfl); intro w25 hk1_ hk2_ hk3_ hk4_ hk5_ hk6_; have n0_ : Aside0 (w25.heap[gb367]? = some (.cells #[.string t360, .string t361, .string t362, .int .i64 t363, .int .i64 t364, .int .i64 t365] 23 (0, 0))) := ⟨hk1_⟩; have n1_ : Aside0 (w25.heap[gb344]? = some (.cells #[.string t345, .string t346, .string t347, .int .i64 t348, .int .i64 t349, .int .i64 t350] 23 (0, 0))) := ⟨(hk2_ _ NB344_367.out).trans (by (with_reducible repeat (first | refine blk_drewN ?_ _ | refine blk_drew ?_ | refine blk_alloc ?_ _)); exact BK344.out)⟩; have n2_ : Aside0 (w25.heap[gb359]? = some (.cells #[.string t352, .string t353, .string t354, .int .i64 t355, .int .i64 t356, .int .i64 t357] 23 (0, 0))) := ⟨(hk2_ _ NB359_367.out).trans (by (with_reducible repeat (first | refine blk_drewN ?_ _ | refine blk_drew ?_ | refine blk_alloc ?_ _)); exact BK359.out)⟩; have n3_ : Aside0 (Below w.heap.size w w25) := ⟨Pu.below_stored (by repeat (first | exact HB.out | apply below_alloc | apply pw_below_drewN | apply below_drew1)) GE367.out hk2_ hk3_ hk4_ hk5_ hk6_⟩; clear hk1_ hk2_ hk3_ hk4_ hk5_ hk6_; clear BK367; clear BK344; clear BK359; clear HB; have BK367 := n0_; have BK344 := n1_; have BK359 := n2_; have HB := n3_; clear n0_ n1_ n2_ n3_))
  (try simp only [Act.put, List.setIfInBounds_toArray, List.set_cons_zero, List.set_cons_succ])
  go_cut [] (fun wc => ∃ (kq : Nat) (x368000_6 : ByteArray) (x368001_6 : ByteArray) (x368002_6 : ByteArray) (x368003_6 : Int) (x368004_6 : Int) (x368005_6 : Int), Aside0 (bursarlaw26_DisputeTexts.j0 kq t358 t366 t345 t346 t347 t348 t349 t350 t352 t353 t354 t355 t356 t357 x368000_6 x368001_6 x368002_6 x368003_6 x368004_6 x368005_6 = some r) ∧ Aside0 (kq ≤ k) ∧ Aside0 (wc.heap[gb344]? = some (.cells #[.string t345, .string t346, .string t347, .int .i64 t348, .int .i64 t349, .int .i64 t350] 23 (0, 0))) ∧ Aside0 (wc.heap[gb359]? = some (.cells #[.string t352, .string t353, .string t354, .int .i64 t355, .int .i64 t356, .int .i64 t357] 23 (0, 0))) ∧ Aside0 (wc.heap[gb367]? = some (.cells #[.string x368000_6, .string x368001_6, .string x368002_6, .int .i64 x368003_6, .int .i64 x368004_6, .int .i64 x368005_6] 23 (0, 0))) ∧ Aside0 (Below w.heap.size w wc))
  case first => as_aux_lemma =>
    have H := HC7.out
    clear HC7
    by_cases c26 : t366 = true
    · subst c26
      have H1 : (bursarlaw26_DisputeTexts.j0 k t358 true t345 t346 t347 t348 t349 t350 t352 t353 t354 t355 t356 t357 t360 t361 t362 t363 t364 t365) = some r := by rw [if_pos rfl] at H; exact H
      clear H
      have H := H1
      clear H1
      have H' := Aside0.mk H
      clear H
      go_wp2
      go_meet
      case rel => exact ⟨_, (t360), (t361), (t362), (t363), (t364), (t365), H', ⟨by first | omega | exact Nat.le_refl _⟩, ⟨by (with_reducible repeat (first | refine blk_drewN ?_ _ | refine blk_drew ?_ | refine blk_alloc ?_ _)); exact BK344.out⟩, ⟨by (with_reducible repeat (first | refine blk_drewN ?_ _ | refine blk_drew ?_ | refine blk_alloc ?_ _)); exact BK359.out⟩, ⟨by (with_reducible repeat (first | refine blk_drewN ?_ _ | refine blk_drew ?_ | refine blk_alloc ?_ _)); exact BK367.out⟩, ⟨by repeat (first | (with_reducible first | exact HB.out | apply below_alloc | apply pw_below_drewN | apply below_drew1 | refine below_set ?_ GE344.out | refine below_set ?_ GE359.out | refine below_set ?_ GE367.out) | exact HB.out)⟩⟩
    · replace c26 := Bool.eq_false_iff.mpr c26
      subst c26
      have H1 : (bursarlaw26_DisputeTexts.j0 k t358 false t345 t346 t347 t348 t349 t350 t352 t353 t354 t355 t356 t357 (⟨#[]⟩ : ByteArray) (⟨#[]⟩ : ByteArray) (⟨#[]⟩ : ByteArray) 0 0 0) = some r := by rw [if_neg (show ¬ (false = true) by decide)] at H; exact H
      clear H
      have H := H1
      clear H1
      have H' := Aside0.mk H
      clear H
      have hnb27 := NB367_344.out
      have hnc27 := NB344_367.out
      have hnb28 := NB367_359.out
      have hnc28 := NB359_367.out
      have hcz29_0 := blk_cell BK367.out
      have hfz29_0 := blk_frozen BK367.out
      go_wp2_with (first | ((with_reducible refine gate_store (t := 23) (p := 7) rfl ?_); refine Pu.x_store (t := 23) (p := 7) (v := ?vo_w30) (g := gb367) (cs := #[.string t360, .string t361, .string t362, .int .i64 t363, .int .i64 t364, .int .i64 t365]) (vs := #[.string (⟨#[]⟩ : ByteArray), .string (⟨#[]⟩ : ByteArray), .string (⟨#[]⟩ : ByteArray), .int .i64 0, .int .i64 0, .int .i64 0]) (e := 23) ?hg ?ho ?hn ?hp ?hv ?hb ?hs ?ht ?h1 ?_; (case ho => rfl); (case hg => rfl); (case hn => rfl); (case hp => rfl); (case hv => rfl); (case hb => exact (by (with_reducible repeat (first | refine blk_drewN ?_ _ | refine blk_drew ?_ | refine blk_alloc ?_ _)); exact BK367.out)); (case hs => rfl); (case ht => kernel_rfl); (case h1 => rfl); intro w30 hk1_ hk2_ hk3_ hk4_ hk5_ hk6_; have n0_ : Aside0 (w30.heap[gb367]? = some (.cells #[.string (⟨#[]⟩ : ByteArray), .string (⟨#[]⟩ : ByteArray), .string (⟨#[]⟩ : ByteArray), .int .i64 0, .int .i64 0, .int .i64 0] 23 (0, 0))) := ⟨hk1_⟩; have n1_ : Aside0 (w30.heap[gb344]? = some (.cells #[.string t345, .string t346, .string t347, .int .i64 t348, .int .i64 t349, .int .i64 t350] 23 (0, 0))) := ⟨(hk2_ _ NB344_367.out).trans (by (with_reducible repeat (first | refine blk_drewN ?_ _ | refine blk_drew ?_ | refine blk_alloc ?_ _)); exact BK344.out)⟩; have n2_ : Aside0 (w30.heap[gb359]? = some (.cells #[.string t352, .string t353, .string t354, .int .i64 t355, .int .i64 t356, .int .i64 t357] 23 (0, 0))) := ⟨(hk2_ _ NB359_367.out).trans (by (with_reducible repeat (first | refine blk_drewN ?_ _ | refine blk_drew ?_ | refine blk_alloc ?_ _)); exact BK359.out)⟩; have n3_ : Aside0 (Below w.heap.size w w30) := ⟨Pu.below_stored (by repeat (first | exact HB.out | apply below_alloc | apply pw_below_drewN | apply below_drew1)) GE367.out hk2_ hk3_ hk4_ hk5_ hk6_⟩; clear hk1_ hk2_ hk3_ hk4_ hk5_ hk6_; clear BK367; clear BK344; clear BK359; clear HB; have BK367 := n0_; have BK344 := n1_; have BK359 := n2_; have HB := n3_; clear n0_ n1_ n2_ n3_))
      go_meet
      case rel => exact ⟨_, ((⟨#[]⟩ : ByteArray)), ((⟨#[]⟩ : ByteArray)), ((⟨#[]⟩ : ByteArray)), (0), (0), (0), H', ⟨by first | omega | exact Nat.le_refl _⟩, ⟨by (with_reducible repeat (first | refine blk_drewN ?_ _ | refine blk_drew ?_ | refine blk_alloc ?_ _)); exact BK344.out⟩, ⟨by (with_reducible repeat (first | refine blk_drewN ?_ _ | refine blk_drew ?_ | refine blk_alloc ?_ _)); exact BK359.out⟩, ⟨by (with_reducible repeat (first | refine blk_drewN ?_ _ | refine blk_drew ?_ | refine blk_alloc ?_ _)); exact BK367.out⟩, ⟨by repeat (first | (with_reducible first | exact HB.out | apply below_alloc | apply pw_below_drewN | apply below_drew1 | refine below_set ?_ GE344.out | refine below_set ?_ GE359.out | refine below_set ?_ GE367.out) | exact HB.out)⟩⟩
  case rest => as_aux_lemma =>
    clear HC7
    try clear c1
    try clear c2
    try clear p2
    try clear c3
    try clear c4
    try clear c5
    try clear c6
    try clear c7
    try clear c16
    try clear c22
    try clear c23
    try clear c26
    try clear c27
    try clear c28
    try clear hcz11_0
    try clear hcz13_0
    try clear hcz17_0
    try clear hcz19_0
    try clear hcz24_0
    try clear hcz29_0
    try clear hcz9_0
    try clear hfz11_0
    try clear hfz13_0
    try clear hfz17_0
    try clear hfz19_0
    try clear hfz24_0
    try clear hfz29_0
    try clear hfz9_0
    obtain ⟨kq, x368000_6, x368001_6, x368002_6, x368003_6, x368004_6, x368005_6, HA, HJ6, BK344, BK359, BK367, HB⟩ := hcut
    cases kq with
    | zero => exact absurd HA.out (by simp [bursarlaw26_DisputeTexts.j0])
    | succ kj6 =>
      have H := HA.out
      clear HA
      simp only [bursarlaw26_DisputeTexts.j0] at H
      have HC31 := Aside0.mk H
      clear H
      go_upto_region 6 with (fail)
      go_cut [54] (fun v54 wc => ∃ (kq : Nat) (x54_30 : Bool), v54 = .bool x54_30 ∧ Aside0 (bursarlaw26_DisputeTexts.j1 kq x54_30 t345 t346 t347 t348 t349 t350 = some r) ∧ Aside0 (kq ≤ kj6) ∧ Aside0 (wc.heap[gb344]? = some (.cells #[.string t345, .string t346, .string t347, .int .i64 t348, .int .i64 t349, .int .i64 t350] 23 (0, 0))) ∧ Aside0 (wc.heap[gb359]? = some (.cells #[.string t352, .string t353, .string t354, .int .i64 t355, .int .i64 t356, .int .i64 t357] 23 (0, 0))) ∧ Aside0 (wc.heap[gb367]? = some (.cells #[.string x368000_6, .string x368001_6, .string x368002_6, .int .i64 x368003_6, .int .i64 x368004_6, .int .i64 x368005_6] 23 (0, 0))) ∧ Aside0 (Below w.heap.size w wc))
      case first => as_aux_lemma =>
        have H := HC31.out
        clear HC31
        by_cases c32 : (!(t352.toList == x368000_6.toList) || (!(t353.toList == x368001_6.toList) || (!(t354.toList == x368002_6.toList) || (!(t355 == x368003_6) || (!(t356 == x368004_6) || (!(t357 == x368005_6))))))) = true
        · rw [if_pos c32] at H
          have c32b0 : (!(t352.toList == x368000_6.toList) || (!(t353.toList == x368001_6.toList) || (!(t354.toList == x368002_6.toList) || (!(t355 == x368003_6) || (!(t356 == x368004_6) || (!(t357 == x368005_6))))))) = true := c32
          (try (have c32b1 : (((t352.toList = x368000_6.toList) ∧ ((t353.toList = x368001_6.toList) ∧ ((t354.toList = x368002_6.toList) ∧ ((t355 = x368003_6) ∧ ((t356 = x368004_6) ∧ ((t357 = x368005_6))))))) = False) := eq_false (by first | (simpa using c32; done) | (intro h_; have g_ := c32; simp [h_] at g_; done) | (have g_ := c32; simp at g_; exact g_))))
          (try (have c32b2 : ((¬ (t352.toList = x368000_6.toList) ∨ (¬ (t353.toList = x368001_6.toList) ∨ (¬ (t354.toList = x368002_6.toList) ∨ (¬ (t355 = x368003_6) ∨ (¬ (t356 = x368004_6) ∨ (¬ (t357 = x368005_6))))))) = True) := eq_true (by first | (simpa using c32; done) | (intro h_; have g_ := c32; simp [h_] at g_; done))))
          clear c32
          (first | rw [c32b0] | (simp only [i64_w, i32_w]; rw [c32b0]) | skip)
          have H' := Aside0.mk H
          clear H
          have hnb33 := NB359_344.out
          have hnc33 := NB344_359.out
          have hnb34 := NB359_367.out
          have hnc34 := NB367_359.out
          have hcz35_0 := blk_cell BK359.out
          have hfz35_0 := blk_frozen BK359.out
          have hnb36 := NB367_344.out
          have hnc36 := NB344_367.out
          have hcz37_0 := blk_cell BK367.out
          have hfz37_0 := blk_frozen BK367.out
          go_wp2
          go_meet
          case rel => exact ⟨_, (true), (by first | rfl | (simp; done) | (simp [*]; done) | (simp [Pu.bne_nil, Pu.beq_nil]; done)), H', ⟨by have := HJ6.out; first | omega | exact Nat.le_refl _⟩, ⟨by (with_reducible repeat (first | refine blk_drewN ?_ _ | refine blk_drew ?_ | refine blk_alloc ?_ _)); exact BK344.out⟩, ⟨by (with_reducible repeat (first | refine blk_drewN ?_ _ | refine blk_drew ?_ | refine blk_alloc ?_ _)); exact BK359.out⟩, ⟨by (with_reducible repeat (first | refine blk_drewN ?_ _ | refine blk_drew ?_ | refine blk_alloc ?_ _)); exact BK367.out⟩, ⟨by repeat (first | (with_reducible first | exact HB.out | apply below_alloc | apply pw_below_drewN | apply below_drew1 | refine below_set ?_ GE344.out | refine below_set ?_ GE359.out | refine below_set ?_ GE367.out) | exact HB.out)⟩⟩
        · rw [if_neg c32] at H
          have c32b0 : (!(t352.toList == x368000_6.toList) || (!(t353.toList == x368001_6.toList) || (!(t354.toList == x368002_6.toList) || (!(t355 == x368003_6) || (!(t356 == x368004_6) || (!(t357 == x368005_6))))))) = false := by simpa using c32
          (try (have c32b1 : (((t352.toList = x368000_6.toList) ∧ ((t353.toList = x368001_6.toList) ∧ ((t354.toList = x368002_6.toList) ∧ ((t355 = x368003_6) ∧ ((t356 = x368004_6) ∧ ((t357 = x368005_6))))))) = True) := eq_true (by first | (simpa using c32; done) | (intro h_; have g_ := c32; simp [h_] at g_; done) | (have g_ := c32; simp at g_; exact g_))))
          (try (have c32b2 : ((t352.toList == x368000_6.toList)) = true := (by first | (have g_ := c32; simp at g_; simp [g_]; done) | (have g_ := c32; simp [Pu.beq_nil] at g_ ⊢; simp [g_]; done) | (have g_ := c32; simp [Pu.beq_nil] at g_ ⊢; exact g_))))
          (try (have c32b3 : ((t353.toList == x368001_6.toList)) = true := (by first | (have g_ := c32; simp at g_; simp [g_]; done) | (have g_ := c32; simp [Pu.beq_nil] at g_ ⊢; simp [g_]; done) | (have g_ := c32; simp [Pu.beq_nil] at g_ ⊢; exact g_))))
          (try (have c32b4 : ((t354.toList == x368002_6.toList)) = true := (by first | (have g_ := c32; simp at g_; simp [g_]; done) | (have g_ := c32; simp [Pu.beq_nil] at g_ ⊢; simp [g_]; done) | (have g_ := c32; simp [Pu.beq_nil] at g_ ⊢; exact g_))))
          (try (have c32b5 : ((t355 == x368003_6)) = true := (by first | (have g_ := c32; simp at g_; simp [g_]; done) | (have g_ := c32; simp [Pu.beq_nil] at g_ ⊢; simp [g_]; done) | (have g_ := c32; simp [Pu.beq_nil] at g_ ⊢; exact g_))))
          (try (have c32b6 : ((t356 == x368004_6)) = true := (by first | (have g_ := c32; simp at g_; simp [g_]; done) | (have g_ := c32; simp [Pu.beq_nil] at g_ ⊢; simp [g_]; done) | (have g_ := c32; simp [Pu.beq_nil] at g_ ⊢; exact g_))))
          (try (have c32b7 : ((t357 == x368005_6)) = true := (by first | (have g_ := c32; simp at g_; simp [g_]; done) | (have g_ := c32; simp [Pu.beq_nil] at g_ ⊢; simp [g_]; done) | (have g_ := c32; simp [Pu.beq_nil] at g_ ⊢; exact g_))))
          (try (have c32b8 : ((¬ (t352.toList = x368000_6.toList) ∨ (¬ (t353.toList = x368001_6.toList) ∨ (¬ (t354.toList = x368002_6.toList) ∨ (¬ (t355 = x368003_6) ∨ (¬ (t356 = x368004_6) ∨ (¬ (t357 = x368005_6))))))) = False) := eq_false (by first | (simpa using c32; done) | (intro h_; have g_ := c32; simp [h_] at g_; done))))
          clear c32
          (first | rw [c32b0] | (simp only [i64_w, i32_w]; rw [c32b0]) | skip)
          by_cases c38 : ((t358 == 0) != t366) = true
          · rw [if_pos c38] at H
            have c38b0 : ((t358 == 0) != t366) = true := c38
            (try (have c38b1 : decide ((t358 == 0) = t366) = false := by simpa using c38))
            (try (have c38b2 : ((t358 == 0) == t366) = false := by simpa using c38))
            (try (have c38b3 : ¬ ((t358 == 0) = t366) := by simpa using c38))
            (try (have c38b4 : (((t358 = 0) = t366) = False) := eq_false (by first | (simpa using c38; done) | (intro h_; have g_ := c38; simp [h_] at g_; done) | (have g_ := c38; simp at g_; exact g_))))
            clear c38
            have H' := Aside0.mk H
            clear H
            have hnb39 := NB359_344.out
            have hnc39 := NB344_359.out
            have hnb40 := NB359_367.out
            have hnc40 := NB367_359.out
            have hcz41_0 := blk_cell BK359.out
            have hfz41_0 := blk_frozen BK359.out
            have hnb42 := NB367_344.out
            have hnc42 := NB344_367.out
            have hcz43_0 := blk_cell BK367.out
            have hfz43_0 := blk_frozen BK367.out
            go_wp2
            go_meet
            case rel => exact ⟨_, (true), (by first | rfl | (simp; done) | (simp [*]; done) | (simp [Pu.bne_nil, Pu.beq_nil]; done)), H', ⟨by have := HJ6.out; first | omega | exact Nat.le_refl _⟩, ⟨by (with_reducible repeat (first | refine blk_drewN ?_ _ | refine blk_drew ?_ | refine blk_alloc ?_ _)); exact BK344.out⟩, ⟨by (with_reducible repeat (first | refine blk_drewN ?_ _ | refine blk_drew ?_ | refine blk_alloc ?_ _)); exact BK359.out⟩, ⟨by (with_reducible repeat (first | refine blk_drewN ?_ _ | refine blk_drew ?_ | refine blk_alloc ?_ _)); exact BK367.out⟩, ⟨by repeat (first | (with_reducible first | exact HB.out | apply below_alloc | apply pw_below_drewN | apply below_drew1 | refine below_set ?_ GE344.out | refine below_set ?_ GE359.out | refine below_set ?_ GE367.out) | exact HB.out)⟩⟩
          · rw [if_neg c38] at H
            have c38b0 : ((t358 == 0) != t366) = false := by simpa using c38
            (try (have c38b1 : decide ((t358 == 0) = t366) = true := by simpa using c38))
            (try (have c38b2 : ((t358 == 0) == t366) = true := by simpa using c38))
            (try (have c38b3 : (((t358 = 0) = t366) = True) := eq_true (by first | (simpa using c38; done) | (intro h_; have g_ := c38; simp [h_] at g_; done) | (have g_ := c38; simp at g_; exact g_))))
            (try (have c38b4 : ((t358 == 0)) = true := (by first | (have g_ := c38; simp at g_; simp [g_]; done) | (have g_ := c38; simp [Pu.beq_nil] at g_ ⊢; simp [g_]; done) | (have g_ := c38; simp [Pu.beq_nil] at g_ ⊢; exact g_))))
            clear c38
            by_cases c44 : t366 = true
            · subst c44
              have H1 : (bursarlaw26_DisputeTexts.j1 kj6 false t345 t346 t347 t348 t349 t350) = some r := by rw [if_pos rfl] at H; exact H
              clear H
              have H := H1
              clear H1
              have H' := Aside0.mk H
              clear H
              have hnb45 := NB359_344.out
              have hnc45 := NB344_359.out
              have hnb46 := NB359_367.out
              have hnc46 := NB367_359.out
              have hcz47_0 := blk_cell BK359.out
              have hfz47_0 := blk_frozen BK359.out
              have hnb48 := NB367_344.out
              have hnc48 := NB344_367.out
              have hcz49_0 := blk_cell BK367.out
              have hfz49_0 := blk_frozen BK367.out
              go_wp2
              go_meet
              case rel => exact ⟨_, (false), (by first | rfl | (simp; done) | (simp [*]; done) | (simp [Pu.bne_nil, Pu.beq_nil]; done)), H', ⟨by have := HJ6.out; first | omega | exact Nat.le_refl _⟩, ⟨by (with_reducible repeat (first | refine blk_drewN ?_ _ | refine blk_drew ?_ | refine blk_alloc ?_ _)); exact BK344.out⟩, ⟨by (with_reducible repeat (first | refine blk_drewN ?_ _ | refine blk_drew ?_ | refine blk_alloc ?_ _)); exact BK359.out⟩, ⟨by (with_reducible repeat (first | refine blk_drewN ?_ _ | refine blk_drew ?_ | refine blk_alloc ?_ _)); exact BK367.out⟩, ⟨by repeat (first | (with_reducible first | exact HB.out | apply below_alloc | apply pw_below_drewN | apply below_drew1 | refine below_set ?_ GE344.out | refine below_set ?_ GE359.out | refine below_set ?_ GE367.out) | exact HB.out)⟩⟩
            · replace c44 := Bool.eq_false_iff.mpr c44
              subst c44
              have H1 : (bursarlaw26_DisputeTexts.j1 kj6 (t358 != 4) t345 t346 t347 t348 t349 t350) = some r := by rw [if_neg (show ¬ (false = true) by decide)] at H; exact H
              clear H
              have H := H1
              clear H1
              have H' := Aside0.mk H
              clear H
              have hnb50 := NB359_344.out
              have hnc50 := NB344_359.out
              have hnb51 := NB359_367.out
              have hnc51 := NB367_359.out
              have hcz52_0 := blk_cell BK359.out
              have hfz52_0 := blk_frozen BK359.out
              have hnb53 := NB367_344.out
              have hnc53 := NB344_367.out
              have hcz54_0 := blk_cell BK367.out
              have hfz54_0 := blk_frozen BK367.out
              go_wp2
              go_meet
              case rel => exact ⟨_, ((t358 != 4)), (by first | rfl | (simp; done) | (simp [*]; done) | (simp [Pu.bne_nil, Pu.beq_nil]; done)), H', ⟨by have := HJ6.out; first | omega | exact Nat.le_refl _⟩, ⟨by (with_reducible repeat (first | refine blk_drewN ?_ _ | refine blk_drew ?_ | refine blk_alloc ?_ _)); exact BK344.out⟩, ⟨by (with_reducible repeat (first | refine blk_drewN ?_ _ | refine blk_drew ?_ | refine blk_alloc ?_ _)); exact BK359.out⟩, ⟨by (with_reducible repeat (first | refine blk_drewN ?_ _ | refine blk_drew ?_ | refine blk_alloc ?_ _)); exact BK367.out⟩, ⟨by repeat (first | (with_reducible first | exact HB.out | apply below_alloc | apply pw_below_drewN | apply below_drew1 | refine below_set ?_ GE344.out | refine below_set ?_ GE359.out | refine below_set ?_ GE367.out) | exact HB.out)⟩⟩
      case rest => as_aux_lemma =>
        clear HC31
        try clear c1
        try clear c2
        try clear p2
        try clear c3
        try clear c4
        try clear c5
        try clear c6
        try clear c7
        try clear c16
        try clear c22
        try clear c23
        try clear c26
        try clear c27
        try clear c28
        try clear c32
        try clear c32b0
        try clear c32b1
        try clear c32b2
        try clear c33
        try clear c34
        try clear c36
        try clear c38
        try clear c38b0
        try clear c38b1
        try clear c38b2
        try clear c39
        try clear c40
        try clear c42
        try clear c44
        try clear c45
        try clear c46
        try clear c48
        try clear c50
        try clear c51
        try clear c53
        try clear hcz11_0
        try clear hcz13_0
        try clear hcz17_0
        try clear hcz19_0
        try clear hcz24_0
        try clear hcz29_0
        try clear hcz35_0
        try clear hcz37_0
        try clear hcz41_0
        try clear hcz43_0
        try clear hcz47_0
        try clear hcz49_0
        try clear hcz52_0
        try clear hcz54_0
        try clear hcz9_0
        try clear hfz11_0
        try clear hfz13_0
        try clear hfz17_0
        try clear hfz19_0
        try clear hfz24_0
        try clear hfz29_0
        try clear hfz35_0
        try clear hfz37_0
        try clear hfz41_0
        try clear hfz43_0
        try clear hfz47_0
        try clear hfz49_0
        try clear hfz52_0
        try clear hfz54_0
        try clear hfz9_0
        try clear p2
        obtain ⟨kq, x54_30, rfl, HA, HJ30, BK344, BK359, BK367, HB⟩ := hcut
        cases kq with
        | zero => exact absurd HA.out (by simp [bursarlaw26_DisputeTexts.j1])
        | succ kj30 =>
          have H := HA.out
          clear HA
          simp only [bursarlaw26_DisputeTexts.j1] at H
          by_cases c55 : x54_30 = true
          · subst c55
            have H1 : (none) = some r := by rw [if_pos rfl] at H; exact H
            clear H
            have H := H1
            clear H1
            exact absurd H (by simp)
          · replace c55 := Bool.eq_false_iff.mpr c55
            subst c55
            have H1 : ((dispute_Text.f t345 t346 t347 t348 t349 t350).bind fun bt368 => ((bursarref26_May.f t345 t346 t347 t348 t349 t350).bind fun t370 => (if t370 = true then ((dispute_Parse.f t345 t346 bt368.1).bind fun bt371 => ((bursarref26_Text.f kj30 t345 t346 t347 t348 t349 t350).bind fun t379 => (if bt368.1.toList = t379.toList then (if bt368.2 = 0 then (if (bt371.1.toList == t345.toList && (bt371.2.1.toList == t346.toList && (bt371.2.2.1.toList == t347.toList && (bt371.2.2.2.1 == t348 && (bt371.2.2.2.2.1 == t349 && (bt371.2.2.2.2.2.1 == t350)))))) = true then (if bt371.2.2.2.2.2.2 = 0 then ((bursarlaw26_awake.f kj30).bind fun t380 => (some t380)) else (none)) else (none)) else (none)) else (none)))) else (if bt368.1.toList = ([] : List UInt8) then (if bt368.2 = 1 then ((bursarlaw26_awake.f kj30).bind fun t381 => (some t381)) else (none)) else (none))))) = some r := by rw [if_neg (show ¬ (false = true) by decide)] at H; exact H
            clear H
            have H := H1
            clear H1
            replace H := Option.bind_eq_some_iff.mp H
            obtain ⟨⟨t368, t369⟩, A560, H⟩ := H
            replace H : ((bursarref26_May.f t345 t346 t347 t348 t349 t350).bind fun t370 => (if t370 = true then ((dispute_Parse.f t345 t346 t368).bind fun bt371 => ((bursarref26_Text.f kj30 t345 t346 t347 t348 t349 t350).bind fun t379 => (if t368.toList = t379.toList then (if t369 = 0 then (if (bt371.1.toList == t345.toList && (bt371.2.1.toList == t346.toList && (bt371.2.2.1.toList == t347.toList && (bt371.2.2.2.1 == t348 && (bt371.2.2.2.2.1 == t349 && (bt371.2.2.2.2.2.1 == t350)))))) = true then (if bt371.2.2.2.2.2.2 = 0 then ((bursarlaw26_awake.f kj30).bind fun t380 => (some t380)) else (none)) else (none)) else (none)) else (none)))) else (if t368.toList = ([] : List UInt8) then (if t369 = 1 then ((bursarlaw26_awake.f kj30).bind fun t381 => (some t381)) else (none)) else (none)))) = some r := H
            have A56 := Aside0.mk A560
            clear A560
            replace H := Option.bind_eq_some_iff.mp H
            obtain ⟨t370, A570, H⟩ := H
            replace H : (if t370 = true then ((dispute_Parse.f t345 t346 t368).bind fun bt371 => ((bursarref26_Text.f kj30 t345 t346 t347 t348 t349 t350).bind fun t379 => (if t368.toList = t379.toList then (if t369 = 0 then (if (bt371.1.toList == t345.toList && (bt371.2.1.toList == t346.toList && (bt371.2.2.1.toList == t347.toList && (bt371.2.2.2.1 == t348 && (bt371.2.2.2.2.1 == t349 && (bt371.2.2.2.2.2.1 == t350)))))) = true then (if bt371.2.2.2.2.2.2 = 0 then ((bursarlaw26_awake.f kj30).bind fun t380 => (some t380)) else (none)) else (none)) else (none)) else (none)))) else (if t368.toList = ([] : List UInt8) then (if t369 = 1 then ((bursarlaw26_awake.f kj30).bind fun t381 => (some t381)) else (none)) else (none))) = some r := H
            have A57 := Aside0.mk A570
            clear A570
            by_cases c58 : t370 = true
            · subst c58
              have H1 : ((dispute_Parse.f t345 t346 t368).bind fun bt371 => ((bursarref26_Text.f kj30 t345 t346 t347 t348 t349 t350).bind fun t379 => (if t368.toList = t379.toList then (if t369 = 0 then (if (bt371.1.toList == t345.toList && (bt371.2.1.toList == t346.toList && (bt371.2.2.1.toList == t347.toList && (bt371.2.2.2.1 == t348 && (bt371.2.2.2.2.1 == t349 && (bt371.2.2.2.2.2.1 == t350)))))) = true then (if bt371.2.2.2.2.2.2 = 0 then ((bursarlaw26_awake.f kj30).bind fun t380 => (some t380)) else (none)) else (none)) else (none)) else (none)))) = some r := by rw [if_pos rfl] at H; exact H
              clear H
              have H := H1
              clear H1
              replace H := Option.bind_eq_some_iff.mp H
              obtain ⟨⟨t371, t372, t373, t374, t375, t376, t377⟩, A590, H⟩ := H
              replace H : ((bursarref26_Text.f kj30 t345 t346 t347 t348 t349 t350).bind fun t379 => (if t368.toList = t379.toList then (if t369 = 0 then (if (t371.toList == t345.toList && (t372.toList == t346.toList && (t373.toList == t347.toList && (t374 == t348 && (t375 == t349 && (t376 == t350)))))) = true then (if t377 = 0 then ((bursarlaw26_awake.f kj30).bind fun t380 => (some t380)) else (none)) else (none)) else (none)) else (none))) = some r := H
              have A59 := Aside0.mk A590
              clear A590
              replace H := Option.bind_eq_some_iff.mp H
              obtain ⟨t379, A600, H⟩ := H
              replace H : (if t368.toList = t379.toList then (if t369 = 0 then (if (t371.toList == t345.toList && (t372.toList == t346.toList && (t373.toList == t347.toList && (t374 == t348 && (t375 == t349 && (t376 == t350)))))) = true then (if t377 = 0 then ((bursarlaw26_awake.f kj30).bind fun t380 => (some t380)) else (none)) else (none)) else (none)) else (none)) = some r := H
              have A60 := Aside0.mk A600
              clear A600
              by_cases c61 : t368.toList = t379.toList
              · rw [if_pos c61] at H
                have c61b0 : (t368.toList == t379.toList) = true := beq_iff_eq.mpr c61
                have c61b1 : (t368.toList != t379.toList) = false := bne_eq_false_iff_eq.mpr c61
                clear c61
                by_cases c62 : t369 = 0
                · rw [if_pos c62] at H
                  have c62b0 : (t369 == 0) = true := beq_iff_eq.mpr c62
                  have c62b1 : (t369 != 0) = false := bne_eq_false_iff_eq.mpr c62
                  clear c62
                  by_cases c63 : (t371.toList == t345.toList && (t372.toList == t346.toList && (t373.toList == t347.toList && (t374 == t348 && (t375 == t349 && (t376 == t350)))))) = true
                  · rw [if_pos c63] at H
                    have c63b0 : (t371.toList == t345.toList && (t372.toList == t346.toList && (t373.toList == t347.toList && (t374 == t348 && (t375 == t349 && (t376 == t350)))))) = true := c63
                    (try (have c63b1 : decide (t371.toList = t345.toList && (t372.toList == t346.toList && (t373.toList == t347.toList && (t374 == t348 && (t375 == t349 && (t376 == t350)))))) = true := by simpa using c63))
                    (try (have c63b2 : (t371.toList == t345.toList && (t372.toList == t346.toList && (t373.toList == t347.toList && (t374 == t348 && (t375 == t349 && (t376 == t350)))))) = true := by simpa using c63))
                    (try (have c63b3 : ((t371.toList = t345.toList ∧ (t372.toList = t346.toList ∧ (t373.toList = t347.toList ∧ (t374 = t348 ∧ (t375 = t349 ∧ (t376 = t350)))))) = True) := eq_true (by first | (simpa using c63; done) | (intro h_; have g_ := c63; simp [h_] at g_; done) | (have g_ := c63; simp at g_; exact g_))))
                    (try (have c63b4 : ((t371.toList == t345.toList)) = true := (by first | (have g_ := c63; simp at g_; simp [g_]; done) | (have g_ := c63; simp [Pu.beq_nil] at g_ ⊢; simp [g_]; done) | (have g_ := c63; simp [Pu.beq_nil] at g_ ⊢; exact g_))))
                    (try (have c63b5 : ((t372.toList == t346.toList)) = true := (by first | (have g_ := c63; simp at g_; simp [g_]; done) | (have g_ := c63; simp [Pu.beq_nil] at g_ ⊢; simp [g_]; done) | (have g_ := c63; simp [Pu.beq_nil] at g_ ⊢; exact g_))))
                    (try (have c63b6 : ((t373.toList == t347.toList)) = true := (by first | (have g_ := c63; simp at g_; simp [g_]; done) | (have g_ := c63; simp [Pu.beq_nil] at g_ ⊢; simp [g_]; done) | (have g_ := c63; simp [Pu.beq_nil] at g_ ⊢; exact g_))))
                    (try (have c63b7 : ((t374 == t348)) = true := (by first | (have g_ := c63; simp at g_; simp [g_]; done) | (have g_ := c63; simp [Pu.beq_nil] at g_ ⊢; simp [g_]; done) | (have g_ := c63; simp [Pu.beq_nil] at g_ ⊢; exact g_))))
                    (try (have c63b8 : ((t375 == t349)) = true := (by first | (have g_ := c63; simp at g_; simp [g_]; done) | (have g_ := c63; simp [Pu.beq_nil] at g_ ⊢; simp [g_]; done) | (have g_ := c63; simp [Pu.beq_nil] at g_ ⊢; exact g_))))
                    (try (have c63b9 : ((t376 == t350)) = true := (by first | (have g_ := c63; simp at g_; simp [g_]; done) | (have g_ := c63; simp [Pu.beq_nil] at g_ ⊢; simp [g_]; done) | (have g_ := c63; simp [Pu.beq_nil] at g_ ⊢; exact g_))))
                    clear c63
                    by_cases c64 : t377 = 0
                    · rw [if_pos c64] at H
                      have c64b0 : (t377 == 0) = true := beq_iff_eq.mpr c64
                      have c64b1 : (t377 != 0) = false := bne_eq_false_iff_eq.mpr c64
                      clear c64
                      replace H := Option.bind_eq_some_iff.mp H
                      obtain ⟨t380, A650, H⟩ := H
                      replace H : (some t380) = some r := H
                      have A65 := Aside0.mk A650
                      clear A650
                      obtain rfl := Option.some.inj H
                      have hnb66 := NB344_359.out
                      have hnc66 := NB359_344.out
                      have hnb67 := NB344_367.out
                      have hnc67 := NB367_344.out
                      have hcz68_0 := blk_cell BK344.out
                      have hfz68_0 := blk_frozen BK344.out
                      go_wp2_with (first | ((with_reducible refine gate_callee (f := 8) rfl ?_); refine goesL_ (some 57) rfl rfl Tryd.func8 (by kernel_rfl) rfl #[.agg #[.string t345, .string t346, .string t347, .int .i64 t348, .int .i64 t349, .int .i64 t350]] rfl (by (try simp only [List.map_toArray, List.map_cons, List.map_nil]); first | done | rfl | (simp only [List.length_drop, List.length_take]; rfl)) ?_; (with_reducible refine (dispute_Text.calls t345 t346 t347 t348 t349 t350 t368 t369 _ A56.out (Fu.tab_below HT.out (by repeat (first | (with_reducible first | exact HB.out | apply below_alloc | apply pw_below_drewN | apply below_drew1 | refine below_set ?_ GE344.out | refine below_set ?_ GE359.out | refine below_set ?_ GE367.out) | exact HB.out)))).mono ?_); rintro e w69 ⟨rfl, hb⟩; refine ⟨_, rfl, ?_⟩; have n0_ := Aside0.mk (blk_below (g := gb344) (o := .cells #[.string t345, .string t346, .string t347, .int .i64 t348, .int .i64 t349, .int .i64 t350] 23 (0, 0)) (by (with_reducible repeat (first | refine blk_drewN ?_ _ | refine blk_drew ?_ | refine blk_alloc ?_ _)); exact BK344.out) hb); have n1_ := Aside0.mk (blk_below (g := gb359) (o := .cells #[.string t352, .string t353, .string t354, .int .i64 t355, .int .i64 t356, .int .i64 t357] 23 (0, 0)) (by (with_reducible repeat (first | refine blk_drewN ?_ _ | refine blk_drew ?_ | refine blk_alloc ?_ _)); exact BK359.out) hb); have n2_ := Aside0.mk (blk_below (g := gb367) (o := .cells #[.string x368000_6, .string x368001_6, .string x368002_6, .int .i64 x368003_6, .int .i64 x368004_6, .int .i64 x368005_6] 23 (0, 0)) (by (with_reducible repeat (first | refine blk_drewN ?_ _ | refine blk_drew ?_ | refine blk_alloc ?_ _)); exact BK367.out) hb); have n3_ := Aside0.mk (below_step (by repeat (first | (with_reducible first | exact HB.out | apply below_alloc | apply pw_below_drewN | apply below_drew1 | refine below_set ?_ GE344.out | refine below_set ?_ GE359.out | refine below_set ?_ GE367.out) | exact HB.out)) hb); clear BK344; clear BK359; clear BK367; clear HB; have BK344 := n0_; have BK359 := n1_; have BK367 := n2_; have HB := n3_; clear n0_ n1_ n2_ n3_; (try clear hb); (try clear hb2); (try clear hk); (try clear hi); have hcz70_0 := blk_cell BK344.out; have hfz70_0 := blk_frozen BK344.out) | ((with_reducible refine gate_callee (f := 9) rfl ?_); refine goesL_ (some 61) rfl rfl Tryd.func9 (by kernel_rfl) rfl #[.agg #[.string t345, .string t346, .string t347, .int .i64 t348, .int .i64 t349, .int .i64 t350]] rfl (by (try simp only [List.map_toArray, List.map_cons, List.map_nil]); first | done | rfl | (simp only [List.length_drop, List.length_take]; rfl)) ?_; (with_reducible refine (bursarref26_May.calls t345 t346 t347 t348 t349 t350 true _ A57.out).mono ?_); rintro e w71 ⟨rfl, hb⟩; refine ⟨_, rfl, ?_⟩; have n0_ := Aside0.mk (blk_below (g := gb344) (o := .cells #[.string t345, .string t346, .string t347, .int .i64 t348, .int .i64 t349, .int .i64 t350] 23 (0, 0)) (by (with_reducible repeat (first | refine blk_drewN ?_ _ | refine blk_drew ?_ | refine blk_alloc ?_ _)); exact BK344.out) hb); have n1_ := Aside0.mk (blk_below (g := gb359) (o := .cells #[.string t352, .string t353, .string t354, .int .i64 t355, .int .i64 t356, .int .i64 t357] 23 (0, 0)) (by (with_reducible repeat (first | refine blk_drewN ?_ _ | refine blk_drew ?_ | refine blk_alloc ?_ _)); exact BK359.out) hb); have n2_ := Aside0.mk (blk_below (g := gb367) (o := .cells #[.string x368000_6, .string x368001_6, .string x368002_6, .int .i64 x368003_6, .int .i64 x368004_6, .int .i64 x368005_6] 23 (0, 0)) (by (with_reducible repeat (first | refine blk_drewN ?_ _ | refine blk_drew ?_ | refine blk_alloc ?_ _)); exact BK367.out) hb); have n3_ := Aside0.mk (below_step (by repeat (first | (with_reducible first | exact HB.out | apply below_alloc | apply pw_below_drewN | apply below_drew1 | refine below_set ?_ GE344.out | refine below_set ?_ GE359.out | refine below_set ?_ GE367.out) | exact HB.out)) hb); clear BK344; clear BK359; clear BK367; clear HB; have BK344 := n0_; have BK359 := n1_; have BK367 := n2_; have HB := n3_; clear n0_ n1_ n2_ n3_; (try clear hb); (try clear hb2); (try clear hk); (try clear hi); have hcz72_0 := blk_cell BK344.out; have hfz72_0 := blk_frozen BK344.out) | ((with_reducible refine gate_callee (f := 6) rfl ?_); refine goesL_ (some 78) rfl rfl Tryd.func6 (by kernel_rfl) rfl #[.string t345, .string t346, .string t368] rfl (by (try simp only [List.map_toArray, List.map_cons, List.map_nil]); first | done | rfl | (simp only [List.length_drop, List.length_take]; rfl)) ?_; (with_reducible refine (dispute_Parse.calls t345 t346 t368 t371 t372 t373 t374 t375 t376 t377 _ A59.out (Fu.tab_below HT.out (by repeat (first | (with_reducible first | exact HB.out | apply below_alloc | apply pw_below_drewN | apply below_drew1 | refine below_set ?_ GE344.out | refine below_set ?_ GE359.out | refine below_set ?_ GE367.out) | exact HB.out)))).mono ?_); rintro e w73 ⟨rfl, hb⟩; refine ⟨_, rfl, ?_⟩; have n0_ := Aside0.mk (blk_below (g := gb344) (o := .cells #[.string t345, .string t346, .string t347, .int .i64 t348, .int .i64 t349, .int .i64 t350] 23 (0, 0)) (by (with_reducible repeat (first | refine blk_drewN ?_ _ | refine blk_drew ?_ | refine blk_alloc ?_ _)); exact BK344.out) hb); have n1_ := Aside0.mk (blk_below (g := gb359) (o := .cells #[.string t352, .string t353, .string t354, .int .i64 t355, .int .i64 t356, .int .i64 t357] 23 (0, 0)) (by (with_reducible repeat (first | refine blk_drewN ?_ _ | refine blk_drew ?_ | refine blk_alloc ?_ _)); exact BK359.out) hb); have n2_ := Aside0.mk (blk_below (g := gb367) (o := .cells #[.string x368000_6, .string x368001_6, .string x368002_6, .int .i64 x368003_6, .int .i64 x368004_6, .int .i64 x368005_6] 23 (0, 0)) (by (with_reducible repeat (first | refine blk_drewN ?_ _ | refine blk_drew ?_ | refine blk_alloc ?_ _)); exact BK367.out) hb); have n3_ := Aside0.mk (below_step (by repeat (first | (with_reducible first | exact HB.out | apply below_alloc | apply pw_below_drewN | apply below_drew1 | refine below_set ?_ GE344.out | refine below_set ?_ GE359.out | refine below_set ?_ GE367.out) | exact HB.out)) hb); clear BK344; clear BK359; clear BK367; clear HB; have BK344 := n0_; have BK359 := n1_; have BK367 := n2_; have HB := n3_; clear n0_ n1_ n2_ n3_; (try clear hb); (try clear hb2); (try clear hk); (try clear hi)) | ((with_reducible refine gate_dst (N := 11) rfl ?_); refine box_event ?hg (N := 11) ?hd (cs := #[.string (⟨#[]⟩ : ByteArray), .string (⟨#[]⟩ : ByteArray), .string (⟨#[]⟩ : ByteArray), .int .i64 0, .int .i64 0, .int .i64 0]) (t := 23) ?hr ?_; (case hd => rfl); (case hg => rfl); (case hr => first | (go_simp; done) | (go_simp; rfl)); intro gb378 hg w74 hbox hb; have n0_ := Aside0.mk (blk_below (g := gb344) (o := .cells #[.string t345, .string t346, .string t347, .int .i64 t348, .int .i64 t349, .int .i64 t350] 23 (0, 0)) (by (with_reducible repeat (first | refine blk_drewN ?_ _ | refine blk_drew ?_ | refine blk_alloc ?_ _)); exact BK344.out) hb); have n1_ := Aside0.mk (blk_below (g := gb359) (o := .cells #[.string t352, .string t353, .string t354, .int .i64 t355, .int .i64 t356, .int .i64 t357] 23 (0, 0)) (by (with_reducible repeat (first | refine blk_drewN ?_ _ | refine blk_drew ?_ | refine blk_alloc ?_ _)); exact BK359.out) hb); have n2_ := Aside0.mk (blk_below (g := gb367) (o := .cells #[.string x368000_6, .string x368001_6, .string x368002_6, .int .i64 x368003_6, .int .i64 x368004_6, .int .i64 x368005_6] 23 (0, 0)) (by (with_reducible repeat (first | refine blk_drewN ?_ _ | refine blk_drew ?_ | refine blk_alloc ?_ _)); exact BK367.out) hb); have n3_ := Aside0.mk (below_step (by repeat (first | (with_reducible first | exact HB.out | apply below_alloc | apply pw_below_drewN | apply below_drew1 | refine below_set ?_ GE344.out | refine below_set ?_ GE359.out | refine below_set ?_ GE367.out) | exact HB.out)) hb); have n4_ := Aside0.mk (hbox); have n5_ := Aside0.mk ((by rw [hg]; exact (below_size (by repeat (first | (with_reducible first | exact HB.out | apply below_alloc | apply pw_below_drewN | apply below_drew1 | refine below_set ?_ GE344.out | refine below_set ?_ GE359.out | refine below_set ?_ GE367.out) | exact HB.out))) : w.heap.size ≤ gb378)); have n6_ := Aside0.mk ((by rw [hg]; exact (below_size (by repeat (first | (with_reducible first | exact HB.out | apply below_alloc | apply pw_below_drewN | apply below_drew1 | refine below_set ?_ GE344.out | refine below_set ?_ GE359.out | refine below_set ?_ GE367.out) | exact HB.out))) : w.heap.size ≤ gb378)); have n7_ := Aside0.mk ((by rw [hg]; exact Nat.ne_of_lt (blk_lt (g := gb344) (o := .cells #[.string t345, .string t346, .string t347, .int .i64 t348, .int .i64 t349, .int .i64 t350] 23 (0, 0)) (by (with_reducible repeat (first | refine blk_drewN ?_ _ | refine blk_drew ?_ | refine blk_alloc ?_ _)); exact BK344.out)) : gb344 ≠ gb378)); have n8_ := Aside0.mk ((by rw [hg]; exact Nat.ne_of_gt (blk_lt (g := gb344) (o := .cells #[.string t345, .string t346, .string t347, .int .i64 t348, .int .i64 t349, .int .i64 t350] 23 (0, 0)) (by (with_reducible repeat (first | refine blk_drewN ?_ _ | refine blk_drew ?_ | refine blk_alloc ?_ _)); exact BK344.out)) : gb378 ≠ gb344)); have n9_ := Aside0.mk ((by rw [hg]; exact Nat.ne_of_lt (blk_lt (g := gb359) (o := .cells #[.string t352, .string t353, .string t354, .int .i64 t355, .int .i64 t356, .int .i64 t357] 23 (0, 0)) (by (with_reducible repeat (first | refine blk_drewN ?_ _ | refine blk_drew ?_ | refine blk_alloc ?_ _)); exact BK359.out)) : gb359 ≠ gb378)); have n10_ := Aside0.mk ((by rw [hg]; exact Nat.ne_of_gt (blk_lt (g := gb359) (o := .cells #[.string t352, .string t353, .string t354, .int .i64 t355, .int .i64 t356, .int .i64 t357] 23 (0, 0)) (by (with_reducible repeat (first | refine blk_drewN ?_ _ | refine blk_drew ?_ | refine blk_alloc ?_ _)); exact BK359.out)) : gb378 ≠ gb359)); have n11_ := Aside0.mk ((by rw [hg]; exact Nat.ne_of_lt (blk_lt (g := gb367) (o := .cells #[.string x368000_6, .string x368001_6, .string x368002_6, .int .i64 x368003_6, .int .i64 x368004_6, .int .i64 x368005_6] 23 (0, 0)) (by (with_reducible repeat (first | refine blk_drewN ?_ _ | refine blk_drew ?_ | refine blk_alloc ?_ _)); exact BK367.out)) : gb367 ≠ gb378)); have n12_ := Aside0.mk ((by rw [hg]; exact Nat.ne_of_gt (blk_lt (g := gb367) (o := .cells #[.string x368000_6, .string x368001_6, .string x368002_6, .int .i64 x368003_6, .int .i64 x368004_6, .int .i64 x368005_6] 23 (0, 0)) (by (with_reducible repeat (first | refine blk_drewN ?_ _ | refine blk_drew ?_ | refine blk_alloc ?_ _)); exact BK367.out)) : gb378 ≠ gb367)); clear BK344; clear BK359; clear BK367; clear HB; have BK344 := n0_; have BK359 := n1_; have BK367 := n2_; have HB := n3_; have BK378 := n4_; have GW378 := n5_; have GE378 := n6_; have NB344_378 := n7_; have NB378_344 := n8_; have NB359_378 := n9_; have NB378_359 := n10_; have NB367_378 := n11_; have NB378_367 := n12_; clear n0_ n1_ n2_ n3_ n4_ n5_ n6_ n7_ n8_ n9_ n10_ n11_ n12_; clear hb hbox hg; have hnb75 := NB378_344.out; have hnc75 := NB344_378.out; have hnb76 := NB378_359.out; have hnc76 := NB359_378.out; have hnb77 := NB378_367.out; have hnc77 := NB367_378.out; have hcz78_0 := blk_cell BK378.out; have hfz78_0 := blk_frozen BK378.out) | ((with_reducible refine gate_store (t := 23) (p := 11) rfl ?_); refine Pu.x_store (t := 23) (p := 11) (v := ?vo_w79) (g := gb378) (cs := #[.string (⟨#[]⟩ : ByteArray), .string (⟨#[]⟩ : ByteArray), .string (⟨#[]⟩ : ByteArray), .int .i64 0, .int .i64 0, .int .i64 0]) (vs := #[.string t371, .string t372, .string t373, .int .i64 t374, .int .i64 t375, .int .i64 t376]) (e := 23) ?hg ?ho ?hn ?hp ?hv ?hb ?hs ?ht ?h1 ?_; (case ho => rfl); (case hg => rfl); (case hn => rfl); (case hp => rfl); (case hv => rfl); (case hb => exact (by (with_reducible repeat (first | refine blk_drewN ?_ _ | refine blk_drew ?_ | refine blk_alloc ?_ _)); exact BK378.out)); (case hs => rfl); (case ht => kernel_rfl); (case h1 => rfl); intro w79 hk1_ hk2_ hk3_ hk4_ hk5_ hk6_; have n0_ : Aside0 (w79.heap[gb378]? = some (.cells #[.string t371, .string t372, .string t373, .int .i64 t374, .int .i64 t375, .int .i64 t376] 23 (0, 0))) := ⟨hk1_⟩; have n1_ : Aside0 (w79.heap[gb344]? = some (.cells #[.string t345, .string t346, .string t347, .int .i64 t348, .int .i64 t349, .int .i64 t350] 23 (0, 0))) := ⟨(hk2_ _ NB344_378.out).trans (by (with_reducible repeat (first | refine blk_drewN ?_ _ | refine blk_drew ?_ | refine blk_alloc ?_ _)); exact BK344.out)⟩; have n2_ : Aside0 (w79.heap[gb359]? = some (.cells #[.string t352, .string t353, .string t354, .int .i64 t355, .int .i64 t356, .int .i64 t357] 23 (0, 0))) := ⟨(hk2_ _ NB359_378.out).trans (by (with_reducible repeat (first | refine blk_drewN ?_ _ | refine blk_drew ?_ | refine blk_alloc ?_ _)); exact BK359.out)⟩; have n3_ : Aside0 (w79.heap[gb367]? = some (.cells #[.string x368000_6, .string x368001_6, .string x368002_6, .int .i64 x368003_6, .int .i64 x368004_6, .int .i64 x368005_6] 23 (0, 0))) := ⟨(hk2_ _ NB367_378.out).trans (by (with_reducible repeat (first | refine blk_drewN ?_ _ | refine blk_drew ?_ | refine blk_alloc ?_ _)); exact BK367.out)⟩; have n4_ : Aside0 (Below w.heap.size w w79) := ⟨Pu.below_stored (by repeat (first | exact HB.out | apply below_alloc | apply pw_below_drewN | apply below_drew1)) GE378.out hk2_ hk3_ hk4_ hk5_ hk6_⟩; clear hk1_ hk2_ hk3_ hk4_ hk5_ hk6_; clear BK378; clear BK344; clear BK359; clear BK367; clear HB; have BK378 := n0_; have BK344 := n1_; have BK359 := n2_; have BK367 := n3_; have HB := n4_; clear n0_ n1_ n2_ n3_ n4_; have hcz80_0 := blk_cell BK344.out; have hfz80_0 := blk_frozen BK344.out) | ((with_reducible refine gate_callee (f := 11) rfl ?_); refine goesL_ (some 83) rfl rfl Tryd.func11 (by kernel_rfl) rfl #[.agg #[.string t345, .string t346, .string t347, .int .i64 t348, .int .i64 t349, .int .i64 t350]] rfl (by (try simp only [List.map_toArray, List.map_cons, List.map_nil]); first | done | rfl | (simp only [List.length_drop, List.length_take]; rfl)) ?_; (with_reducible refine (bursarref26_Text.calls kj30 t345 t346 t347 t348 t349 t350 t379 _ A60.out).mono ?_); rintro e w81 ⟨rfl, hb⟩; refine ⟨_, rfl, ?_⟩; have n0_ := Aside0.mk (blk_below (g := gb344) (o := .cells #[.string t345, .string t346, .string t347, .int .i64 t348, .int .i64 t349, .int .i64 t350] 23 (0, 0)) (by (with_reducible repeat (first | refine blk_drewN ?_ _ | refine blk_drew ?_ | refine blk_alloc ?_ _)); exact BK344.out) hb); have n1_ := Aside0.mk (blk_below (g := gb359) (o := .cells #[.string t352, .string t353, .string t354, .int .i64 t355, .int .i64 t356, .int .i64 t357] 23 (0, 0)) (by (with_reducible repeat (first | refine blk_drewN ?_ _ | refine blk_drew ?_ | refine blk_alloc ?_ _)); exact BK359.out) hb); have n2_ := Aside0.mk (blk_below (g := gb367) (o := .cells #[.string x368000_6, .string x368001_6, .string x368002_6, .int .i64 x368003_6, .int .i64 x368004_6, .int .i64 x368005_6] 23 (0, 0)) (by (with_reducible repeat (first | refine blk_drewN ?_ _ | refine blk_drew ?_ | refine blk_alloc ?_ _)); exact BK367.out) hb); have n3_ := Aside0.mk (blk_below (g := gb378) (o := .cells #[.string t371, .string t372, .string t373, .int .i64 t374, .int .i64 t375, .int .i64 t376] 23 (0, 0)) (by (with_reducible repeat (first | refine blk_drewN ?_ _ | refine blk_drew ?_ | refine blk_alloc ?_ _)); exact BK378.out) hb); have n4_ := Aside0.mk (below_step (by repeat (first | (with_reducible first | exact HB.out | apply below_alloc | apply pw_below_drewN | apply below_drew1 | refine below_set ?_ GE344.out | refine below_set ?_ GE359.out | refine below_set ?_ GE367.out | refine below_set ?_ GE378.out) | exact HB.out)) hb); clear BK344; clear BK359; clear BK367; clear BK378; clear HB; have BK344 := n0_; have BK359 := n1_; have BK367 := n2_; have BK378 := n3_; have HB := n4_; clear n0_ n1_ n2_ n3_ n4_; (try clear hb); (try clear hb2); (try clear hk); (try clear hi); have hcz82_0 := blk_cell BK378.out; have hfz82_0 := blk_frozen BK378.out; have hcz83_0 := blk_cell BK344.out; have hfz83_0 := blk_frozen BK344.out) | (go_at_call 10; (with_reducible refine (bursarlaw26_awake.calls kj30  t380 _ A65.out).mono ?_); rintro e w84 ⟨rfl, hb⟩; have n0_ := Aside0.mk (blk_below (g := gb344) (o := .cells #[.string t345, .string t346, .string t347, .int .i64 t348, .int .i64 t349, .int .i64 t350] 23 (0, 0)) (by (with_reducible repeat (first | refine blk_drewN ?_ _ | refine blk_drew ?_ | refine blk_alloc ?_ _)); exact BK344.out) hb); have n1_ := Aside0.mk (blk_below (g := gb359) (o := .cells #[.string t352, .string t353, .string t354, .int .i64 t355, .int .i64 t356, .int .i64 t357] 23 (0, 0)) (by (with_reducible repeat (first | refine blk_drewN ?_ _ | refine blk_drew ?_ | refine blk_alloc ?_ _)); exact BK359.out) hb); have n2_ := Aside0.mk (blk_below (g := gb367) (o := .cells #[.string x368000_6, .string x368001_6, .string x368002_6, .int .i64 x368003_6, .int .i64 x368004_6, .int .i64 x368005_6] 23 (0, 0)) (by (with_reducible repeat (first | refine blk_drewN ?_ _ | refine blk_drew ?_ | refine blk_alloc ?_ _)); exact BK367.out) hb); have n3_ := Aside0.mk (blk_below (g := gb378) (o := .cells #[.string t371, .string t372, .string t373, .int .i64 t374, .int .i64 t375, .int .i64 t376] 23 (0, 0)) (by (with_reducible repeat (first | refine blk_drewN ?_ _ | refine blk_drew ?_ | refine blk_alloc ?_ _)); exact BK378.out) hb); have n4_ := Aside0.mk (below_step (by repeat (first | (with_reducible first | exact HB.out | apply below_alloc | apply pw_below_drewN | apply below_drew1 | refine below_set ?_ GE344.out | refine below_set ?_ GE359.out | refine below_set ?_ GE367.out | refine below_set ?_ GE378.out) | exact HB.out)) hb); clear BK344; clear BK359; clear BK367; clear BK378; clear HB; have BK344 := n0_; have BK359 := n1_; have BK367 := n2_; have BK378 := n3_; have HB := n4_; clear n0_ n1_ n2_ n3_ n4_; (try clear hb); (try clear hb2); (try clear hk); (try clear hi)))
                      go_ret
                      exact ⟨by first | rfl | (simp [errW_none, errW_some] <;> rfl) | (simp [*, errW_none, errW_some] <;> rfl), by repeat (first | (with_reducible first | exact HB.out | apply below_alloc | apply pw_below_drewN | apply below_drew1 | refine below_set ?_ GE344.out | refine below_set ?_ GE359.out | refine below_set ?_ GE367.out | refine below_set ?_ GE378.out) | exact HB.out)⟩
                    · rw [if_neg c64] at H
                      exact absurd H (by simp)
                  · rw [if_neg c63] at H
                    exact absurd H (by simp)
                · rw [if_neg c62] at H
                  exact absurd H (by simp)
              · rw [if_neg c61] at H
                exact absurd H (by simp)
            · replace c58 := Bool.eq_false_iff.mpr c58
              subst c58
              have H1 : (if t368.toList = ([] : List UInt8) then (if t369 = 1 then ((bursarlaw26_awake.f kj30).bind fun t381 => (some t381)) else (none)) else (none)) = some r := by rw [if_neg (show ¬ (false = true) by decide)] at H; exact H
              clear H
              have H := H1
              clear H1
              by_cases c85 : t368.toList = ([] : List UInt8)
              · rw [if_pos c85] at H
                have c85b0 : (t368.toList == ([] : List UInt8)) = true := beq_iff_eq.mpr c85
                have c85b1 : (t368.toList != ([] : List UInt8)) = false := bne_eq_false_iff_eq.mpr c85
                clear c85
                by_cases c86 : t369 = 1
                · rw [if_pos c86] at H
                  have c86b0 : (t369 == 1) = true := beq_iff_eq.mpr c86
                  have c86b1 : (t369 != 1) = false := bne_eq_false_iff_eq.mpr c86
                  clear c86
                  replace H := Option.bind_eq_some_iff.mp H
                  obtain ⟨t381, A870, H⟩ := H
                  replace H : (some t381) = some r := H
                  have A87 := Aside0.mk A870
                  clear A870
                  obtain rfl := Option.some.inj H
                  have hnb88 := NB344_359.out
                  have hnc88 := NB359_344.out
                  have hnb89 := NB344_367.out
                  have hnc89 := NB367_344.out
                  have hcz90_0 := blk_cell BK344.out
                  have hfz90_0 := blk_frozen BK344.out
                  go_wp2_with (first | ((with_reducible refine gate_callee (f := 8) rfl ?_); refine goesL_ (some 57) rfl rfl Tryd.func8 (by kernel_rfl) rfl #[.agg #[.string t345, .string t346, .string t347, .int .i64 t348, .int .i64 t349, .int .i64 t350]] rfl (by (try simp only [List.map_toArray, List.map_cons, List.map_nil]); first | done | rfl | (simp only [List.length_drop, List.length_take]; rfl)) ?_; (with_reducible refine (dispute_Text.calls t345 t346 t347 t348 t349 t350 t368 t369 _ A56.out (Fu.tab_below HT.out (by repeat (first | (with_reducible first | exact HB.out | apply below_alloc | apply pw_below_drewN | apply below_drew1 | refine below_set ?_ GE344.out | refine below_set ?_ GE359.out | refine below_set ?_ GE367.out) | exact HB.out)))).mono ?_); rintro e w91 ⟨rfl, hb⟩; refine ⟨_, rfl, ?_⟩; have n0_ := Aside0.mk (blk_below (g := gb344) (o := .cells #[.string t345, .string t346, .string t347, .int .i64 t348, .int .i64 t349, .int .i64 t350] 23 (0, 0)) (by (with_reducible repeat (first | refine blk_drewN ?_ _ | refine blk_drew ?_ | refine blk_alloc ?_ _)); exact BK344.out) hb); have n1_ := Aside0.mk (blk_below (g := gb359) (o := .cells #[.string t352, .string t353, .string t354, .int .i64 t355, .int .i64 t356, .int .i64 t357] 23 (0, 0)) (by (with_reducible repeat (first | refine blk_drewN ?_ _ | refine blk_drew ?_ | refine blk_alloc ?_ _)); exact BK359.out) hb); have n2_ := Aside0.mk (blk_below (g := gb367) (o := .cells #[.string x368000_6, .string x368001_6, .string x368002_6, .int .i64 x368003_6, .int .i64 x368004_6, .int .i64 x368005_6] 23 (0, 0)) (by (with_reducible repeat (first | refine blk_drewN ?_ _ | refine blk_drew ?_ | refine blk_alloc ?_ _)); exact BK367.out) hb); have n3_ := Aside0.mk (below_step (by repeat (first | (with_reducible first | exact HB.out | apply below_alloc | apply pw_below_drewN | apply below_drew1 | refine below_set ?_ GE344.out | refine below_set ?_ GE359.out | refine below_set ?_ GE367.out) | exact HB.out)) hb); clear BK344; clear BK359; clear BK367; clear HB; have BK344 := n0_; have BK359 := n1_; have BK367 := n2_; have HB := n3_; clear n0_ n1_ n2_ n3_; (try clear hb); (try clear hb2); (try clear hk); (try clear hi); have hcz92_0 := blk_cell BK344.out; have hfz92_0 := blk_frozen BK344.out) | ((with_reducible refine gate_callee (f := 9) rfl ?_); refine goesL_ (some 61) rfl rfl Tryd.func9 (by kernel_rfl) rfl #[.agg #[.string t345, .string t346, .string t347, .int .i64 t348, .int .i64 t349, .int .i64 t350]] rfl (by (try simp only [List.map_toArray, List.map_cons, List.map_nil]); first | done | rfl | (simp only [List.length_drop, List.length_take]; rfl)) ?_; (with_reducible refine (bursarref26_May.calls t345 t346 t347 t348 t349 t350 false _ A57.out).mono ?_); rintro e w93 ⟨rfl, hb⟩; refine ⟨_, rfl, ?_⟩; have n0_ := Aside0.mk (blk_below (g := gb344) (o := .cells #[.string t345, .string t346, .string t347, .int .i64 t348, .int .i64 t349, .int .i64 t350] 23 (0, 0)) (by (with_reducible repeat (first | refine blk_drewN ?_ _ | refine blk_drew ?_ | refine blk_alloc ?_ _)); exact BK344.out) hb); have n1_ := Aside0.mk (blk_below (g := gb359) (o := .cells #[.string t352, .string t353, .string t354, .int .i64 t355, .int .i64 t356, .int .i64 t357] 23 (0, 0)) (by (with_reducible repeat (first | refine blk_drewN ?_ _ | refine blk_drew ?_ | refine blk_alloc ?_ _)); exact BK359.out) hb); have n2_ := Aside0.mk (blk_below (g := gb367) (o := .cells #[.string x368000_6, .string x368001_6, .string x368002_6, .int .i64 x368003_6, .int .i64 x368004_6, .int .i64 x368005_6] 23 (0, 0)) (by (with_reducible repeat (first | refine blk_drewN ?_ _ | refine blk_drew ?_ | refine blk_alloc ?_ _)); exact BK367.out) hb); have n3_ := Aside0.mk (below_step (by repeat (first | (with_reducible first | exact HB.out | apply below_alloc | apply pw_below_drewN | apply below_drew1 | refine below_set ?_ GE344.out | refine below_set ?_ GE359.out | refine below_set ?_ GE367.out) | exact HB.out)) hb); clear BK344; clear BK359; clear BK367; clear HB; have BK344 := n0_; have BK359 := n1_; have BK367 := n2_; have HB := n3_; clear n0_ n1_ n2_ n3_; (try clear hb); (try clear hb2); (try clear hk); (try clear hi)) | (go_at_call 10; (with_reducible refine (bursarlaw26_awake.calls kj30  t381 _ A87.out).mono ?_); rintro e w94 ⟨rfl, hb⟩; have n0_ := Aside0.mk (blk_below (g := gb344) (o := .cells #[.string t345, .string t346, .string t347, .int .i64 t348, .int .i64 t349, .int .i64 t350] 23 (0, 0)) (by (with_reducible repeat (first | refine blk_drewN ?_ _ | refine blk_drew ?_ | refine blk_alloc ?_ _)); exact BK344.out) hb); have n1_ := Aside0.mk (blk_below (g := gb359) (o := .cells #[.string t352, .string t353, .string t354, .int .i64 t355, .int .i64 t356, .int .i64 t357] 23 (0, 0)) (by (with_reducible repeat (first | refine blk_drewN ?_ _ | refine blk_drew ?_ | refine blk_alloc ?_ _)); exact BK359.out) hb); have n2_ := Aside0.mk (blk_below (g := gb367) (o := .cells #[.string x368000_6, .string x368001_6, .string x368002_6, .int .i64 x368003_6, .int .i64 x368004_6, .int .i64 x368005_6] 23 (0, 0)) (by (with_reducible repeat (first | refine blk_drewN ?_ _ | refine blk_drew ?_ | refine blk_alloc ?_ _)); exact BK367.out) hb); have n3_ := Aside0.mk (below_step (by repeat (first | (with_reducible first | exact HB.out | apply below_alloc | apply pw_below_drewN | apply below_drew1 | refine below_set ?_ GE344.out | refine below_set ?_ GE359.out | refine below_set ?_ GE367.out) | exact HB.out)) hb); clear BK344; clear BK359; clear BK367; clear HB; have BK344 := n0_; have BK359 := n1_; have BK367 := n2_; have HB := n3_; clear n0_ n1_ n2_ n3_; (try clear hb); (try clear hb2); (try clear hk); (try clear hi)))
                  go_ret
                  exact ⟨by first | rfl | (simp [errW_none, errW_some] <;> rfl) | (simp [*, errW_none, errW_some] <;> rfl), by repeat (first | (with_reducible first | exact HB.out | apply below_alloc | apply pw_below_drewN | apply below_drew1 | refine below_set ?_ GE344.out | refine below_set ?_ GE359.out | refine below_set ?_ GE367.out) | exact HB.out)⟩
                · rw [if_neg c86] at H
                  exact absurd H (by simp)
              · rw [if_neg c85] at H
                exact absurd H (by simp)

end Go.Proofs.YtkfpocggjbfomaaDoor.XT
