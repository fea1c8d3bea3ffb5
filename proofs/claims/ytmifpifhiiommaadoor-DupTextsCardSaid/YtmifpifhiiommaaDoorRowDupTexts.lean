/- DupTexts, for every input: the tied card. Its row: the printed function answers true (none), and the Go code comes to what the printed function says. -/
import Derived.Test.YtmifpifhiiommaaDoorRows
import Derived.Test.YtmifpifhiiommaaDoorTie
import Derived.Test.YtmifpifhiiommaaDoorCards
import Derived.SevenTiedAt
import Derived.Test.YtmifpifhiiommaaDoorPuX
import Derived.Test.YtmifpifhiiommaaDoorXT19
import Derived.Test.YtmifpifhiiommaaDoorOp
import Derived.WalkKit
import Derived.ProofKit
import Derived.OpenShut
import Derived.ShutString
import Derived.ChangeOld
import Derived.Below
import Derived.SizedLaws
import Derived.LaidMore
import Derived.MakeChecks
import Derived.Lib.LaidTab
import Derived.Stop.LaidErr
import Derived.Stop.Joined
import Derived.LaidOnce
namespace Go.Proofs.YtmifpifhiiommaaDoor.dupTexts
open Go.ChangeShapes Go.WideShapes Go.ChangeAt Go.RowKit
open Go.ChangeMaps (open_string shut_string)
set_option linter.unusedVariables false
theorem door_met (os : Os) (args : Array Value) : laidMetH Tryd.prog Rows.dupTextsRow.laid ((World.doorLaid Tryd.prog 62 os).forCall (fun _ _ => 0) ⟨#[], args, []⟩).memory :=
  laidMetH_of_parts3 (fuel := 8) (laidMet_of_run' 8 (by kernel_rfl) (by kernel_rfl)) (by kernel_rfl) (by kernel_rfl)
theorem own : ownKnob Tryd.prog.godebug = none := by kernel_rfl
theorem laidOut : laidOutB Tryd.prog = true := by kernel_rfl
theorem leaf23_0 : Op.leafAt Tryd.prog 6 23 0 = some (.int .i64) := by kernel_rfl
theorem leaf23_1 : Op.leafAt Tryd.prog 6 23 1 = some .str := by kernel_rfl
theorem leaf23_2 : Op.leafAt Tryd.prog 6 23 2 = some .str := by kernel_rfl
theorem leaf23_3 : Op.leafAt Tryd.prog 6 23 3 = some .str := by kernel_rfl
theorem leaf23_4 : Op.leafAt Tryd.prog 6 23 4 = some (.int .i64) := by kernel_rfl
theorem cells23 : Tryd.prog.cellsOf 23 = 5 := by kernel_rfl
set_option maxRecDepth 100000 in
theorem open23 {H : Type} {enc : TypeId × Value → H} {w : World} {base b0 : Nat} {r : Reach} {spare : Nat → Bool} {held : Bool} {v : Value} {d : DataW H} {p : List MemPlace} (hv : Value.okWide Tryd.prog w r b0 23 v) (h : DataW.Trod enc Tryd.prog w base spare held 23 v d p) :
    ∃ x0 x1 x2 x3 x4, v = .agg #[.int .i64 x0, .string x1, .string x2, .string x3, .int .i64 x4] ∧ (Lit.int .i64 x0).wf = true ∧ (Lit.int .i64 x4).wf = true := by
  obtain ⟨cs, rfl, hsz⟩ := okWide_struct Tryd.underlying23 hv
  rw [cells23] at hsz
  obtain ⟨fuel, hf⟩ := h
  have hf' : DataW.trod enc Tryd.prog w base spare held fuel 23 cs.toList = some (d, p) := by simpa [Value.cells] using hf
  clear hf hv
  obtain ⟨x0, h0, g0⟩ := Op.int_at (Op.leaf_of_trod 6 23 0 _ _ _ _ leaf23_0 hf')
  obtain ⟨x1, h1, _⟩ := Op.str_at (Op.leaf_of_trod 6 23 1 _ _ _ _ leaf23_1 hf')
  obtain ⟨x2, h2, _⟩ := Op.str_at (Op.leaf_of_trod 6 23 2 _ _ _ _ leaf23_2 hf')
  obtain ⟨x3, h3, _⟩ := Op.str_at (Op.leaf_of_trod 6 23 3 _ _ _ _ leaf23_3 hf')
  obtain ⟨x4, h4, g4⟩ := Op.int_at (Op.leaf_of_trod 6 23 4 _ _ _ _ leaf23_4 hf')
  have hl : cs.toList.length = 5 := by rw [Array.length_toList]; exact hsz
  refine ⟨x0, x1, x2, x3, x4, congrArg Value.agg (Array.toList_inj.mp ?_), g0, g4⟩
  show cs.toList.drop 0 = _
  rw [Op.drop_get h0]
  rw [Op.drop_get h1]
  rw [Op.drop_get h2]
  rw [Op.drop_get h3]
  rw [Op.drop_get h4]
  rw [List.drop_eq_nil_of_le (by omega)]
set_option maxRecDepth 100000 in
theorem lifted (os : Os) (started : os.Started) (H : Type) (enc : TypeId × Value → H) :
    ReturnsInHanded {} Tryd.checked os 3 .any (fun w args => (Rows.dupTextsSpec.pre enc Tryd.prog Tryd.f3 [] false w args ∧ laidMetH Tryd.prog Rows.dupTextsRow.laid w) ∧ sizedMet enc Tryd.prog Tryd.f3 (OpenSpec.ofChange Rows.dupTextsSpec) false w args)
      (Rows.dupTextsSpec.post enc Tryd.prog Tryd.f3 false true false false) := by
  refine returnsInHanded_of_change_and (C := Tryd.checked) (X := fun w _ => laidMetH Tryd.prog Rows.dupTextsRow.laid w) (fun _ _ _ hh h => h.of_heap hh) own started (by kernel_rfl) Tryd.func3
    (ChangeSpec.witness_shaped (enc := enc) (C := Tryd.checked) (os := os) (X := fun w _ => laidMetH Tryd.prog Rows.dupTextsRow.laid w) false (World.doorLaid Tryd.prog 62 os) #[.agg #[.int .i64 0, .string ByteArray.empty, .string ByteArray.empty, .string ByteArray.empty, .int .i64 0], .int .i64 0, .string ByteArray.empty] 8 rfl (World.shaped_of_RefB (by kernel_rfl) (by kernel_rfl)) (by kernel_rfl) (by kernel_rfl) (by kernel_rfl) (door_met os _)) ?_
  intro W base args ds gs before hval0 hW hcnd hsz0 hL _
  have hval : ∀ (j : Nat) t v, Tryd.f3.params[j]? = some t → args[j]? = some v → Value.okWide Tryd.prog W .any base t v := hval0
  have hW' := hW
  obtain ⟨p, q, hA0, hV, rfl, hfz, hnd⟩ := hW
  have hA : DataW.TrodAll enc Tryd.prog W 0 (fun _ => true) true Tryd.f3.params.toList args.toList ds p := hA0
  rw [Tryd.params3] at hA hval
  obtain ⟨v0, vs0, d0, ds0, p0, q0, hargs, rfl, rfl, h0, r0⟩ := trodAll_cons hA
  obtain ⟨v1, vs1, d1, ds1, p1, q1, rfl, rfl, rfl, h1, r1⟩ := trodAll_cons r0
  obtain ⟨v2, vs2, d2, ds2, p2, q2, rfl, rfl, rfl, h2, r2⟩ := trodAll_cons r1
  obtain ⟨rfl, rfl, rfl⟩ := trodAll_nil r2
  obtain rfl : args = #[v0, v1, v2] := by cases args; simp_all
  obtain ⟨rfl, rfl⟩ := trodVars_none hV
  have k0 := h0
  have lt0 : ∀ x ∈ p0, x.block < W.heap.size := by obtain ⟨m, hm⟩ := k0; exact DataW.trod_lt m _ _ _ hm
  obtain ⟨a0_0, a0_1, a0_2, a0_3, a0_4, hv0, g0_0, g0_4⟩ := open23 (hval 0 23 v0 rfl rfl) h0
  subst hv0
  have k1 := h1
  have lt1 : ∀ x ∈ p1, x.block < W.heap.size := by obtain ⟨m, hm⟩ := k1; exact DataW.trod_lt m _ _ _ hm
  obtain ⟨a1, rfl, _, _, w1⟩ := open_int Tryd.underlying3 (hval 1 3 v1 rfl rfl) h1
  have k2 := h2
  have lt2 : ∀ x ∈ p2, x.block < W.heap.size := by obtain ⟨m, hm⟩ := k2; exact DataW.trod_lt m _ _ _ hm
  obtain ⟨a2, rfl, _, _, _⟩ := open_string Tryd.underlying9 (hval 2 9 v2 rfl rfl) h2
  clear hA0 hval0 hsz0
  have hL2 := hL
  rw [MakeChecks.laidMetH_plain _ _ _ (by kernel_rfl)] at hL2
  have hL3 : laidMet Tryd.prog (("internal/strconv.uint64pow10", Rows.laid_internal_strconv_uint64pow10) :: [("strconv.ErrRange", Rows.laid_strconv_ErrRange), ("strconv.ErrSyntax", Rows.laid_strconv_ErrSyntax)]) W := laidMet.tail (laidMet.tail hL2)
  rw [show Rows.laid_internal_strconv_uint64pow10 = Lib.tabData .u64 Lib.pow10Tab by kernel_rfl] at hL3
  have htab : Fu.Tab W := Lib.tabIs_of_head (g := 2) (by kernel_rfl) (by kernel_rfl) Tryd.underlying104 Tryd.underlying37 (by kernel_rfl) (by kernel_rfl) hL3
  refine (XT.bursarlaw21_DupTexts.calls 200 a0_0 a0_1 a0_2 a0_3 a0_4 a1 a2 true W (XT.texts_pure a0_0 a0_1 a0_2 a0_3 a0_4 a1 a2) htab).mono fun e W' ⟨he, bel0⟩ => ?_
  have bel : Below W.heap.size W W' := bel0
  subst he
  exact ⟨_, rfl, _, _, _, [], _, [], hW', trodAll_mk1 (shut_bool Tryd.underlying4 _), (trodAll_cons_mk (Below.trod laidOut (by kernel_rfl) (of_decide_eq_true (by kernel_rfl)) k0 bel lt0) (trodAll_cons_mk (Below.trod laidOut (by kernel_rfl) (of_decide_eq_true (by kernel_rfl)) k1 bel lt1) (trodAll_cons_mk (Below.trod laidOut (by kernel_rfl) (of_decide_eq_true (by kernel_rfl)) k2 bel lt2) trodAll_mk0))), rfl, bel.frame _, fun h => by cases h⟩
theorem over : Rows.dupTextsRow.holds Tryd.pinned (OpenSpec.ofChange Rows.dupTextsSpec) :=
  OpenClaim.holds_of_wide 3 Tryd.f3 rfl rfl rfl rfl rfl rfl rfl ⟨rfl, rfl, rfl, rfl, rfl⟩ rfl rfl rfl rfl rfl (by kernel_rfl) Tryd.func3 (by kernel_rfl)
    (of_decide_eq_true (by kernel_rfl)) (by unfold Func.isWrapper; first | (rw [if_pos (by decide +kernel)]; kernel_rfl) | (rw [if_neg (by decide +kernel)]; exact ⟨rfl, rfl⟩))
    (fun os started H enc _ => lifted os started H enc)
theorem proved : Rows.DupTextsSaid := over
end Go.Proofs.YtmifpifhiiommaaDoor.dupTexts
namespace Go.Proofs.YtmifpifhiiommaaDoor
open Go
theorem dupTexts_holds : Rows.DupTextsCardSaid :=
  Claim7.holds_tied_plain_at .later [] [.data, .data, .data, .sentinel, .sentinel] true (true, "26430a6c9bc44228b02952acf4de8c22a1c38990ba090320aac7c911297693e7") true
    dupTexts.over (fun _ h => by cases h) (by kernel_rfl) (fun _ h => by cases h) dupTexts_row_tie rfl ⟨rfl, rfl⟩ (by kernel_rfl) rfl
    (fun f fn hf hfn => by
      obtain rfl : f = 3 := Option.some.inj ((show Tryd.prog.funcNamed "bursar/bursarlaw21.DupTexts" = some 3 by kernel_rfl).symm.trans hf) |>.symm
      obtain rfl : fn = Tryd.f3 := (Option.some.inj (Tryd.func3.symm.trans hfn)).symm
      exact ⟨by kernel_rfl, fun j t ht => by
        rw [Tryd.params3] at ht
        have hm : t ∈ [23, 3, 9] := by simpa using Array.mem_of_getElem? ht
        have hall : ([23, 3, 9].all fun u => !Tryd.prog.wantsStandIn u) = true := by kernel_rfl
        exact (show Tryd.prog.wantsStandIn t = false by simpa using List.all_eq_true.1 hall t hm)⟩)
    (by kernel_rfl)
end Go.Proofs.YtmifpifhiiommaaDoor
