/- The law ChartNames: for every input the call returns true and each argument reads behind the call as it read before. No conditions. -/
import Derived.Test.YtkbhocncfldifaaRows
import Derived.Test.YtkbhocncfldifaaXCh4
import Derived.Test.YtkbhocncfldifaaPureCh
import Derived.Test.YtkbhocncfldifaaOp
import Derived.WalkKit
import Derived.ProofKit
import Derived.OpenShut
import Derived.ShutString
import Derived.ChangeOld
import Derived.Below
import Derived.SizedLaws
namespace Go.Proofs.Ytkbhocncfldifaa.chartNames
open Go.ChangeShapes Go.WideShapes Go.ChangeAt Go.RowKit
open Go.ChangeMaps (open_string shut_string)
set_option linter.unusedVariables false
theorem own : ownKnob Try.prog.godebug = none := by kernel_rfl
theorem laidOut : laidOutB Try.prog = true := by kernel_rfl
theorem leaf23_0 : Op.leafAt Try.prog 6 23 0 = some (.int .i64) := by kernel_rfl
theorem leaf23_1 : Op.leafAt Try.prog 6 23 1 = some .str := by kernel_rfl
theorem cells23 : Try.prog.cellsOf 23 = 2 := by kernel_rfl
set_option maxRecDepth 100000 in
theorem open23 {H : Type} {enc : TypeId × Value → H} {w : World} {base b0 : Nat} {r : Reach} {spare : Nat → Bool} {held : Bool} {v : Value} {d : DataW H} {p : List MemPlace} (hv : Value.okWide Try.prog w r b0 23 v) (h : DataW.Trod enc Try.prog w base spare held 23 v d p) :
    ∃ x0 x1, v = .agg #[.int .i64 x0, .string x1] ∧ (Lit.int .i64 x0).wf = true := by
  obtain ⟨cs, rfl, hsz⟩ := okWide_struct Try.underlying23 hv
  rw [cells23] at hsz
  obtain ⟨fuel, hf⟩ := h
  have hf' : DataW.trod enc Try.prog w base spare held fuel 23 cs.toList = some (d, p) := by simpa [Value.cells] using hf
  clear hf hv
  obtain ⟨x0, h0, g0⟩ := Op.int_at (Op.leaf_of_trod 6 23 0 _ _ _ _ leaf23_0 hf')
  obtain ⟨x1, h1, _⟩ := Op.str_at (Op.leaf_of_trod 6 23 1 _ _ _ _ leaf23_1 hf')
  have hl : cs.toList.length = 2 := by rw [Array.length_toList]; exact hsz
  refine ⟨x0, x1, congrArg Value.agg (Array.toList_inj.mp ?_), g0⟩
  show cs.toList.drop 0 = _
  rw [Op.drop_get h0]
  rw [Op.drop_get h1]
  rw [List.drop_eq_nil_of_le (by omega)]
set_option maxRecDepth 100000 in
theorem lifted (os : Os) (started : os.Started) (H : Type) (enc : TypeId × Value → H) :
    ReturnsInHanded {} Try.checked os 3 .any (Rows.chartNamesSpec.pre6 enc Try.prog Try.f3 Rows.chartNamesRow.domain false) (Rows.chartNamesSpec.post enc Try.prog Try.f3 false true false false) := by
  refine returnsInHanded_of_change_sized (C := Try.checked) own started (by kernel_rfl) Try.func3
    (ChangeSpec.witness6 (enc := enc) (C := Try.checked) false ⟨#[], #[.agg #[.int .i64 0, .string ByteArray.empty]], []⟩ 8 (by kernel_rfl) (by kernel_rfl) (by kernel_rfl) (by kernel_rfl)) ?_
  intro W base args ds gs before hval0 hW hcnd hsz0 _
  have hval : ∀ (j : Nat) t v, Try.f3.params[j]? = some t → args[j]? = some v → Value.okWide Try.prog W .any base t v := hval0
  have hW' := hW
  obtain ⟨p, q, hA0, hV, rfl, hfz, hnd⟩ := hW
  have hA : DataW.TrodAll enc Try.prog W 0 (fun _ => true) true Try.f3.params.toList args.toList ds p := hA0
  rw [Try.params3] at hA hval
  obtain ⟨v0, vs0, d0, ds0, p0, q0, hargs, rfl, rfl, h0, r0⟩ := trodAll_cons hA
  obtain ⟨rfl, rfl, rfl⟩ := trodAll_nil r0
  obtain rfl : args = #[v0] := by cases args; simp_all
  obtain ⟨rfl, rfl⟩ := trodVars_none hV
  have k0 := h0
  have lt0 : ∀ x ∈ p0, x.block < W.heap.size := by obtain ⟨m, hm⟩ := k0; exact DataW.trod_lt m _ _ _ hm
  obtain ⟨a0_0, a0_1, hv0, g0_0⟩ := open23 (hval 0 23 v0 rfl rfl) h0
  subst hv0
  clear hA0 hval0 hsz0
  refine (XCh.bursarlaw11_ChartNames.calls 1 a0_0 a0_1 true W (XCh.ChartNames_true a0_0 a0_1)).mono fun e W' ⟨he, bel0⟩ => ?_
  have bel : Below W.heap.size W W' := bel0
  subst he
  exact ⟨_, rfl, _, _, _, [], _, [], hW', trodAll_mk1 (shut_bool Try.underlying4 _), (trodAll_cons_mk (Below.trod laidOut (by kernel_rfl) (of_decide_eq_true (by kernel_rfl)) k0 bel lt0) trodAll_mk0), rfl, bel.frame _, fun h => by cases h⟩
theorem over : Rows.chartNamesRow.holds Try.pinned (OpenSpec.ofChange Rows.chartNamesSpec) :=
  OpenClaim.holds_of_wide 3 Try.f3 rfl rfl rfl rfl rfl rfl rfl ⟨rfl, rfl, rfl, rfl, rfl⟩ rfl rfl rfl rfl rfl (by kernel_rfl) Try.func3 (by kernel_rfl)
    (of_decide_eq_true (by kernel_rfl)) (by unfold Func.isWrapper; first | (rw [if_pos (by decide +kernel)]; kernel_rfl) | (rw [if_neg (by decide +kernel)]; exact ⟨rfl, rfl⟩))
    (fun os started H enc _ => lifted os started H enc)
theorem proved : Rows.ChartNamesSaid := over
#print axioms proved
end Go.Proofs.Ytkbhocncfldifaa.chartNames
namespace Go.Proofs.Ytkbhocncfldifaa
/-- The row, under a short name, for the claim. -/
theorem chartNames_holds : Rows.ChartNamesSaid := chartNames.proved
end Go.Proofs.Ytkbhocncfldifaa
