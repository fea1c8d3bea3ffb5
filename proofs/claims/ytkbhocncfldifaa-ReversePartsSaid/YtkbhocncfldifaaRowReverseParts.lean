/- The law ReverseParts: for every input the call returns true and each argument reads behind the call as it read before. No conditions. -/
import Derived.Test.YtkbhocncfldifaaRows
import Derived.Test.YtkbhocncfldifaaPuRQ
import Derived.Test.YtkbhocncfldifaaXRQ6
import Derived.Test.YtkbhocncfldifaaOp
import Derived.WalkKit
import Derived.ProofKit
import Derived.OpenShut
import Derived.ShutString
import Derived.ChangeOld
import Derived.Below
import Derived.SizedLaws
namespace Go.Proofs.Ytkbhocncfldifaa.reverseParts
open Go.ChangeShapes Go.WideShapes Go.ChangeAt Go.RowKit
open Go.ChangeMaps (open_string shut_string)
set_option linter.unusedVariables false
theorem own : ownKnob Try.prog.godebug = none := by kernel_rfl
theorem laidOut : laidOutB Try.prog = true := by kernel_rfl
theorem leaf63_0 : Op.leafAt Try.prog 6 63 0 = some .str := by kernel_rfl
theorem leaf63_1 : Op.leafAt Try.prog 6 63 1 = some .str := by kernel_rfl
theorem leaf63_2 : Op.leafAt Try.prog 6 63 2 = some .str := by kernel_rfl
theorem leaf63_3 : Op.leafAt Try.prog 6 63 3 = some (.int .i64) := by kernel_rfl
theorem leaf63_4 : Op.leafAt Try.prog 6 63 4 = some .str := by kernel_rfl
theorem leaf63_5 : Op.leafAt Try.prog 6 63 5 = some .str := by kernel_rfl
theorem leaf63_6 : Op.leafAt Try.prog 6 63 6 = some .str := by kernel_rfl
theorem leaf63_7 : Op.leafAt Try.prog 6 63 7 = some .str := by kernel_rfl
theorem leaf63_8 : Op.leafAt Try.prog 6 63 8 = some .str := by kernel_rfl
theorem leaf63_9 : Op.leafAt Try.prog 6 63 9 = some (.int .i64) := by kernel_rfl
theorem leaf63_10 : Op.leafAt Try.prog 6 63 10 = some (.int .i64) := by kernel_rfl
theorem leaf63_11 : Op.leafAt Try.prog 6 63 11 = some .str := by kernel_rfl
theorem leaf63_12 : Op.leafAt Try.prog 6 63 12 = some .bool := by kernel_rfl
theorem leaf63_13 : Op.leafAt Try.prog 6 63 13 = some (.int .i64) := by kernel_rfl
theorem leaf63_14 : Op.leafAt Try.prog 6 63 14 = some .str := by kernel_rfl
theorem leaf63_15 : Op.leafAt Try.prog 6 63 15 = some .str := by kernel_rfl
theorem leaf63_16 : Op.leafAt Try.prog 6 63 16 = some .str := by kernel_rfl
theorem leaf63_17 : Op.leafAt Try.prog 6 63 17 = some (.int .i64) := by kernel_rfl
theorem leaf63_18 : Op.leafAt Try.prog 6 63 18 = some (.int .i64) := by kernel_rfl
theorem leaf63_19 : Op.leafAt Try.prog 6 63 19 = some (.int .i64) := by kernel_rfl
theorem leaf63_20 : Op.leafAt Try.prog 6 63 20 = some .bool := by kernel_rfl
theorem leaf63_21 : Op.leafAt Try.prog 6 63 21 = some .bool := by kernel_rfl
theorem leaf63_22 : Op.leafAt Try.prog 6 63 22 = some (.int .i64) := by kernel_rfl
theorem leaf63_23 : Op.leafAt Try.prog 6 63 23 = some (.int .i64) := by kernel_rfl
theorem leaf63_24 : Op.leafAt Try.prog 6 63 24 = some .bool := by kernel_rfl
theorem cells63 : Try.prog.cellsOf 63 = 25 := by kernel_rfl
set_option maxRecDepth 100000 in
theorem open63 {H : Type} {enc : TypeId × Value → H} {w : World} {base b0 : Nat} {r : Reach} {spare : Nat → Bool} {held : Bool} {v : Value} {d : DataW H} {p : List MemPlace} (hv : Value.okWide Try.prog w r b0 63 v) (h : DataW.Trod enc Try.prog w base spare held 63 v d p) :
    ∃ x0 x1 x2 x3 x4 x5 x6 x7 x8 x9 x10 x11 x12 x13 x14 x15 x16 x17 x18 x19 x20 x21 x22 x23 x24, v = .agg #[.string x0, .string x1, .string x2, .int .i64 x3, .string x4, .string x5, .string x6, .string x7, .string x8, .int .i64 x9, .int .i64 x10, .string x11, .bool x12, .int .i64 x13, .string x14, .string x15, .string x16, .int .i64 x17, .int .i64 x18, .int .i64 x19, .bool x20, .bool x21, .int .i64 x22, .int .i64 x23, .bool x24] ∧ (Lit.int .i64 x3).wf = true ∧ (Lit.int .i64 x9).wf = true ∧ (Lit.int .i64 x10).wf = true ∧ (Lit.int .i64 x13).wf = true ∧ (Lit.int .i64 x17).wf = true ∧ (Lit.int .i64 x18).wf = true ∧ (Lit.int .i64 x19).wf = true ∧ (Lit.int .i64 x22).wf = true ∧ (Lit.int .i64 x23).wf = true := by
  obtain ⟨cs, rfl, hsz⟩ := okWide_struct Try.underlying63 hv
  rw [cells63] at hsz
  obtain ⟨fuel, hf⟩ := h
  have hf' : DataW.trod enc Try.prog w base spare held fuel 63 cs.toList = some (d, p) := by simpa [Value.cells] using hf
  clear hf hv
  obtain ⟨x0, h0, _⟩ := Op.str_at (Op.leaf_of_trod 6 63 0 _ _ _ _ leaf63_0 hf')
  obtain ⟨x1, h1, _⟩ := Op.str_at (Op.leaf_of_trod 6 63 1 _ _ _ _ leaf63_1 hf')
  obtain ⟨x2, h2, _⟩ := Op.str_at (Op.leaf_of_trod 6 63 2 _ _ _ _ leaf63_2 hf')
  obtain ⟨x3, h3, g3⟩ := Op.int_at (Op.leaf_of_trod 6 63 3 _ _ _ _ leaf63_3 hf')
  obtain ⟨x4, h4, _⟩ := Op.str_at (Op.leaf_of_trod 6 63 4 _ _ _ _ leaf63_4 hf')
  obtain ⟨x5, h5, _⟩ := Op.str_at (Op.leaf_of_trod 6 63 5 _ _ _ _ leaf63_5 hf')
  obtain ⟨x6, h6, _⟩ := Op.str_at (Op.leaf_of_trod 6 63 6 _ _ _ _ leaf63_6 hf')
  obtain ⟨x7, h7, _⟩ := Op.str_at (Op.leaf_of_trod 6 63 7 _ _ _ _ leaf63_7 hf')
  obtain ⟨x8, h8, _⟩ := Op.str_at (Op.leaf_of_trod 6 63 8 _ _ _ _ leaf63_8 hf')
  obtain ⟨x9, h9, g9⟩ := Op.int_at (Op.leaf_of_trod 6 63 9 _ _ _ _ leaf63_9 hf')
  obtain ⟨x10, h10, g10⟩ := Op.int_at (Op.leaf_of_trod 6 63 10 _ _ _ _ leaf63_10 hf')
  obtain ⟨x11, h11, _⟩ := Op.str_at (Op.leaf_of_trod 6 63 11 _ _ _ _ leaf63_11 hf')
  obtain ⟨x12, h12⟩ := Op.bool_at (Op.leaf_of_trod 6 63 12 _ _ _ _ leaf63_12 hf')
  obtain ⟨x13, h13, g13⟩ := Op.int_at (Op.leaf_of_trod 6 63 13 _ _ _ _ leaf63_13 hf')
  obtain ⟨x14, h14, _⟩ := Op.str_at (Op.leaf_of_trod 6 63 14 _ _ _ _ leaf63_14 hf')
  obtain ⟨x15, h15, _⟩ := Op.str_at (Op.leaf_of_trod 6 63 15 _ _ _ _ leaf63_15 hf')
  obtain ⟨x16, h16, _⟩ := Op.str_at (Op.leaf_of_trod 6 63 16 _ _ _ _ leaf63_16 hf')
  obtain ⟨x17, h17, g17⟩ := Op.int_at (Op.leaf_of_trod 6 63 17 _ _ _ _ leaf63_17 hf')
  obtain ⟨x18, h18, g18⟩ := Op.int_at (Op.leaf_of_trod 6 63 18 _ _ _ _ leaf63_18 hf')
  obtain ⟨x19, h19, g19⟩ := Op.int_at (Op.leaf_of_trod 6 63 19 _ _ _ _ leaf63_19 hf')
  obtain ⟨x20, h20⟩ := Op.bool_at (Op.leaf_of_trod 6 63 20 _ _ _ _ leaf63_20 hf')
  obtain ⟨x21, h21⟩ := Op.bool_at (Op.leaf_of_trod 6 63 21 _ _ _ _ leaf63_21 hf')
  obtain ⟨x22, h22, g22⟩ := Op.int_at (Op.leaf_of_trod 6 63 22 _ _ _ _ leaf63_22 hf')
  obtain ⟨x23, h23, g23⟩ := Op.int_at (Op.leaf_of_trod 6 63 23 _ _ _ _ leaf63_23 hf')
  obtain ⟨x24, h24⟩ := Op.bool_at (Op.leaf_of_trod 6 63 24 _ _ _ _ leaf63_24 hf')
  have hl : cs.toList.length = 25 := by rw [Array.length_toList]; exact hsz
  refine ⟨x0, x1, x2, x3, x4, x5, x6, x7, x8, x9, x10, x11, x12, x13, x14, x15, x16, x17, x18, x19, x20, x21, x22, x23, x24, congrArg Value.agg (Array.toList_inj.mp ?_), g3, g9, g10, g13, g17, g18, g19, g22, g23⟩
  show cs.toList.drop 0 = _
  rw [Op.drop_get h0]
  rw [Op.drop_get h1]
  rw [Op.drop_get h2]
  rw [Op.drop_get h3]
  rw [Op.drop_get h4]
  rw [Op.drop_get h5]
  rw [Op.drop_get h6]
  rw [Op.drop_get h7]
  rw [Op.drop_get h8]
  rw [Op.drop_get h9]
  rw [Op.drop_get h10]
  rw [Op.drop_get h11]
  rw [Op.drop_get h12]
  rw [Op.drop_get h13]
  rw [Op.drop_get h14]
  rw [Op.drop_get h15]
  rw [Op.drop_get h16]
  rw [Op.drop_get h17]
  rw [Op.drop_get h18]
  rw [Op.drop_get h19]
  rw [Op.drop_get h20]
  rw [Op.drop_get h21]
  rw [Op.drop_get h22]
  rw [Op.drop_get h23]
  rw [Op.drop_get h24]
  rw [List.drop_eq_nil_of_le (by omega)]
set_option maxRecDepth 100000 in
theorem lifted (os : Os) (started : os.Started) (H : Type) (enc : TypeId × Value → H) :
    ReturnsInHanded {} Try.checked os 12 .any (Rows.reversePartsSpec.pre6 enc Try.prog Try.f12 Rows.reversePartsRow.domain false) (Rows.reversePartsSpec.post enc Try.prog Try.f12 false true false false) := by
  refine returnsInHanded_of_change_sized (C := Try.checked) own started (by kernel_rfl) Try.func12
    (ChangeSpec.witness6 (enc := enc) (C := Try.checked) false ⟨#[], #[.agg #[.string ByteArray.empty, .string ByteArray.empty, .string ByteArray.empty, .int .i64 0, .string ByteArray.empty, .string ByteArray.empty, .string ByteArray.empty, .string ByteArray.empty, .string ByteArray.empty, .int .i64 0, .int .i64 0, .string ByteArray.empty, .bool false, .int .i64 0, .string ByteArray.empty, .string ByteArray.empty, .string ByteArray.empty, .int .i64 0, .int .i64 0, .int .i64 0, .bool false, .bool false, .int .i64 0, .int .i64 0, .bool false], .int .u16 0, .int .u16 0], []⟩ 8 (by kernel_rfl) (by kernel_rfl) (by kernel_rfl) (by kernel_rfl)) ?_
  intro W base args ds gs before hval0 hW hcnd hsz0 _
  have hval : ∀ (j : Nat) t v, Try.f12.params[j]? = some t → args[j]? = some v → Value.okWide Try.prog W .any base t v := hval0
  have hW' := hW
  obtain ⟨p, q, hA0, hV, rfl, hfz, hnd⟩ := hW
  have hA : DataW.TrodAll enc Try.prog W 0 (fun _ => true) true Try.f12.params.toList args.toList ds p := hA0
  rw [Try.params12] at hA hval
  obtain ⟨v0, vs0, d0, ds0, p0, q0, hargs, rfl, rfl, h0, r0⟩ := trodAll_cons hA
  obtain ⟨v1, vs1, d1, ds1, p1, q1, rfl, rfl, rfl, h1, r1⟩ := trodAll_cons r0
  obtain ⟨v2, vs2, d2, ds2, p2, q2, rfl, rfl, rfl, h2, r2⟩ := trodAll_cons r1
  obtain ⟨rfl, rfl, rfl⟩ := trodAll_nil r2
  obtain rfl : args = #[v0, v1, v2] := by cases args; simp_all
  obtain ⟨rfl, rfl⟩ := trodVars_none hV
  have k0 := h0
  have lt0 : ∀ x ∈ p0, x.block < W.heap.size := by obtain ⟨m, hm⟩ := k0; exact DataW.trod_lt m _ _ _ hm
  obtain ⟨a0_0, a0_1, a0_2, a0_3, a0_4, a0_5, a0_6, a0_7, a0_8, a0_9, a0_10, a0_11, a0_12, a0_13, a0_14, a0_15, a0_16, a0_17, a0_18, a0_19, a0_20, a0_21, a0_22, a0_23, a0_24, hv0, g0_3, g0_9, g0_10, g0_13, g0_17, g0_18, g0_19, g0_22, g0_23⟩ := open63 (hval 0 63 v0 rfl rfl) h0
  subst hv0
  have k1 := h1
  have lt1 : ∀ x ∈ p1, x.block < W.heap.size := by obtain ⟨m, hm⟩ := k1; exact DataW.trod_lt m _ _ _ hm
  obtain ⟨a1, rfl, _, _, w1⟩ := open_int Try.underlying53 (hval 1 53 v1 rfl rfl) h1
  have k2 := h2
  have lt2 : ∀ x ∈ p2, x.block < W.heap.size := by obtain ⟨m, hm⟩ := k2; exact DataW.trod_lt m _ _ _ hm
  obtain ⟨a2, rfl, _, _, w2⟩ := open_int Try.underlying53 (hval 2 53 v2 rfl rfl) h2
  clear hA0 hval0 hsz0
  refine (XRQ.bursarlaw24_ReverseParts.calls 2 a0_0 a0_1 a0_2 a0_3 a0_4 a0_5 a0_6 a0_7 a0_8 a0_9 a0_10 a0_11 a0_12 a0_13 a0_14 a0_15 a0_16 a0_17 a0_18 a0_19 a0_20 a0_21 a0_22 a0_23 a0_24 a1 a2 true W (XRQ.parts_pure a0_0 a0_1 a0_2 a0_3 a0_4 a0_5 a0_6 a0_7 a0_8 a0_9 a0_10 a0_11 a0_12 a0_13 a0_14 a0_15 a0_16 a0_17 a0_18 a0_19 a0_20 a0_21 a0_22 a0_23 a0_24 a1 a2 g0_3 g0_9 g0_10 g0_13 g0_17 g0_18 g0_19 g0_22 g0_23 w1 w2)).mono fun e W' ⟨he, bel0⟩ => ?_
  have bel : Below W.heap.size W W' := bel0
  subst he
  exact ⟨_, rfl, _, _, _, [], _, [], hW', trodAll_mk1 (shut_bool Try.underlying4 _), (trodAll_cons_mk (Below.trod laidOut (by kernel_rfl) (of_decide_eq_true (by kernel_rfl)) k0 bel lt0) (trodAll_cons_mk (Below.trod laidOut (by kernel_rfl) (of_decide_eq_true (by kernel_rfl)) k1 bel lt1) (trodAll_cons_mk (Below.trod laidOut (by kernel_rfl) (of_decide_eq_true (by kernel_rfl)) k2 bel lt2) trodAll_mk0))), rfl, bel.frame _, fun h => by cases h⟩
theorem over : Rows.reversePartsRow.holds Try.pinned (OpenSpec.ofChange Rows.reversePartsSpec) :=
  OpenClaim.holds_of_wide 12 Try.f12 rfl rfl rfl rfl rfl rfl rfl ⟨rfl, rfl, rfl, rfl, rfl⟩ rfl rfl rfl rfl rfl (by kernel_rfl) Try.func12 (by kernel_rfl)
    (of_decide_eq_true (by kernel_rfl)) (by unfold Func.isWrapper; first | (rw [if_pos (by decide +kernel)]; kernel_rfl) | (rw [if_neg (by decide +kernel)]; exact ⟨rfl, rfl⟩))
    (fun os started H enc _ => lifted os started H enc)
theorem proved : Rows.ReversePartsSaid := over
#print axioms proved
end Go.Proofs.Ytkbhocncfldifaa.reverseParts
namespace Go.Proofs.Ytkbhocncfldifaa
/-- The row, under a short name, for the claim. -/
theorem reverseParts_holds : Rows.ReversePartsSaid := reverseParts.proved
end Go.Proofs.Ytkbhocncfldifaa
