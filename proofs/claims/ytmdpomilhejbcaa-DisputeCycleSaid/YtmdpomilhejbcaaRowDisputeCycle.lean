/- The law DisputeCycle: for every input the call returns true and each argument reads behind the call as it read before. No conditions. -/
import Derived.Test.YtmdpomilhejbcaaRows
import Derived.Test.YtmdpomilhejbcaaPuDC
import Derived.Test.YtmdpomilhejbcaaXDC13
import Derived.Test.YtmdpomilhejbcaaOp
import Derived.Test.YtmdpomilhejbcaaOs
import Derived.WalkKit
import Derived.ProofKit
import Derived.OpenShut
import Derived.ShutString
import Derived.ChangeOld
import Derived.Below
import Derived.SizedLaws
namespace Go.Proofs.Ytmdpomilhejbcaa.disputeCycle
open Go.ChangeShapes Go.WideShapes Go.ChangeAt Go.RowKit
open Go.ChangeMaps (open_string shut_string)
set_option linter.unusedVariables false
theorem own : ownKnob Try.prog.godebug = none := by kernel_rfl
theorem laidOut : laidOutB Try.prog = true := by kernel_rfl
theorem leaf27_0 : Op.leafAt Try.prog 6 27 0 = some .str := by kernel_rfl
theorem leaf27_1 : Op.leafAt Try.prog 6 27 1 = some .str := by kernel_rfl
theorem leaf27_2 : Op.leafAt Try.prog 6 27 2 = some .str := by kernel_rfl
theorem leaf27_3 : Op.leafAt Try.prog 6 27 3 = some (.int .i64) := by kernel_rfl
theorem leaf27_4 : Op.leafAt Try.prog 6 27 4 = some .str := by kernel_rfl
theorem leaf27_5 : Op.leafAt Try.prog 6 27 5 = some .str := by kernel_rfl
theorem leaf27_6 : Op.leafAt Try.prog 6 27 6 = some .str := by kernel_rfl
theorem leaf27_7 : Op.leafAt Try.prog 6 27 7 = some .str := by kernel_rfl
theorem leaf27_8 : Op.leafAt Try.prog 6 27 8 = some .str := by kernel_rfl
theorem leaf27_9 : Op.leafAt Try.prog 6 27 9 = some (.int .i64) := by kernel_rfl
theorem leaf27_10 : Op.leafAt Try.prog 6 27 10 = some (.int .i64) := by kernel_rfl
theorem leaf27_11 : Op.leafAt Try.prog 6 27 11 = some .str := by kernel_rfl
theorem leaf27_12 : Op.leafAt Try.prog 6 27 12 = some .bool := by kernel_rfl
theorem leaf27_13 : Op.leafAt Try.prog 6 27 13 = some (.int .i64) := by kernel_rfl
theorem leaf27_14 : Op.leafAt Try.prog 6 27 14 = some .str := by kernel_rfl
theorem leaf27_15 : Op.leafAt Try.prog 6 27 15 = some .str := by kernel_rfl
theorem leaf27_16 : Op.leafAt Try.prog 6 27 16 = some .str := by kernel_rfl
theorem leaf27_17 : Op.leafAt Try.prog 6 27 17 = some (.int .i64) := by kernel_rfl
theorem leaf27_18 : Op.leafAt Try.prog 6 27 18 = some (.int .i64) := by kernel_rfl
theorem leaf27_19 : Op.leafAt Try.prog 6 27 19 = some (.int .i64) := by kernel_rfl
theorem leaf27_20 : Op.leafAt Try.prog 6 27 20 = some .bool := by kernel_rfl
theorem leaf27_21 : Op.leafAt Try.prog 6 27 21 = some .bool := by kernel_rfl
theorem leaf27_22 : Op.leafAt Try.prog 6 27 22 = some (.int .i64) := by kernel_rfl
theorem leaf27_23 : Op.leafAt Try.prog 6 27 23 = some (.int .i64) := by kernel_rfl
theorem leaf27_24 : Op.leafAt Try.prog 6 27 24 = some .bool := by kernel_rfl
theorem cells27 : Try.prog.cellsOf 27 = 25 := by kernel_rfl
set_option maxRecDepth 100000 in
theorem open27 {H : Type} {enc : TypeId × Value → H} {w : World} {base b0 : Nat} {r : Reach} {spare : Nat → Bool} {held : Bool} {v : Value} {d : DataW H} {p : List MemPlace} (hv : Value.okWide Try.prog w r b0 27 v) (h : DataW.Trod enc Try.prog w base spare held 27 v d p) :
    ∃ x0 x1 x2 x3 x4 x5 x6 x7 x8 x9 x10 x11 x12 x13 x14 x15 x16 x17 x18 x19 x20 x21 x22 x23 x24, v = .agg #[.string x0, .string x1, .string x2, .int .i64 x3, .string x4, .string x5, .string x6, .string x7, .string x8, .int .i64 x9, .int .i64 x10, .string x11, .bool x12, .int .i64 x13, .string x14, .string x15, .string x16, .int .i64 x17, .int .i64 x18, .int .i64 x19, .bool x20, .bool x21, .int .i64 x22, .int .i64 x23, .bool x24] ∧ (Lit.int .i64 x3).wf = true ∧ (Lit.int .i64 x9).wf = true ∧ (Lit.int .i64 x10).wf = true ∧ (Lit.int .i64 x13).wf = true ∧ (Lit.int .i64 x17).wf = true ∧ (Lit.int .i64 x18).wf = true ∧ (Lit.int .i64 x19).wf = true ∧ (Lit.int .i64 x22).wf = true ∧ (Lit.int .i64 x23).wf = true := by
  obtain ⟨cs, rfl, hsz⟩ := okWide_struct Try.underlying27 hv
  rw [cells27] at hsz
  obtain ⟨fuel, hf⟩ := h
  have hf' : DataW.trod enc Try.prog w base spare held fuel 27 cs.toList = some (d, p) := by simpa [Value.cells] using hf
  clear hf hv
  obtain ⟨x0, h0, _⟩ := Op.str_at (Op.leaf_of_trod 6 27 0 _ _ _ _ leaf27_0 hf')
  obtain ⟨x1, h1, _⟩ := Op.str_at (Op.leaf_of_trod 6 27 1 _ _ _ _ leaf27_1 hf')
  obtain ⟨x2, h2, _⟩ := Op.str_at (Op.leaf_of_trod 6 27 2 _ _ _ _ leaf27_2 hf')
  obtain ⟨x3, h3, g3⟩ := Op.int_at (Op.leaf_of_trod 6 27 3 _ _ _ _ leaf27_3 hf')
  obtain ⟨x4, h4, _⟩ := Op.str_at (Op.leaf_of_trod 6 27 4 _ _ _ _ leaf27_4 hf')
  obtain ⟨x5, h5, _⟩ := Op.str_at (Op.leaf_of_trod 6 27 5 _ _ _ _ leaf27_5 hf')
  obtain ⟨x6, h6, _⟩ := Op.str_at (Op.leaf_of_trod 6 27 6 _ _ _ _ leaf27_6 hf')
  obtain ⟨x7, h7, _⟩ := Op.str_at (Op.leaf_of_trod 6 27 7 _ _ _ _ leaf27_7 hf')
  obtain ⟨x8, h8, _⟩ := Op.str_at (Op.leaf_of_trod 6 27 8 _ _ _ _ leaf27_8 hf')
  obtain ⟨x9, h9, g9⟩ := Op.int_at (Op.leaf_of_trod 6 27 9 _ _ _ _ leaf27_9 hf')
  obtain ⟨x10, h10, g10⟩ := Op.int_at (Op.leaf_of_trod 6 27 10 _ _ _ _ leaf27_10 hf')
  obtain ⟨x11, h11, _⟩ := Op.str_at (Op.leaf_of_trod 6 27 11 _ _ _ _ leaf27_11 hf')
  obtain ⟨x12, h12⟩ := Op.bool_at (Op.leaf_of_trod 6 27 12 _ _ _ _ leaf27_12 hf')
  obtain ⟨x13, h13, g13⟩ := Op.int_at (Op.leaf_of_trod 6 27 13 _ _ _ _ leaf27_13 hf')
  obtain ⟨x14, h14, _⟩ := Op.str_at (Op.leaf_of_trod 6 27 14 _ _ _ _ leaf27_14 hf')
  obtain ⟨x15, h15, _⟩ := Op.str_at (Op.leaf_of_trod 6 27 15 _ _ _ _ leaf27_15 hf')
  obtain ⟨x16, h16, _⟩ := Op.str_at (Op.leaf_of_trod 6 27 16 _ _ _ _ leaf27_16 hf')
  obtain ⟨x17, h17, g17⟩ := Op.int_at (Op.leaf_of_trod 6 27 17 _ _ _ _ leaf27_17 hf')
  obtain ⟨x18, h18, g18⟩ := Op.int_at (Op.leaf_of_trod 6 27 18 _ _ _ _ leaf27_18 hf')
  obtain ⟨x19, h19, g19⟩ := Op.int_at (Op.leaf_of_trod 6 27 19 _ _ _ _ leaf27_19 hf')
  obtain ⟨x20, h20⟩ := Op.bool_at (Op.leaf_of_trod 6 27 20 _ _ _ _ leaf27_20 hf')
  obtain ⟨x21, h21⟩ := Op.bool_at (Op.leaf_of_trod 6 27 21 _ _ _ _ leaf27_21 hf')
  obtain ⟨x22, h22, g22⟩ := Op.int_at (Op.leaf_of_trod 6 27 22 _ _ _ _ leaf27_22 hf')
  obtain ⟨x23, h23, g23⟩ := Op.int_at (Op.leaf_of_trod 6 27 23 _ _ _ _ leaf27_23 hf')
  obtain ⟨x24, h24⟩ := Op.bool_at (Op.leaf_of_trod 6 27 24 _ _ _ _ leaf27_24 hf')
  have hl : cs.toList.length = 25 := by rw [Array.length_toList]; exact hsz
  refine ⟨x0, x1, x2, x3, x4, x5, x6, x7, x8, x9, x10, x11, x12, x13, x14, x15, x16, x17, x18, x19, x20, x21, x22, x23, x24, congrArg Value.agg (Array.toList_inj.mp ?_), g3, g9, g10, g13, g17, g18, g19, g22, g23⟩
  show cs.toList.drop 0 = _
  rw [Op.drop_get h0]
  rw [Op.drop_get h1]
  rw [Op.drop_get h2]
  rw [Op.drop_get h3]
  rw [Op.drop_get h4]
  rw [Op.drop_get h5]
  rw [Op.drop_get h6]
  rw [Op.drop_get h7]
  rw [Op.drop_get h8]
  rw [Op.drop_get h9]
  rw [Op.drop_get h10]
  rw [Op.drop_get h11]
  rw [Op.drop_get h12]
  rw [Op.drop_get h13]
  rw [Op.drop_get h14]
  rw [Op.drop_get h15]
  rw [Op.drop_get h16]
  rw [Op.drop_get h17]
  rw [Op.drop_get h18]
  rw [Op.drop_get h19]
  rw [Op.drop_get h20]
  rw [Op.drop_get h21]
  rw [Op.drop_get h22]
  rw [Op.drop_get h23]
  rw [Op.drop_get h24]
  rw [List.drop_eq_nil_of_le (by omega)]
set_option maxRecDepth 100000 in
theorem lifted (os : Os) (started : os.Started) (H : Type) (enc : TypeId × Value → H) :
    ReturnsInHanded {} Try.checked os 3 .any (Rows.disputeCycleSpec.pre6 enc Try.prog Try.f3 Rows.disputeCycleRow.domain false) (Rows.disputeCycleSpec.post enc Try.prog Try.f3 false true false false) := by
  refine returnsInHanded_of_change_sized (C := Try.checked) own started (by kernel_rfl) Try.func3
    (ChangeSpec.witness6 (enc := enc) (C := Try.checked) false ⟨#[], #[.agg #[.string ByteArray.empty, .string ByteArray.empty, .string ByteArray.empty, .int .i64 0, .string ByteArray.empty, .string ByteArray.empty, .string ByteArray.empty, .string ByteArray.empty, .string ByteArray.empty, .int .i64 0, .int .i64 0, .string ByteArray.empty, .bool false, .int .i64 0, .string ByteArray.empty, .string ByteArray.empty, .string ByteArray.empty, .int .i64 0, .int .i64 0, .int .i64 0, .bool false, .bool false, .int .i64 0, .int .i64 0, .bool false], .int .u16 0, .slice none 0 0], []⟩ 8 (by kernel_rfl) (by kernel_rfl) (by kernel_rfl) (by kernel_rfl)) ?_
  intro W base args ds gs before hval0 hW hcnd hsz0 _
  have hval : ∀ (j : Nat) t v, Try.f3.params[j]? = some t → args[j]? = some v → Value.okWide Try.prog W .any base t v := hval0
  have hW' := hW
  obtain ⟨p, q, hA0, hV, rfl, hfz, hnd⟩ := hW
  have hA : DataW.TrodAll enc Try.prog W 0 (fun _ => true) true Try.f3.params.toList args.toList ds p := hA0
  rw [Try.params3] at hA hval
  obtain ⟨v0, vs0, d0, ds0, p0, q0, hargs, rfl, rfl, h0, r0⟩ := trodAll_cons hA
  obtain ⟨v1, vs1, d1, ds1, p1, q1, rfl, rfl, rfl, h1, r1⟩ := trodAll_cons r0
  obtain ⟨v2, vs2, d2, ds2, p2, q2, rfl, rfl, rfl, h2, r2⟩ := trodAll_cons r1
  obtain ⟨rfl, rfl, rfl⟩ := trodAll_nil r2
  obtain rfl : args = #[v0, v1, v2] := by cases args; simp_all
  obtain ⟨rfl, rfl⟩ := trodVars_none hV
  have k0 := h0
  have lt0 : ∀ x ∈ p0, x.block < W.heap.size := by obtain ⟨m, hm⟩ := k0; exact DataW.trod_lt m _ _ _ hm
  obtain ⟨a0_0, a0_1, a0_2, a0_3, a0_4, a0_5, a0_6, a0_7, a0_8, a0_9, a0_10, a0_11, a0_12, a0_13, a0_14, a0_15, a0_16, a0_17, a0_18, a0_19, a0_20, a0_21, a0_22, a0_23, a0_24, hv0, g0_3, g0_9, g0_10, g0_13, g0_17, g0_18, g0_19, g0_22, g0_23⟩ := open27 (hval 0 27 v0 rfl rfl) h0
  subst hv0
  have k1 := h1
  have lt1 : ∀ x ∈ p1, x.block < W.heap.size := by obtain ⟨m, hm⟩ := k1; exact DataW.trod_lt m _ _ _ hm
  obtain ⟨a1, rfl, _, _, w1⟩ := open_int Try.underlying28 (hval 1 28 v1 rfl rfl) h1
  have k2 := h2
  have lt2 : ∀ x ∈ p2, x.block < W.heap.size := by obtain ⟨m, hm⟩ := k2; exact DataW.trod_lt m _ _ _ hm
  obtain ⟨b2, len2, cap2, rfl⟩ := okWide_slice Try.underlying29 (hval 2 29 v2 rfl rfl)
  obtain ⟨fuel2, hf2⟩ := h2
  obtain ⟨l2, hlen2, hcap2, hmax2, hw2, hr2⟩ := Op.ints_of_trod (k := .u8) Try.underlying29 Try.underlying5 (by kernel_rfl) (by simpa [Value.cells] using hf2)
  subst hlen2
  clear hA0 hval0 hsz0
  refine (XDC.bursarlaw26_DisputeCycle.calls 31 a0_0 a0_1 a0_2 a0_3 a0_4 a0_5 a0_6 a0_7 a0_8 a0_9 a0_10 a0_11 a0_12 a0_13 a0_14 a0_15 a0_16 a0_17 a0_18 a0_19 a0_20 a0_21 a0_22 a0_23 a0_24 a1 _ _ l2 true W hr2 hcap2 (XDC.cycle_pure a0_0 a0_1 a0_2 a0_3 a0_4 a0_5 a0_6 a0_7 a0_8 a0_9 a0_10 a0_11 a0_12 a0_13 a0_14 a0_15 a0_16 a0_17 a0_18 a0_19 a0_20 a0_21 a0_22 a0_23 a0_24 a1 l2 g0_3 g0_9 g0_10 g0_13 g0_17 g0_18 g0_19 g0_22 g0_23 w1 hw2)).mono fun e W' ⟨he, bel0⟩ => ?_
  have bel : Below W.heap.size W W' := bel0
  subst he
  exact ⟨_, rfl, _, _, _, [], _, [], hW', trodAll_mk1 (shut_bool Try.underlying4 _), (trodAll_cons_mk (Below.trod laidOut (by kernel_rfl) (of_decide_eq_true (by kernel_rfl)) k0 bel lt0) (trodAll_cons_mk (Below.trod laidOut (by kernel_rfl) (of_decide_eq_true (by kernel_rfl)) k1 bel lt1) (trodAll_cons_mk (Below.trod laidOut (by kernel_rfl) (of_decide_eq_true (by kernel_rfl)) k2 bel lt2) trodAll_mk0))), rfl, bel.frame _, fun h => by cases h⟩
theorem over : Rows.disputeCycleRow.holds Try.pinned (OpenSpec.ofChange Rows.disputeCycleSpec) :=
  OpenClaim.holds_of_wide 3 Try.f3 rfl rfl rfl rfl rfl rfl rfl ⟨rfl, rfl, rfl, rfl, rfl⟩ rfl rfl rfl rfl rfl (by kernel_rfl) Try.func3 (by kernel_rfl)
    (of_decide_eq_true (by kernel_rfl)) (by unfold Func.isWrapper; first | (rw [if_pos (by decide +kernel)]; kernel_rfl) | (rw [if_neg (by decide +kernel)]; exact ⟨rfl, rfl⟩))
    (fun os started H enc _ => lifted os started H enc)
theorem proved : Rows.DisputeCycleSaid := over
#print axioms proved
end Go.Proofs.Ytmdpomilhejbcaa.disputeCycle
namespace Go.Proofs.Ytmdpomilhejbcaa
/-- The row, under a short name, for the claim. -/
theorem disputeCycle_holds : Rows.DisputeCycleSaid := disputeCycle.proved
end Go.Proofs.Ytmdpomilhejbcaa
