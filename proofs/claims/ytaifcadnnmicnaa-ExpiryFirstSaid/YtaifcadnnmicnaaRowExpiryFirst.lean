/- The law ExpiryFirst: for every input the call returns true and each argument reads behind the call as it read before. No conditions. -/
import Derived.Test.YtaifcadnnmicnaaRows
import Derived.Test.YtaifcadnnmicnaaPuEF
import Derived.Test.YtaifcadnnmicnaaOp
import Derived.Test.YtaifcadnnmicnaaOs
import Derived.WalkKit
import Derived.ProofKit
import Derived.OpenShut
import Derived.ShutString
import Derived.ChangeOld
import Derived.Below
import Derived.SizedLaws
namespace Go.Proofs.Ytaifcadnnmicnaa.expiryFirst
open Go.ChangeShapes Go.WideShapes Go.ChangeAt Go.RowKit
open Go.ChangeMaps (open_string shut_string)
set_option linter.unusedVariables false
theorem own : ownKnob Try.prog.godebug = none := by kernel_rfl
theorem laidOut : laidOutB Try.prog = true := by kernel_rfl
theorem leaf30_0 : Op.leafAt Try.prog 6 30 0 = some .str := by kernel_rfl
theorem leaf30_1 : Op.leafAt Try.prog 6 30 1 = some .str := by kernel_rfl
theorem leaf30_2 : Op.leafAt Try.prog 6 30 2 = some .str := by kernel_rfl
theorem leaf30_3 : Op.leafAt Try.prog 6 30 3 = some (.int .i64) := by kernel_rfl
theorem leaf30_4 : Op.leafAt Try.prog 6 30 4 = some (.int .i64) := by kernel_rfl
theorem leaf30_5 : Op.leafAt Try.prog 6 30 5 = some (.int .i64) := by kernel_rfl
theorem leaf30_6 : Op.leafAt Try.prog 6 30 6 = some .bool := by kernel_rfl
set_option maxRecDepth 100000 in
theorem el30 {H : Type} {enc : TypeId × Value → H} {w : World} {base : Nat} {spare : Nat → Bool} {held : Bool} : ∀ (fuel : Nat) (cs : List Value) (x : DataW H × List MemPlace), cs.length = 7 → DataW.trod enc Try.prog w base spare held fuel 30 cs = some x → ∃ p : XE.S30, XE.k30.K w p cs := by
  intro fuel cs x hl hf'
  obtain ⟨x0, h0, _⟩ := Op.str_at (Op.leaf_of_trod 6 30 0 _ _ _ _ leaf30_0 hf')
  obtain ⟨x1, h1, _⟩ := Op.str_at (Op.leaf_of_trod 6 30 1 _ _ _ _ leaf30_1 hf')
  obtain ⟨x2, h2, _⟩ := Op.str_at (Op.leaf_of_trod 6 30 2 _ _ _ _ leaf30_2 hf')
  obtain ⟨x3, h3, g3⟩ := Op.int_at (Op.leaf_of_trod 6 30 3 _ _ _ _ leaf30_3 hf')
  obtain ⟨x4, h4, g4⟩ := Op.int_at (Op.leaf_of_trod 6 30 4 _ _ _ _ leaf30_4 hf')
  obtain ⟨x5, h5, g5⟩ := Op.int_at (Op.leaf_of_trod 6 30 5 _ _ _ _ leaf30_5 hf')
  obtain ⟨x6, h6⟩ := Op.bool_at (Op.leaf_of_trod 6 30 6 _ _ _ _ leaf30_6 hf')
  have e : cs = [.string x0, .string x1, .string x2, .int .i64 x3, .int .i64 x4, .int .i64 x5, .bool x6] := by
    show cs.drop 0 = _
    rw [Op.drop_get h0]
    rw [Op.drop_get h1]
    rw [Op.drop_get h2]
    rw [Op.drop_get h3]
    rw [Op.drop_get h4]
    rw [Op.drop_get h5]
    rw [Op.drop_get h6]
    rw [List.drop_eq_nil_of_le (by omega)]
  rw [e]
  exact ⟨_, XE.k30_mk w ⟨x0, x1, x2, x3, x4, x5, x6⟩⟩
instance : Inhabited XE.S30 := ⟨XE.z30⟩
set_option maxRecDepth 100000 in
theorem lifted (os : Os) (started : os.Started) (H : Type) (enc : TypeId × Value → H) :
    ReturnsInHanded {} Try.checked os 3 .any (Rows.expiryFirstSpec.pre6 enc Try.prog Try.f3 Rows.expiryFirstRow.domain false) (Rows.expiryFirstSpec.post enc Try.prog Try.f3 false true false false) := by
  refine returnsInHanded_of_change_sized (C := Try.checked) own started (by kernel_rfl) Try.func3
    (ChangeSpec.witness6 (enc := enc) (C := Try.checked) false ⟨#[], #[.slice none 0 0, .int .u8 0], []⟩ 8 (by kernel_rfl) (by kernel_rfl) (by kernel_rfl) (by kernel_rfl)) ?_
  intro W base args ds gs before hval0 hW hcnd hsz0 _
  have hval : ∀ (j : Nat) t v, Try.f3.params[j]? = some t → args[j]? = some v → Value.okWide Try.prog W .any base t v := hval0
  have hW' := hW
  obtain ⟨p, q, hA0, hV, rfl, hfz, hnd⟩ := hW
  have hA : DataW.TrodAll enc Try.prog W 0 (fun _ => true) true Try.f3.params.toList args.toList ds p := hA0
  rw [Try.params3] at hA hval
  obtain ⟨v0, vs0, d0, ds0, p0, q0, hargs, rfl, rfl, h0, r0⟩ := trodAll_cons hA
  obtain ⟨v1, vs1, d1, ds1, p1, q1, rfl, rfl, rfl, h1, r1⟩ := trodAll_cons r0
  obtain ⟨rfl, rfl, rfl⟩ := trodAll_nil r1
  obtain rfl : args = #[v0, v1] := by cases args; simp_all
  obtain ⟨rfl, rfl⟩ := trodVars_none hV
  have k0 := h0
  have lt0 : ∀ x ∈ p0, x.block < W.heap.size := by obtain ⟨m, hm⟩ := k0; exact DataW.trod_lt m _ _ _ hm
  obtain ⟨b0, len0, cap0, rfl⟩ := okWide_slice Try.underlying22 (hval 0 22 v0 rfl rfl)
  obtain ⟨fuel0, hf0⟩ := h0
  obtain ⟨l0, hlen0, hcap0, hmax0, hr0⟩ := Op.row_of_trod (sz := XE.k30.sz) (R := fun p cs => XE.k30.K W p cs) Try.underlying22 (by kernel_rfl) (fun f cs x hl => el30 f cs x hl) (by simpa [Value.cells] using hf0)
  subst hlen0
  have k1 := h1
  have lt1 : ∀ x ∈ p1, x.block < W.heap.size := by obtain ⟨m, hm⟩ := k1; exact DataW.trod_lt m _ _ _ hm
  obtain ⟨a1, rfl, _, _, w1⟩ := open_int Try.underlying5 (hval 1 5 v1 rfl rfl) h1
  clear hA0 hval0 hsz0
  refine (XE.bursarlaw15_ExpiryFirst.calls 0 _ _ l0 a1 true W hr0 hcap0 (XE.first_pure l0 a1 w1)).mono fun e W' ⟨he, bel0⟩ => ?_
  have bel : Below W.heap.size W W' := bel0
  subst he
  exact ⟨_, rfl, _, _, _, [], _, [], hW', trodAll_mk1 (shut_bool Try.underlying4 _), (trodAll_cons_mk (Below.trod laidOut (by kernel_rfl) (of_decide_eq_true (by kernel_rfl)) k0 bel lt0) (trodAll_cons_mk (Below.trod laidOut (by kernel_rfl) (of_decide_eq_true (by kernel_rfl)) k1 bel lt1) trodAll_mk0)), rfl, bel.frame _, fun h => by cases h⟩
theorem over : Rows.expiryFirstRow.holds Try.pinned (OpenSpec.ofChange Rows.expiryFirstSpec) :=
  OpenClaim.holds_of_wide 3 Try.f3 rfl rfl rfl rfl rfl rfl rfl ⟨rfl, rfl, rfl, rfl, rfl⟩ rfl rfl rfl rfl rfl (by kernel_rfl) Try.func3 (by kernel_rfl)
    (of_decide_eq_true (by kernel_rfl)) (by unfold Func.isWrapper; first | (rw [if_pos (by decide +kernel)]; kernel_rfl) | (rw [if_neg (by decide +kernel)]; exact ⟨rfl, rfl⟩))
    (fun os started H enc _ => lifted os started H enc)
theorem proved : Rows.ExpiryFirstSaid := over
#print axioms proved
end Go.Proofs.Ytaifcadnnmicnaa.expiryFirst
namespace Go.Proofs.Ytaifcadnnmicnaa
/-- The row, under a short name, for the claim. -/
theorem expiryFirst_holds : Rows.ExpiryFirstSaid := expiryFirst.proved
end Go.Proofs.Ytaifcadnnmicnaa
