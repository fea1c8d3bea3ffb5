/- A slice literal of texts, beside the blocks that a walk owns: no part of it is reckoned by the kernel. -/
import Derived.Test.YtmdpomilhejbcaaOw
import Derived.Great.BuildSlice
namespace Go.Proofs.Ytmdpomilhejbcaa.Ow
open Go.RowKit Go.Proofs.YtmdpomilhejbcaaW.PrintWords Go.Proofs.YtmdpomilhejbcaaW.PrintLast
variable {P : Program} {ops : Array Oper} {rest : List Oper} {o : Oper} {a : Act} {Q : Exit → Act → World → Prop}
theorem parts_strs (a : Act) (parts : Array (Nat × Operand)) (ys : List ByteArray) (hparts : parts.toList = (ys.zipIdx 0).map fun x => (x.2, Operand.const (Value.string x.1))) :
    (parts.map fun (i, x) => (i, a.eval x)).toList = ((ys.map Value.string).zipIdx 0).map fun x => (x.2, x.1) := by
  rw [Array.toList_map, hparts, List.zipIdx_map, List.map_map, List.map_map]
  rfl
theorem bstrs2 {w W : World} {l : List Row} (hgd : o.guard = none) {N : Tmp} (_hd : o.dst = some N) {ys : List ByteArray} {t e : TypeId} {n : Nat} {parts : Array (Nat × Operand)} (HO : Own w W l) (ho : o.op = .buildSlice t n parts)
    (hu : P.underlying t = some (.slice e)) (hsz : (P.info? e).map (·.size) = some 1) (hz : ((P.info? e).bind (·.zero)).isSome = true) (hn : n = ys.length) (hpos : 0 < n) (hsmall : n ≤ 2 ^ 24)
    (hparts : parts.toList = (ys.zipIdx 0).map fun x => (x.2, Operand.const (Value.string x.1)))
    (h : ∀ (g : Nat) (w1 : World), Aside0 (Own w w1 (l ++ [(g, (ys.map Value.string).toArray, e)])) → wpList P ops Q rest (a.put o.dst (.slice (some ⟨g, 0, none⟩) ys.length ys.length)) w1) : wpList P ops Q (o :: rest) a W := by
  cases hie : P.info? e with
  | none => simp [hie] at hsz
  | some ie =>
    simp only [hie, Option.map_some, Option.some.injEq, Option.bind_some] at hsz hz
    obtain ⟨z, hzz⟩ := Option.isSome_iff_exists.1 hz
    have hk := h W.heap.size _ ⟨HO.add rfl (blk_new W (.cells (ys.map Value.string).toArray e (0, 0))) (below_alloc (Below.refl _ _) _)⟩
    subst hn
    refine wpList_buildSlice hgd t e ys.length parts ho _ ie z hu hie hzz (by rw [hsz]; omega) (by rw [hsz]; omega) ?_ hk
    rw [parts_strs a parts ys hparts, hsz]
    exact Great.fill_flat _ _ (fun v hv => by obtain ⟨n, _, rfl⟩ := List.mem_map.1 hv; rfl) (by simp)
end Go.Proofs.Ytmdpomilhejbcaa.Ow
