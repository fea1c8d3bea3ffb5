/- A slice literal of one octet, and the text that it is made into, beside the blocks that a walk owns. -/
import Derived.Test.YtmdpomilhejbcaaOw
import Derived.Laws.BytesArg
namespace Go.Proofs.Ytmdpomilhejbcaa.Ow
open Go.RowKit Go.Proofs.YtmdpomilhejbcaaW.PrintWords Go.Proofs.YtmdpomilhejbcaaW.PrintLast
variable {P : Program} {ops : Array Oper} {rest : List Oper} {o : Oper} {a : Act} {Q : Exit → Act → World → Prop}
theorem lit8 {w W : World} {l : List Row} (hgd : o.guard = none) {N : Tmp} (_hd : o.dst = some N) {v : Int} {e t u : TypeId}
    (ht : P.underlying t = some (.slice e)) (he : P.underlying e = some (.int .u8)) (hu : P.underlying u = some .string) (HO : Own w W l)
    (hrun : (execOp a.eval o).run P W = .ok (.value (.slice (some ⟨W.heap.size, 0, none⟩) 1 1)) (W.alloc (.cells #[.int .u8 v] e (0, 0))))
    (h : ∀ (g : Nat) (w1 : World), Aside0 (Own w w1 (l ++ [(g, #[.int .u8 v], e)])) → (convert t u (.slice (some ⟨g, 0, none⟩) 1 1)).run P w1 = .ok (.string (strOfNums [v])) w1 → wpList P ops Q rest (a.put o.dst (.slice (some ⟨g, 0, none⟩) 1 1)) w1) : wpList P ops Q (o :: rest) a W := by
  refine Kd.event_run hgd hrun (h W.heap.size _ ⟨HO.add rfl (blk_new W _) (below_alloc (Below.refl _ _) _)⟩ ?_)
  refine run_convert_bytes_arg _ t e ht he W.heap.size 0 1 1 [v] rfl (fun i hi => ?_) u hu
  obtain rfl : i = 0 := by omega
  rw [World.cell?_alloc_new]
  rfl
/-- The same; the octet's block is not kept on the list. -/
theorem lit8d {w W : World} {l : List Row} (hgd : o.guard = none) {N : Tmp} (_hd : o.dst = some N) {v : Int} {e t u : TypeId}
    (ht : P.underlying t = some (.slice e)) (he : P.underlying e = some (.int .u8)) (hu : P.underlying u = some .string) (HO : Own w W l)
    (hrun : (execOp a.eval o).run P W = .ok (.value (.slice (some ⟨W.heap.size, 0, none⟩) 1 1)) (W.alloc (.cells #[.int .u8 v] e (0, 0))))
    (h : ∀ (g : Nat) (w1 : World), Aside0 (Own w w1 l) → (convert t u (.slice (some ⟨g, 0, none⟩) 1 1)).run P w1 = .ok (.string (strOfNums [v])) w1 → wpList P ops Q rest (a.put o.dst (.slice (some ⟨g, 0, none⟩) 1 1)) w1) : wpList P ops Q (o :: rest) a W := by
  refine Kd.event_run hgd hrun (h W.heap.size _ ⟨HO.call (below_alloc (Below.refl _ _) _)⟩ ?_)
  refine run_convert_bytes_arg _ t e ht he W.heap.size 0 1 1 [v] rfl (fun i hi => ?_) u hu
  obtain rfl : i = 0 := by omega
  rw [World.cell?_alloc_new]
  rfl
end Go.Proofs.Ytmdpomilhejbcaa.Ow
