-- Written by wip/xprint.py, a session's program: printed out of the translation, with hand-written functions. Lean checks it.
import Derived.Test.YtmdpomilhejbcaaXAE0
import Derived.Test.YtmdpomilhejbcaaXAE3
import Derived.Test.YtmdpomilhejbcaaXAE4
import Derived.Test.YtmdpomilhejbcaaXAE5
namespace Go.Proofs.Ytmdpomilhejbcaa.XAE
open Go.RowKit Go.Proofs.YtmdpomilhejbcaaW.PrintWords Go.Proofs.YtmdpomilhejbcaaW.PrintLast Go.Proofs.YtmdpomilhejbcaaW.PrintMore
attribute [local go_sem] max2_int min2_int max_two min_two max_three min_three max_four min_four   -- for this text's walks alone
set_option linter.unusedVariables false
set_option linter.unusedSimpArgs false

/-! #### hold_May, refined -/
theorem hold_May_e (rrn acq pan : ByteArray) (ap ca un : Int) (op : Bool) (hs : rrn.size ≤ 4096) : hold_May_p.f 1 rrn acq pan ap ca un op = some (Pu.hmay rrn acq pan ap ca un op) := by
  unfold hold_May_p.f hold_Ref.f chart_May.f hold_until.f Pu.hmay
  simp only [if_pos hs, Option.bind_some, hold_May_p.j0]
  cases Pu.refB rrn <;> cases Pu.mayB 1 pan <;> cases Pu.mayB 2 acq <;> try (simp; done)
  by_cases h1 : 0 ≤ un <;> by_cases h2 : un ≤ 2147483647 <;> by_cases h3 : 0 ≤ ca <;> by_cases h4 : ca ≤ ap <;> cases op <;> simp [h1, h2, h3, h4]
def hold_May.f (a0_0 a0_1 a0_2 : ByteArray) (a0_3 a0_4 a0_5 : Int) (a0_6 : Bool) : Option Bool := if a0_0.size ≤ 4096 then some (Pu.hmay a0_0 a0_1 a0_2 a0_3 a0_4 a0_5 a0_6) else none
theorem hold_May.calls (a0_0 a0_1 a0_2 : ByteArray) (a0_3 a0_4 a0_5 : Int) (a0_6 : Bool) (r : Bool) (w : World) (h : hold_May.f a0_0 a0_1 a0_2 a0_3 a0_4 a0_5 a0_6 = some r) :
    Calls Try.prog 16 #[.agg #[.string a0_0, .string a0_1, .string a0_2, .int .i64 a0_3, .int .i64 a0_4, .int .i64 a0_5, .bool a0_6]] w fun e w' => e = .returned (.bool r) ∧ Below w.heap.size w w' := by
  unfold hold_May.f at h
  split at h
  · exact hold_May_p.calls 1 a0_0 a0_1 a0_2 a0_3 a0_4 a0_5 a0_6 r w ((hold_May_e a0_0 a0_1 a0_2 a0_3 a0_4 a0_5 a0_6 ‹_›).trans h)
  · cases h


end Go.Proofs.Ytmdpomilhejbcaa.XAE
