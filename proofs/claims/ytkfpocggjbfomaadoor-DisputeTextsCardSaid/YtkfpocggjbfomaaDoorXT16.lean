-- Written by wip/xprint.py, a session's program: printed out of the translation, with hand-written functions. Lean checks it.
import Derived.Test.YtkfpocggjbfomaaDoorXT0
import Derived.Test.YtkfpocggjbfomaaDoorXT14
import Derived.Test.YtkfpocggjbfomaaDoorXT15
namespace Go.Proofs.YtkfpocggjbfomaaDoor.XT
open Go.RowKit Go.Proofs.YtkfpocggjbfomaaDoorW.PrintWords Go.Proofs.YtkfpocggjbfomaaDoorW.PrintLast Go.Proofs.YtkfpocggjbfomaaDoorW.PrintMore
attribute [local go_sem] max2_int min2_int max_two min_two max_three min_three max_four min_four   -- for this text's walks alone
set_option linter.unusedVariables false
set_option linter.unusedSimpArgs false

/-! ### bursarlaw26_awake: function 10 -/
def bursarlaw26_awake.f (k : Nat)  : Option (Bool) := (bursarlaw26_some.f (⟨#[48, 48, 48, 48, 48, 48]⟩ : ByteArray) 50 0).bind fun bt175 => ((dispute_Decide.f k bt175.1 bt175.2.1 bt175.2.2.1 bt175.2.2.2.1 bt175.2.2.2.2.1 bt175.2.2.2.2.2.1 bt175.2.2.2.2.2.2.1 bt175.2.2.2.2.2.2.2.1 bt175.2.2.2.2.2.2.2.2.1 bt175.2.2.2.2.2.2.2.2.2.1 bt175.2.2.2.2.2.2.2.2.2.2.1 bt175.2.2.2.2.2.2.2.2.2.2.2.1 bt175.2.2.2.2.2.2.2.2.2.2.2.2.1 bt175.2.2.2.2.2.2.2.2.2.2.2.2.2.1 bt175.2.2.2.2.2.2.2.2.2.2.2.2.2.2.1 bt175.2.2.2.2.2.2.2.2.2.2.2.2.2.2.2.1 bt175.2.2.2.2.2.2.2.2.2.2.2.2.2.2.2.2.1 bt175.2.2.2.2.2.2.2.2.2.2.2.2.2.2.2.2.2.1 bt175.2.2.2.2.2.2.2.2.2.2.2.2.2.2.2.2.2.2.1 bt175.2.2.2.2.2.2.2.2.2.2.2.2.2.2.2.2.2.2.2.1 bt175.2.2.2.2.2.2.2.2.2.2.2.2.2.2.2.2.2.2.2.2.1 bt175.2.2.2.2.2.2.2.2.2.2.2.2.2.2.2.2.2.2.2.2.2.1 bt175.2.2.2.2.2.2.2.2.2.2.2.2.2.2.2.2.2.2.2.2.2.2.1 bt175.2.2.2.2.2.2.2.2.2.2.2.2.2.2.2.2.2.2.2.2.2.2.2.1 bt175.2.2.2.2.2.2.2.2.2.2.2.2.2.2.2.2.2.2.2.2.2.2.2.2 (⟨#[]⟩ : ByteArray) (⟨#[]⟩ : ByteArray) (⟨#[]⟩ : ByteArray) 0 0 0 false).bind fun bt200 => ((bursarlaw26_some.f (⟨#[48, 49, 48, 48, 48, 48]⟩ : ByteArray) 50 0).bind fun bt215 => ((dispute_Decide.f k bt215.1 bt215.2.1 bt215.2.2.1 bt215.2.2.2.1 bt215.2.2.2.2.1 bt215.2.2.2.2.2.1 bt215.2.2.2.2.2.2.1 bt215.2.2.2.2.2.2.2.1 bt215.2.2.2.2.2.2.2.2.1 bt215.2.2.2.2.2.2.2.2.2.1 bt215.2.2.2.2.2.2.2.2.2.2.1 bt215.2.2.2.2.2.2.2.2.2.2.2.1 bt215.2.2.2.2.2.2.2.2.2.2.2.2.1 bt215.2.2.2.2.2.2.2.2.2.2.2.2.2.1 bt215.2.2.2.2.2.2.2.2.2.2.2.2.2.2.1 bt215.2.2.2.2.2.2.2.2.2.2.2.2.2.2.2.1 bt215.2.2.2.2.2.2.2.2.2.2.2.2.2.2.2.2.1 bt215.2.2.2.2.2.2.2.2.2.2.2.2.2.2.2.2.2.1 bt215.2.2.2.2.2.2.2.2.2.2.2.2.2.2.2.2.2.2.1 bt215.2.2.2.2.2.2.2.2.2.2.2.2.2.2.2.2.2.2.2.1 bt215.2.2.2.2.2.2.2.2.2.2.2.2.2.2.2.2.2.2.2.2.1 bt215.2.2.2.2.2.2.2.2.2.2.2.2.2.2.2.2.2.2.2.2.2.1 bt215.2.2.2.2.2.2.2.2.2.2.2.2.2.2.2.2.2.2.2.2.2.2.1 bt215.2.2.2.2.2.2.2.2.2.2.2.2.2.2.2.2.2.2.2.2.2.2.2.1 bt215.2.2.2.2.2.2.2.2.2.2.2.2.2.2.2.2.2.2.2.2.2.2.2.2 bt200.1 bt200.2.1 bt200.2.2.1 bt200.2.2.2.1 bt200.2.2.2.2.1 bt200.2.2.2.2.2.1 true).bind fun bt240 => ((bursarlaw26_some.f (⟨#[48, 49, 48, 48, 48, 48]⟩ : ByteArray) 40 0).bind fun bt255 => ((dispute_Decide.f k bt255.1 bt255.2.1 bt255.2.2.1 bt255.2.2.2.1 bt255.2.2.2.2.1 bt255.2.2.2.2.2.1 bt255.2.2.2.2.2.2.1 bt255.2.2.2.2.2.2.2.1 bt255.2.2.2.2.2.2.2.2.1 bt255.2.2.2.2.2.2.2.2.2.1 bt255.2.2.2.2.2.2.2.2.2.2.1 bt255.2.2.2.2.2.2.2.2.2.2.2.1 bt255.2.2.2.2.2.2.2.2.2.2.2.2.1 bt255.2.2.2.2.2.2.2.2.2.2.2.2.2.1 bt255.2.2.2.2.2.2.2.2.2.2.2.2.2.2.1 bt255.2.2.2.2.2.2.2.2.2.2.2.2.2.2.2.1 bt255.2.2.2.2.2.2.2.2.2.2.2.2.2.2.2.2.1 bt255.2.2.2.2.2.2.2.2.2.2.2.2.2.2.2.2.2.1 bt255.2.2.2.2.2.2.2.2.2.2.2.2.2.2.2.2.2.2.1 bt255.2.2.2.2.2.2.2.2.2.2.2.2.2.2.2.2.2.2.2.1 bt255.2.2.2.2.2.2.2.2.2.2.2.2.2.2.2.2.2.2.2.2.1 bt255.2.2.2.2.2.2.2.2.2.2.2.2.2.2.2.2.2.2.2.2.2.1 bt255.2.2.2.2.2.2.2.2.2.2.2.2.2.2.2.2.2.2.2.2.2.2.1 bt255.2.2.2.2.2.2.2.2.2.2.2.2.2.2.2.2.2.2.2.2.2.2.2.1 bt255.2.2.2.2.2.2.2.2.2.2.2.2.2.2.2.2.2.2.2.2.2.2.2.2 bt200.1 bt200.2.1 bt200.2.2.1 bt200.2.2.2.1 bt200.2.2.2.2.1 bt200.2.2.2.2.2.1 true).bind fun bt280 => ((bursarlaw26_some.f (⟨#[48, 49, 48, 48, 48, 48]⟩ : ByteArray) 50 201).bind fun bt295 => ((dispute_Decide.f k bt295.1 bt295.2.1 bt295.2.2.1 bt295.2.2.2.1 bt295.2.2.2.2.1 bt295.2.2.2.2.2.1 bt295.2.2.2.2.2.2.1 bt295.2.2.2.2.2.2.2.1 bt295.2.2.2.2.2.2.2.2.1 bt295.2.2.2.2.2.2.2.2.2.1 bt295.2.2.2.2.2.2.2.2.2.2.1 bt295.2.2.2.2.2.2.2.2.2.2.2.1 bt295.2.2.2.2.2.2.2.2.2.2.2.2.1 bt295.2.2.2.2.2.2.2.2.2.2.2.2.2.1 bt295.2.2.2.2.2.2.2.2.2.2.2.2.2.2.1 bt295.2.2.2.2.2.2.2.2.2.2.2.2.2.2.2.1 bt295.2.2.2.2.2.2.2.2.2.2.2.2.2.2.2.2.1 bt295.2.2.2.2.2.2.2.2.2.2.2.2.2.2.2.2.2.1 bt295.2.2.2.2.2.2.2.2.2.2.2.2.2.2.2.2.2.2.1 bt295.2.2.2.2.2.2.2.2.2.2.2.2.2.2.2.2.2.2.2.1 bt295.2.2.2.2.2.2.2.2.2.2.2.2.2.2.2.2.2.2.2.2.1 bt295.2.2.2.2.2.2.2.2.2.2.2.2.2.2.2.2.2.2.2.2.2.1 bt295.2.2.2.2.2.2.2.2.2.2.2.2.2.2.2.2.2.2.2.2.2.2.1 bt295.2.2.2.2.2.2.2.2.2.2.2.2.2.2.2.2.2.2.2.2.2.2.2.1 bt295.2.2.2.2.2.2.2.2.2.2.2.2.2.2.2.2.2.2.2.2.2.2.2.2 bt200.1 bt200.2.1 bt200.2.2.1 bt200.2.2.2.1 bt200.2.2.2.2.1 bt200.2.2.2.2.2.1 true).bind fun bt320 => (if bt200.2.2.2.1 = 1 then (if bt200.2.2.2.2.2.2.1 = 3 then (if bt200.2.2.2.2.2.2.2.2.2.2.2.2.toList = ([48, 48] : List UInt8) then (if bt240.2.2.2.1 = 2 then (if bt240.2.2.2.2.2.2.2.2.2.2.2.2.toList = ([48, 48] : List UInt8) then (if bt280.2.2.2.2.2.2.2.2.2.2.2.2.toList = ([54, 49] : List UInt8) then (if bt320.2.2.2.2.2.2.2.2.2.2.2.2.toList = ([53, 52] : List UInt8) then (some true) else (none)) else (none)) else (none)) else (none)) else (none)) else (none)) else (none)))))))))
theorem bursarlaw26_awake.mono : ∀ k, LeO (bursarlaw26_awake.f k ) (bursarlaw26_awake.f (k + 1) ) := by
  intro  k
  unfold bursarlaw26_awake.f
  repeat' first
      | (with_reducible exact dispute_Decide.mono _ _ _ _ _ _ _ _ _ _ _ _ _ _ _ _ _ _ _ _ _ _ _ _ _ _ _ _ _ _ _ _ _)
      | (with_reducible exact LeO.refl _)
      | (with_reducible exact LeO.none _)
      | (with_reducible refine LeO.ite ?_ ?_)
      | (with_reducible refine LeO.bind ?_ (fun _ => ?_))
      | exact dispute_Decide.mono _ _ _ _ _ _ _ _ _ _ _ _ _ _ _ _ _ _ _ _ _ _ _ _ _ _ _ _ _ _ _ _ _
      | exact LeO.none _
      | refine LeO.ite ?_ ?_
      | refine LeO.bind ?_ (fun _ => ?_)
def bursarlaw26_awake.T2 : Bool × List (List Nat × List Nat) := (true, [([], []), ([], []), ([0, 1, 0], [0, 1]), ([2], [2]), ([3], [3]), ([3], [3]), ([3], [3]), ([], []), ([], []), ([7, 4, 2, 0, 1, 2, 3, 4, 7, 8], [4, 7]), ([8, 5, 9, 0, 1, 2, 3, 4, 5, 7, 8, 9], [5, 8]), ([6, 10, 0, 1, 2, 3, 4, 5, 6, 7, 8, 9, 10], [6])])
def bursarlaw26_awake.B2 : List Nat := [0, 0, 3, 7, 15, 15, 15, 0, 0, 415, 959, 2047]
theorem bursarlaw26_awake.tab2 : rtab .any (opsOf Tryd.f10 2) = bursarlaw26_awake.T2 := by kernel_rfl
theorem bursarlaw26_awake.bits2 : waitsOk bursarlaw26_awake.T2.2 bursarlaw26_awake.B2 = true := by kernel_rfl
def bursarlaw26_awake.T3 : Bool × List (List Nat × List Nat) := (true, [([], []), ([], []), ([0, 1, 0], [0, 1]), ([2], [2]), ([3], [3]), ([3], [3]), ([3], [3]), ([], []), ([], []), ([7, 4, 2, 0, 1, 2, 3, 4, 7, 8], [4, 7]), ([8, 5, 9, 0, 1, 2, 3, 4, 5, 7, 8, 9], [5, 8]), ([6, 10, 0, 1, 2, 3, 4, 5, 6, 7, 8, 9, 10], [6])])
def bursarlaw26_awake.B3 : List Nat := [0, 0, 3, 7, 15, 15, 15, 0, 0, 415, 959, 2047]
theorem bursarlaw26_awake.tab3 : rtab .any (opsOf Tryd.f10 3) = bursarlaw26_awake.T3 := by kernel_rfl
theorem bursarlaw26_awake.bits3 : waitsOk bursarlaw26_awake.T3.2 bursarlaw26_awake.B3 = true := by kernel_rfl
def bursarlaw26_awake.T4 : Bool × List (List Nat × List Nat) := (true, [([], []), ([], []), ([0, 1, 0], [0, 1]), ([2], [2]), ([3], [3]), ([3], [3]), ([3], [3]), ([], []), ([], []), ([7, 4, 2, 0, 1, 2, 3, 4, 7, 8], [4, 7]), ([8, 5, 9, 0, 1, 2, 3, 4, 5, 7, 8, 9], [5, 8]), ([6, 10, 0, 1, 2, 3, 4, 5, 6, 7, 8, 9, 10], [6])])
def bursarlaw26_awake.B4 : List Nat := [0, 0, 3, 7, 15, 15, 15, 0, 0, 415, 959, 2047]
theorem bursarlaw26_awake.tab4 : rtab .any (opsOf Tryd.f10 4) = bursarlaw26_awake.T4 := by kernel_rfl
theorem bursarlaw26_awake.bits4 : waitsOk bursarlaw26_awake.T4.2 bursarlaw26_awake.B4 = true := by kernel_rfl
def bursarlaw26_awake.Z6 : Array Value := #[.string (⟨#[]⟩ : ByteArray), .string (⟨#[]⟩ : ByteArray), .string (⟨#[]⟩ : ByteArray), .int .i64 0, .int .i64 0, .int .i64 0]
def bursarlaw26_awake.Z6_1 : Array Value := #[.int .i64 0, .int .i64 0, .string (⟨#[]⟩ : ByteArray), .string (⟨#[]⟩ : ByteArray), .string (⟨#[]⟩ : ByteArray), .int .i64 0]
set_option maxHeartbeats 8000000 in
set_option maxRecDepth 100000 in
theorem bursarlaw26_awake.calls (k : Nat)  (r : Bool) (w : World) (h : bursarlaw26_awake.f k  = some r) :
    Calls Tryd.prog 10 #[] w fun e w' => e = .returned (.bool r) ∧ Below w.heap.size w w' := by
 have hu23 := Tryd.underlying23
 have hu50 := Tryd.underlying50
 have HO := Aside0.mk (Ow.Own.nil w)
 have hmf : ∀ (fn : Fn) (first cap : Array Value) (w : World), (Instr.makeFunc fn first cap).run Tryd.prog w = .ok (.func fn first cap) w := fun _ _ _ _ => rfl
 have H : ((bursarlaw26_some.f (⟨#[48, 48, 48, 48, 48, 48]⟩ : ByteArray) 50 0).bind fun bt175 => ((dispute_Decide.f k bt175.1 bt175.2.1 bt175.2.2.1 bt175.2.2.2.1 bt175.2.2.2.2.1 bt175.2.2.2.2.2.1 bt175.2.2.2.2.2.2.1 bt175.2.2.2.2.2.2.2.1 bt175.2.2.2.2.2.2.2.2.1 bt175.2.2.2.2.2.2.2.2.2.1 bt175.2.2.2.2.2.2.2.2.2.2.1 bt175.2.2.2.2.2.2.2.2.2.2.2.1 bt175.2.2.2.2.2.2.2.2.2.2.2.2.1 bt175.2.2.2.2.2.2.2.2.2.2.2.2.2.1 bt175.2.2.2.2.2.2.2.2.2.2.2.2.2.2.1 bt175.2.2.2.2.2.2.2.2.2.2.2.2.2.2.2.1 bt175.2.2.2.2.2.2.2.2.2.2.2.2.2.2.2.2.1 bt175.2.2.2.2.2.2.2.2.2.2.2.2.2.2.2.2.2.1 bt175.2.2.2.2.2.2.2.2.2.2.2.2.2.2.2.2.2.2.1 bt175.2.2.2.2.2.2.2.2.2.2.2.2.2.2.2.2.2.2.2.1 bt175.2.2.2.2.2.2.2.2.2.2.2.2.2.2.2.2.2.2.2.2.1 bt175.2.2.2.2.2.2.2.2.2.2.2.2.2.2.2.2.2.2.2.2.2.1 bt175.2.2.2.2.2.2.2.2.2.2.2.2.2.2.2.2.2.2.2.2.2.2.1 bt175.2.2.2.2.2.2.2.2.2.2.2.2.2.2.2.2.2.2.2.2.2.2.2.1 bt175.2.2.2.2.2.2.2.2.2.2.2.2.2.2.2.2.2.2.2.2.2.2.2.2 (⟨#[]⟩ : ByteArray) (⟨#[]⟩ : ByteArray) (⟨#[]⟩ : ByteArray) 0 0 0 false).bind fun bt200 => ((bursarlaw26_some.f (⟨#[48, 49, 48, 48, 48, 48]⟩ : ByteArray) 50 0).bind fun bt215 => ((dispute_Decide.f k bt215.1 bt215.2.1 bt215.2.2.1 bt215.2.2.2.1 bt215.2.2.2.2.1 bt215.2.2.2.2.2.1 bt215.2.2.2.2.2.2.1 bt215.2.2.2.2.2.2.2.1 bt215.2.2.2.2.2.2.2.2.1 bt215.2.2.2.2.2.2.2.2.2.1 bt215.2.2.2.2.2.2.2.2.2.2.1 bt215.2.2.2.2.2.2.2.2.2.2.2.1 bt215.2.2.2.2.2.2.2.2.2.2.2.2.1 bt215.2.2.2.2.2.2.2.2.2.2.2.2.2.1 bt215.2.2.2.2.2.2.2.2.2.2.2.2.2.2.1 bt215.2.2.2.2.2.2.2.2.2.2.2.2.2.2.2.1 bt215.2.2.2.2.2.2.2.2.2.2.2.2.2.2.2.2.1 bt215.2.2.2.2.2.2.2.2.2.2.2.2.2.2.2.2.2.1 bt215.2.2.2.2.2.2.2.2.2.2.2.2.2.2.2.2.2.2.1 bt215.2.2.2.2.2.2.2.2.2.2.2.2.2.2.2.2.2.2.2.1 bt215.2.2.2.2.2.2.2.2.2.2.2.2.2.2.2.2.2.2.2.2.1 bt215.2.2.2.2.2.2.2.2.2.2.2.2.2.2.2.2.2.2.2.2.2.1 bt215.2.2.2.2.2.2.2.2.2.2.2.2.2.2.2.2.2.2.2.2.2.2.1 bt215.2.2.2.2.2.2.2.2.2.2.2.2.2.2.2.2.2.2.2.2.2.2.2.1 bt215.2.2.2.2.2.2.2.2.2.2.2.2.2.2.2.2.2.2.2.2.2.2.2.2 bt200.1 bt200.2.1 bt200.2.2.1 bt200.2.2.2.1 bt200.2.2.2.2.1 bt200.2.2.2.2.2.1 true).bind fun bt240 => ((bursarlaw26_some.f (⟨#[48, 49, 48, 48, 48, 48]⟩ : ByteArray) 40 0).bind fun bt255 => ((dispute_Decide.f k bt255.1 bt255.2.1 bt255.2.2.1 bt255.2.2.2.1 bt255.2.2.2.2.1 bt255.2.2.2.2.2.1 bt255.2.2.2.2.2.2.1 bt255.2.2.2.2.2.2.2.1 bt255.2.2.2.2.2.2.2.2.1 bt255.2.2.2.2.2.2.2.2.2.1 bt255.2.2.2.2.2.2.2.2.2.2.1 bt255.2.2.2.2.2.2.2.2.2.2.2.1 bt255.2.2.2.2.2.2.2.2.2.2.2.2.1 bt255.2.2.2.2.2.2.2.2.2.2.2.2.2.1 bt255.2.2.2.2.2.2.2.2.2.2.2.2.2.2.1 bt255.2.2.2.2.2.2.2.2.2.2.2.2.2.2.2.1 bt255.2.2.2.2.2.2.2.2.2.2.2.2.2.2.2.2.1 bt255.2.2.2.2.2.2.2.2.2.2.2.2.2.2.2.2.2.1 bt255.2.2.2.2.2.2.2.2.2.2.2.2.2.2.2.2.2.2.1 bt255.2.2.2.2.2.2.2.2.2.2.2.2.2.2.2.2.2.2.2.1 bt255.2.2.2.2.2.2.2.2.2.2.2.2.2.2.2.2.2.2.2.2.1 bt255.2.2.2.2.2.2.2.2.2.2.2.2.2.2.2.2.2.2.2.2.2.1 bt255.2.2.2.2.2.2.2.2.2.2.2.2.2.2.2.2.2.2.2.2.2.2.1 bt255.2.2.2.2.2.2.2.2.2.2.2.2.2.2.2.2.2.2.2.2.2.2.2.1 bt255.2.2.2.2.2.2.2.2.2.2.2.2.2.2.2.2.2.2.2.2.2.2.2.2 bt200.1 bt200.2.1 bt200.2.2.1 bt200.2.2.2.1 bt200.2.2.2.2.1 bt200.2.2.2.2.2.1 true).bind fun bt280 => ((bursarlaw26_some.f (⟨#[48, 49, 48, 48, 48, 48]⟩ : ByteArray) 50 201).bind fun bt295 => ((dispute_Decide.f k bt295.1 bt295.2.1 bt295.2.2.1 bt295.2.2.2.1 bt295.2.2.2.2.1 bt295.2.2.2.2.2.1 bt295.2.2.2.2.2.2.1 bt295.2.2.2.2.2.2.2.1 bt295.2.2.2.2.2.2.2.2.1 bt295.2.2.2.2.2.2.2.2.2.1 bt295.2.2.2.2.2.2.2.2.2.2.1 bt295.2.2.2.2.2.2.2.2.2.2.2.1 bt295.2.2.2.2.2.2.2.2.2.2.2.2.1 bt295.2.2.2.2.2.2.2.2.2.2.2.2.2.1 bt295.2.2.2.2.2.2.2.2.2.2.2.2.2.2.1 bt295.2.2.2.2.2.2.2.2.2.2.2.2.2.2.2.1 bt295.2.2.2.2.2.2.2.2.2.2.2.2.2.2.2.2.1 bt295.2.2.2.2.2.2.2.2.2.2.2.2.2.2.2.2.2.1 bt295.2.2.2.2.2.2.2.2.2.2.2.2.2.2.2.2.2.2.1 bt295.2.2.2.2.2.2.2.2.2.2.2.2.2.2.2.2.2.2.2.1 bt295.2.2.2.2.2.2.2.2.2.2.2.2.2.2.2.2.2.2.2.2.1 bt295.2.2.2.2.2.2.2.2.2.2.2.2.2.2.2.2.2.2.2.2.2.1 bt295.2.2.2.2.2.2.2.2.2.2.2.2.2.2.2.2.2.2.2.2.2.2.1 bt295.2.2.2.2.2.2.2.2.2.2.2.2.2.2.2.2.2.2.2.2.2.2.2.1 bt295.2.2.2.2.2.2.2.2.2.2.2.2.2.2.2.2.2.2.2.2.2.2.2.2 bt200.1 bt200.2.1 bt200.2.2.1 bt200.2.2.2.1 bt200.2.2.2.2.1 bt200.2.2.2.2.2.1 true).bind fun bt320 => (if bt200.2.2.2.1 = 1 then (if bt200.2.2.2.2.2.2.1 = 3 then (if bt200.2.2.2.2.2.2.2.2.2.2.2.2.toList = ([48, 48] : List UInt8) then (if bt240.2.2.2.1 = 2 then (if bt240.2.2.2.2.2.2.2.2.2.2.2.2.toList = ([48, 48] : List UInt8) then (if bt280.2.2.2.2.2.2.2.2.2.2.2.2.toList = ([54, 49] : List UInt8) then (if bt320.2.2.2.2.2.2.2.2.2.2.2.2.toList = ([53, 52] : List UInt8) then (some true) else (none)) else (none)) else (none)) else (none)) else (none)) else (none)) else (none)))))))))) = some r := h
 clear h
 replace H := Option.bind_eq_some_iff.mp H
 obtain ⟨⟨t175, t176, t177, t178, t179, t180, t181, t182, t183, t184, t185, t186, t187, t188, t189, t190, t191, t192, t193, t194, t195, t196, t197, t198, t199⟩, A10, H⟩ := H
 replace H : ((dispute_Decide.f k t175 t176 t177 t178 t179 t180 t181 t182 t183 t184 t185 t186 t187 t188 t189 t190 t191 t192 t193 t194 t195 t196 t197 t198 t199 (⟨#[]⟩ : ByteArray) (⟨#[]⟩ : ByteArray) (⟨#[]⟩ : ByteArray) 0 0 0 false).bind fun bt200 => ((bursarlaw26_some.f (⟨#[48, 49, 48, 48, 48, 48]⟩ : ByteArray) 50 0).bind fun bt215 => ((dispute_Decide.f k bt215.1 bt215.2.1 bt215.2.2.1 bt215.2.2.2.1 bt215.2.2.2.2.1 bt215.2.2.2.2.2.1 bt215.2.2.2.2.2.2.1 bt215.2.2.2.2.2.2.2.1 bt215.2.2.2.2.2.2.2.2.1 bt215.2.2.2.2.2.2.2.2.2.1 bt215.2.2.2.2.2.2.2.2.2.2.1 bt215.2.2.2.2.2.2.2.2.2.2.2.1 bt215.2.2.2.2.2.2.2.2.2.2.2.2.1 bt215.2.2.2.2.2.2.2.2.2.2.2.2.2.1 bt215.2.2.2.2.2.2.2.2.2.2.2.2.2.2.1 bt215.2.2.2.2.2.2.2.2.2.2.2.2.2.2.2.1 bt215.2.2.2.2.2.2.2.2.2.2.2.2.2.2.2.2.1 bt215.2.2.2.2.2.2.2.2.2.2.2.2.2.2.2.2.2.1 bt215.2.2.2.2.2.2.2.2.2.2.2.2.2.2.2.2.2.2.1 bt215.2.2.2.2.2.2.2.2.2.2.2.2.2.2.2.2.2.2.2.1 bt215.2.2.2.2.2.2.2.2.2.2.2.2.2.2.2.2.2.2.2.2.1 bt215.2.2.2.2.2.2.2.2.2.2.2.2.2.2.2.2.2.2.2.2.2.1 bt215.2.2.2.2.2.2.2.2.2.2.2.2.2.2.2.2.2.2.2.2.2.2.1 bt215.2.2.2.2.2.2.2.2.2.2.2.2.2.2.2.2.2.2.2.2.2.2.2.1 bt215.2.2.2.2.2.2.2.2.2.2.2.2.2.2.2.2.2.2.2.2.2.2.2.2 bt200.1 bt200.2.1 bt200.2.2.1 bt200.2.2.2.1 bt200.2.2.2.2.1 bt200.2.2.2.2.2.1 true).bind fun bt240 => ((bursarlaw26_some.f (⟨#[48, 49, 48, 48, 48, 48]⟩ : ByteArray) 40 0).bind fun bt255 => ((dispute_Decide.f k bt255.1 bt255.2.1 bt255.2.2.1 bt255.2.2.2.1 bt255.2.2.2.2.1 bt255.2.2.2.2.2.1 bt255.2.2.2.2.2.2.1 bt255.2.2.2.2.2.2.2.1 bt255.2.2.2.2.2.2.2.2.1 bt255.2.2.2.2.2.2.2.2.2.1 bt255.2.2.2.2.2.2.2.2.2.2.1 bt255.2.2.2.2.2.2.2.2.2.2.2.1 bt255.2.2.2.2.2.2.2.2.2.2.2.2.1 bt255.2.2.2.2.2.2.2.2.2.2.2.2.2.1 bt255.2.2.2.2.2.2.2.2.2.2.2.2.2.2.1 bt255.2.2.2.2.2.2.2.2.2.2.2.2.2.2.2.1 bt255.2.2.2.2.2.2.2.2.2.2.2.2.2.2.2.2.1 bt255.2.2.2.2.2.2.2.2.2.2.2.2.2.2.2.2.2.1 bt255.2.2.2.2.2.2.2.2.2.2.2.2.2.2.2.2.2.2.1 bt255.2.2.2.2.2.2.2.2.2.2.2.2.2.2.2.2.2.2.2.1 bt255.2.2.2.2.2.2.2.2.2.2.2.2.2.2.2.2.2.2.2.2.1 bt255.2.2.2.2.2.2.2.2.2.2.2.2.2.2.2.2.2.2.2.2.2.1 bt255.2.2.2.2.2.2.2.2.2.2.2.2.2.2.2.2.2.2.2.2.2.2.1 bt255.2.2.2.2.2.2.2.2.2.2.2.2.2.2.2.2.2.2.2.2.2.2.2.1 bt255.2.2.2.2.2.2.2.2.2.2.2.2.2.2.2.2.2.2.2.2.2.2.2.2 bt200.1 bt200.2.1 bt200.2.2.1 bt200.2.2.2.1 bt200.2.2.2.2.1 bt200.2.2.2.2.2.1 true).bind fun bt280 => ((bursarlaw26_some.f (⟨#[48, 49, 48, 48, 48, 48]⟩ : ByteArray) 50 201).bind fun bt295 => ((dispute_Decide.f k bt295.1 bt295.2.1 bt295.2.2.1 bt295.2.2.2.1 bt295.2.2.2.2.1 bt295.2.2.2.2.2.1 bt295.2.2.2.2.2.2.1 bt295.2.2.2.2.2.2.2.1 bt295.2.2.2.2.2.2.2.2.1 bt295.2.2.2.2.2.2.2.2.2.1 bt295.2.2.2.2.2.2.2.2.2.2.1 bt295.2.2.2.2.2.2.2.2.2.2.2.1 bt295.2.2.2.2.2.2.2.2.2.2.2.2.1 bt295.2.2.2.2.2.2.2.2.2.2.2.2.2.1 bt295.2.2.2.2.2.2.2.2.2.2.2.2.2.2.1 bt295.2.2.2.2.2.2.2.2.2.2.2.2.2.2.2.1 bt295.2.2.2.2.2.2.2.2.2.2.2.2.2.2.2.2.1 bt295.2.2.2.2.2.2.2.2.2.2.2.2.2.2.2.2.2.1 bt295.2.2.2.2.2.2.2.2.2.2.2.2.2.2.2.2.2.2.1 bt295.2.2.2.2.2.2.2.2.2.2.2.2.2.2.2.2.2.2.2.1 bt295.2.2.2.2.2.2.2.2.2.2.2.2.2.2.2.2.2.2.2.2.1 bt295.2.2.2.2.2.2.2.2.2.2.2.2.2.2.2.2.2.2.2.2.2.1 bt295.2.2.2.2.2.2.2.2.2.2.2.2.2.2.2.2.2.2.2.2.2.2.1 bt295.2.2.2.2.2.2.2.2.2.2.2.2.2.2.2.2.2.2.2.2.2.2.2.1 bt295.2.2.2.2.2.2.2.2.2.2.2.2.2.2.2.2.2.2.2.2.2.2.2.2 bt200.1 bt200.2.1 bt200.2.2.1 bt200.2.2.2.1 bt200.2.2.2.2.1 bt200.2.2.2.2.2.1 true).bind fun bt320 => (if bt200.2.2.2.1 = 1 then (if bt200.2.2.2.2.2.2.1 = 3 then (if bt200.2.2.2.2.2.2.2.2.2.2.2.2.toList = ([48, 48] : List UInt8) then (if bt240.2.2.2.1 = 2 then (if bt240.2.2.2.2.2.2.2.2.2.2.2.2.toList = ([48, 48] : List UInt8) then (if bt280.2.2.2.2.2.2.2.2.2.2.2.2.toList = ([54, 49] : List UInt8) then (if bt320.2.2.2.2.2.2.2.2.2.2.2.2.toList = ([53, 52] : List UInt8) then (some true) else (none)) else (none)) else (none)) else (none)) else (none)) else (none)) else (none))))))))) = some r := H
 have A1 := Aside0.mk A10
 clear A10
 replace H := Option.bind_eq_some_iff.mp H
 obtain ⟨⟨t200, t201, t202, t203, t204, t205, t206, t207, t208, t209, t210, t211, t212⟩, A20, H⟩ := H
 replace H : ((bursarlaw26_some.f (⟨#[48, 49, 48, 48, 48, 48]⟩ : ByteArray) 50 0).bind fun bt215 => ((dispute_Decide.f k bt215.1 bt215.2.1 bt215.2.2.1 bt215.2.2.2.1 bt215.2.2.2.2.1 bt215.2.2.2.2.2.1 bt215.2.2.2.2.2.2.1 bt215.2.2.2.2.2.2.2.1 bt215.2.2.2.2.2.2.2.2.1 bt215.2.2.2.2.2.2.2.2.2.1 bt215.2.2.2.2.2.2.2.2.2.2.1 bt215.2.2.2.2.2.2.2.2.2.2.2.1 bt215.2.2.2.2.2.2.2.2.2.2.2.2.1 bt215.2.2.2.2.2.2.2.2.2.2.2.2.2.1 bt215.2.2.2.2.2.2.2.2.2.2.2.2.2.2.1 bt215.2.2.2.2.2.2.2.2.2.2.2.2.2.2.2.1 bt215.2.2.2.2.2.2.2.2.2.2.2.2.2.2.2.2.1 bt215.2.2.2.2.2.2.2.2.2.2.2.2.2.2.2.2.2.1 bt215.2.2.2.2.2.2.2.2.2.2.2.2.2.2.2.2.2.2.1 bt215.2.2.2.2.2.2.2.2.2.2.2.2.2.2.2.2.2.2.2.1 bt215.2.2.2.2.2.2.2.2.2.2.2.2.2.2.2.2.2.2.2.2.1 bt215.2.2.2.2.2.2.2.2.2.2.2.2.2.2.2.2.2.2.2.2.2.1 bt215.2.2.2.2.2.2.2.2.2.2.2.2.2.2.2.2.2.2.2.2.2.2.1 bt215.2.2.2.2.2.2.2.2.2.2.2.2.2.2.2.2.2.2.2.2.2.2.2.1 bt215.2.2.2.2.2.2.2.2.2.2.2.2.2.2.2.2.2.2.2.2.2.2.2.2 t200 t201 t202 t203 t204 t205 true).bind fun bt240 => ((bursarlaw26_some.f (⟨#[48, 49, 48, 48, 48, 48]⟩ : ByteArray) 40 0).bind fun bt255 => ((dispute_Decide.f k bt255.1 bt255.2.1 bt255.2.2.1 bt255.2.2.2.1 bt255.2.2.2.2.1 bt255.2.2.2.2.2.1 bt255.2.2.2.2.2.2.1 bt255.2.2.2.2.2.2.2.1 bt255.2.2.2.2.2.2.2.2.1 bt255.2.2.2.2.2.2.2.2.2.1 bt255.2.2.2.2.2.2.2.2.2.2.1 bt255.2.2.2.2.2.2.2.2.2.2.2.1 bt255.2.2.2.2.2.2.2.2.2.2.2.2.1 bt255.2.2.2.2.2.2.2.2.2.2.2.2.2.1 bt255.2.2.2.2.2.2.2.2.2.2.2.2.2.2.1 bt255.2.2.2.2.2.2.2.2.2.2.2.2.2.2.2.1 bt255.2.2.2.2.2.2.2.2.2.2.2.2.2.2.2.2.1 bt255.2.2.2.2.2.2.2.2.2.2.2.2.2.2.2.2.2.1 bt255.2.2.2.2.2.2.2.2.2.2.2.2.2.2.2.2.2.2.1 bt255.2.2.2.2.2.2.2.2.2.2.2.2.2.2.2.2.2.2.2.1 bt255.2.2.2.2.2.2.2.2.2.2.2.2.2.2.2.2.2.2.2.2.1 bt255.2.2.2.2.2.2.2.2.2.2.2.2.2.2.2.2.2.2.2.2.2.1 bt255.2.2.2.2.2.2.2.2.2.2.2.2.2.2.2.2.2.2.2.2.2.2.1 bt255.2.2.2.2.2.2.2.2.2.2.2.2.2.2.2.2.2.2.2.2.2.2.2.1 bt255.2.2.2.2.2.2.2.2.2.2.2.2.2.2.2.2.2.2.2.2.2.2.2.2 t200 t201 t202 t203 t204 t205 true).bind fun bt280 => ((bursarlaw26_some.f (⟨#[48, 49, 48, 48, 48, 48]⟩ : ByteArray) 50 201).bind fun bt295 => ((dispute_Decide.f k bt295.1 bt295.2.1 bt295.2.2.1 bt295.2.2.2.1 bt295.2.2.2.2.1 bt295.2.2.2.2.2.1 bt295.2.2.2.2.2.2.1 bt295.2.2.2.2.2.2.2.1 bt295.2.2.2.2.2.2.2.2.1 bt295.2.2.2.2.2.2.2.2.2.1 bt295.2.2.2.2.2.2.2.2.2.2.1 bt295.2.2.2.2.2.2.2.2.2.2.2.1 bt295.2.2.2.2.2.2.2.2.2.2.2.2.1 bt295.2.2.2.2.2.2.2.2.2.2.2.2.2.1 bt295.2.2.2.2.2.2.2.2.2.2.2.2.2.2.1 bt295.2.2.2.2.2.2.2.2.2.2.2.2.2.2.2.1 bt295.2.2.2.2.2.2.2.2.2.2.2.2.2.2.2.2.1 bt295.2.2.2.2.2.2.2.2.2.2.2.2.2.2.2.2.2.1 bt295.2.2.2.2.2.2.2.2.2.2.2.2.2.2.2.2.2.2.1 bt295.2.2.2.2.2.2.2.2.2.2.2.2.2.2.2.2.2.2.2.1 bt295.2.2.2.2.2.2.2.2.2.2.2.2.2.2.2.2.2.2.2.2.1 bt295.2.2.2.2.2.2.2.2.2.2.2.2.2.2.2.2.2.2.2.2.2.1 bt295.2.2.2.2.2.2.2.2.2.2.2.2.2.2.2.2.2.2.2.2.2.2.1 bt295.2.2.2.2.2.2.2.2.2.2.2.2.2.2.2.2.2.2.2.2.2.2.2.1 bt295.2.2.2.2.2.2.2.2.2.2.2.2.2.2.2.2.2.2.2.2.2.2.2.2 t200 t201 t202 t203 t204 t205 true).bind fun bt320 => (if t203 = 1 then (if t206 = 3 then (if t212.toList = ([48, 48] : List UInt8) then (if bt240.2.2.2.1 = 2 then (if bt240.2.2.2.2.2.2.2.2.2.2.2.2.toList = ([48, 48] : List UInt8) then (if bt280.2.2.2.2.2.2.2.2.2.2.2.2.toList = ([54, 49] : List UInt8) then (if bt320.2.2.2.2.2.2.2.2.2.2.2.2.toList = ([53, 52] : List UInt8) then (some true) else (none)) else (none)) else (none)) else (none)) else (none)) else (none)) else (none)))))))) = some r := H
 have A2 := Aside0.mk A20
 clear A20
 replace H := Option.bind_eq_some_iff.mp H
 obtain ⟨⟨t215, t216, t217, t218, t219, t220, t221, t222, t223, t224, t225, t226, t227, t228, t229, t230, t231, t232, t233, t234, t235, t236, t237, t238, t239⟩, A30, H⟩ := H
 replace H : ((dispute_Decide.f k t215 t216 t217 t218 t219 t220 t221 t222 t223 t224 t225 t226 t227 t228 t229 t230 t231 t232 t233 t234 t235 t236 t237 t238 t239 t200 t201 t202 t203 t204 t205 true).bind fun bt240 => ((bursarlaw26_some.f (⟨#[48, 49, 48, 48, 48, 48]⟩ : ByteArray) 40 0).bind fun bt255 => ((dispute_Decide.f k bt255.1 bt255.2.1 bt255.2.2.1 bt255.2.2.2.1 bt255.2.2.2.2.1 bt255.2.2.2.2.2.1 bt255.2.2.2.2.2.2.1 bt255.2.2.2.2.2.2.2.1 bt255.2.2.2.2.2.2.2.2.1 bt255.2.2.2.2.2.2.2.2.2.1 bt255.2.2.2.2.2.2.2.2.2.2.1 bt255.2.2.2.2.2.2.2.2.2.2.2.1 bt255.2.2.2.2.2.2.2.2.2.2.2.2.1 bt255.2.2.2.2.2.2.2.2.2.2.2.2.2.1 bt255.2.2.2.2.2.2.2.2.2.2.2.2.2.2.1 bt255.2.2.2.2.2.2.2.2.2.2.2.2.2.2.2.1 bt255.2.2.2.2.2.2.2.2.2.2.2.2.2.2.2.2.1 bt255.2.2.2.2.2.2.2.2.2.2.2.2.2.2.2.2.2.1 bt255.2.2.2.2.2.2.2.2.2.2.2.2.2.2.2.2.2.2.1 bt255.2.2.2.2.2.2.2.2.2.2.2.2.2.2.2.2.2.2.2.1 bt255.2.2.2.2.2.2.2.2.2.2.2.2.2.2.2.2.2.2.2.2.1 bt255.2.2.2.2.2.2.2.2.2.2.2.2.2.2.2.2.2.2.2.2.2.1 bt255.2.2.2.2.2.2.2.2.2.2.2.2.2.2.2.2.2.2.2.2.2.2.1 bt255.2.2.2.2.2.2.2.2.2.2.2.2.2.2.2.2.2.2.2.2.2.2.2.1 bt255.2.2.2.2.2.2.2.2.2.2.2.2.2.2.2.2.2.2.2.2.2.2.2.2 t200 t201 t202 t203 t204 t205 true).bind fun bt280 => ((bursarlaw26_some.f (⟨#[48, 49, 48, 48, 48, 48]⟩ : ByteArray) 50 201).bind fun bt295 => ((dispute_Decide.f k bt295.1 bt295.2.1 bt295.2.2.1 bt295.2.2.2.1 bt295.2.2.2.2.1 bt295.2.2.2.2.2.1 bt295.2.2.2.2.2.2.1 bt295.2.2.2.2.2.2.2.1 bt295.2.2.2.2.2.2.2.2.1 bt295.2.2.2.2.2.2.2.2.2.1 bt295.2.2.2.2.2.2.2.2.2.2.1 bt295.2.2.2.2.2.2.2.2.2.2.2.1 bt295.2.2.2.2.2.2.2.2.2.2.2.2.1 bt295.2.2.2.2.2.2.2.2.2.2.2.2.2.1 bt295.2.2.2.2.2.2.2.2.2.2.2.2.2.2.1 bt295.2.2.2.2.2.2.2.2.2.2.2.2.2.2.2.1 bt295.2.2.2.2.2.2.2.2.2.2.2.2.2.2.2.2.1 bt295.2.2.2.2.2.2.2.2.2.2.2.2.2.2.2.2.2.1 bt295.2.2.2.2.2.2.2.2.2.2.2.2.2.2.2.2.2.2.1 bt295.2.2.2.2.2.2.2.2.2.2.2.2.2.2.2.2.2.2.2.1 bt295.2.2.2.2.2.2.2.2.2.2.2.2.2.2.2.2.2.2.2.2.1 bt295.2.2.2.2.2.2.2.2.2.2.2.2.2.2.2.2.2.2.2.2.2.1 bt295.2.2.2.2.2.2.2.2.2.2.2.2.2.2.2.2.2.2.2.2.2.2.1 bt295.2.2.2.2.2.2.2.2.2.2.2.2.2.2.2.2.2.2.2.2.2.2.2.1 bt295.2.2.2.2.2.2.2.2.2.2.2.2.2.2.2.2.2.2.2.2.2.2.2.2 t200 t201 t202 t203 t204 t205 true).bind fun bt320 => (if t203 = 1 then (if t206 = 3 then (if t212.toList = ([48, 48] : List UInt8) then (if bt240.2.2.2.1 = 2 then (if bt240.2.2.2.2.2.2.2.2.2.2.2.2.toList = ([48, 48] : List UInt8) then (if bt280.2.2.2.2.2.2.2.2.2.2.2.2.toList = ([54, 49] : List UInt8) then (if bt320.2.2.2.2.2.2.2.2.2.2.2.2.toList = ([53, 52] : List UInt8) then (some true) else (none)) else (none)) else (none)) else (none)) else (none)) else (none)) else (none))))))) = some r := H
 have A3 := Aside0.mk A30
 clear A30
 replace H := Option.bind_eq_some_iff.mp H
 obtain ⟨⟨t240, t241, t242, t243, t244, t245, t246, t247, t248, t249, t250, t251, t252⟩, A40, H⟩ := H
 replace H : ((bursarlaw26_some.f (⟨#[48, 49, 48, 48, 48, 48]⟩ : ByteArray) 40 0).bind fun bt255 => ((dispute_Decide.f k bt255.1 bt255.2.1 bt255.2.2.1 bt255.2.2.2.1 bt255.2.2.2.2.1 bt255.2.2.2.2.2.1 bt255.2.2.2.2.2.2.1 bt255.2.2.2.2.2.2.2.1 bt255.2.2.2.2.2.2.2.2.1 bt255.2.2.2.2.2.2.2.2.2.1 bt255.2.2.2.2.2.2.2.2.2.2.1 bt255.2.2.2.2.2.2.2.2.2.2.2.1 bt255.2.2.2.2.2.2.2.2.2.2.2.2.1 bt255.2.2.2.2.2.2.2.2.2.2.2.2.2.1 bt255.2.2.2.2.2.2.2.2.2.2.2.2.2.2.1 bt255.2.2.2.2.2.2.2.2.2.2.2.2.2.2.2.1 bt255.2.2.2.2.2.2.2.2.2.2.2.2.2.2.2.2.1 bt255.2.2.2.2.2.2.2.2.2.2.2.2.2.2.2.2.2.1 bt255.2.2.2.2.2.2.2.2.2.2.2.2.2.2.2.2.2.2.1 bt255.2.2.2.2.2.2.2.2.2.2.2.2.2.2.2.2.2.2.2.1 bt255.2.2.2.2.2.2.2.2.2.2.2.2.2.2.2.2.2.2.2.2.1 bt255.2.2.2.2.2.2.2.2.2.2.2.2.2.2.2.2.2.2.2.2.2.1 bt255.2.2.2.2.2.2.2.2.2.2.2.2.2.2.2.2.2.2.2.2.2.2.1 bt255.2.2.2.2.2.2.2.2.2.2.2.2.2.2.2.2.2.2.2.2.2.2.2.1 bt255.2.2.2.2.2.2.2.2.2.2.2.2.2.2.2.2.2.2.2.2.2.2.2.2 t200 t201 t202 t203 t204 t205 true).bind fun bt280 => ((bursarlaw26_some.f (⟨#[48, 49, 48, 48, 48, 48]⟩ : ByteArray) 50 201).bind fun bt295 => ((dispute_Decide.f k bt295.1 bt295.2.1 bt295.2.2.1 bt295.2.2.2.1 bt295.2.2.2.2.1 bt295.2.2.2.2.2.1 bt295.2.2.2.2.2.2.1 bt295.2.2.2.2.2.2.2.1 bt295.2.2.2.2.2.2.2.2.1 bt295.2.2.2.2.2.2.2.2.2.1 bt295.2.2.2.2.2.2.2.2.2.2.1 bt295.2.2.2.2.2.2.2.2.2.2.2.1 bt295.2.2.2.2.2.2.2.2.2.2.2.2.1 bt295.2.2.2.2.2.2.2.2.2.2.2.2.2.1 bt295.2.2.2.2.2.2.2.2.2.2.2.2.2.2.1 bt295.2.2.2.2.2.2.2.2.2.2.2.2.2.2.2.1 bt295.2.2.2.2.2.2.2.2.2.2.2.2.2.2.2.2.1 bt295.2.2.2.2.2.2.2.2.2.2.2.2.2.2.2.2.2.1 bt295.2.2.2.2.2.2.2.2.2.2.2.2.2.2.2.2.2.2.1 bt295.2.2.2.2.2.2.2.2.2.2.2.2.2.2.2.2.2.2.2.1 bt295.2.2.2.2.2.2.2.2.2.2.2.2.2.2.2.2.2.2.2.2.1 bt295.2.2.2.2.2.2.2.2.2.2.2.2.2.2.2.2.2.2.2.2.2.1 bt295.2.2.2.2.2.2.2.2.2.2.2.2.2.2.2.2.2.2.2.2.2.2.1 bt295.2.2.2.2.2.2.2.2.2.2.2.2.2.2.2.2.2.2.2.2.2.2.2.1 bt295.2.2.2.2.2.2.2.2.2.2.2.2.2.2.2.2.2.2.2.2.2.2.2.2 t200 t201 t202 t203 t204 t205 true).bind fun bt320 => (if t203 = 1 then (if t206 = 3 then (if t212.toList = ([48, 48] : List UInt8) then (if t243 = 2 then (if t252.toList = ([48, 48] : List UInt8) then (if bt280.2.2.2.2.2.2.2.2.2.2.2.2.toList = ([54, 49] : List UInt8) then (if bt320.2.2.2.2.2.2.2.2.2.2.2.2.toList = ([53, 52] : List UInt8) then (some true) else (none)) else (none)) else (none)) else (none)) else (none)) else (none)) else (none)))))) = some r := H
 have A4 := Aside0.mk A40
 clear A40
 replace H := Option.bind_eq_some_iff.mp H
 obtain ⟨⟨t255, t256, t257, t258, t259, t260, t261, t262, t263, t264, t265, t266, t267, t268, t269, t270, t271, t272, t273, t274, t275, t276, t277, t278, t279⟩, A50, H⟩ := H
 replace H : ((dispute_Decide.f k t255 t256 t257 t258 t259 t260 t261 t262 t263 t264 t265 t266 t267 t268 t269 t270 t271 t272 t273 t274 t275 t276 t277 t278 t279 t200 t201 t202 t203 t204 t205 true).bind fun bt280 => ((bursarlaw26_some.f (⟨#[48, 49, 48, 48, 48, 48]⟩ : ByteArray) 50 201).bind fun bt295 => ((dispute_Decide.f k bt295.1 bt295.2.1 bt295.2.2.1 bt295.2.2.2.1 bt295.2.2.2.2.1 bt295.2.2.2.2.2.1 bt295.2.2.2.2.2.2.1 bt295.2.2.2.2.2.2.2.1 bt295.2.2.2.2.2.2.2.2.1 bt295.2.2.2.2.2.2.2.2.2.1 bt295.2.2.2.2.2.2.2.2.2.2.1 bt295.2.2.2.2.2.2.2.2.2.2.2.1 bt295.2.2.2.2.2.2.2.2.2.2.2.2.1 bt295.2.2.2.2.2.2.2.2.2.2.2.2.2.1 bt295.2.2.2.2.2.2.2.2.2.2.2.2.2.2.1 bt295.2.2.2.2.2.2.2.2.2.2.2.2.2.2.2.1 bt295.2.2.2.2.2.2.2.2.2.2.2.2.2.2.2.2.1 bt295.2.2.2.2.2.2.2.2.2.2.2.2.2.2.2.2.2.1 bt295.2.2.2.2.2.2.2.2.2.2.2.2.2.2.2.2.2.2.1 bt295.2.2.2.2.2.2.2.2.2.2.2.2.2.2.2.2.2.2.2.1 bt295.2.2.2.2.2.2.2.2.2.2.2.2.2.2.2.2.2.2.2.2.1 bt295.2.2.2.2.2.2.2.2.2.2.2.2.2.2.2.2.2.2.2.2.2.1 bt295.2.2.2.2.2.2.2.2.2.2.2.2.2.2.2.2.2.2.2.2.2.2.1 bt295.2.2.2.2.2.2.2.2.2.2.2.2.2.2.2.2.2.2.2.2.2.2.2.1 bt295.2.2.2.2.2.2.2.2.2.2.2.2.2.2.2.2.2.2.2.2.2.2.2.2 t200 t201 t202 t203 t204 t205 true).bind fun bt320 => (if t203 = 1 then (if t206 = 3 then (if t212.toList = ([48, 48] : List UInt8) then (if t243 = 2 then (if t252.toList = ([48, 48] : List UInt8) then (if bt280.2.2.2.2.2.2.2.2.2.2.2.2.toList = ([54, 49] : List UInt8) then (if bt320.2.2.2.2.2.2.2.2.2.2.2.2.toList = ([53, 52] : List UInt8) then (some true) else (none)) else (none)) else (none)) else (none)) else (none)) else (none)) else (none))))) = some r := H
 have A5 := Aside0.mk A50
 clear A50
 replace H := Option.bind_eq_some_iff.mp H
 obtain ⟨⟨t280, t281, t282, t283, t284, t285, t286, t287, t288, t289, t290, t291, t292⟩, A60, H⟩ := H
 replace H : ((bursarlaw26_some.f (⟨#[48, 49, 48, 48, 48, 48]⟩ : ByteArray) 50 201).bind fun bt295 => ((dispute_Decide.f k bt295.1 bt295.2.1 bt295.2.2.1 bt295.2.2.2.1 bt295.2.2.2.2.1 bt295.2.2.2.2.2.1 bt295.2.2.2.2.2.2.1 bt295.2.2.2.2.2.2.2.1 bt295.2.2.2.2.2.2.2.2.1 bt295.2.2.2.2.2.2.2.2.2.1 bt295.2.2.2.2.2.2.2.2.2.2.1 bt295.2.2.2.2.2.2.2.2.2.2.2.1 bt295.2.2.2.2.2.2.2.2.2.2.2.2.1 bt295.2.2.2.2.2.2.2.2.2.2.2.2.2.1 bt295.2.2.2.2.2.2.2.2.2.2.2.2.2.2.1 bt295.2.2.2.2.2.2.2.2.2.2.2.2.2.2.2.1 bt295.2.2.2.2.2.2.2.2.2.2.2.2.2.2.2.2.1 bt295.2.2.2.2.2.2.2.2.2.2.2.2.2.2.2.2.2.1 bt295.2.2.2.2.2.2.2.2.2.2.2.2.2.2.2.2.2.2.1 bt295.2.2.2.2.2.2.2.2.2.2.2.2.2.2.2.2.2.2.2.1 bt295.2.2.2.2.2.2.2.2.2.2.2.2.2.2.2.2.2.2.2.2.1 bt295.2.2.2.2.2.2.2.2.2.2.2.2.2.2.2.2.2.2.2.2.2.1 bt295.2.2.2.2.2.2.2.2.2.2.2.2.2.2.2.2.2.2.2.2.2.2.1 bt295.2.2.2.2.2.2.2.2.2.2.2.2.2.2.2.2.2.2.2.2.2.2.2.1 bt295.2.2.2.2.2.2.2.2.2.2.2.2.2.2.2.2.2.2.2.2.2.2.2.2 t200 t201 t202 t203 t204 t205 true).bind fun bt320 => (if t203 = 1 then (if t206 = 3 then (if t212.toList = ([48, 48] : List UInt8) then (if t243 = 2 then (if t252.toList = ([48, 48] : List UInt8) then (if t292.toList = ([54, 49] : List UInt8) then (if bt320.2.2.2.2.2.2.2.2.2.2.2.2.toList = ([53, 52] : List UInt8) then (some true) else (none)) else (none)) else (none)) else (none)) else (none)) else (none)) else (none)))) = some r := H
 have A6 := Aside0.mk A60
 clear A60
 replace H := Option.bind_eq_some_iff.mp H
 obtain ⟨⟨t295, t296, t297, t298, t299, t300, t301, t302, t303, t304, t305, t306, t307, t308, t309, t310, t311, t312, t313, t314, t315, t316, t317, t318, t319⟩, A70, H⟩ := H
 replace H : ((dispute_Decide.f k t295 t296 t297 t298 t299 t300 t301 t302 t303 t304 t305 t306 t307 t308 t309 t310 t311 t312 t313 t314 t315 t316 t317 t318 t319 t200 t201 t202 t203 t204 t205 true).bind fun bt320 => (if t203 = 1 then (if t206 = 3 then (if t212.toList = ([48, 48] : List UInt8) then (if t243 = 2 then (if t252.toList = ([48, 48] : List UInt8) then (if t292.toList = ([54, 49] : List UInt8) then (if bt320.2.2.2.2.2.2.2.2.2.2.2.2.toList = ([53, 52] : List UInt8) then (some true) else (none)) else (none)) else (none)) else (none)) else (none)) else (none)) else (none))) = some r := H
 have A7 := Aside0.mk A70
 clear A70
 replace H := Option.bind_eq_some_iff.mp H
 obtain ⟨⟨t320, t321, t322, t323, t324, t325, t326, t327, t328, t329, t330, t331, t332⟩, A80, H⟩ := H
 replace H : (if t203 = 1 then (if t206 = 3 then (if t212.toList = ([48, 48] : List UInt8) then (if t243 = 2 then (if t252.toList = ([48, 48] : List UInt8) then (if t292.toList = ([54, 49] : List UInt8) then (if t332.toList = ([53, 52] : List UInt8) then (some true) else (none)) else (none)) else (none)) else (none)) else (none)) else (none)) else (none)) = some r := H
 have A8 := Aside0.mk A80
 clear A80
 by_cases c9 : t203 = 1
 ·rw [if_pos c9] at H
  have c9b0 : (t203 == 1) = true := beq_iff_eq.mpr c9
  have c9b1 : (t203 != 1) = false := bne_eq_false_iff_eq.mpr c9
  clear c9
  by_cases c10 : t206 = 3
  ·rw [if_pos c10] at H
   have c10b0 : (t206 == 3) = true := beq_iff_eq.mpr c10
   have c10b1 : (t206 != 3) = false := bne_eq_false_iff_eq.mpr c10
   clear c10
   by_cases c11 : t212.toList = ([48, 48] : List UInt8)
   ·rw [if_pos c11] at H
    have c11b0 : (t212.toList == ([48, 48] : List UInt8)) = true := beq_iff_eq.mpr c11
    have c11b1 : (t212.toList != ([48, 48] : List UInt8)) = false := bne_eq_false_iff_eq.mpr c11
    clear c11
    by_cases c12 : t243 = 2
    ·rw [if_pos c12] at H
     have c12b0 : (t243 == 2) = true := beq_iff_eq.mpr c12
     have c12b1 : (t243 != 2) = false := bne_eq_false_iff_eq.mpr c12
     clear c12
     by_cases c13 : t252.toList = ([48, 48] : List UInt8)
     ·rw [if_pos c13] at H
      have c13b0 : (t252.toList == ([48, 48] : List UInt8)) = true := beq_iff_eq.mpr c13
      have c13b1 : (t252.toList != ([48, 48] : List UInt8)) = false := bne_eq_false_iff_eq.mpr c13
      clear c13
      by_cases c14 : t292.toList = ([54, 49] : List UInt8)
      ·rw [if_pos c14] at H
       have c14b0 : (t292.toList == ([54, 49] : List UInt8)) = true := beq_iff_eq.mpr c14
       have c14b1 : (t292.toList != ([54, 49] : List UInt8)) = false := bne_eq_false_iff_eq.mpr c14
       clear c14
       by_cases c15 : t332.toList = ([53, 52] : List UInt8)
       ·rw [if_pos c15] at H
        have c15b0 : (t332.toList == ([53, 52] : List UInt8)) = true := beq_iff_eq.mpr c15
        have c15b1 : (t332.toList != ([53, 52] : List UInt8)) = false := bne_eq_false_iff_eq.mpr c15
        clear c15
        obtain rfl := Option.some.inj H
        go_enter Tryd.func10, Tryd.ntmps10
        obtain ⟨Q0, hQ0_⟩ : ∃ q_ : Array Value, q_ = (#[.string t175, .string t176, .string t177, .int .i64 t178, .string t179, .string t180, .string t181, .string t182, .string t183, .int .i64 t184, .int .i64 t185, .string t186, .bool t187, .int .i64 t188, .string t189, .string t190, .string t191, .int .i64 t192, .int .i64 t193, .int .i64 t194, .bool t195, .bool t196, .int .i64 t197, .int .i64 t198, .bool t199] : Array Value) := ⟨_, rfl⟩
        try rw [← hQ0_]
        have hQ0 := Aside0.mk hQ0_; have hq := Aside0.mk hQ0_; clear hQ0_
        try go_wp2_with (first | ((with_reducible refine gate_callee (f := 21) rfl ?_); refine goesL_ (some 14) rfl rfl Tryd.func21 (by kernel_rfl) rfl #[.string (⟨#[48, 48, 48, 48, 48, 48]⟩ : ByteArray), .int .i64 50, .int .i64 0] rfl (by (try simp only [List.map_toArray, List.map_cons, List.map_nil]); first | done | rfl | (simp only [hq.1]; done) | (simp only [hq.1]; rfl)) ?_; refine Calls.mono (calls_of_args (by first | ((try simp only [hq.1]) <;> rfl) | fail) (bursarlaw26_some.calls (⟨#[48, 48, 48, 48, 48, 48]⟩ : ByteArray) 50 0 t175 t176 t177 t178 t179 t180 t181 t182 t183 t184 t185 t186 t187 t188 t189 t190 t191 t192 t193 t194 t195 t196 t197 t198 t199 _ A1.out)) ?_; rintro e w16 ⟨he_, hb⟩; (try rw [← hQ0.out] at he_); subst he_; refine ⟨_, rfl, ?_⟩; replace HO := Aside0.mk (Ow.Own.call HO.out hb); clear hb) | ((with_reducible refine gate_callee (f := 20) rfl ?_); refine goesL_ (some 16) rfl rfl Tryd.func20 (by kernel_rfl) rfl #[.agg Q0, .agg #[.string (⟨#[]⟩ : ByteArray), .string (⟨#[]⟩ : ByteArray), .string (⟨#[]⟩ : ByteArray), .int .i64 0, .int .i64 0, .int .i64 0], .bool false] rfl (by (try simp only [List.map_toArray, List.map_cons, List.map_nil]); first | done | rfl | (simp only [hq.1]; done) | (simp only [hq.1]; rfl)) ?_; refine Calls.mono (calls_of_args (by first | ((try simp only [hq.1]) <;> rfl) | fail) (dispute_Decide.calls k t175 t176 t177 t178 t179 t180 t181 t182 t183 t184 t185 t186 t187 t188 t189 t190 t191 t192 t193 t194 t195 t196 t197 t198 t199 (⟨#[]⟩ : ByteArray) (⟨#[]⟩ : ByteArray) (⟨#[]⟩ : ByteArray) 0 0 0 false t200 t201 t202 t203 t204 t205 t206 t207 t208 t209 t210 t211 t212 _ A2.out)) ?_; rintro e w17 ⟨he_, hb⟩; subst he_; refine ⟨_, rfl, ?_⟩; replace HO := Aside0.mk (Ow.Own.call HO.out hb); clear hb) | ((with_reducible refine gate_dst (N := 1) rfl ?_); refine Ow.box rfl (N := 1) rfl (cs := bursarlaw26_awake.Z6) (t := 23) HO.out (by first | (go_simp; done) | (go_simp; rfl)) ?_; clear HO; intro gb213 w18 HO; simp only [List.cons_append, List.nil_append] at HO) | ((with_reducible refine gate_dst (N := 2) rfl ?_); refine Ow.box rfl (N := 2) rfl (cs := bursarlaw26_awake.Z6_1) (t := 50) HO.out (by first | (go_simp; done) | (go_simp; rfl)) ?_; clear HO; intro gb214 w19 HO; simp only [List.cons_append, List.nil_append] at HO) | ((with_reducible refine Ow.gate_build rfl ?_); (try (refine gate_guard (by rfl) ?_; dsimp only)); refine' Ow.tbuild Ot.bd rfl rfl rfl ?hf_ ?_; (case hf_ => repeat (any_goals (first | exact Ow.Fills.nil | (refine' Ow.Fills.c ?hv_ rfl ?hz_ ?_; (case hv_ => first | exact Ow.ev_tmp rfl | rfl); (case hz_ => first | (refine ⟨?_, ?_⟩ <;> (first | ((try simp only [hq.1]) <;> rfl) | fail)) | fail)))))) | ((with_reducible refine Ow.gate_load rfl ?_); (try (refine gate_guard (by rfl) ?_; dsimp only)); (first | refine Ow.l1 Ot.ty HO.out rfl rfl rfl rfl (by first | ((try simp only [hq.1]) <;> rfl) | fail) ?_ | refine Ow.l0 Ot.ty HO.out rfl rfl rfl rfl (by first | ((try simp only [hq.1]) <;> rfl) | fail) ?_ | refine Ow.lp Ot.ty HO.out rfl rfl rfl rfl (by first | ((try simp only [hq.1]) <;> rfl) | fail) ?_)) | ((with_reducible refine gate_store rfl ?_); (try (refine gate_guard (by rfl) ?_; dsimp only)); (first | refine Ow.s0 Ot.ty HO.out rfl rfl rfl rfl rfl (by first | exact Ow.ev_tmp rfl | rfl) (by first | (refine ⟨?_, ?_, ?_⟩ <;> (first | ((try simp only [hq.1]) <;> rfl) | fail)) | fail) ?_ | refine Ow.sp Ot.ty HO.out rfl rfl rfl rfl rfl (by first | exact Ow.ev_tmp rfl | rfl) (by first | (refine ⟨?_, ?_, ?_⟩ <;> (first | ((try simp only [hq.1]) <;> rfl) | fail)) | fail) ?_); clear HO; intro wz_ HO; simp only [List.set_cons_zero, List.set_cons_succ] at HO))
        refine Ow.ostart (n := 12) (ds := []) (Ow.B 12 0) HO.out (by kernel_rfl) rfl (by kernel_rfl) ?_
        intro hHeld; replace HO := Aside0.mk hHeld; refine with_tabW bursarlaw26_awake.tab2 bursarlaw26_awake.bits2 (fun HT_ HW_ => ?_)
        refine take_ (i := 1) (N := some 22) (v := ?_) (a' := ?_) (Ow.B 12 2) rfl rfl (take_ofW HT_.out HW_.out (by kernel_rfl)) (fun _ _ _ h => h) (Or.inl ⟨by rfl, ?_⟩) hHeld ?_ ?_
        rotate_left
        ·intro w' s_
         first | refine Ow.r1 Ot.ty s_ rfl rfl rfl (by first | ((try simp only [hq.1]) <;> rfl) | fail) | (refine' Ow.r0 Ot.ty s_ rfl rfl rfl ?h; (case h => first | ((try simp only [hq.1]) <;> rfl) | fail)) | (refine' Ow.rp Ot.ty s_ rfl rfl rfl ?h; (case h => first | ((try simp only [hq.1]) <;> rfl) | fail)) | (go_simp; with_reducible rfl)
        rotate_left
        ·simp only [Act.put, List.setIfInBounds_toArray, List.set_cons_zero, List.set_cons_succ, i64_w, i32_w]
         rfl
        obtain ⟨Q1, hQ1_⟩ : ∃ q_ : Array Value, q_ = (#[.string t200, .string t201, .string t202, .int .i64 t203, .int .i64 t204, .int .i64 t205] : Array Value) := ⟨_, rfl⟩
        try rw [← hQ1_]
        have hQ1 := Aside0.mk hQ1_; replace hq := Aside0.mk (And.intro hQ1_ hq.1); clear hQ1_
        obtain ⟨Q2, hQ2_⟩ : ∃ q_ : Array Value, q_ = (#[.int .i64 t206, .int .i64 t207, .string t208, .string t209, .string t210, .int .i64 t211] : Array Value) := ⟨_, rfl⟩
        try rw [← hQ2_]
        have hQ2 := Aside0.mk hQ2_; replace hq := Aside0.mk (And.intro hQ2_ hq.1); clear hQ2_
        refine join_ (σ := Nat × Nat) 3 (Ow.B 12 511) (fun s_ => [(21, .agg #[.string t215, .string t216, .string t217, .int .i64 t218, .string t219, .string t220, .string t221, .string t222, .string t223, .int .i64 t224, .int .i64 t225, .string t226, .bool t227, .int .i64 t228, .string t229, .string t230, .string t231, .int .i64 t232, .int .i64 t233, .int .i64 t234, .bool t235, .bool t236, .int .i64 t237, .int .i64 t238, .bool t239]), (23, .tuple #[.agg #[.string t240, .string t241, .string t242, .int .i64 t243, .int .i64 t244, .int .i64 t245], .agg #[.int .i64 t246, .int .i64 t247, .string t248, .string t249, .string t250, .int .i64 t251], .string t252]), (4, .pointer (some ⟨s_.1, 0, none⟩)), (5, .pointer (some ⟨s_.2, 0, none⟩)), (20, .tuple #[.agg #[.string t240, .string t241, .string t242, .int .i64 t243, .int .i64 t244, .int .i64 t245], .agg #[.int .i64 t246, .int .i64 t247, .string t248, .string t249, .string t250, .int .i64 t251], .string t252]), (24, .agg #[.string t240, .string t241, .string t242, .int .i64 t243, .int .i64 t244, .int .i64 t245]), (25, .agg #[.int .i64 t246, .int .i64 t247, .string t248, .string t249, .string t250, .int .i64 t251]), (26, .string t252)]) (fun s_ w' => Ow.Own w w' [(gb213, Q1, 23), (gb214, Q2, 50), (s_.1, bursarlaw26_awake.Z6, 23), (s_.2, bursarlaw26_awake.Z6_1, 50)]) ?_ ?_
        rotate_left
        ·intro hJ0_2_7_8
         refine join_ (σ := Nat) 4 (Ow.B 12 255) (fun s_ => [(21, .agg #[.string t215, .string t216, .string t217, .int .i64 t218, .string t219, .string t220, .string t221, .string t222, .string t223, .int .i64 t224, .int .i64 t225, .string t226, .bool t227, .int .i64 t228, .string t229, .string t230, .string t231, .int .i64 t232, .int .i64 t233, .int .i64 t234, .bool t235, .bool t236, .int .i64 t237, .int .i64 t238, .bool t239]), (23, .tuple #[.agg #[.string t240, .string t241, .string t242, .int .i64 t243, .int .i64 t244, .int .i64 t245], .agg #[.int .i64 t246, .int .i64 t247, .string t248, .string t249, .string t250, .int .i64 t251], .string t252]), (4, .pointer (some ⟨s_, 0, none⟩)), (20, .tuple #[.agg #[.string t240, .string t241, .string t242, .int .i64 t243, .int .i64 t244, .int .i64 t245], .agg #[.int .i64 t246, .int .i64 t247, .string t248, .string t249, .string t250, .int .i64 t251], .string t252]), (24, .agg #[.string t240, .string t241, .string t242, .int .i64 t243, .int .i64 t244, .int .i64 t245]), (25, .agg #[.int .i64 t246, .int .i64 t247, .string t248, .string t249, .string t250, .int .i64 t251]), (26, .string t252)]) (fun s_ w' => Ow.Own w w' [(gb213, Q1, 23), (gb214, Q2, 50), (s_, bursarlaw26_awake.Z6, 23)]) ?_ ?_
         rotate_left
         ·intro hJ0_2_7
          refine join_ (σ := Nat) 4 (Ow.B 12 383) (fun s_ => [(21, .agg #[.string t215, .string t216, .string t217, .int .i64 t218, .string t219, .string t220, .string t221, .string t222, .string t223, .int .i64 t224, .int .i64 t225, .string t226, .bool t227, .int .i64 t228, .string t229, .string t230, .string t231, .int .i64 t232, .int .i64 t233, .int .i64 t234, .bool t235, .bool t236, .int .i64 t237, .int .i64 t238, .bool t239]), (23, .tuple #[.agg #[.string t240, .string t241, .string t242, .int .i64 t243, .int .i64 t244, .int .i64 t245], .agg #[.int .i64 t246, .int .i64 t247, .string t248, .string t249, .string t250, .int .i64 t251], .string t252]), (5, .pointer (some ⟨s_, 0, none⟩)), (20, .tuple #[.agg #[.string t240, .string t241, .string t242, .int .i64 t243, .int .i64 t244, .int .i64 t245], .agg #[.int .i64 t246, .int .i64 t247, .string t248, .string t249, .string t250, .int .i64 t251], .string t252]), (24, .agg #[.string t240, .string t241, .string t242, .int .i64 t243, .int .i64 t244, .int .i64 t245]), (25, .agg #[.int .i64 t246, .int .i64 t247, .string t248, .string t249, .string t250, .int .i64 t251]), (26, .string t252)]) (fun s_ w' => Ow.Own w w' [(gb213, Q1, 23), (gb214, Q2, 50), (s_, bursarlaw26_awake.Z6_1, 50)]) ?_ ?_
          rotate_left
          ·intro hJ0_2_8
           refine join_ (σ := Nat × Nat) 8 (Ow.B 12 387) (fun s_ => [(21, .agg #[.string t215, .string t216, .string t217, .int .i64 t218, .string t219, .string t220, .string t221, .string t222, .string t223, .int .i64 t224, .int .i64 t225, .string t226, .bool t227, .int .i64 t228, .string t229, .string t230, .string t231, .int .i64 t232, .int .i64 t233, .int .i64 t234, .bool t235, .bool t236, .int .i64 t237, .int .i64 t238, .bool t239]), (4, .pointer (some ⟨s_.1, 0, none⟩)), (5, .pointer (some ⟨s_.2, 0, none⟩))]) (fun s_ w' => Ow.Own w w' [(gb213, Q1, 23), (gb214, Q2, 50), (s_.1, bursarlaw26_awake.Z6, 23), (s_.2, bursarlaw26_awake.Z6_1, 50)]) ?_ ?_
           rotate_left
           ·intro hJ0_7_8
            refine join_ (σ := Unit) 5 (Ow.B 12 127) (fun s_ => [(21, .agg #[.string t215, .string t216, .string t217, .int .i64 t218, .string t219, .string t220, .string t221, .string t222, .string t223, .int .i64 t224, .int .i64 t225, .string t226, .bool t227, .int .i64 t228, .string t229, .string t230, .string t231, .int .i64 t232, .int .i64 t233, .int .i64 t234, .bool t235, .bool t236, .int .i64 t237, .int .i64 t238, .bool t239]), (23, .tuple #[.agg #[.string t240, .string t241, .string t242, .int .i64 t243, .int .i64 t244, .int .i64 t245], .agg #[.int .i64 t246, .int .i64 t247, .string t248, .string t249, .string t250, .int .i64 t251], .string t252]), (20, .tuple #[.agg #[.string t240, .string t241, .string t242, .int .i64 t243, .int .i64 t244, .int .i64 t245], .agg #[.int .i64 t246, .int .i64 t247, .string t248, .string t249, .string t250, .int .i64 t251], .string t252]), (24, .agg #[.string t240, .string t241, .string t242, .int .i64 t243, .int .i64 t244, .int .i64 t245]), (25, .agg #[.int .i64 t246, .int .i64 t247, .string t248, .string t249, .string t250, .int .i64 t251]), (26, .string t252)]) (fun s_ w' => Ow.Own w w' [(gb213, Q1, 23), (gb214, Q2, 50)]) ?_ ?_
            rotate_left
            ·intro hJ0_2
             refine join_ (σ := Nat) 9 (Ow.B 12 131) (fun s_ => [(21, .agg #[.string t215, .string t216, .string t217, .int .i64 t218, .string t219, .string t220, .string t221, .string t222, .string t223, .int .i64 t224, .int .i64 t225, .string t226, .bool t227, .int .i64 t228, .string t229, .string t230, .string t231, .int .i64 t232, .int .i64 t233, .int .i64 t234, .bool t235, .bool t236, .int .i64 t237, .int .i64 t238, .bool t239]), (4, .pointer (some ⟨s_, 0, none⟩))]) (fun s_ w' => Ow.Own w w' [(gb213, Q1, 23), (gb214, Q2, 50), (s_, bursarlaw26_awake.Z6, 23)]) ?_ ?_
             rotate_left
             ·intro hJ0_7
              refine join_ (σ := Nat) 9 (Ow.B 12 259) (fun s_ => [(21, .agg #[.string t215, .string t216, .string t217, .int .i64 t218, .string t219, .string t220, .string t221, .string t222, .string t223, .int .i64 t224, .int .i64 t225, .string t226, .bool t227, .int .i64 t228, .string t229, .string t230, .string t231, .int .i64 t232, .int .i64 t233, .int .i64 t234, .bool t235, .bool t236, .int .i64 t237, .int .i64 t238, .bool t239]), (5, .pointer (some ⟨s_, 0, none⟩))]) (fun s_ w' => Ow.Own w w' [(gb213, Q1, 23), (gb214, Q2, 50), (s_, bursarlaw26_awake.Z6_1, 50)]) ?_ ?_
              rotate_left
              ·intro hJ0_8
               refine join_ (σ := Nat × Nat) 9 (Ow.B 12 386) (fun s_ => [(4, .pointer (some ⟨s_.1, 0, none⟩)), (5, .pointer (some ⟨s_.2, 0, none⟩))]) (fun s_ w' => Ow.Own w w' [(gb213, Q1, 23), (gb214, Q2, 50), (s_.1, bursarlaw26_awake.Z6, 23), (s_.2, bursarlaw26_awake.Z6_1, 50)]) ?_ ?_
               rotate_left
               ·intro hJ7_8
                refine join_ (σ := Unit) 10 (Ow.B 12 3) (fun s_ => [(21, .agg #[.string t215, .string t216, .string t217, .int .i64 t218, .string t219, .string t220, .string t221, .string t222, .string t223, .int .i64 t224, .int .i64 t225, .string t226, .bool t227, .int .i64 t228, .string t229, .string t230, .string t231, .int .i64 t232, .int .i64 t233, .int .i64 t234, .bool t235, .bool t236, .int .i64 t237, .int .i64 t238, .bool t239])]) (fun s_ w' => Ow.Own w w' [(gb213, Q1, 23), (gb214, Q2, 50)]) ?_ ?_
                rotate_left
                ·intro hJ0
                 refine join_ (σ := Nat) 10 (Ow.B 12 130) (fun s_ => [(4, .pointer (some ⟨s_, 0, none⟩))]) (fun s_ w' => Ow.Own w w' [(gb213, Q1, 23), (gb214, Q2, 50), (s_, bursarlaw26_awake.Z6, 23)]) ?_ ?_
                 rotate_left
                 ·intro hJ7
                  refine join_ (σ := Nat) 10 (Ow.B 12 258) (fun s_ => [(5, .pointer (some ⟨s_, 0, none⟩))]) (fun s_ w' => Ow.Own w w' [(gb213, Q1, 23), (gb214, Q2, 50), (s_, bursarlaw26_awake.Z6_1, 50)]) ?_ ?_
                  rotate_left
                  ·intro hJ8
                   refine three_ (i := 0) (j := 7) (k := 8) (Ni := some 21) (Nj := some 4) (Nk := some 5) (Ow.B 12 3) (Ow.B 12 130) (Ow.B 12 258) rfl rfl rfl rfl rfl rfl (three_of HT_.out (by kernel_rfl)) (by decide) (by decide) (by decide) (fun K hK => ?_) (fun K hK => ?_) (fun K hK => ?_)
                   ·skip
                    refine goes_ Tryd.func21 (by kernel_rfl) rfl #[.string (⟨#[48, 49, 48, 48, 48, 48]⟩ : ByteArray), .int .i64 50, .int .i64 0] (by rfl) rfl rfl (by (try simp only [List.map_toArray, List.map_cons, List.map_nil]); first | done | rfl | (simp only [hq.1]; done) | (simp only [hq.1]; rfl) | (simp only [List.length_drop, List.length_take]; rfl)) ?_
                    obtain ⟨Q3, hQ3_⟩ : ∃ q_ : Array Value, q_ = (#[.string t215, .string t216, .string t217, .int .i64 t218, .string t219, .string t220, .string t221, .string t222, .string t223, .int .i64 t224, .int .i64 t225, .string t226, .bool t227, .int .i64 t228, .string t229, .string t230, .string t231, .int .i64 t232, .int .i64 t233, .int .i64 t234, .bool t235, .bool t236, .int .i64 t237, .int .i64 t238, .bool t239] : Array Value) := ⟨_, rfl⟩
                    try rw [← hQ3_]
                    have hQ3 := Aside0.mk hQ3_; replace hq := Aside0.mk (And.intro hQ3_ hq.1); clear hQ3_
                    refine Calls.mono (calls_of_args (by first | ((try simp only [hq.1]) <;> rfl) | fail) (bursarlaw26_some.calls (⟨#[48, 49, 48, 48, 48, 48]⟩ : ByteArray) 50 0 t215 t216 t217 t218 t219 t220 t221 t222 t223 t224 t225 t226 t227 t228 t229 t230 t231 t232 t233 t234 t235 t236 t237 t238 t239 _ A3.out)) ?_
                    rintro e w26 ⟨he_, hb⟩
                    (try rw [← hQ3.out] at he_)
                    subst he_
                    replace HO := Aside0.mk (Ow.Own.call HO.out hb)
                    clear hb
                    refine ⟨_, rfl, ?_⟩
                    refine hK.out _ _ (by first | exact HO.out | exact Ow.Own.cong HO.out (by first | ((try simp only [hq.1]) <;> rfl) | fail)) (fun hHeld => ?_)
                    clear hK K
                    refine norm_ (a' := ?_) ?_ ?_
                    rotate_left
                    ·show Act.put _ (some 21) _ = _
                     simp only [Act.put, List.setIfInBounds_toArray, List.set_cons_zero, List.set_cons_succ, i64_w, i32_w]
                     rfl
                    exact norm_ (by first | (simp only [putAll, Act.put, List.setIfInBounds_toArray, List.set_cons_zero, List.set_cons_succ]; done) | (simp only [putAll, Act.put, List.setIfInBounds_toArray, List.set_cons_zero, List.set_cons_succ]; rfl) | (simp only [hq.1, putAll, Act.put, List.setIfInBounds_toArray, List.set_cons_zero, List.set_cons_succ] <;> rfl)) (hJ0 () _ (Ow.Own.cong (Ow.Own.pick [0, 1] HO.out (by decide)) (by first | ((try simp only [hq.1]) <;> rfl) | fail)))
                   ·skip
                    refine box_step ?hg (N := 4) ?hd (cs := bursarlaw26_awake.Z6) (t := 23) ?hr ?_; (case hd => rfl); (case hg => rfl); (case hr => first | (go_simp; done) | (go_simp; rfl))
                    intro gb253 hg w26 hbox hb
                    replace HO := Aside0.mk (Ow.Own.add HO.out hg hbox hb)
                    clear hb hbox hg
                    simp only [List.cons_append, List.nil_append] at HO
                    refine hK.out _ _ (by have h_ := Ow.Own.pick [0, 1] HO.out (by decide); first | exact h_ | exact Ow.Own.cong h_ (by first | ((try simp only [hq.1]) <;> rfl) | fail)) (fun hHeld => ?_)
                    clear hK K
                    refine norm_ (a' := ?_) ?_ ?_
                    rotate_left
                    ·show Act.put _ (some 4) _ = _
                     simp only [Act.put, List.setIfInBounds_toArray, List.set_cons_zero, List.set_cons_succ, i64_w, i32_w]
                     rfl
                    exact norm_ (by first | (simp only [putAll, Act.put, List.setIfInBounds_toArray, List.set_cons_zero, List.set_cons_succ]; done) | (simp only [putAll, Act.put, List.setIfInBounds_toArray, List.set_cons_zero, List.set_cons_succ]; rfl) | (simp only [hq.1, putAll, Act.put, List.setIfInBounds_toArray, List.set_cons_zero, List.set_cons_succ] <;> rfl)) (hJ7 (gb253) _ (Ow.Own.cong (Ow.Own.pick [0, 1, 2] HO.out (by decide)) (by first | ((try simp only [hq.1]) <;> rfl) | fail)))
                   ·skip
                    refine box_step ?hg (N := 5) ?hd (cs := bursarlaw26_awake.Z6_1) (t := 50) ?hr ?_; (case hd => rfl); (case hg => rfl); (case hr => first | (go_simp; done) | (go_simp; rfl))
                    intro gb254 hg w26 hbox hb
                    replace HO := Aside0.mk (Ow.Own.add HO.out hg hbox hb)
                    clear hb hbox hg
                    simp only [List.cons_append, List.nil_append] at HO
                    refine hK.out _ _ (by have h_ := Ow.Own.pick [0, 1] HO.out (by decide); first | exact h_ | exact Ow.Own.cong h_ (by first | ((try simp only [hq.1]) <;> rfl) | fail)) (fun hHeld => ?_)
                    clear hK K
                    refine norm_ (a' := ?_) ?_ ?_
                    rotate_left
                    ·show Act.put _ (some 5) _ = _
                     simp only [Act.put, List.setIfInBounds_toArray, List.set_cons_zero, List.set_cons_succ, i64_w, i32_w]
                     rfl
                    exact norm_ (by first | (simp only [putAll, Act.put, List.setIfInBounds_toArray, List.set_cons_zero, List.set_cons_succ]; done) | (simp only [putAll, Act.put, List.setIfInBounds_toArray, List.set_cons_zero, List.set_cons_succ]; rfl) | (simp only [hq.1, putAll, Act.put, List.setIfInBounds_toArray, List.set_cons_zero, List.set_cons_succ] <;> rfl)) (hJ8 (gb254) _ (Ow.Own.cong (Ow.Own.pick [0, 1, 2] HO.out (by decide)) (by first | ((try simp only [hq.1]) <;> rfl) | fail)))
                  ·skip
                   rintro gb254 w27 HO7_
                   clear HO
                   have HO := Aside0.mk HO7_
                   clear HO7_
                   have hHeld := Ow.Own.pick [0, 1] HO.out (by decide)
                   refine norm_ (a' := ?_) ?_ ?_
                   rotate_left
                   ·simp only [putAll, Act.put, List.setIfInBounds_toArray, List.set_cons_zero, List.set_cons_succ]
                    rfl
                   refine two_ (i := 0) (j := 7) (Ni := some 21) (Nj := some 4) (Ow.B 12 259) (Ow.B 12 386) rfl rfl rfl rfl (two_of HT_.out (by kernel_rfl)) (by decide) (by decide) (fun K hK => ?_) (fun K hK => ?_)
                   ·skip
                    refine goes_ Tryd.func21 (by kernel_rfl) rfl #[.string (⟨#[48, 49, 48, 48, 48, 48]⟩ : ByteArray), .int .i64 50, .int .i64 0] (by rfl) rfl rfl (by (try simp only [List.map_toArray, List.map_cons, List.map_nil]); first | done | rfl | (simp only [hq.1]; done) | (simp only [hq.1]; rfl) | (simp only [List.length_drop, List.length_take]; rfl)) ?_
                    obtain ⟨Q4, hQ4_⟩ : ∃ q_ : Array Value, q_ = (#[.string t215, .string t216, .string t217, .int .i64 t218, .string t219, .string t220, .string t221, .string t222, .string t223, .int .i64 t224, .int .i64 t225, .string t226, .bool t227, .int .i64 t228, .string t229, .string t230, .string t231, .int .i64 t232, .int .i64 t233, .int .i64 t234, .bool t235, .bool t236, .int .i64 t237, .int .i64 t238, .bool t239] : Array Value) := ⟨_, rfl⟩
                    try rw [← hQ4_]
                    have hQ4 := Aside0.mk hQ4_; replace hq := Aside0.mk (And.intro hQ4_ hq.1); clear hQ4_
                    refine Calls.mono (calls_of_args (by first | ((try simp only [hq.1]) <;> rfl) | fail) (bursarlaw26_some.calls (⟨#[48, 49, 48, 48, 48, 48]⟩ : ByteArray) 50 0 t215 t216 t217 t218 t219 t220 t221 t222 t223 t224 t225 t226 t227 t228 t229 t230 t231 t232 t233 t234 t235 t236 t237 t238 t239 _ A3.out)) ?_
                    rintro e w28 ⟨he_, hb⟩
                    (try rw [← hQ4.out] at he_)
                    subst he_
                    replace HO := Aside0.mk (Ow.Own.call HO.out hb)
                    clear hb
                    refine ⟨_, rfl, ?_⟩
                    refine hK.out _ _ (by have h_ := Ow.Own.pick [0, 1] HO.out (by decide); first | exact h_ | exact Ow.Own.cong h_ (by first | ((try simp only [hq.1]) <;> rfl) | fail)) (fun hHeld => ?_)
                    clear hK K
                    refine norm_ (a' := ?_) ?_ ?_
                    rotate_left
                    ·show Act.put _ (some 21) _ = _
                     simp only [Act.put, List.setIfInBounds_toArray, List.set_cons_zero, List.set_cons_succ, i64_w, i32_w]
                     rfl
                    exact norm_ (by first | (simp only [putAll, Act.put, List.setIfInBounds_toArray, List.set_cons_zero, List.set_cons_succ]; done) | (simp only [putAll, Act.put, List.setIfInBounds_toArray, List.set_cons_zero, List.set_cons_succ]; rfl) | (simp only [hq.1, putAll, Act.put, List.setIfInBounds_toArray, List.set_cons_zero, List.set_cons_succ] <;> rfl)) (hJ0_8 (gb254) _ (Ow.Own.cong (Ow.Own.pick [0, 1, 2] HO.out (by decide)) (by first | ((try simp only [hq.1]) <;> rfl) | fail)))
                   ·skip
                    refine box_step ?hg (N := 4) ?hd (cs := bursarlaw26_awake.Z6) (t := 23) ?hr ?_; (case hd => rfl); (case hg => rfl); (case hr => first | (go_simp; done) | (go_simp; rfl))
                    intro gb253 hg w28 hbox hb
                    replace HO := Aside0.mk (Ow.Own.add HO.out hg hbox hb)
                    clear hb hbox hg
                    simp only [List.cons_append, List.nil_append] at HO
                    refine hK.out _ _ (by have h_ := Ow.Own.pick [0, 1] HO.out (by decide); first | exact h_ | exact Ow.Own.cong h_ (by first | ((try simp only [hq.1]) <;> rfl) | fail)) (fun hHeld => ?_)
                    clear hK K
                    refine norm_ (a' := ?_) ?_ ?_
                    rotate_left
                    ·show Act.put _ (some 4) _ = _
                     simp only [Act.put, List.setIfInBounds_toArray, List.set_cons_zero, List.set_cons_succ, i64_w, i32_w]
                     rfl
                    exact norm_ (by first | (simp only [putAll, Act.put, List.setIfInBounds_toArray, List.set_cons_zero, List.set_cons_succ]; done) | (simp only [putAll, Act.put, List.setIfInBounds_toArray, List.set_cons_zero, List.set_cons_succ]; rfl) | (simp only [hq.1, putAll, Act.put, List.setIfInBounds_toArray, List.set_cons_zero, List.set_cons_succ] <;> rfl)) (hJ7_8 (gb253, gb254) _ (Ow.Own.cong (Ow.Own.pick [0, 1, 3, 2] HO.out (by decide)) (by first | ((try simp only [hq.1]) <;> rfl) | fail)))
                 ·skip
                  rintro gb253 w27 HO7_
                  clear HO
                  have HO := Aside0.mk HO7_
                  clear HO7_
                  have hHeld := Ow.Own.pick [0, 1] HO.out (by decide)
                  refine norm_ (a' := ?_) ?_ ?_
                  rotate_left
                  ·simp only [putAll, Act.put, List.setIfInBounds_toArray, List.set_cons_zero, List.set_cons_succ]
                   rfl
                  refine two_ (i := 0) (j := 8) (Ni := some 21) (Nj := some 5) (Ow.B 12 131) (Ow.B 12 386) rfl rfl rfl rfl (two_of HT_.out (by kernel_rfl)) (by decide) (by decide) (fun K hK => ?_) (fun K hK => ?_)
                  ·skip
                   refine goes_ Tryd.func21 (by kernel_rfl) rfl #[.string (⟨#[48, 49, 48, 48, 48, 48]⟩ : ByteArray), .int .i64 50, .int .i64 0] (by rfl) rfl rfl (by (try simp only [List.map_toArray, List.map_cons, List.map_nil]); first | done | rfl | (simp only [hq.1]; done) | (simp only [hq.1]; rfl) | (simp only [List.length_drop, List.length_take]; rfl)) ?_
                   obtain ⟨Q5, hQ5_⟩ : ∃ q_ : Array Value, q_ = (#[.string t215, .string t216, .string t217, .int .i64 t218, .string t219, .string t220, .string t221, .string t222, .string t223, .int .i64 t224, .int .i64 t225, .string t226, .bool t227, .int .i64 t228, .string t229, .string t230, .string t231, .int .i64 t232, .int .i64 t233, .int .i64 t234, .bool t235, .bool t236, .int .i64 t237, .int .i64 t238, .bool t239] : Array Value) := ⟨_, rfl⟩
                   try rw [← hQ5_]
                   have hQ5 := Aside0.mk hQ5_; replace hq := Aside0.mk (And.intro hQ5_ hq.1); clear hQ5_
                   refine Calls.mono (calls_of_args (by first | ((try simp only [hq.1]) <;> rfl) | fail) (bursarlaw26_some.calls (⟨#[48, 49, 48, 48, 48, 48]⟩ : ByteArray) 50 0 t215 t216 t217 t218 t219 t220 t221 t222 t223 t224 t225 t226 t227 t228 t229 t230 t231 t232 t233 t234 t235 t236 t237 t238 t239 _ A3.out)) ?_
                   rintro e w28 ⟨he_, hb⟩
                   (try rw [← hQ5.out] at he_)
                   subst he_
                   replace HO := Aside0.mk (Ow.Own.call HO.out hb)
                   clear hb
                   refine ⟨_, rfl, ?_⟩
                   refine hK.out _ _ (by have h_ := Ow.Own.pick [0, 1] HO.out (by decide); first | exact h_ | exact Ow.Own.cong h_ (by first | ((try simp only [hq.1]) <;> rfl) | fail)) (fun hHeld => ?_)
                   clear hK K
                   refine norm_ (a' := ?_) ?_ ?_
                   rotate_left
                   ·show Act.put _ (some 21) _ = _
                    simp only [Act.put, List.setIfInBounds_toArray, List.set_cons_zero, List.set_cons_succ, i64_w, i32_w]
                    rfl
                   exact norm_ (by first | (simp only [putAll, Act.put, List.setIfInBounds_toArray, List.set_cons_zero, List.set_cons_succ]; done) | (simp only [putAll, Act.put, List.setIfInBounds_toArray, List.set_cons_zero, List.set_cons_succ]; rfl) | (simp only [hq.1, putAll, Act.put, List.setIfInBounds_toArray, List.set_cons_zero, List.set_cons_succ] <;> rfl)) (hJ0_7 (gb253) _ (Ow.Own.cong (Ow.Own.pick [0, 1, 2] HO.out (by decide)) (by first | ((try simp only [hq.1]) <;> rfl) | fail)))
                  ·skip
                   refine box_step ?hg (N := 5) ?hd (cs := bursarlaw26_awake.Z6_1) (t := 50) ?hr ?_; (case hd => rfl); (case hg => rfl); (case hr => first | (go_simp; done) | (go_simp; rfl))
                   intro gb254 hg w28 hbox hb
                   replace HO := Aside0.mk (Ow.Own.add HO.out hg hbox hb)
                   clear hb hbox hg
                   simp only [List.cons_append, List.nil_append] at HO
                   refine hK.out _ _ (by have h_ := Ow.Own.pick [0, 1] HO.out (by decide); first | exact h_ | exact Ow.Own.cong h_ (by first | ((try simp only [hq.1]) <;> rfl) | fail)) (fun hHeld => ?_)
                   clear hK K
                   refine norm_ (a' := ?_) ?_ ?_
                   rotate_left
                   ·show Act.put _ (some 5) _ = _
                    simp only [Act.put, List.setIfInBounds_toArray, List.set_cons_zero, List.set_cons_succ, i64_w, i32_w]
                    rfl
                   exact norm_ (by first | (simp only [putAll, Act.put, List.setIfInBounds_toArray, List.set_cons_zero, List.set_cons_succ]; done) | (simp only [putAll, Act.put, List.setIfInBounds_toArray, List.set_cons_zero, List.set_cons_succ]; rfl) | (simp only [hq.1, putAll, Act.put, List.setIfInBounds_toArray, List.set_cons_zero, List.set_cons_succ] <;> rfl)) (hJ7_8 (gb253, gb254) _ (Ow.Own.cong (Ow.Own.pick [0, 1, 2, 3] HO.out (by decide)) (by first | ((try simp only [hq.1]) <;> rfl) | fail)))
                ·skip
                 rintro _ w27 HO7_
                 clear HO
                 have HO := Aside0.mk HO7_
                 clear HO7_
                 have hHeld := Ow.Own.pick [0, 1] HO.out (by decide)
                 refine norm_ (a' := ?_) ?_ ?_
                 rotate_left
                 ·simp only [putAll, Act.put, List.setIfInBounds_toArray, List.set_cons_zero, List.set_cons_succ]
                  rfl
                 refine three_ (i := 2) (j := 7) (k := 8) (Ni := some 23) (Nj := some 4) (Nk := some 5) (Ow.B 12 7) (Ow.B 12 131) (Ow.B 12 259) rfl rfl rfl rfl rfl rfl (three_of HT_.out (by kernel_rfl)) (by decide) (by decide) (by decide) (fun K hK => ?_) (fun K hK => ?_) (fun K hK => ?_)
                 ·skip
                  obtain ⟨Q6, hQ6_⟩ : ∃ q_ : Array Value, q_ = (#[.string t215, .string t216, .string t217, .int .i64 t218, .string t219, .string t220, .string t221, .string t222, .string t223, .int .i64 t224, .int .i64 t225, .string t226, .bool t227, .int .i64 t228, .string t229, .string t230, .string t231, .int .i64 t232, .int .i64 t233, .int .i64 t234, .bool t235, .bool t236, .int .i64 t237, .int .i64 t238, .bool t239] : Array Value) := ⟨_, rfl⟩
                  try rw [← hQ6_]
                  have hQ6 := Aside0.mk hQ6_; replace hq := Aside0.mk (And.intro hQ6_ hq.1); clear hQ6_
                  refine goes_ Tryd.func20 (by kernel_rfl) rfl #[.agg Q6, .agg #[.string t200, .string t201, .string t202, .int .i64 t203, .int .i64 t204, .int .i64 t205], .bool true] (by rfl) rfl rfl (by (try simp only [List.map_toArray, List.map_cons, List.map_nil]); first | done | rfl | (simp only [hq.1]; done) | (simp only [hq.1]; rfl) | (simp only [List.length_drop, List.length_take]; rfl)) ?_
                  refine Calls.mono (calls_of_args (by first | ((try simp only [hq.1]) <;> rfl) | fail) (dispute_Decide.calls k t215 t216 t217 t218 t219 t220 t221 t222 t223 t224 t225 t226 t227 t228 t229 t230 t231 t232 t233 t234 t235 t236 t237 t238 t239 t200 t201 t202 t203 t204 t205 true t240 t241 t242 t243 t244 t245 t246 t247 t248 t249 t250 t251 t252 _ A4.out)) ?_
                  rintro e w28 ⟨he_, hb⟩
                  subst he_
                  replace HO := Aside0.mk (Ow.Own.call HO.out hb)
                  clear hb
                  refine ⟨_, rfl, ?_⟩
                  refine hK.out _ _ (by first | exact HO.out | exact Ow.Own.cong HO.out (by first | ((try simp only [hq.1]) <;> rfl) | fail)) (fun hHeld => ?_)
                  clear hK K
                  refine norm_ (a' := ?_) ?_ ?_
                  rotate_left
                  ·show Act.put _ (some 23) _ = _
                   simp only [Act.put, List.setIfInBounds_toArray, List.set_cons_zero, List.set_cons_succ, i64_w, i32_w]
                   rfl
                  refine' Ow.pu (i := 3) (N := some 20) (Ow.B 12 15) HT_.out ?hv_ ?ha_ ?_; (case hv_ => intro w'; go_simp; with_reducible rfl); (case ha_ => simp only [Ow.Sl, i64_w, i32_w]; rfl)
                  refine' Ow.pu (i := 4) (N := some 24) (Ow.B 12 31) HT_.out ?hv_ ?ha_ ?_; (case hv_ => intro w'; go_simp; with_reducible rfl); (case ha_ => simp only [Ow.Sl, i64_w, i32_w]; rfl)
                  refine' Ow.pu (i := 5) (N := some 25) (Ow.B 12 63) HT_.out ?hv_ ?ha_ ?_; (case hv_ => intro w'; go_simp; with_reducible rfl); (case ha_ => simp only [Ow.Sl, i64_w, i32_w]; rfl)
                  refine' Ow.pu (i := 6) (N := some 26) (Ow.B 12 127) HT_.out ?hv_ ?ha_ ?_; (case hv_ => intro w'; go_simp; with_reducible rfl); (case ha_ => simp only [Ow.Sl, i64_w, i32_w]; rfl)
                  exact norm_ (by first | (simp only [putAll, Act.put, List.setIfInBounds_toArray, List.set_cons_zero, List.set_cons_succ]; done) | (simp only [putAll, Act.put, List.setIfInBounds_toArray, List.set_cons_zero, List.set_cons_succ]; rfl) | (simp only [hq.1, putAll, Act.put, List.setIfInBounds_toArray, List.set_cons_zero, List.set_cons_succ] <;> rfl)) (hJ0_2 () _ (Ow.Own.cong (Ow.Own.pick [0, 1] HO.out (by decide)) (by first | ((try simp only [hq.1]) <;> rfl) | fail)))
                 ·skip
                  refine box_step ?hg (N := 4) ?hd (cs := bursarlaw26_awake.Z6) (t := 23) ?hr ?_; (case hd => rfl); (case hg => rfl); (case hr => first | (go_simp; done) | (go_simp; rfl))
                  intro gb253 hg w28 hbox hb
                  replace HO := Aside0.mk (Ow.Own.add HO.out hg hbox hb)
                  clear hb hbox hg
                  simp only [List.cons_append, List.nil_append] at HO
                  refine hK.out _ _ (by have h_ := Ow.Own.pick [0, 1] HO.out (by decide); first | exact h_ | exact Ow.Own.cong h_ (by first | ((try simp only [hq.1]) <;> rfl) | fail)) (fun hHeld => ?_)
                  clear hK K
                  refine norm_ (a' := ?_) ?_ ?_
                  rotate_left
                  ·show Act.put _ (some 4) _ = _
                   simp only [Act.put, List.setIfInBounds_toArray, List.set_cons_zero, List.set_cons_succ, i64_w, i32_w]
                   rfl
                  exact norm_ (by first | (simp only [putAll, Act.put, List.setIfInBounds_toArray, List.set_cons_zero, List.set_cons_succ]; done) | (simp only [putAll, Act.put, List.setIfInBounds_toArray, List.set_cons_zero, List.set_cons_succ]; rfl) | (simp only [hq.1, putAll, Act.put, List.setIfInBounds_toArray, List.set_cons_zero, List.set_cons_succ] <;> rfl)) (hJ0_7 (gb253) _ (Ow.Own.cong (Ow.Own.pick [0, 1, 2] HO.out (by decide)) (by first | ((try simp only [hq.1]) <;> rfl) | fail)))
                 ·skip
                  refine box_step ?hg (N := 5) ?hd (cs := bursarlaw26_awake.Z6_1) (t := 50) ?hr ?_; (case hd => rfl); (case hg => rfl); (case hr => first | (go_simp; done) | (go_simp; rfl))
                  intro gb254 hg w28 hbox hb
                  replace HO := Aside0.mk (Ow.Own.add HO.out hg hbox hb)
                  clear hb hbox hg
                  simp only [List.cons_append, List.nil_append] at HO
                  refine hK.out _ _ (by have h_ := Ow.Own.pick [0, 1] HO.out (by decide); first | exact h_ | exact Ow.Own.cong h_ (by first | ((try simp only [hq.1]) <;> rfl) | fail)) (fun hHeld => ?_)
                  clear hK K
                  refine norm_ (a' := ?_) ?_ ?_
                  rotate_left
                  ·show Act.put _ (some 5) _ = _
                   simp only [Act.put, List.setIfInBounds_toArray, List.set_cons_zero, List.set_cons_succ, i64_w, i32_w]
                   rfl
                  exact norm_ (by first | (simp only [putAll, Act.put, List.setIfInBounds_toArray, List.set_cons_zero, List.set_cons_succ]; done) | (simp only [putAll, Act.put, List.setIfInBounds_toArray, List.set_cons_zero, List.set_cons_succ]; rfl) | (simp only [hq.1, putAll, Act.put, List.setIfInBounds_toArray, List.set_cons_zero, List.set_cons_succ] <;> rfl)) (hJ0_8 (gb254) _ (Ow.Own.cong (Ow.Own.pick [0, 1, 2] HO.out (by decide)) (by first | ((try simp only [hq.1]) <;> rfl) | fail)))
               ·skip
                rintro ⟨gb253, gb254⟩ w28 HO7_
                clear HO
                have HO := Aside0.mk HO7_
                clear HO7_
                have hHeld := Ow.Own.pick [0, 1] HO.out (by decide)
                refine norm_ (a' := ?_) ?_ ?_
                rotate_left
                ·simp only [putAll, Act.put, List.setIfInBounds_toArray, List.set_cons_zero, List.set_cons_succ]
                 rfl
                refine one_ (i := 0) (N := some 21) (Ow.B 12 387) rfl rfl (one_of HT_.out (by kernel_rfl)) (by decide) (fun K hK => ?_)
                refine goes_ Tryd.func21 (by kernel_rfl) rfl #[.string (⟨#[48, 49, 48, 48, 48, 48]⟩ : ByteArray), .int .i64 50, .int .i64 0] (by rfl) rfl rfl (by (try simp only [List.map_toArray, List.map_cons, List.map_nil]); first | done | rfl | (simp only [hq.1]; done) | (simp only [hq.1]; rfl) | (simp only [List.length_drop, List.length_take]; rfl)) ?_
                obtain ⟨Q7, hQ7_⟩ : ∃ q_ : Array Value, q_ = (#[.string t215, .string t216, .string t217, .int .i64 t218, .string t219, .string t220, .string t221, .string t222, .string t223, .int .i64 t224, .int .i64 t225, .string t226, .bool t227, .int .i64 t228, .string t229, .string t230, .string t231, .int .i64 t232, .int .i64 t233, .int .i64 t234, .bool t235, .bool t236, .int .i64 t237, .int .i64 t238, .bool t239] : Array Value) := ⟨_, rfl⟩
                try rw [← hQ7_]
                have hQ7 := Aside0.mk hQ7_; replace hq := Aside0.mk (And.intro hQ7_ hq.1); clear hQ7_
                refine Calls.mono (calls_of_args (by first | ((try simp only [hq.1]) <;> rfl) | fail) (bursarlaw26_some.calls (⟨#[48, 49, 48, 48, 48, 48]⟩ : ByteArray) 50 0 t215 t216 t217 t218 t219 t220 t221 t222 t223 t224 t225 t226 t227 t228 t229 t230 t231 t232 t233 t234 t235 t236 t237 t238 t239 _ A3.out)) ?_
                rintro e w29 ⟨he_, hb⟩
                (try rw [← hQ7.out] at he_)
                subst he_
                replace HO := Aside0.mk (Ow.Own.call HO.out hb)
                clear hb
                refine ⟨_, rfl, ?_⟩
                refine hK.out _ _ (by have h_ := Ow.Own.pick [0, 1] HO.out (by decide); first | exact h_ | exact Ow.Own.cong h_ (by first | ((try simp only [hq.1]) <;> rfl) | fail)) (fun hHeld => ?_)
                clear hK K
                refine norm_ (a' := ?_) ?_ ?_
                rotate_left
                ·show Act.put _ (some 21) _ = _
                 simp only [Act.put, List.setIfInBounds_toArray, List.set_cons_zero, List.set_cons_succ, i64_w, i32_w]
                 rfl
                exact norm_ (by first | (simp only [putAll, Act.put, List.setIfInBounds_toArray, List.set_cons_zero, List.set_cons_succ]; done) | (simp only [putAll, Act.put, List.setIfInBounds_toArray, List.set_cons_zero, List.set_cons_succ]; rfl) | (simp only [hq.1, putAll, Act.put, List.setIfInBounds_toArray, List.set_cons_zero, List.set_cons_succ] <;> rfl)) (hJ0_7_8 (gb253, gb254) _ (Ow.Own.cong (Ow.Own.pick [0, 1, 2, 3] HO.out (by decide)) (by first | ((try simp only [hq.1]) <;> rfl) | fail)))
              ·skip
               rintro gb254 w28 HO7_
               clear HO
               have HO := Aside0.mk HO7_
               clear HO7_
               have hHeld := Ow.Own.pick [0, 1] HO.out (by decide)
               refine norm_ (a' := ?_) ?_ ?_
               rotate_left
               ·simp only [putAll, Act.put, List.setIfInBounds_toArray, List.set_cons_zero, List.set_cons_succ]
                rfl
               refine two_ (i := 2) (j := 7) (Ni := some 23) (Nj := some 4) (Ow.B 12 263) (Ow.B 12 387) rfl rfl rfl rfl (two_of HT_.out (by kernel_rfl)) (by decide) (by decide) (fun K hK => ?_) (fun K hK => ?_)
               ·skip
                obtain ⟨Q8, hQ8_⟩ : ∃ q_ : Array Value, q_ = (#[.string t215, .string t216, .string t217, .int .i64 t218, .string t219, .string t220, .string t221, .string t222, .string t223, .int .i64 t224, .int .i64 t225, .string t226, .bool t227, .int .i64 t228, .string t229, .string t230, .string t231, .int .i64 t232, .int .i64 t233, .int .i64 t234, .bool t235, .bool t236, .int .i64 t237, .int .i64 t238, .bool t239] : Array Value) := ⟨_, rfl⟩
                try rw [← hQ8_]
                have hQ8 := Aside0.mk hQ8_; replace hq := Aside0.mk (And.intro hQ8_ hq.1); clear hQ8_
                refine goes_ Tryd.func20 (by kernel_rfl) rfl #[.agg Q8, .agg #[.string t200, .string t201, .string t202, .int .i64 t203, .int .i64 t204, .int .i64 t205], .bool true] (by rfl) rfl rfl (by (try simp only [List.map_toArray, List.map_cons, List.map_nil]); first | done | rfl | (simp only [hq.1]; done) | (simp only [hq.1]; rfl) | (simp only [List.length_drop, List.length_take]; rfl)) ?_
                refine Calls.mono (calls_of_args (by first | ((try simp only [hq.1]) <;> rfl) | fail) (dispute_Decide.calls k t215 t216 t217 t218 t219 t220 t221 t222 t223 t224 t225 t226 t227 t228 t229 t230 t231 t232 t233 t234 t235 t236 t237 t238 t239 t200 t201 t202 t203 t204 t205 true t240 t241 t242 t243 t244 t245 t246 t247 t248 t249 t250 t251 t252 _ A4.out)) ?_
                rintro e w29 ⟨he_, hb⟩
                subst he_
                replace HO := Aside0.mk (Ow.Own.call HO.out hb)
                clear hb
                refine ⟨_, rfl, ?_⟩
                refine hK.out _ _ (by have h_ := Ow.Own.pick [0, 1] HO.out (by decide); first | exact h_ | exact Ow.Own.cong h_ (by first | ((try simp only [hq.1]) <;> rfl) | fail)) (fun hHeld => ?_)
                clear hK K
                refine norm_ (a' := ?_) ?_ ?_
                rotate_left
                ·show Act.put _ (some 23) _ = _
                 simp only [Act.put, List.setIfInBounds_toArray, List.set_cons_zero, List.set_cons_succ, i64_w, i32_w]
                 rfl
                refine' Ow.pu (i := 3) (N := some 20) (Ow.B 12 271) HT_.out ?hv_ ?ha_ ?_; (case hv_ => intro w'; go_simp; with_reducible rfl); (case ha_ => simp only [Ow.Sl, i64_w, i32_w]; rfl)
                refine' Ow.pu (i := 4) (N := some 24) (Ow.B 12 287) HT_.out ?hv_ ?ha_ ?_; (case hv_ => intro w'; go_simp; with_reducible rfl); (case ha_ => simp only [Ow.Sl, i64_w, i32_w]; rfl)
                refine' Ow.pu (i := 5) (N := some 25) (Ow.B 12 319) HT_.out ?hv_ ?ha_ ?_; (case hv_ => intro w'; go_simp; with_reducible rfl); (case ha_ => simp only [Ow.Sl, i64_w, i32_w]; rfl)
                refine' Ow.pu (i := 6) (N := some 26) (Ow.B 12 383) HT_.out ?hv_ ?ha_ ?_; (case hv_ => intro w'; go_simp; with_reducible rfl); (case ha_ => simp only [Ow.Sl, i64_w, i32_w]; rfl)
                exact norm_ (by first | (simp only [putAll, Act.put, List.setIfInBounds_toArray, List.set_cons_zero, List.set_cons_succ]; done) | (simp only [putAll, Act.put, List.setIfInBounds_toArray, List.set_cons_zero, List.set_cons_succ]; rfl) | (simp only [hq.1, putAll, Act.put, List.setIfInBounds_toArray, List.set_cons_zero, List.set_cons_succ] <;> rfl)) (hJ0_2_8 (gb254) _ (Ow.Own.cong (Ow.Own.pick [0, 1, 2] HO.out (by decide)) (by first | ((try simp only [hq.1]) <;> rfl) | fail)))
               ·skip
                refine box_step ?hg (N := 4) ?hd (cs := bursarlaw26_awake.Z6) (t := 23) ?hr ?_; (case hd => rfl); (case hg => rfl); (case hr => first | (go_simp; done) | (go_simp; rfl))
                intro gb253 hg w29 hbox hb
                replace HO := Aside0.mk (Ow.Own.add HO.out hg hbox hb)
                clear hb hbox hg
                simp only [List.cons_append, List.nil_append] at HO
                refine hK.out _ _ (by have h_ := Ow.Own.pick [0, 1] HO.out (by decide); first | exact h_ | exact Ow.Own.cong h_ (by first | ((try simp only [hq.1]) <;> rfl) | fail)) (fun hHeld => ?_)
                clear hK K
                refine norm_ (a' := ?_) ?_ ?_
                rotate_left
                ·show Act.put _ (some 4) _ = _
                 simp only [Act.put, List.setIfInBounds_toArray, List.set_cons_zero, List.set_cons_succ, i64_w, i32_w]
                 rfl
                exact norm_ (by first | (simp only [putAll, Act.put, List.setIfInBounds_toArray, List.set_cons_zero, List.set_cons_succ]; done) | (simp only [putAll, Act.put, List.setIfInBounds_toArray, List.set_cons_zero, List.set_cons_succ]; rfl) | (simp only [hq.1, putAll, Act.put, List.setIfInBounds_toArray, List.set_cons_zero, List.set_cons_succ] <;> rfl)) (hJ0_7_8 (gb253, gb254) _ (Ow.Own.cong (Ow.Own.pick [0, 1, 3, 2] HO.out (by decide)) (by first | ((try simp only [hq.1]) <;> rfl) | fail)))
             ·skip
              rintro gb253 w28 HO7_
              clear HO
              have HO := Aside0.mk HO7_
              clear HO7_
              have hHeld := Ow.Own.pick [0, 1] HO.out (by decide)
              refine norm_ (a' := ?_) ?_ ?_
              rotate_left
              ·simp only [putAll, Act.put, List.setIfInBounds_toArray, List.set_cons_zero, List.set_cons_succ]
               rfl
              refine two_ (i := 2) (j := 8) (Ni := some 23) (Nj := some 5) (Ow.B 12 135) (Ow.B 12 387) rfl rfl rfl rfl (two_of HT_.out (by kernel_rfl)) (by decide) (by decide) (fun K hK => ?_) (fun K hK => ?_)
              ·skip
               obtain ⟨Q9, hQ9_⟩ : ∃ q_ : Array Value, q_ = (#[.string t215, .string t216, .string t217, .int .i64 t218, .string t219, .string t220, .string t221, .string t222, .string t223, .int .i64 t224, .int .i64 t225, .string t226, .bool t227, .int .i64 t228, .string t229, .string t230, .string t231, .int .i64 t232, .int .i64 t233, .int .i64 t234, .bool t235, .bool t236, .int .i64 t237, .int .i64 t238, .bool t239] : Array Value) := ⟨_, rfl⟩
               try rw [← hQ9_]
               have hQ9 := Aside0.mk hQ9_; replace hq := Aside0.mk (And.intro hQ9_ hq.1); clear hQ9_
               refine goes_ Tryd.func20 (by kernel_rfl) rfl #[.agg Q9, .agg #[.string t200, .string t201, .string t202, .int .i64 t203, .int .i64 t204, .int .i64 t205], .bool true] (by rfl) rfl rfl (by (try simp only [List.map_toArray, List.map_cons, List.map_nil]); first | done | rfl | (simp only [hq.1]; done) | (simp only [hq.1]; rfl) | (simp only [List.length_drop, List.length_take]; rfl)) ?_
               refine Calls.mono (calls_of_args (by first | ((try simp only [hq.1]) <;> rfl) | fail) (dispute_Decide.calls k t215 t216 t217 t218 t219 t220 t221 t222 t223 t224 t225 t226 t227 t228 t229 t230 t231 t232 t233 t234 t235 t236 t237 t238 t239 t200 t201 t202 t203 t204 t205 true t240 t241 t242 t243 t244 t245 t246 t247 t248 t249 t250 t251 t252 _ A4.out)) ?_
               rintro e w29 ⟨he_, hb⟩
               subst he_
               replace HO := Aside0.mk (Ow.Own.call HO.out hb)
               clear hb
               refine ⟨_, rfl, ?_⟩
               refine hK.out _ _ (by have h_ := Ow.Own.pick [0, 1] HO.out (by decide); first | exact h_ | exact Ow.Own.cong h_ (by first | ((try simp only [hq.1]) <;> rfl) | fail)) (fun hHeld => ?_)
               clear hK K
               refine norm_ (a' := ?_) ?_ ?_
               rotate_left
               ·show Act.put _ (some 23) _ = _
                simp only [Act.put, List.setIfInBounds_toArray, List.set_cons_zero, List.set_cons_succ, i64_w, i32_w]
                rfl
               refine' Ow.pu (i := 3) (N := some 20) (Ow.B 12 143) HT_.out ?hv_ ?ha_ ?_; (case hv_ => intro w'; go_simp; with_reducible rfl); (case ha_ => simp only [Ow.Sl, i64_w, i32_w]; rfl)
               refine' Ow.pu (i := 4) (N := some 24) (Ow.B 12 159) HT_.out ?hv_ ?ha_ ?_; (case hv_ => intro w'; go_simp; with_reducible rfl); (case ha_ => simp only [Ow.Sl, i64_w, i32_w]; rfl)
               refine' Ow.pu (i := 5) (N := some 25) (Ow.B 12 191) HT_.out ?hv_ ?ha_ ?_; (case hv_ => intro w'; go_simp; with_reducible rfl); (case ha_ => simp only [Ow.Sl, i64_w, i32_w]; rfl)
               refine' Ow.pu (i := 6) (N := some 26) (Ow.B 12 255) HT_.out ?hv_ ?ha_ ?_; (case hv_ => intro w'; go_simp; with_reducible rfl); (case ha_ => simp only [Ow.Sl, i64_w, i32_w]; rfl)
               exact norm_ (by first | (simp only [putAll, Act.put, List.setIfInBounds_toArray, List.set_cons_zero, List.set_cons_succ]; done) | (simp only [putAll, Act.put, List.setIfInBounds_toArray, List.set_cons_zero, List.set_cons_succ]; rfl) | (simp only [hq.1, putAll, Act.put, List.setIfInBounds_toArray, List.set_cons_zero, List.set_cons_succ] <;> rfl)) (hJ0_2_7 (gb253) _ (Ow.Own.cong (Ow.Own.pick [0, 1, 2] HO.out (by decide)) (by first | ((try simp only [hq.1]) <;> rfl) | fail)))
              ·skip
               refine box_step ?hg (N := 5) ?hd (cs := bursarlaw26_awake.Z6_1) (t := 50) ?hr ?_; (case hd => rfl); (case hg => rfl); (case hr => first | (go_simp; done) | (go_simp; rfl))
               intro gb254 hg w29 hbox hb
               replace HO := Aside0.mk (Ow.Own.add HO.out hg hbox hb)
               clear hb hbox hg
               simp only [List.cons_append, List.nil_append] at HO
               refine hK.out _ _ (by have h_ := Ow.Own.pick [0, 1] HO.out (by decide); first | exact h_ | exact Ow.Own.cong h_ (by first | ((try simp only [hq.1]) <;> rfl) | fail)) (fun hHeld => ?_)
               clear hK K
               refine norm_ (a' := ?_) ?_ ?_
               rotate_left
               ·show Act.put _ (some 5) _ = _
                simp only [Act.put, List.setIfInBounds_toArray, List.set_cons_zero, List.set_cons_succ, i64_w, i32_w]
                rfl
               exact norm_ (by first | (simp only [putAll, Act.put, List.setIfInBounds_toArray, List.set_cons_zero, List.set_cons_succ]; done) | (simp only [putAll, Act.put, List.setIfInBounds_toArray, List.set_cons_zero, List.set_cons_succ]; rfl) | (simp only [hq.1, putAll, Act.put, List.setIfInBounds_toArray, List.set_cons_zero, List.set_cons_succ] <;> rfl)) (hJ0_7_8 (gb253, gb254) _ (Ow.Own.cong (Ow.Own.pick [0, 1, 2, 3] HO.out (by decide)) (by first | ((try simp only [hq.1]) <;> rfl) | fail)))
            ·skip
             rintro _ w28 HO7_
             clear HO
             have HO := Aside0.mk HO7_
             clear HO7_
             have hHeld := Ow.Own.pick [0, 1] HO.out (by decide)
             refine norm_ (a' := ?_) ?_ ?_
             rotate_left
             ·simp only [putAll, Act.put, List.setIfInBounds_toArray, List.set_cons_zero, List.set_cons_succ]
              rfl
             refine two_ (i := 7) (j := 8) (Ni := some 4) (Nj := some 5) (Ow.B 12 255) (Ow.B 12 383) rfl rfl rfl rfl (two_of HT_.out (by kernel_rfl)) (by decide) (by decide) (fun K hK => ?_) (fun K hK => ?_)
             ·skip
              refine box_step ?hg (N := 4) ?hd (cs := bursarlaw26_awake.Z6) (t := 23) ?hr ?_; (case hd => rfl); (case hg => rfl); (case hr => first | (go_simp; done) | (go_simp; rfl))
              intro gb253 hg w29 hbox hb
              replace HO := Aside0.mk (Ow.Own.add HO.out hg hbox hb)
              clear hb hbox hg
              simp only [List.cons_append, List.nil_append] at HO
              refine hK.out _ _ (by have h_ := Ow.Own.pick [0, 1] HO.out (by decide); first | exact h_ | exact Ow.Own.cong h_ (by first | ((try simp only [hq.1]) <;> rfl) | fail)) (fun hHeld => ?_)
              clear hK K
              refine norm_ (a' := ?_) ?_ ?_
              rotate_left
              ·show Act.put _ (some 4) _ = _
               simp only [Act.put, List.setIfInBounds_toArray, List.set_cons_zero, List.set_cons_succ, i64_w, i32_w]
               rfl
              exact norm_ (by first | (simp only [putAll, Act.put, List.setIfInBounds_toArray, List.set_cons_zero, List.set_cons_succ]; done) | (simp only [putAll, Act.put, List.setIfInBounds_toArray, List.set_cons_zero, List.set_cons_succ]; rfl) | (simp only [hq.1, putAll, Act.put, List.setIfInBounds_toArray, List.set_cons_zero, List.set_cons_succ] <;> rfl)) (hJ0_2_7 (gb253) _ (Ow.Own.cong (Ow.Own.pick [0, 1, 2] HO.out (by decide)) (by first | ((try simp only [hq.1]) <;> rfl) | fail)))
             ·skip
              refine box_step ?hg (N := 5) ?hd (cs := bursarlaw26_awake.Z6_1) (t := 50) ?hr ?_; (case hd => rfl); (case hg => rfl); (case hr => first | (go_simp; done) | (go_simp; rfl))
              intro gb254 hg w29 hbox hb
              replace HO := Aside0.mk (Ow.Own.add HO.out hg hbox hb)
              clear hb hbox hg
              simp only [List.cons_append, List.nil_append] at HO
              refine hK.out _ _ (by have h_ := Ow.Own.pick [0, 1] HO.out (by decide); first | exact h_ | exact Ow.Own.cong h_ (by first | ((try simp only [hq.1]) <;> rfl) | fail)) (fun hHeld => ?_)
              clear hK K
              refine norm_ (a' := ?_) ?_ ?_
              rotate_left
              ·show Act.put _ (some 5) _ = _
               simp only [Act.put, List.setIfInBounds_toArray, List.set_cons_zero, List.set_cons_succ, i64_w, i32_w]
               rfl
              exact norm_ (by first | (simp only [putAll, Act.put, List.setIfInBounds_toArray, List.set_cons_zero, List.set_cons_succ]; done) | (simp only [putAll, Act.put, List.setIfInBounds_toArray, List.set_cons_zero, List.set_cons_succ]; rfl) | (simp only [hq.1, putAll, Act.put, List.setIfInBounds_toArray, List.set_cons_zero, List.set_cons_succ] <;> rfl)) (hJ0_2_8 (gb254) _ (Ow.Own.cong (Ow.Own.pick [0, 1, 2] HO.out (by decide)) (by first | ((try simp only [hq.1]) <;> rfl) | fail)))
           ·skip
            rintro ⟨gb253, gb254⟩ w29 HO7_
            clear HO
            have HO := Aside0.mk HO7_
            clear HO7_
            have hHeld := Ow.Own.pick [0, 1] HO.out (by decide)
            refine norm_ (a' := ?_) ?_ ?_
            rotate_left
            ·simp only [putAll, Act.put, List.setIfInBounds_toArray, List.set_cons_zero, List.set_cons_succ]
             rfl
            refine one_ (i := 2) (N := some 23) (Ow.B 12 391) rfl rfl (one_of HT_.out (by kernel_rfl)) (by decide) (fun K hK => ?_)
            obtain ⟨Q10, hQ10_⟩ : ∃ q_ : Array Value, q_ = (#[.string t215, .string t216, .string t217, .int .i64 t218, .string t219, .string t220, .string t221, .string t222, .string t223, .int .i64 t224, .int .i64 t225, .string t226, .bool t227, .int .i64 t228, .string t229, .string t230, .string t231, .int .i64 t232, .int .i64 t233, .int .i64 t234, .bool t235, .bool t236, .int .i64 t237, .int .i64 t238, .bool t239] : Array Value) := ⟨_, rfl⟩
            try rw [← hQ10_]
            have hQ10 := Aside0.mk hQ10_; replace hq := Aside0.mk (And.intro hQ10_ hq.1); clear hQ10_
            refine goes_ Tryd.func20 (by kernel_rfl) rfl #[.agg Q10, .agg #[.string t200, .string t201, .string t202, .int .i64 t203, .int .i64 t204, .int .i64 t205], .bool true] (by rfl) rfl rfl (by (try simp only [List.map_toArray, List.map_cons, List.map_nil]); first | done | rfl | (simp only [hq.1]; done) | (simp only [hq.1]; rfl) | (simp only [List.length_drop, List.length_take]; rfl)) ?_
            refine Calls.mono (calls_of_args (by first | ((try simp only [hq.1]) <;> rfl) | fail) (dispute_Decide.calls k t215 t216 t217 t218 t219 t220 t221 t222 t223 t224 t225 t226 t227 t228 t229 t230 t231 t232 t233 t234 t235 t236 t237 t238 t239 t200 t201 t202 t203 t204 t205 true t240 t241 t242 t243 t244 t245 t246 t247 t248 t249 t250 t251 t252 _ A4.out)) ?_
            rintro e w30 ⟨he_, hb⟩
            subst he_
            replace HO := Aside0.mk (Ow.Own.call HO.out hb)
            clear hb
            refine ⟨_, rfl, ?_⟩
            refine hK.out _ _ (by have h_ := Ow.Own.pick [0, 1] HO.out (by decide); first | exact h_ | exact Ow.Own.cong h_ (by first | ((try simp only [hq.1]) <;> rfl) | fail)) (fun hHeld => ?_)
            clear hK K
            refine norm_ (a' := ?_) ?_ ?_
            rotate_left
            ·show Act.put _ (some 23) _ = _
             simp only [Act.put, List.setIfInBounds_toArray, List.set_cons_zero, List.set_cons_succ, i64_w, i32_w]
             rfl
            refine' Ow.pu (i := 3) (N := some 20) (Ow.B 12 399) HT_.out ?hv_ ?ha_ ?_; (case hv_ => intro w'; go_simp; with_reducible rfl); (case ha_ => simp only [Ow.Sl, i64_w, i32_w]; rfl)
            refine' Ow.pu (i := 4) (N := some 24) (Ow.B 12 415) HT_.out ?hv_ ?ha_ ?_; (case hv_ => intro w'; go_simp; with_reducible rfl); (case ha_ => simp only [Ow.Sl, i64_w, i32_w]; rfl)
            refine' Ow.pu (i := 5) (N := some 25) (Ow.B 12 447) HT_.out ?hv_ ?ha_ ?_; (case hv_ => intro w'; go_simp; with_reducible rfl); (case ha_ => simp only [Ow.Sl, i64_w, i32_w]; rfl)
            refine' Ow.pu (i := 6) (N := some 26) (Ow.B 12 511) HT_.out ?hv_ ?ha_ ?_; (case hv_ => intro w'; go_simp; with_reducible rfl); (case ha_ => simp only [Ow.Sl, i64_w, i32_w]; rfl)
            exact norm_ (by first | (simp only [putAll, Act.put, List.setIfInBounds_toArray, List.set_cons_zero, List.set_cons_succ]; done) | (simp only [putAll, Act.put, List.setIfInBounds_toArray, List.set_cons_zero, List.set_cons_succ]; rfl) | (simp only [hq.1, putAll, Act.put, List.setIfInBounds_toArray, List.set_cons_zero, List.set_cons_succ] <;> rfl)) (hJ0_2_7_8 (gb253, gb254) _ (Ow.Own.cong (Ow.Own.pick [0, 1, 2, 3] HO.out (by decide)) (by first | ((try simp only [hq.1]) <;> rfl) | fail)))
          ·skip
           rintro gb254 w29 HO7_
           clear HO
           have HO := Aside0.mk HO7_
           clear HO7_
           have hHeld := Ow.Own.pick [0, 1] HO.out (by decide)
           refine norm_ (a' := ?_) ?_ ?_
           rotate_left
           ·simp only [putAll, Act.put, List.setIfInBounds_toArray, List.set_cons_zero, List.set_cons_succ]
            rfl
           refine one_ (i := 7) (N := some 4) (Ow.B 12 511) rfl rfl (one_of HT_.out (by kernel_rfl)) (by decide) (fun K hK => ?_)
           refine box_step ?hg (N := 4) ?hd (cs := bursarlaw26_awake.Z6) (t := 23) ?hr ?_; (case hd => rfl); (case hg => rfl); (case hr => first | (go_simp; done) | (go_simp; rfl))
           intro gb253 hg w30 hbox hb
           replace HO := Aside0.mk (Ow.Own.add HO.out hg hbox hb)
           clear hb hbox hg
           simp only [List.cons_append, List.nil_append] at HO
           refine hK.out _ _ (by have h_ := Ow.Own.pick [0, 1] HO.out (by decide); first | exact h_ | exact Ow.Own.cong h_ (by first | ((try simp only [hq.1]) <;> rfl) | fail)) (fun hHeld => ?_)
           clear hK K
           refine norm_ (a' := ?_) ?_ ?_
           rotate_left
           ·show Act.put _ (some 4) _ = _
            simp only [Act.put, List.setIfInBounds_toArray, List.set_cons_zero, List.set_cons_succ, i64_w, i32_w]
            rfl
           exact norm_ (by first | (simp only [putAll, Act.put, List.setIfInBounds_toArray, List.set_cons_zero, List.set_cons_succ]; done) | (simp only [putAll, Act.put, List.setIfInBounds_toArray, List.set_cons_zero, List.set_cons_succ]; rfl) | (simp only [hq.1, putAll, Act.put, List.setIfInBounds_toArray, List.set_cons_zero, List.set_cons_succ] <;> rfl)) (hJ0_2_7_8 (gb253, gb254) _ (Ow.Own.cong (Ow.Own.pick [0, 1, 3, 2] HO.out (by decide)) (by first | ((try simp only [hq.1]) <;> rfl) | fail)))
         ·skip
          rintro gb253 w29 HO7_
          clear HO
          have HO := Aside0.mk HO7_
          clear HO7_
          have hHeld := Ow.Own.pick [0, 1] HO.out (by decide)
          refine norm_ (a' := ?_) ?_ ?_
          rotate_left
          ·simp only [putAll, Act.put, List.setIfInBounds_toArray, List.set_cons_zero, List.set_cons_succ]
           rfl
          refine one_ (i := 8) (N := some 5) (Ow.B 12 511) rfl rfl (one_of HT_.out (by kernel_rfl)) (by decide) (fun K hK => ?_)
          refine box_step ?hg (N := 5) ?hd (cs := bursarlaw26_awake.Z6_1) (t := 50) ?hr ?_; (case hd => rfl); (case hg => rfl); (case hr => first | (go_simp; done) | (go_simp; rfl))
          intro gb254 hg w30 hbox hb
          replace HO := Aside0.mk (Ow.Own.add HO.out hg hbox hb)
          clear hb hbox hg
          simp only [List.cons_append, List.nil_append] at HO
          refine hK.out _ _ (by have h_ := Ow.Own.pick [0, 1] HO.out (by decide); first | exact h_ | exact Ow.Own.cong h_ (by first | ((try simp only [hq.1]) <;> rfl) | fail)) (fun hHeld => ?_)
          clear hK K
          refine norm_ (a' := ?_) ?_ ?_
          rotate_left
          ·show Act.put _ (some 5) _ = _
           simp only [Act.put, List.setIfInBounds_toArray, List.set_cons_zero, List.set_cons_succ, i64_w, i32_w]
           rfl
          exact norm_ (by first | (simp only [putAll, Act.put, List.setIfInBounds_toArray, List.set_cons_zero, List.set_cons_succ]; done) | (simp only [putAll, Act.put, List.setIfInBounds_toArray, List.set_cons_zero, List.set_cons_succ]; rfl) | (simp only [hq.1, putAll, Act.put, List.setIfInBounds_toArray, List.set_cons_zero, List.set_cons_succ] <;> rfl)) (hJ0_2_7_8 (gb253, gb254) _ (Ow.Own.cong (Ow.Own.pick [0, 1, 2, 3] HO.out (by decide)) (by first | ((try simp only [hq.1]) <;> rfl) | fail)))
        rintro ⟨gb253, gb254⟩ w30 HO7_
        clear HO
        have HO := Aside0.mk HO7_
        clear HO7_
        have hHeld := Ow.Own.pick [0, 1] HO.out (by decide)
        refine norm_ (a' := ?_) ?_ ?_
        rotate_left
        ·simp only [putAll, Act.put, List.setIfInBounds_toArray, List.set_cons_zero, List.set_cons_succ]
         rfl
        refine one_ (i := 9) (N := none) (Ow.B 12 1023) rfl rfl (one_of HT_.out (by kernel_rfl)) (by decide) (fun K hK => ?_)
        refine Ow.oskip Ot.ty HO.out (by rfl) rfl rfl rfl rfl (by with_reducible first | exact Ow.at0 | exact Ow.at1 | exact Ow.at2 | exact Ow.at3) (by first | exact Ow.ev_tmp rfl | rfl) (by first | ((try simp only [hq.1]) <;> rfl) | fail) (by first | ((try simp only [hq.1]) <;> rfl) | fail) (by first | ((try simp only [hq.1]) <;> rfl) | fail) ?_
        clear HO; intro wz_ HO; simp only [List.set_cons_zero, List.set_cons_succ] at HO
        refine hK.out _ _ (by have h_ := Ow.Own.pick [0, 1] HO.out (by decide); first | exact h_ | exact Ow.Own.cong h_ (by first | ((try simp only [hq.1]) <;> rfl) | fail)) (fun hHeld => ?_)
        clear hK K
        refine one_ (i := 10) (N := none) (Ow.B 12 2047) rfl rfl (one_of HT_.out (by kernel_rfl)) (by decide) (fun K hK => ?_)
        refine Ow.oskip Ot.ty HO.out (by rfl) rfl rfl rfl rfl (by with_reducible first | exact Ow.at0 | exact Ow.at1 | exact Ow.at2 | exact Ow.at3) (by first | exact Ow.ev_tmp rfl | rfl) (by first | ((try simp only [hq.1]) <;> rfl) | fail) (by first | ((try simp only [hq.1]) <;> rfl) | fail) (by first | ((try simp only [hq.1]) <;> rfl) | fail) ?_
        clear HO; intro wz_ HO; simp only [List.set_cons_zero, List.set_cons_succ] at HO
        refine hK.out _ _ (by have h_ := Ow.Own.pick [0, 1] HO.out (by decide); first | exact h_ | exact Ow.Own.cong h_ (by first | ((try simp only [hq.1]) <;> rfl) | fail)) (fun hHeld => ?_)
        clear hK K
        refine' Ow.pu (i := 11) (N := some 6) (Ow.B 12 4095) HT_.out ?hv_ ?ha_ ?_; (case hv_ => intro w'; go_simp; with_reducible rfl); (case ha_ => simp only [Ow.Sl, i64_w, i32_w]; rfl)
        refine done_ (done_of HT_.out (by kernel_rfl)) ?_
        try go_wp2_with (first | ((with_reducible refine Ow.gate_build rfl ?_); (try (refine gate_guard (by rfl) ?_; dsimp only)); refine' Ow.tbuild Ot.bd rfl rfl rfl ?hf_ ?_; (case hf_ => repeat (any_goals (first | exact Ow.Fills.nil | (refine' Ow.Fills.c ?hv_ rfl ?hz_ ?_; (case hv_ => first | exact Ow.ev_tmp rfl | rfl); (case hz_ => first | (refine ⟨?_, ?_⟩ <;> (first | ((try simp only [hq.1]) <;> rfl) | fail)) | fail)))))) | ((with_reducible refine Ow.gate_load rfl ?_); (try (refine gate_guard (by rfl) ?_; dsimp only)); (first | refine Ow.l1 Ot.ty HO.out rfl rfl rfl rfl (by first | ((try simp only [hq.1]) <;> rfl) | fail) ?_ | refine Ow.l0 Ot.ty HO.out rfl rfl rfl rfl (by first | ((try simp only [hq.1]) <;> rfl) | fail) ?_ | refine Ow.lp Ot.ty HO.out rfl rfl rfl rfl (by first | ((try simp only [hq.1]) <;> rfl) | fail) ?_)) | ((with_reducible refine gate_store rfl ?_); (try (refine gate_guard (by rfl) ?_; dsimp only)); (first | refine Ow.s0 Ot.ty HO.out rfl rfl rfl rfl rfl (by first | exact Ow.ev_tmp rfl | rfl) (by first | (refine ⟨?_, ?_, ?_⟩ <;> (first | ((try simp only [hq.1]) <;> rfl) | fail)) | fail) ?_ | refine Ow.sp Ot.ty HO.out rfl rfl rfl rfl rfl (by first | exact Ow.ev_tmp rfl | rfl) (by first | (refine ⟨?_, ?_, ?_⟩ <;> (first | ((try simp only [hq.1]) <;> rfl) | fail)) | fail) ?_); clear HO; intro wz_ HO; simp only [List.set_cons_zero, List.set_cons_succ] at HO))
        refine Ow.ostart (n := 12) (ds := []) (Ow.B 12 0) HO.out (by kernel_rfl) rfl (by kernel_rfl) ?_
        intro hHeld; replace HO := Aside0.mk hHeld; refine with_tabW bursarlaw26_awake.tab3 bursarlaw26_awake.bits3 (fun HT_ HW_ => ?_)
        refine take_ (i := 1) (N := some 29) (v := ?_) (a' := ?_) (Ow.B 12 2) rfl rfl (take_ofW HT_.out HW_.out (by kernel_rfl)) (fun _ _ _ h => h) (Or.inl ⟨by rfl, ?_⟩) hHeld ?_ ?_
        rotate_left
        ·intro w' s_
         first | refine Ow.r1 Ot.ty s_ rfl rfl rfl (by first | ((try simp only [hq.1]) <;> rfl) | fail) | (refine' Ow.r0 Ot.ty s_ rfl rfl rfl ?h; (case h => first | ((try simp only [hq.1]) <;> rfl) | fail)) | (refine' Ow.rp Ot.ty s_ rfl rfl rfl ?h; (case h => first | ((try simp only [hq.1]) <;> rfl) | fail)) | (go_simp; with_reducible rfl)
        rotate_left
        ·simp only [Act.put, List.setIfInBounds_toArray, List.set_cons_zero, List.set_cons_succ, i64_w, i32_w]
         rfl
        obtain ⟨Q11, hQ11_⟩ : ∃ q_ : Array Value, q_ = (#[.string t240, .string t241, .string t242, .int .i64 t243, .int .i64 t244, .int .i64 t245] : Array Value) := ⟨_, rfl⟩
        try rw [← hQ11_]
        have hQ11 := Aside0.mk hQ11_; replace hq := Aside0.mk (And.intro hQ11_ hq.1); clear hQ11_
        obtain ⟨Q12, hQ12_⟩ : ∃ q_ : Array Value, q_ = (#[.int .i64 t246, .int .i64 t247, .string t248, .string t249, .string t250, .int .i64 t251] : Array Value) := ⟨_, rfl⟩
        try rw [← hQ12_]
        have hQ12 := Aside0.mk hQ12_; replace hq := Aside0.mk (And.intro hQ12_ hq.1); clear hQ12_
        refine join_ (σ := Nat × Nat) 3 (Ow.B 12 511) (fun s_ => [(28, .agg #[.string t255, .string t256, .string t257, .int .i64 t258, .string t259, .string t260, .string t261, .string t262, .string t263, .int .i64 t264, .int .i64 t265, .string t266, .bool t267, .int .i64 t268, .string t269, .string t270, .string t271, .int .i64 t272, .int .i64 t273, .int .i64 t274, .bool t275, .bool t276, .int .i64 t277, .int .i64 t278, .bool t279]), (30, .tuple #[.agg #[.string t280, .string t281, .string t282, .int .i64 t283, .int .i64 t284, .int .i64 t285], .agg #[.int .i64 t286, .int .i64 t287, .string t288, .string t289, .string t290, .int .i64 t291], .string t292]), (7, .pointer (some ⟨s_.1, 0, none⟩)), (8, .pointer (some ⟨s_.2, 0, none⟩)), (27, .tuple #[.agg #[.string t280, .string t281, .string t282, .int .i64 t283, .int .i64 t284, .int .i64 t285], .agg #[.int .i64 t286, .int .i64 t287, .string t288, .string t289, .string t290, .int .i64 t291], .string t292]), (31, .agg #[.string t280, .string t281, .string t282, .int .i64 t283, .int .i64 t284, .int .i64 t285]), (32, .agg #[.int .i64 t286, .int .i64 t287, .string t288, .string t289, .string t290, .int .i64 t291]), (33, .string t292)]) (fun s_ w' => Ow.Own w w' [(gb213, Q1, 23), (gb214, Q2, 50), (gb253, Q11, 23), (gb254, Q12, 50), (s_.1, bursarlaw26_awake.Z6, 23), (s_.2, bursarlaw26_awake.Z6_1, 50)]) ?_ ?_
        rotate_left
        ·intro hJ0_2_7_8
         refine join_ (σ := Nat) 4 (Ow.B 12 255) (fun s_ => [(28, .agg #[.string t255, .string t256, .string t257, .int .i64 t258, .string t259, .string t260, .string t261, .string t262, .string t263, .int .i64 t264, .int .i64 t265, .string t266, .bool t267, .int .i64 t268, .string t269, .string t270, .string t271, .int .i64 t272, .int .i64 t273, .int .i64 t274, .bool t275, .bool t276, .int .i64 t277, .int .i64 t278, .bool t279]), (30, .tuple #[.agg #[.string t280, .string t281, .string t282, .int .i64 t283, .int .i64 t284, .int .i64 t285], .agg #[.int .i64 t286, .int .i64 t287, .string t288, .string t289, .string t290, .int .i64 t291], .string t292]), (7, .pointer (some ⟨s_, 0, none⟩)), (27, .tuple #[.agg #[.string t280, .string t281, .string t282, .int .i64 t283, .int .i64 t284, .int .i64 t285], .agg #[.int .i64 t286, .int .i64 t287, .string t288, .string t289, .string t290, .int .i64 t291], .string t292]), (31, .agg #[.string t280, .string t281, .string t282, .int .i64 t283, .int .i64 t284, .int .i64 t285]), (32, .agg #[.int .i64 t286, .int .i64 t287, .string t288, .string t289, .string t290, .int .i64 t291]), (33, .string t292)]) (fun s_ w' => Ow.Own w w' [(gb213, Q1, 23), (gb214, Q2, 50), (gb253, Q11, 23), (gb254, Q12, 50), (s_, bursarlaw26_awake.Z6, 23)]) ?_ ?_
         rotate_left
         ·intro hJ0_2_7
          refine join_ (σ := Nat) 4 (Ow.B 12 383) (fun s_ => [(28, .agg #[.string t255, .string t256, .string t257, .int .i64 t258, .string t259, .string t260, .string t261, .string t262, .string t263, .int .i64 t264, .int .i64 t265, .string t266, .bool t267, .int .i64 t268, .string t269, .string t270, .string t271, .int .i64 t272, .int .i64 t273, .int .i64 t274, .bool t275, .bool t276, .int .i64 t277, .int .i64 t278, .bool t279]), (30, .tuple #[.agg #[.string t280, .string t281, .string t282, .int .i64 t283, .int .i64 t284, .int .i64 t285], .agg #[.int .i64 t286, .int .i64 t287, .string t288, .string t289, .string t290, .int .i64 t291], .string t292]), (8, .pointer (some ⟨s_, 0, none⟩)), (27, .tuple #[.agg #[.string t280, .string t281, .string t282, .int .i64 t283, .int .i64 t284, .int .i64 t285], .agg #[.int .i64 t286, .int .i64 t287, .string t288, .string t289, .string t290, .int .i64 t291], .string t292]), (31, .agg #[.string t280, .string t281, .string t282, .int .i64 t283, .int .i64 t284, .int .i64 t285]), (32, .agg #[.int .i64 t286, .int .i64 t287, .string t288, .string t289, .string t290, .int .i64 t291]), (33, .string t292)]) (fun s_ w' => Ow.Own w w' [(gb213, Q1, 23), (gb214, Q2, 50), (gb253, Q11, 23), (gb254, Q12, 50), (s_, bursarlaw26_awake.Z6_1, 50)]) ?_ ?_
          rotate_left
          ·intro hJ0_2_8
           refine join_ (σ := Nat × Nat) 8 (Ow.B 12 387) (fun s_ => [(28, .agg #[.string t255, .string t256, .string t257, .int .i64 t258, .string t259, .string t260, .string t261, .string t262, .string t263, .int .i64 t264, .int .i64 t265, .string t266, .bool t267, .int .i64 t268, .string t269, .string t270, .string t271, .int .i64 t272, .int .i64 t273, .int .i64 t274, .bool t275, .bool t276, .int .i64 t277, .int .i64 t278, .bool t279]), (7, .pointer (some ⟨s_.1, 0, none⟩)), (8, .pointer (some ⟨s_.2, 0, none⟩))]) (fun s_ w' => Ow.Own w w' [(gb213, Q1, 23), (gb214, Q2, 50), (gb253, Q11, 23), (gb254, Q12, 50), (s_.1, bursarlaw26_awake.Z6, 23), (s_.2, bursarlaw26_awake.Z6_1, 50)]) ?_ ?_
           rotate_left
           ·intro hJ0_7_8
            refine join_ (σ := Unit) 5 (Ow.B 12 127) (fun s_ => [(28, .agg #[.string t255, .string t256, .string t257, .int .i64 t258, .string t259, .string t260, .string t261, .string t262, .string t263, .int .i64 t264, .int .i64 t265, .string t266, .bool t267, .int .i64 t268, .string t269, .string t270, .string t271, .int .i64 t272, .int .i64 t273, .int .i64 t274, .bool t275, .bool t276, .int .i64 t277, .int .i64 t278, .bool t279]), (30, .tuple #[.agg #[.string t280, .string t281, .string t282, .int .i64 t283, .int .i64 t284, .int .i64 t285], .agg #[.int .i64 t286, .int .i64 t287, .string t288, .string t289, .string t290, .int .i64 t291], .string t292]), (27, .tuple #[.agg #[.string t280, .string t281, .string t282, .int .i64 t283, .int .i64 t284, .int .i64 t285], .agg #[.int .i64 t286, .int .i64 t287, .string t288, .string t289, .string t290, .int .i64 t291], .string t292]), (31, .agg #[.string t280, .string t281, .string t282, .int .i64 t283, .int .i64 t284, .int .i64 t285]), (32, .agg #[.int .i64 t286, .int .i64 t287, .string t288, .string t289, .string t290, .int .i64 t291]), (33, .string t292)]) (fun s_ w' => Ow.Own w w' [(gb213, Q1, 23), (gb214, Q2, 50), (gb253, Q11, 23), (gb254, Q12, 50)]) ?_ ?_
            rotate_left
            ·intro hJ0_2
             refine join_ (σ := Nat) 9 (Ow.B 12 131) (fun s_ => [(28, .agg #[.string t255, .string t256, .string t257, .int .i64 t258, .string t259, .string t260, .string t261, .string t262, .string t263, .int .i64 t264, .int .i64 t265, .string t266, .bool t267, .int .i64 t268, .string t269, .string t270, .string t271, .int .i64 t272, .int .i64 t273, .int .i64 t274, .bool t275, .bool t276, .int .i64 t277, .int .i64 t278, .bool t279]), (7, .pointer (some ⟨s_, 0, none⟩))]) (fun s_ w' => Ow.Own w w' [(gb213, Q1, 23), (gb214, Q2, 50), (gb253, Q11, 23), (gb254, Q12, 50), (s_, bursarlaw26_awake.Z6, 23)]) ?_ ?_
             rotate_left
             ·intro hJ0_7
              refine join_ (σ := Nat) 9 (Ow.B 12 259) (fun s_ => [(28, .agg #[.string t255, .string t256, .string t257, .int .i64 t258, .string t259, .string t260, .string t261, .string t262, .string t263, .int .i64 t264, .int .i64 t265, .string t266, .bool t267, .int .i64 t268, .string t269, .string t270, .string t271, .int .i64 t272, .int .i64 t273, .int .i64 t274, .bool t275, .bool t276, .int .i64 t277, .int .i64 t278, .bool t279]), (8, .pointer (some ⟨s_, 0, none⟩))]) (fun s_ w' => Ow.Own w w' [(gb213, Q1, 23), (gb214, Q2, 50), (gb253, Q11, 23), (gb254, Q12, 50), (s_, bursarlaw26_awake.Z6_1, 50)]) ?_ ?_
              rotate_left
              ·intro hJ0_8
               refine join_ (σ := Nat × Nat) 9 (Ow.B 12 386) (fun s_ => [(7, .pointer (some ⟨s_.1, 0, none⟩)), (8, .pointer (some ⟨s_.2, 0, none⟩))]) (fun s_ w' => Ow.Own w w' [(gb213, Q1, 23), (gb214, Q2, 50), (gb253, Q11, 23), (gb254, Q12, 50), (s_.1, bursarlaw26_awake.Z6, 23), (s_.2, bursarlaw26_awake.Z6_1, 50)]) ?_ ?_
               rotate_left
               ·intro hJ7_8
                refine join_ (σ := Unit) 10 (Ow.B 12 3) (fun s_ => [(28, .agg #[.string t255, .string t256, .string t257, .int .i64 t258, .string t259, .string t260, .string t261, .string t262, .string t263, .int .i64 t264, .int .i64 t265, .string t266, .bool t267, .int .i64 t268, .string t269, .string t270, .string t271, .int .i64 t272, .int .i64 t273, .int .i64 t274, .bool t275, .bool t276, .int .i64 t277, .int .i64 t278, .bool t279])]) (fun s_ w' => Ow.Own w w' [(gb213, Q1, 23), (gb214, Q2, 50), (gb253, Q11, 23), (gb254, Q12, 50)]) ?_ ?_
                rotate_left
                ·intro hJ0
                 refine join_ (σ := Nat) 10 (Ow.B 12 130) (fun s_ => [(7, .pointer (some ⟨s_, 0, none⟩))]) (fun s_ w' => Ow.Own w w' [(gb213, Q1, 23), (gb214, Q2, 50), (gb253, Q11, 23), (gb254, Q12, 50), (s_, bursarlaw26_awake.Z6, 23)]) ?_ ?_
                 rotate_left
                 ·intro hJ7
                  refine join_ (σ := Nat) 10 (Ow.B 12 258) (fun s_ => [(8, .pointer (some ⟨s_, 0, none⟩))]) (fun s_ w' => Ow.Own w w' [(gb213, Q1, 23), (gb214, Q2, 50), (gb253, Q11, 23), (gb254, Q12, 50), (s_, bursarlaw26_awake.Z6_1, 50)]) ?_ ?_
                  rotate_left
                  ·intro hJ8
                   refine three_ (i := 0) (j := 7) (k := 8) (Ni := some 28) (Nj := some 7) (Nk := some 8) (Ow.B 12 3) (Ow.B 12 130) (Ow.B 12 258) rfl rfl rfl rfl rfl rfl (three_of HT_.out (by kernel_rfl)) (by decide) (by decide) (by decide) (fun K hK => ?_) (fun K hK => ?_) (fun K hK => ?_)
                   ·skip
                    refine goes_ Tryd.func21 (by kernel_rfl) rfl #[.string (⟨#[48, 49, 48, 48, 48, 48]⟩ : ByteArray), .int .i64 40, .int .i64 0] (by rfl) rfl rfl (by (try simp only [List.map_toArray, List.map_cons, List.map_nil]); first | done | rfl | (simp only [hq.1]; done) | (simp only [hq.1]; rfl) | (simp only [List.length_drop, List.length_take]; rfl)) ?_
                    obtain ⟨Q13, hQ13_⟩ : ∃ q_ : Array Value, q_ = (#[.string t255, .string t256, .string t257, .int .i64 t258, .string t259, .string t260, .string t261, .string t262, .string t263, .int .i64 t264, .int .i64 t265, .string t266, .bool t267, .int .i64 t268, .string t269, .string t270, .string t271, .int .i64 t272, .int .i64 t273, .int .i64 t274, .bool t275, .bool t276, .int .i64 t277, .int .i64 t278, .bool t279] : Array Value) := ⟨_, rfl⟩
                    try rw [← hQ13_]
                    have hQ13 := Aside0.mk hQ13_; replace hq := Aside0.mk (And.intro hQ13_ hq.1); clear hQ13_
                    refine Calls.mono (calls_of_args (by first | ((try simp only [hq.1]) <;> rfl) | fail) (bursarlaw26_some.calls (⟨#[48, 49, 48, 48, 48, 48]⟩ : ByteArray) 40 0 t255 t256 t257 t258 t259 t260 t261 t262 t263 t264 t265 t266 t267 t268 t269 t270 t271 t272 t273 t274 t275 t276 t277 t278 t279 _ A5.out)) ?_
                    rintro e w45 ⟨he_, hb⟩
                    (try rw [← hQ13.out] at he_)
                    subst he_
                    replace HO := Aside0.mk (Ow.Own.call HO.out hb)
                    clear hb
                    refine ⟨_, rfl, ?_⟩
                    refine hK.out _ _ (by first | exact HO.out | exact Ow.Own.cong HO.out (by first | ((try simp only [hq.1]) <;> rfl) | fail)) (fun hHeld => ?_)
                    clear hK K
                    refine norm_ (a' := ?_) ?_ ?_
                    rotate_left
                    ·show Act.put _ (some 28) _ = _
                     simp only [Act.put, List.setIfInBounds_toArray, List.set_cons_zero, List.set_cons_succ, i64_w, i32_w]
                     rfl
                    exact norm_ (by first | (simp only [putAll, Act.put, List.setIfInBounds_toArray, List.set_cons_zero, List.set_cons_succ]; done) | (simp only [putAll, Act.put, List.setIfInBounds_toArray, List.set_cons_zero, List.set_cons_succ]; rfl) | (simp only [hq.1, putAll, Act.put, List.setIfInBounds_toArray, List.set_cons_zero, List.set_cons_succ] <;> rfl)) (hJ0 () _ (Ow.Own.cong (Ow.Own.pick [0, 1, 2, 3] HO.out (by decide)) (by first | ((try simp only [hq.1]) <;> rfl) | fail)))
                   ·skip
                    refine box_step ?hg (N := 7) ?hd (cs := bursarlaw26_awake.Z6) (t := 23) ?hr ?_; (case hd => rfl); (case hg => rfl); (case hr => first | (go_simp; done) | (go_simp; rfl))
                    intro gb293 hg w45 hbox hb
                    replace HO := Aside0.mk (Ow.Own.add HO.out hg hbox hb)
                    clear hb hbox hg
                    simp only [List.cons_append, List.nil_append] at HO
                    refine hK.out _ _ (by have h_ := Ow.Own.pick [0, 1, 2, 3] HO.out (by decide); first | exact h_ | exact Ow.Own.cong h_ (by first | ((try simp only [hq.1]) <;> rfl) | fail)) (fun hHeld => ?_)
                    clear hK K
                    refine norm_ (a' := ?_) ?_ ?_
                    rotate_left
                    ·show Act.put _ (some 7) _ = _
                     simp only [Act.put, List.setIfInBounds_toArray, List.set_cons_zero, List.set_cons_succ, i64_w, i32_w]
                     rfl
                    exact norm_ (by first | (simp only [putAll, Act.put, List.setIfInBounds_toArray, List.set_cons_zero, List.set_cons_succ]; done) | (simp only [putAll, Act.put, List.setIfInBounds_toArray, List.set_cons_zero, List.set_cons_succ]; rfl) | (simp only [hq.1, putAll, Act.put, List.setIfInBounds_toArray, List.set_cons_zero, List.set_cons_succ] <;> rfl)) (hJ7 (gb293) _ (Ow.Own.cong (Ow.Own.pick [0, 1, 2, 3, 4] HO.out (by decide)) (by first | ((try simp only [hq.1]) <;> rfl) | fail)))
                   ·skip
                    refine box_step ?hg (N := 8) ?hd (cs := bursarlaw26_awake.Z6_1) (t := 50) ?hr ?_; (case hd => rfl); (case hg => rfl); (case hr => first | (go_simp; done) | (go_simp; rfl))
                    intro gb294 hg w45 hbox hb
                    replace HO := Aside0.mk (Ow.Own.add HO.out hg hbox hb)
                    clear hb hbox hg
                    simp only [List.cons_append, List.nil_append] at HO
                    refine hK.out _ _ (by have h_ := Ow.Own.pick [0, 1, 2, 3] HO.out (by decide); first | exact h_ | exact Ow.Own.cong h_ (by first | ((try simp only [hq.1]) <;> rfl) | fail)) (fun hHeld => ?_)
                    clear hK K
                    refine norm_ (a' := ?_) ?_ ?_
                    rotate_left
                    ·show Act.put _ (some 8) _ = _
                     simp only [Act.put, List.setIfInBounds_toArray, List.set_cons_zero, List.set_cons_succ, i64_w, i32_w]
                     rfl
                    exact norm_ (by first | (simp only [putAll, Act.put, List.setIfInBounds_toArray, List.set_cons_zero, List.set_cons_succ]; done) | (simp only [putAll, Act.put, List.setIfInBounds_toArray, List.set_cons_zero, List.set_cons_succ]; rfl) | (simp only [hq.1, putAll, Act.put, List.setIfInBounds_toArray, List.set_cons_zero, List.set_cons_succ] <;> rfl)) (hJ8 (gb294) _ (Ow.Own.cong (Ow.Own.pick [0, 1, 2, 3, 4] HO.out (by decide)) (by first | ((try simp only [hq.1]) <;> rfl) | fail)))
                  ·skip
                   rintro gb294 w46 HO7_
                   clear HO
                   have HO := Aside0.mk HO7_
                   clear HO7_
                   have hHeld := Ow.Own.pick [0, 1, 2, 3] HO.out (by decide)
                   refine norm_ (a' := ?_) ?_ ?_
                   rotate_left
                   ·simp only [putAll, Act.put, List.setIfInBounds_toArray, List.set_cons_zero, List.set_cons_succ]
                    rfl
                   refine two_ (i := 0) (j := 7) (Ni := some 28) (Nj := some 7) (Ow.B 12 259) (Ow.B 12 386) rfl rfl rfl rfl (two_of HT_.out (by kernel_rfl)) (by decide) (by decide) (fun K hK => ?_) (fun K hK => ?_)
                   ·skip
                    refine goes_ Tryd.func21 (by kernel_rfl) rfl #[.string (⟨#[48, 49, 48, 48, 48, 48]⟩ : ByteArray), .int .i64 40, .int .i64 0] (by rfl) rfl rfl (by (try simp only [List.map_toArray, List.map_cons, List.map_nil]); first | done | rfl | (simp only [hq.1]; done) | (simp only [hq.1]; rfl) | (simp only [List.length_drop, List.length_take]; rfl)) ?_
                    obtain ⟨Q14, hQ14_⟩ : ∃ q_ : Array Value, q_ = (#[.string t255, .string t256, .string t257, .int .i64 t258, .string t259, .string t260, .string t261, .string t262, .string t263, .int .i64 t264, .int .i64 t265, .string t266, .bool t267, .int .i64 t268, .string t269, .string t270, .string t271, .int .i64 t272, .int .i64 t273, .int .i64 t274, .bool t275, .bool t276, .int .i64 t277, .int .i64 t278, .bool t279] : Array Value) := ⟨_, rfl⟩
                    try rw [← hQ14_]
                    have hQ14 := Aside0.mk hQ14_; replace hq := Aside0.mk (And.intro hQ14_ hq.1); clear hQ14_
                    refine Calls.mono (calls_of_args (by first | ((try simp only [hq.1]) <;> rfl) | fail) (bursarlaw26_some.calls (⟨#[48, 49, 48, 48, 48, 48]⟩ : ByteArray) 40 0 t255 t256 t257 t258 t259 t260 t261 t262 t263 t264 t265 t266 t267 t268 t269 t270 t271 t272 t273 t274 t275 t276 t277 t278 t279 _ A5.out)) ?_
                    rintro e w47 ⟨he_, hb⟩
                    (try rw [← hQ14.out] at he_)
                    subst he_
                    replace HO := Aside0.mk (Ow.Own.call HO.out hb)
                    clear hb
                    refine ⟨_, rfl, ?_⟩
                    refine hK.out _ _ (by have h_ := Ow.Own.pick [0, 1, 2, 3] HO.out (by decide); first | exact h_ | exact Ow.Own.cong h_ (by first | ((try simp only [hq.1]) <;> rfl) | fail)) (fun hHeld => ?_)
                    clear hK K
                    refine norm_ (a' := ?_) ?_ ?_
                    rotate_left
                    ·show Act.put _ (some 28) _ = _
                     simp only [Act.put, List.setIfInBounds_toArray, List.set_cons_zero, List.set_cons_succ, i64_w, i32_w]
                     rfl
                    exact norm_ (by first | (simp only [putAll, Act.put, List.setIfInBounds_toArray, List.set_cons_zero, List.set_cons_succ]; done) | (simp only [putAll, Act.put, List.setIfInBounds_toArray, List.set_cons_zero, List.set_cons_succ]; rfl) | (simp only [hq.1, putAll, Act.put, List.setIfInBounds_toArray, List.set_cons_zero, List.set_cons_succ] <;> rfl)) (hJ0_8 (gb294) _ (Ow.Own.cong (Ow.Own.pick [0, 1, 2, 3, 4] HO.out (by decide)) (by first | ((try simp only [hq.1]) <;> rfl) | fail)))
                   ·skip
                    refine box_step ?hg (N := 7) ?hd (cs := bursarlaw26_awake.Z6) (t := 23) ?hr ?_; (case hd => rfl); (case hg => rfl); (case hr => first | (go_simp; done) | (go_simp; rfl))
                    intro gb293 hg w47 hbox hb
                    replace HO := Aside0.mk (Ow.Own.add HO.out hg hbox hb)
                    clear hb hbox hg
                    simp only [List.cons_append, List.nil_append] at HO
                    refine hK.out _ _ (by have h_ := Ow.Own.pick [0, 1, 2, 3] HO.out (by decide); first | exact h_ | exact Ow.Own.cong h_ (by first | ((try simp only [hq.1]) <;> rfl) | fail)) (fun hHeld => ?_)
                    clear hK K
                    refine norm_ (a' := ?_) ?_ ?_
                    rotate_left
                    ·show Act.put _ (some 7) _ = _
                     simp only [Act.put, List.setIfInBounds_toArray, List.set_cons_zero, List.set_cons_succ, i64_w, i32_w]
                     rfl
                    exact norm_ (by first | (simp only [putAll, Act.put, List.setIfInBounds_toArray, List.set_cons_zero, List.set_cons_succ]; done) | (simp only [putAll, Act.put, List.setIfInBounds_toArray, List.set_cons_zero, List.set_cons_succ]; rfl) | (simp only [hq.1, putAll, Act.put, List.setIfInBounds_toArray, List.set_cons_zero, List.set_cons_succ] <;> rfl)) (hJ7_8 (gb293, gb294) _ (Ow.Own.cong (Ow.Own.pick [0, 1, 2, 3, 5, 4] HO.out (by decide)) (by first | ((try simp only [hq.1]) <;> rfl) | fail)))
                 ·skip
                  rintro gb293 w46 HO7_
                  clear HO
                  have HO := Aside0.mk HO7_
                  clear HO7_
                  have hHeld := Ow.Own.pick [0, 1, 2, 3] HO.out (by decide)
                  refine norm_ (a' := ?_) ?_ ?_
                  rotate_left
                  ·simp only [putAll, Act.put, List.setIfInBounds_toArray, List.set_cons_zero, List.set_cons_succ]
                   rfl
                  refine two_ (i := 0) (j := 8) (Ni := some 28) (Nj := some 8) (Ow.B 12 131) (Ow.B 12 386) rfl rfl rfl rfl (two_of HT_.out (by kernel_rfl)) (by decide) (by decide) (fun K hK => ?_) (fun K hK => ?_)
                  ·skip
                   refine goes_ Tryd.func21 (by kernel_rfl) rfl #[.string (⟨#[48, 49, 48, 48, 48, 48]⟩ : ByteArray), .int .i64 40, .int .i64 0] (by rfl) rfl rfl (by (try simp only [List.map_toArray, List.map_cons, List.map_nil]); first | done | rfl | (simp only [hq.1]; done) | (simp only [hq.1]; rfl) | (simp only [List.length_drop, List.length_take]; rfl)) ?_
                   obtain ⟨Q15, hQ15_⟩ : ∃ q_ : Array Value, q_ = (#[.string t255, .string t256, .string t257, .int .i64 t258, .string t259, .string t260, .string t261, .string t262, .string t263, .int .i64 t264, .int .i64 t265, .string t266, .bool t267, .int .i64 t268, .string t269, .string t270, .string t271, .int .i64 t272, .int .i64 t273, .int .i64 t274, .bool t275, .bool t276, .int .i64 t277, .int .i64 t278, .bool t279] : Array Value) := ⟨_, rfl⟩
                   try rw [← hQ15_]
                   have hQ15 := Aside0.mk hQ15_; replace hq := Aside0.mk (And.intro hQ15_ hq.1); clear hQ15_
                   refine Calls.mono (calls_of_args (by first | ((try simp only [hq.1]) <;> rfl) | fail) (bursarlaw26_some.calls (⟨#[48, 49, 48, 48, 48, 48]⟩ : ByteArray) 40 0 t255 t256 t257 t258 t259 t260 t261 t262 t263 t264 t265 t266 t267 t268 t269 t270 t271 t272 t273 t274 t275 t276 t277 t278 t279 _ A5.out)) ?_
                   rintro e w47 ⟨he_, hb⟩
                   (try rw [← hQ15.out] at he_)
                   subst he_
                   replace HO := Aside0.mk (Ow.Own.call HO.out hb)
                   clear hb
                   refine ⟨_, rfl, ?_⟩
                   refine hK.out _ _ (by have h_ := Ow.Own.pick [0, 1, 2, 3] HO.out (by decide); first | exact h_ | exact Ow.Own.cong h_ (by first | ((try simp only [hq.1]) <;> rfl) | fail)) (fun hHeld => ?_)
                   clear hK K
                   refine norm_ (a' := ?_) ?_ ?_
                   rotate_left
                   ·show Act.put _ (some 28) _ = _
                    simp only [Act.put, List.setIfInBounds_toArray, List.set_cons_zero, List.set_cons_succ, i64_w, i32_w]
                    rfl
                   exact norm_ (by first | (simp only [putAll, Act.put, List.setIfInBounds_toArray, List.set_cons_zero, List.set_cons_succ]; done) | (simp only [putAll, Act.put, List.setIfInBounds_toArray, List.set_cons_zero, List.set_cons_succ]; rfl) | (simp only [hq.1, putAll, Act.put, List.setIfInBounds_toArray, List.set_cons_zero, List.set_cons_succ] <;> rfl)) (hJ0_7 (gb293) _ (Ow.Own.cong (Ow.Own.pick [0, 1, 2, 3, 4] HO.out (by decide)) (by first | ((try simp only [hq.1]) <;> rfl) | fail)))
                  ·skip
                   refine box_step ?hg (N := 8) ?hd (cs := bursarlaw26_awake.Z6_1) (t := 50) ?hr ?_; (case hd => rfl); (case hg => rfl); (case hr => first | (go_simp; done) | (go_simp; rfl))
                   intro gb294 hg w47 hbox hb
                   replace HO := Aside0.mk (Ow.Own.add HO.out hg hbox hb)
                   clear hb hbox hg
                   simp only [List.cons_append, List.nil_append] at HO
                   refine hK.out _ _ (by have h_ := Ow.Own.pick [0, 1, 2, 3] HO.out (by decide); first | exact h_ | exact Ow.Own.cong h_ (by first | ((try simp only [hq.1]) <;> rfl) | fail)) (fun hHeld => ?_)
                   clear hK K
                   refine norm_ (a' := ?_) ?_ ?_
                   rotate_left
                   ·show Act.put _ (some 8) _ = _
                    simp only [Act.put, List.setIfInBounds_toArray, List.set_cons_zero, List.set_cons_succ, i64_w, i32_w]
                    rfl
                   exact norm_ (by first | (simp only [putAll, Act.put, List.setIfInBounds_toArray, List.set_cons_zero, List.set_cons_succ]; done) | (simp only [putAll, Act.put, List.setIfInBounds_toArray, List.set_cons_zero, List.set_cons_succ]; rfl) | (simp only [hq.1, putAll, Act.put, List.setIfInBounds_toArray, List.set_cons_zero, List.set_cons_succ] <;> rfl)) (hJ7_8 (gb293, gb294) _ (Ow.Own.cong (Ow.Own.pick [0, 1, 2, 3, 4, 5] HO.out (by decide)) (by first | ((try simp only [hq.1]) <;> rfl) | fail)))
                ·skip
                 rintro _ w46 HO7_
                 clear HO
                 have HO := Aside0.mk HO7_
                 clear HO7_
                 have hHeld := Ow.Own.pick [0, 1, 2, 3] HO.out (by decide)
                 refine norm_ (a' := ?_) ?_ ?_
                 rotate_left
                 ·simp only [putAll, Act.put, List.setIfInBounds_toArray, List.set_cons_zero, List.set_cons_succ]
                  rfl
                 refine three_ (i := 2) (j := 7) (k := 8) (Ni := some 30) (Nj := some 7) (Nk := some 8) (Ow.B 12 7) (Ow.B 12 131) (Ow.B 12 259) rfl rfl rfl rfl rfl rfl (three_of HT_.out (by kernel_rfl)) (by decide) (by decide) (by decide) (fun K hK => ?_) (fun K hK => ?_) (fun K hK => ?_)
                 ·skip
                  obtain ⟨Q16, hQ16_⟩ : ∃ q_ : Array Value, q_ = (#[.string t255, .string t256, .string t257, .int .i64 t258, .string t259, .string t260, .string t261, .string t262, .string t263, .int .i64 t264, .int .i64 t265, .string t266, .bool t267, .int .i64 t268, .string t269, .string t270, .string t271, .int .i64 t272, .int .i64 t273, .int .i64 t274, .bool t275, .bool t276, .int .i64 t277, .int .i64 t278, .bool t279] : Array Value) := ⟨_, rfl⟩
                  try rw [← hQ16_]
                  have hQ16 := Aside0.mk hQ16_; replace hq := Aside0.mk (And.intro hQ16_ hq.1); clear hQ16_
                  refine goes_ Tryd.func20 (by kernel_rfl) rfl #[.agg Q16, .agg #[.string t200, .string t201, .string t202, .int .i64 t203, .int .i64 t204, .int .i64 t205], .bool true] (by rfl) rfl rfl (by (try simp only [List.map_toArray, List.map_cons, List.map_nil]); first | done | rfl | (simp only [hq.1]; done) | (simp only [hq.1]; rfl) | (simp only [List.length_drop, List.length_take]; rfl)) ?_
                  refine Calls.mono (calls_of_args (by first | ((try simp only [hq.1]) <;> rfl) | fail) (dispute_Decide.calls k t255 t256 t257 t258 t259 t260 t261 t262 t263 t264 t265 t266 t267 t268 t269 t270 t271 t272 t273 t274 t275 t276 t277 t278 t279 t200 t201 t202 t203 t204 t205 true t280 t281 t282 t283 t284 t285 t286 t287 t288 t289 t290 t291 t292 _ A6.out)) ?_
                  rintro e w47 ⟨he_, hb⟩
                  subst he_
                  replace HO := Aside0.mk (Ow.Own.call HO.out hb)
                  clear hb
                  refine ⟨_, rfl, ?_⟩
                  refine hK.out _ _ (by first | exact HO.out | exact Ow.Own.cong HO.out (by first | ((try simp only [hq.1]) <;> rfl) | fail)) (fun hHeld => ?_)
                  clear hK K
                  refine norm_ (a' := ?_) ?_ ?_
                  rotate_left
                  ·show Act.put _ (some 30) _ = _
                   simp only [Act.put, List.setIfInBounds_toArray, List.set_cons_zero, List.set_cons_succ, i64_w, i32_w]
                   rfl
                  refine' Ow.pu (i := 3) (N := some 27) (Ow.B 12 15) HT_.out ?hv_ ?ha_ ?_; (case hv_ => intro w'; go_simp; with_reducible rfl); (case ha_ => simp only [Ow.Sl, i64_w, i32_w]; rfl)
                  refine' Ow.pu (i := 4) (N := some 31) (Ow.B 12 31) HT_.out ?hv_ ?ha_ ?_; (case hv_ => intro w'; go_simp; with_reducible rfl); (case ha_ => simp only [Ow.Sl, i64_w, i32_w]; rfl)
                  refine' Ow.pu (i := 5) (N := some 32) (Ow.B 12 63) HT_.out ?hv_ ?ha_ ?_; (case hv_ => intro w'; go_simp; with_reducible rfl); (case ha_ => simp only [Ow.Sl, i64_w, i32_w]; rfl)
                  refine' Ow.pu (i := 6) (N := some 33) (Ow.B 12 127) HT_.out ?hv_ ?ha_ ?_; (case hv_ => intro w'; go_simp; with_reducible rfl); (case ha_ => simp only [Ow.Sl, i64_w, i32_w]; rfl)
                  exact norm_ (by first | (simp only [putAll, Act.put, List.setIfInBounds_toArray, List.set_cons_zero, List.set_cons_succ]; done) | (simp only [putAll, Act.put, List.setIfInBounds_toArray, List.set_cons_zero, List.set_cons_succ]; rfl) | (simp only [hq.1, putAll, Act.put, List.setIfInBounds_toArray, List.set_cons_zero, List.set_cons_succ] <;> rfl)) (hJ0_2 () _ (Ow.Own.cong (Ow.Own.pick [0, 1, 2, 3] HO.out (by decide)) (by first | ((try simp only [hq.1]) <;> rfl) | fail)))
                 ·skip
                  refine box_step ?hg (N := 7) ?hd (cs := bursarlaw26_awake.Z6) (t := 23) ?hr ?_; (case hd => rfl); (case hg => rfl); (case hr => first | (go_simp; done) | (go_simp; rfl))
                  intro gb293 hg w47 hbox hb
                  replace HO := Aside0.mk (Ow.Own.add HO.out hg hbox hb)
                  clear hb hbox hg
                  simp only [List.cons_append, List.nil_append] at HO
                  refine hK.out _ _ (by have h_ := Ow.Own.pick [0, 1, 2, 3] HO.out (by decide); first | exact h_ | exact Ow.Own.cong h_ (by first | ((try simp only [hq.1]) <;> rfl) | fail)) (fun hHeld => ?_)
                  clear hK K
                  refine norm_ (a' := ?_) ?_ ?_
                  rotate_left
                  ·show Act.put _ (some 7) _ = _
                   simp only [Act.put, List.setIfInBounds_toArray, List.set_cons_zero, List.set_cons_succ, i64_w, i32_w]
                   rfl
                  exact norm_ (by first | (simp only [putAll, Act.put, List.setIfInBounds_toArray, List.set_cons_zero, List.set_cons_succ]; done) | (simp only [putAll, Act.put, List.setIfInBounds_toArray, List.set_cons_zero, List.set_cons_succ]; rfl) | (simp only [hq.1, putAll, Act.put, List.setIfInBounds_toArray, List.set_cons_zero, List.set_cons_succ] <;> rfl)) (hJ0_7 (gb293) _ (Ow.Own.cong (Ow.Own.pick [0, 1, 2, 3, 4] HO.out (by decide)) (by first | ((try simp only [hq.1]) <;> rfl) | fail)))
                 ·skip
                  refine box_step ?hg (N := 8) ?hd (cs := bursarlaw26_awake.Z6_1) (t := 50) ?hr ?_; (case hd => rfl); (case hg => rfl); (case hr => first | (go_simp; done) | (go_simp; rfl))
                  intro gb294 hg w47 hbox hb
                  replace HO := Aside0.mk (Ow.Own.add HO.out hg hbox hb)
                  clear hb hbox hg
                  simp only [List.cons_append, List.nil_append] at HO
                  refine hK.out _ _ (by have h_ := Ow.Own.pick [0, 1, 2, 3] HO.out (by decide); first | exact h_ | exact Ow.Own.cong h_ (by first | ((try simp only [hq.1]) <;> rfl) | fail)) (fun hHeld => ?_)
                  clear hK K
                  refine norm_ (a' := ?_) ?_ ?_
                  rotate_left
                  ·show Act.put _ (some 8) _ = _
                   simp only [Act.put, List.setIfInBounds_toArray, List.set_cons_zero, List.set_cons_succ, i64_w, i32_w]
                   rfl
                  exact norm_ (by first | (simp only [putAll, Act.put, List.setIfInBounds_toArray, List.set_cons_zero, List.set_cons_succ]; done) | (simp only [putAll, Act.put, List.setIfInBounds_toArray, List.set_cons_zero, List.set_cons_succ]; rfl) | (simp only [hq.1, putAll, Act.put, List.setIfInBounds_toArray, List.set_cons_zero, List.set_cons_succ] <;> rfl)) (hJ0_8 (gb294) _ (Ow.Own.cong (Ow.Own.pick [0, 1, 2, 3, 4] HO.out (by decide)) (by first | ((try simp only [hq.1]) <;> rfl) | fail)))
               ·skip
                rintro ⟨gb293, gb294⟩ w47 HO7_
                clear HO
                have HO := Aside0.mk HO7_
                clear HO7_
                have hHeld := Ow.Own.pick [0, 1, 2, 3] HO.out (by decide)
                refine norm_ (a' := ?_) ?_ ?_
                rotate_left
                ·simp only [putAll, Act.put, List.setIfInBounds_toArray, List.set_cons_zero, List.set_cons_succ]
                 rfl
                refine one_ (i := 0) (N := some 28) (Ow.B 12 387) rfl rfl (one_of HT_.out (by kernel_rfl)) (by decide) (fun K hK => ?_)
                refine goes_ Tryd.func21 (by kernel_rfl) rfl #[.string (⟨#[48, 49, 48, 48, 48, 48]⟩ : ByteArray), .int .i64 40, .int .i64 0] (by rfl) rfl rfl (by (try simp only [List.map_toArray, List.map_cons, List.map_nil]); first | done | rfl | (simp only [hq.1]; done) | (simp only [hq.1]; rfl) | (simp only [List.length_drop, List.length_take]; rfl)) ?_
                obtain ⟨Q17, hQ17_⟩ : ∃ q_ : Array Value, q_ = (#[.string t255, .string t256, .string t257, .int .i64 t258, .string t259, .string t260, .string t261, .string t262, .string t263, .int .i64 t264, .int .i64 t265, .string t266, .bool t267, .int .i64 t268, .string t269, .string t270, .string t271, .int .i64 t272, .int .i64 t273, .int .i64 t274, .bool t275, .bool t276, .int .i64 t277, .int .i64 t278, .bool t279] : Array Value) := ⟨_, rfl⟩
                try rw [← hQ17_]
                have hQ17 := Aside0.mk hQ17_; replace hq := Aside0.mk (And.intro hQ17_ hq.1); clear hQ17_
                refine Calls.mono (calls_of_args (by first | ((try simp only [hq.1]) <;> rfl) | fail) (bursarlaw26_some.calls (⟨#[48, 49, 48, 48, 48, 48]⟩ : ByteArray) 40 0 t255 t256 t257 t258 t259 t260 t261 t262 t263 t264 t265 t266 t267 t268 t269 t270 t271 t272 t273 t274 t275 t276 t277 t278 t279 _ A5.out)) ?_
                rintro e w48 ⟨he_, hb⟩
                (try rw [← hQ17.out] at he_)
                subst he_
                replace HO := Aside0.mk (Ow.Own.call HO.out hb)
                clear hb
                refine ⟨_, rfl, ?_⟩
                refine hK.out _ _ (by have h_ := Ow.Own.pick [0, 1, 2, 3] HO.out (by decide); first | exact h_ | exact Ow.Own.cong h_ (by first | ((try simp only [hq.1]) <;> rfl) | fail)) (fun hHeld => ?_)
                clear hK K
                refine norm_ (a' := ?_) ?_ ?_
                rotate_left
                ·show Act.put _ (some 28) _ = _
                 simp only [Act.put, List.setIfInBounds_toArray, List.set_cons_zero, List.set_cons_succ, i64_w, i32_w]
                 rfl
                exact norm_ (by first | (simp only [putAll, Act.put, List.setIfInBounds_toArray, List.set_cons_zero, List.set_cons_succ]; done) | (simp only [putAll, Act.put, List.setIfInBounds_toArray, List.set_cons_zero, List.set_cons_succ]; rfl) | (simp only [hq.1, putAll, Act.put, List.setIfInBounds_toArray, List.set_cons_zero, List.set_cons_succ] <;> rfl)) (hJ0_7_8 (gb293, gb294) _ (Ow.Own.cong (Ow.Own.pick [0, 1, 2, 3, 4, 5] HO.out (by decide)) (by first | ((try simp only [hq.1]) <;> rfl) | fail)))
              ·skip
               rintro gb294 w47 HO7_
               clear HO
               have HO := Aside0.mk HO7_
               clear HO7_
               have hHeld := Ow.Own.pick [0, 1, 2, 3] HO.out (by decide)
               refine norm_ (a' := ?_) ?_ ?_
               rotate_left
               ·simp only [putAll, Act.put, List.setIfInBounds_toArray, List.set_cons_zero, List.set_cons_succ]
                rfl
               refine two_ (i := 2) (j := 7) (Ni := some 30) (Nj := some 7) (Ow.B 12 263) (Ow.B 12 387) rfl rfl rfl rfl (two_of HT_.out (by kernel_rfl)) (by decide) (by decide) (fun K hK => ?_) (fun K hK => ?_)
               ·skip
                obtain ⟨Q18, hQ18_⟩ : ∃ q_ : Array Value, q_ = (#[.string t255, .string t256, .string t257, .int .i64 t258, .string t259, .string t260, .string t261, .string t262, .string t263, .int .i64 t264, .int .i64 t265, .string t266, .bool t267, .int .i64 t268, .string t269, .string t270, .string t271, .int .i64 t272, .int .i64 t273, .int .i64 t274, .bool t275, .bool t276, .int .i64 t277, .int .i64 t278, .bool t279] : Array Value) := ⟨_, rfl⟩
                try rw [← hQ18_]
                have hQ18 := Aside0.mk hQ18_; replace hq := Aside0.mk (And.intro hQ18_ hq.1); clear hQ18_
                refine goes_ Tryd.func20 (by kernel_rfl) rfl #[.agg Q18, .agg #[.string t200, .string t201, .string t202, .int .i64 t203, .int .i64 t204, .int .i64 t205], .bool true] (by rfl) rfl rfl (by (try simp only [List.map_toArray, List.map_cons, List.map_nil]); first | done | rfl | (simp only [hq.1]; done) | (simp only [hq.1]; rfl) | (simp only [List.length_drop, List.length_take]; rfl)) ?_
                refine Calls.mono (calls_of_args (by first | ((try simp only [hq.1]) <;> rfl) | fail) (dispute_Decide.calls k t255 t256 t257 t258 t259 t260 t261 t262 t263 t264 t265 t266 t267 t268 t269 t270 t271 t272 t273 t274 t275 t276 t277 t278 t279 t200 t201 t202 t203 t204 t205 true t280 t281 t282 t283 t284 t285 t286 t287 t288 t289 t290 t291 t292 _ A6.out)) ?_
                rintro e w48 ⟨he_, hb⟩
                subst he_
                replace HO := Aside0.mk (Ow.Own.call HO.out hb)
                clear hb
                refine ⟨_, rfl, ?_⟩
                refine hK.out _ _ (by have h_ := Ow.Own.pick [0, 1, 2, 3] HO.out (by decide); first | exact h_ | exact Ow.Own.cong h_ (by first | ((try simp only [hq.1]) <;> rfl) | fail)) (fun hHeld => ?_)
                clear hK K
                refine norm_ (a' := ?_) ?_ ?_
                rotate_left
                ·show Act.put _ (some 30) _ = _
                 simp only [Act.put, List.setIfInBounds_toArray, List.set_cons_zero, List.set_cons_succ, i64_w, i32_w]
                 rfl
                refine' Ow.pu (i := 3) (N := some 27) (Ow.B 12 271) HT_.out ?hv_ ?ha_ ?_; (case hv_ => intro w'; go_simp; with_reducible rfl); (case ha_ => simp only [Ow.Sl, i64_w, i32_w]; rfl)
                refine' Ow.pu (i := 4) (N := some 31) (Ow.B 12 287) HT_.out ?hv_ ?ha_ ?_; (case hv_ => intro w'; go_simp; with_reducible rfl); (case ha_ => simp only [Ow.Sl, i64_w, i32_w]; rfl)
                refine' Ow.pu (i := 5) (N := some 32) (Ow.B 12 319) HT_.out ?hv_ ?ha_ ?_; (case hv_ => intro w'; go_simp; with_reducible rfl); (case ha_ => simp only [Ow.Sl, i64_w, i32_w]; rfl)
                refine' Ow.pu (i := 6) (N := some 33) (Ow.B 12 383) HT_.out ?hv_ ?ha_ ?_; (case hv_ => intro w'; go_simp; with_reducible rfl); (case ha_ => simp only [Ow.Sl, i64_w, i32_w]; rfl)
                exact norm_ (by first | (simp only [putAll, Act.put, List.setIfInBounds_toArray, List.set_cons_zero, List.set_cons_succ]; done) | (simp only [putAll, Act.put, List.setIfInBounds_toArray, List.set_cons_zero, List.set_cons_succ]; rfl) | (simp only [hq.1, putAll, Act.put, List.setIfInBounds_toArray, List.set_cons_zero, List.set_cons_succ] <;> rfl)) (hJ0_2_8 (gb294) _ (Ow.Own.cong (Ow.Own.pick [0, 1, 2, 3, 4] HO.out (by decide)) (by first | ((try simp only [hq.1]) <;> rfl) | fail)))
               ·skip
                refine box_step ?hg (N := 7) ?hd (cs := bursarlaw26_awake.Z6) (t := 23) ?hr ?_; (case hd => rfl); (case hg => rfl); (case hr => first | (go_simp; done) | (go_simp; rfl))
                intro gb293 hg w48 hbox hb
                replace HO := Aside0.mk (Ow.Own.add HO.out hg hbox hb)
                clear hb hbox hg
                simp only [List.cons_append, List.nil_append] at HO
                refine hK.out _ _ (by have h_ := Ow.Own.pick [0, 1, 2, 3] HO.out (by decide); first | exact h_ | exact Ow.Own.cong h_ (by first | ((try simp only [hq.1]) <;> rfl) | fail)) (fun hHeld => ?_)
                clear hK K
                refine norm_ (a' := ?_) ?_ ?_
                rotate_left
                ·show Act.put _ (some 7) _ = _
                 simp only [Act.put, List.setIfInBounds_toArray, List.set_cons_zero, List.set_cons_succ, i64_w, i32_w]
                 rfl
                exact norm_ (by first | (simp only [putAll, Act.put, List.setIfInBounds_toArray, List.set_cons_zero, List.set_cons_succ]; done) | (simp only [putAll, Act.put, List.setIfInBounds_toArray, List.set_cons_zero, List.set_cons_succ]; rfl) | (simp only [hq.1, putAll, Act.put, List.setIfInBounds_toArray, List.set_cons_zero, List.set_cons_succ] <;> rfl)) (hJ0_7_8 (gb293, gb294) _ (Ow.Own.cong (Ow.Own.pick [0, 1, 2, 3, 5, 4] HO.out (by decide)) (by first | ((try simp only [hq.1]) <;> rfl) | fail)))
             ·skip
              rintro gb293 w47 HO7_
              clear HO
              have HO := Aside0.mk HO7_
              clear HO7_
              have hHeld := Ow.Own.pick [0, 1, 2, 3] HO.out (by decide)
              refine norm_ (a' := ?_) ?_ ?_
              rotate_left
              ·simp only [putAll, Act.put, List.setIfInBounds_toArray, List.set_cons_zero, List.set_cons_succ]
               rfl
              refine two_ (i := 2) (j := 8) (Ni := some 30) (Nj := some 8) (Ow.B 12 135) (Ow.B 12 387) rfl rfl rfl rfl (two_of HT_.out (by kernel_rfl)) (by decide) (by decide) (fun K hK => ?_) (fun K hK => ?_)
              ·skip
               obtain ⟨Q19, hQ19_⟩ : ∃ q_ : Array Value, q_ = (#[.string t255, .string t256, .string t257, .int .i64 t258, .string t259, .string t260, .string t261, .string t262, .string t263, .int .i64 t264, .int .i64 t265, .string t266, .bool t267, .int .i64 t268, .string t269, .string t270, .string t271, .int .i64 t272, .int .i64 t273, .int .i64 t274, .bool t275, .bool t276, .int .i64 t277, .int .i64 t278, .bool t279] : Array Value) := ⟨_, rfl⟩
               try rw [← hQ19_]
               have hQ19 := Aside0.mk hQ19_; replace hq := Aside0.mk (And.intro hQ19_ hq.1); clear hQ19_
               refine goes_ Tryd.func20 (by kernel_rfl) rfl #[.agg Q19, .agg #[.string t200, .string t201, .string t202, .int .i64 t203, .int .i64 t204, .int .i64 t205], .bool true] (by rfl) rfl rfl (by (try simp only [List.map_toArray, List.map_cons, List.map_nil]); first | done | rfl | (simp only [hq.1]; done) | (simp only [hq.1]; rfl) | (simp only [List.length_drop, List.length_take]; rfl)) ?_
               refine Calls.mono (calls_of_args (by first | ((try simp only [hq.1]) <;> rfl) | fail) (dispute_Decide.calls k t255 t256 t257 t258 t259 t260 t261 t262 t263 t264 t265 t266 t267 t268 t269 t270 t271 t272 t273 t274 t275 t276 t277 t278 t279 t200 t201 t202 t203 t204 t205 true t280 t281 t282 t283 t284 t285 t286 t287 t288 t289 t290 t291 t292 _ A6.out)) ?_
               rintro e w48 ⟨he_, hb⟩
               subst he_
               replace HO := Aside0.mk (Ow.Own.call HO.out hb)
               clear hb
               refine ⟨_, rfl, ?_⟩
               refine hK.out _ _ (by have h_ := Ow.Own.pick [0, 1, 2, 3] HO.out (by decide); first | exact h_ | exact Ow.Own.cong h_ (by first | ((try simp only [hq.1]) <;> rfl) | fail)) (fun hHeld => ?_)
               clear hK K
               refine norm_ (a' := ?_) ?_ ?_
               rotate_left
               ·show Act.put _ (some 30) _ = _
                simp only [Act.put, List.setIfInBounds_toArray, List.set_cons_zero, List.set_cons_succ, i64_w, i32_w]
                rfl
               refine' Ow.pu (i := 3) (N := some 27) (Ow.B 12 143) HT_.out ?hv_ ?ha_ ?_; (case hv_ => intro w'; go_simp; with_reducible rfl); (case ha_ => simp only [Ow.Sl, i64_w, i32_w]; rfl)
               refine' Ow.pu (i := 4) (N := some 31) (Ow.B 12 159) HT_.out ?hv_ ?ha_ ?_; (case hv_ => intro w'; go_simp; with_reducible rfl); (case ha_ => simp only [Ow.Sl, i64_w, i32_w]; rfl)
               refine' Ow.pu (i := 5) (N := some 32) (Ow.B 12 191) HT_.out ?hv_ ?ha_ ?_; (case hv_ => intro w'; go_simp; with_reducible rfl); (case ha_ => simp only [Ow.Sl, i64_w, i32_w]; rfl)
               refine' Ow.pu (i := 6) (N := some 33) (Ow.B 12 255) HT_.out ?hv_ ?ha_ ?_; (case hv_ => intro w'; go_simp; with_reducible rfl); (case ha_ => simp only [Ow.Sl, i64_w, i32_w]; rfl)
               exact norm_ (by first | (simp only [putAll, Act.put, List.setIfInBounds_toArray, List.set_cons_zero, List.set_cons_succ]; done) | (simp only [putAll, Act.put, List.setIfInBounds_toArray, List.set_cons_zero, List.set_cons_succ]; rfl) | (simp only [hq.1, putAll, Act.put, List.setIfInBounds_toArray, List.set_cons_zero, List.set_cons_succ] <;> rfl)) (hJ0_2_7 (gb293) _ (Ow.Own.cong (Ow.Own.pick [0, 1, 2, 3, 4] HO.out (by decide)) (by first | ((try simp only [hq.1]) <;> rfl) | fail)))
              ·skip
               refine box_step ?hg (N := 8) ?hd (cs := bursarlaw26_awake.Z6_1) (t := 50) ?hr ?_; (case hd => rfl); (case hg => rfl); (case hr => first | (go_simp; done) | (go_simp; rfl))
               intro gb294 hg w48 hbox hb
               replace HO := Aside0.mk (Ow.Own.add HO.out hg hbox hb)
               clear hb hbox hg
               simp only [List.cons_append, List.nil_append] at HO
               refine hK.out _ _ (by have h_ := Ow.Own.pick [0, 1, 2, 3] HO.out (by decide); first | exact h_ | exact Ow.Own.cong h_ (by first | ((try simp only [hq.1]) <;> rfl) | fail)) (fun hHeld => ?_)
               clear hK K
               refine norm_ (a' := ?_) ?_ ?_
               rotate_left
               ·show Act.put _ (some 8) _ = _
                simp only [Act.put, List.setIfInBounds_toArray, List.set_cons_zero, List.set_cons_succ, i64_w, i32_w]
                rfl
               exact norm_ (by first | (simp only [putAll, Act.put, List.setIfInBounds_toArray, List.set_cons_zero, List.set_cons_succ]; done) | (simp only [putAll, Act.put, List.setIfInBounds_toArray, List.set_cons_zero, List.set_cons_succ]; rfl) | (simp only [hq.1, putAll, Act.put, List.setIfInBounds_toArray, List.set_cons_zero, List.set_cons_succ] <;> rfl)) (hJ0_7_8 (gb293, gb294) _ (Ow.Own.cong (Ow.Own.pick [0, 1, 2, 3, 4, 5] HO.out (by decide)) (by first | ((try simp only [hq.1]) <;> rfl) | fail)))
            ·skip
             rintro _ w47 HO7_
             clear HO
             have HO := Aside0.mk HO7_
             clear HO7_
             have hHeld := Ow.Own.pick [0, 1, 2, 3] HO.out (by decide)
             refine norm_ (a' := ?_) ?_ ?_
             rotate_left
             ·simp only [putAll, Act.put, List.setIfInBounds_toArray, List.set_cons_zero, List.set_cons_succ]
              rfl
             refine two_ (i := 7) (j := 8) (Ni := some 7) (Nj := some 8) (Ow.B 12 255) (Ow.B 12 383) rfl rfl rfl rfl (two_of HT_.out (by kernel_rfl)) (by decide) (by decide) (fun K hK => ?_) (fun K hK => ?_)
             ·skip
              refine box_step ?hg (N := 7) ?hd (cs := bursarlaw26_awake.Z6) (t := 23) ?hr ?_; (case hd => rfl); (case hg => rfl); (case hr => first | (go_simp; done) | (go_simp; rfl))
              intro gb293 hg w48 hbox hb
              replace HO := Aside0.mk (Ow.Own.add HO.out hg hbox hb)
              clear hb hbox hg
              simp only [List.cons_append, List.nil_append] at HO
              refine hK.out _ _ (by have h_ := Ow.Own.pick [0, 1, 2, 3] HO.out (by decide); first | exact h_ | exact Ow.Own.cong h_ (by first | ((try simp only [hq.1]) <;> rfl) | fail)) (fun hHeld => ?_)
              clear hK K
              refine norm_ (a' := ?_) ?_ ?_
              rotate_left
              ·show Act.put _ (some 7) _ = _
               simp only [Act.put, List.setIfInBounds_toArray, List.set_cons_zero, List.set_cons_succ, i64_w, i32_w]
               rfl
              exact norm_ (by first | (simp only [putAll, Act.put, List.setIfInBounds_toArray, List.set_cons_zero, List.set_cons_succ]; done) | (simp only [putAll, Act.put, List.setIfInBounds_toArray, List.set_cons_zero, List.set_cons_succ]; rfl) | (simp only [hq.1, putAll, Act.put, List.setIfInBounds_toArray, List.set_cons_zero, List.set_cons_succ] <;> rfl)) (hJ0_2_7 (gb293) _ (Ow.Own.cong (Ow.Own.pick [0, 1, 2, 3, 4] HO.out (by decide)) (by first | ((try simp only [hq.1]) <;> rfl) | fail)))
             ·skip
              refine box_step ?hg (N := 8) ?hd (cs := bursarlaw26_awake.Z6_1) (t := 50) ?hr ?_; (case hd => rfl); (case hg => rfl); (case hr => first | (go_simp; done) | (go_simp; rfl))
              intro gb294 hg w48 hbox hb
              replace HO := Aside0.mk (Ow.Own.add HO.out hg hbox hb)
              clear hb hbox hg
              simp only [List.cons_append, List.nil_append] at HO
              refine hK.out _ _ (by have h_ := Ow.Own.pick [0, 1, 2, 3] HO.out (by decide); first | exact h_ | exact Ow.Own.cong h_ (by first | ((try simp only [hq.1]) <;> rfl) | fail)) (fun hHeld => ?_)
              clear hK K
              refine norm_ (a' := ?_) ?_ ?_
              rotate_left
              ·show Act.put _ (some 8) _ = _
               simp only [Act.put, List.setIfInBounds_toArray, List.set_cons_zero, List.set_cons_succ, i64_w, i32_w]
               rfl
              exact norm_ (by first | (simp only [putAll, Act.put, List.setIfInBounds_toArray, List.set_cons_zero, List.set_cons_succ]; done) | (simp only [putAll, Act.put, List.setIfInBounds_toArray, List.set_cons_zero, List.set_cons_succ]; rfl) | (simp only [hq.1, putAll, Act.put, List.setIfInBounds_toArray, List.set_cons_zero, List.set_cons_succ] <;> rfl)) (hJ0_2_8 (gb294) _ (Ow.Own.cong (Ow.Own.pick [0, 1, 2, 3, 4] HO.out (by decide)) (by first | ((try simp only [hq.1]) <;> rfl) | fail)))
           ·skip
            rintro ⟨gb293, gb294⟩ w48 HO7_
            clear HO
            have HO := Aside0.mk HO7_
            clear HO7_
            have hHeld := Ow.Own.pick [0, 1, 2, 3] HO.out (by decide)
            refine norm_ (a' := ?_) ?_ ?_
            rotate_left
            ·simp only [putAll, Act.put, List.setIfInBounds_toArray, List.set_cons_zero, List.set_cons_succ]
             rfl
            refine one_ (i := 2) (N := some 30) (Ow.B 12 391) rfl rfl (one_of HT_.out (by kernel_rfl)) (by decide) (fun K hK => ?_)
            obtain ⟨Q20, hQ20_⟩ : ∃ q_ : Array Value, q_ = (#[.string t255, .string t256, .string t257, .int .i64 t258, .string t259, .string t260, .string t261, .string t262, .string t263, .int .i64 t264, .int .i64 t265, .string t266, .bool t267, .int .i64 t268, .string t269, .string t270, .string t271, .int .i64 t272, .int .i64 t273, .int .i64 t274, .bool t275, .bool t276, .int .i64 t277, .int .i64 t278, .bool t279] : Array Value) := ⟨_, rfl⟩
            try rw [← hQ20_]
            have hQ20 := Aside0.mk hQ20_; replace hq := Aside0.mk (And.intro hQ20_ hq.1); clear hQ20_
            refine goes_ Tryd.func20 (by kernel_rfl) rfl #[.agg Q20, .agg #[.string t200, .string t201, .string t202, .int .i64 t203, .int .i64 t204, .int .i64 t205], .bool true] (by rfl) rfl rfl (by (try simp only [List.map_toArray, List.map_cons, List.map_nil]); first | done | rfl | (simp only [hq.1]; done) | (simp only [hq.1]; rfl) | (simp only [List.length_drop, List.length_take]; rfl)) ?_
            refine Calls.mono (calls_of_args (by first | ((try simp only [hq.1]) <;> rfl) | fail) (dispute_Decide.calls k t255 t256 t257 t258 t259 t260 t261 t262 t263 t264 t265 t266 t267 t268 t269 t270 t271 t272 t273 t274 t275 t276 t277 t278 t279 t200 t201 t202 t203 t204 t205 true t280 t281 t282 t283 t284 t285 t286 t287 t288 t289 t290 t291 t292 _ A6.out)) ?_
            rintro e w49 ⟨he_, hb⟩
            subst he_
            replace HO := Aside0.mk (Ow.Own.call HO.out hb)
            clear hb
            refine ⟨_, rfl, ?_⟩
            refine hK.out _ _ (by have h_ := Ow.Own.pick [0, 1, 2, 3] HO.out (by decide); first | exact h_ | exact Ow.Own.cong h_ (by first | ((try simp only [hq.1]) <;> rfl) | fail)) (fun hHeld => ?_)
            clear hK K
            refine norm_ (a' := ?_) ?_ ?_
            rotate_left
            ·show Act.put _ (some 30) _ = _
             simp only [Act.put, List.setIfInBounds_toArray, List.set_cons_zero, List.set_cons_succ, i64_w, i32_w]
             rfl
            refine' Ow.pu (i := 3) (N := some 27) (Ow.B 12 399) HT_.out ?hv_ ?ha_ ?_; (case hv_ => intro w'; go_simp; with_reducible rfl); (case ha_ => simp only [Ow.Sl, i64_w, i32_w]; rfl)
            refine' Ow.pu (i := 4) (N := some 31) (Ow.B 12 415) HT_.out ?hv_ ?ha_ ?_; (case hv_ => intro w'; go_simp; with_reducible rfl); (case ha_ => simp only [Ow.Sl, i64_w, i32_w]; rfl)
            refine' Ow.pu (i := 5) (N := some 32) (Ow.B 12 447) HT_.out ?hv_ ?ha_ ?_; (case hv_ => intro w'; go_simp; with_reducible rfl); (case ha_ => simp only [Ow.Sl, i64_w, i32_w]; rfl)
            refine' Ow.pu (i := 6) (N := some 33) (Ow.B 12 511) HT_.out ?hv_ ?ha_ ?_; (case hv_ => intro w'; go_simp; with_reducible rfl); (case ha_ => simp only [Ow.Sl, i64_w, i32_w]; rfl)
            exact norm_ (by first | (simp only [putAll, Act.put, List.setIfInBounds_toArray, List.set_cons_zero, List.set_cons_succ]; done) | (simp only [putAll, Act.put, List.setIfInBounds_toArray, List.set_cons_zero, List.set_cons_succ]; rfl) | (simp only [hq.1, putAll, Act.put, List.setIfInBounds_toArray, List.set_cons_zero, List.set_cons_succ] <;> rfl)) (hJ0_2_7_8 (gb293, gb294) _ (Ow.Own.cong (Ow.Own.pick [0, 1, 2, 3, 4, 5] HO.out (by decide)) (by first | ((try simp only [hq.1]) <;> rfl) | fail)))
          ·skip
           rintro gb294 w48 HO7_
           clear HO
           have HO := Aside0.mk HO7_
           clear HO7_
           have hHeld := Ow.Own.pick [0, 1, 2, 3] HO.out (by decide)
           refine norm_ (a' := ?_) ?_ ?_
           rotate_left
           ·simp only [putAll, Act.put, List.setIfInBounds_toArray, List.set_cons_zero, List.set_cons_succ]
            rfl
           refine one_ (i := 7) (N := some 7) (Ow.B 12 511) rfl rfl (one_of HT_.out (by kernel_rfl)) (by decide) (fun K hK => ?_)
           refine box_step ?hg (N := 7) ?hd (cs := bursarlaw26_awake.Z6) (t := 23) ?hr ?_; (case hd => rfl); (case hg => rfl); (case hr => first | (go_simp; done) | (go_simp; rfl))
           intro gb293 hg w49 hbox hb
           replace HO := Aside0.mk (Ow.Own.add HO.out hg hbox hb)
           clear hb hbox hg
           simp only [List.cons_append, List.nil_append] at HO
           refine hK.out _ _ (by have h_ := Ow.Own.pick [0, 1, 2, 3] HO.out (by decide); first | exact h_ | exact Ow.Own.cong h_ (by first | ((try simp only [hq.1]) <;> rfl) | fail)) (fun hHeld => ?_)
           clear hK K
           refine norm_ (a' := ?_) ?_ ?_
           rotate_left
           ·show Act.put _ (some 7) _ = _
            simp only [Act.put, List.setIfInBounds_toArray, List.set_cons_zero, List.set_cons_succ, i64_w, i32_w]
            rfl
           exact norm_ (by first | (simp only [putAll, Act.put, List.setIfInBounds_toArray, List.set_cons_zero, List.set_cons_succ]; done) | (simp only [putAll, Act.put, List.setIfInBounds_toArray, List.set_cons_zero, List.set_cons_succ]; rfl) | (simp only [hq.1, putAll, Act.put, List.setIfInBounds_toArray, List.set_cons_zero, List.set_cons_succ] <;> rfl)) (hJ0_2_7_8 (gb293, gb294) _ (Ow.Own.cong (Ow.Own.pick [0, 1, 2, 3, 5, 4] HO.out (by decide)) (by first | ((try simp only [hq.1]) <;> rfl) | fail)))
         ·skip
          rintro gb293 w48 HO7_
          clear HO
          have HO := Aside0.mk HO7_
          clear HO7_
          have hHeld := Ow.Own.pick [0, 1, 2, 3] HO.out (by decide)
          refine norm_ (a' := ?_) ?_ ?_
          rotate_left
          ·simp only [putAll, Act.put, List.setIfInBounds_toArray, List.set_cons_zero, List.set_cons_succ]
           rfl
          refine one_ (i := 8) (N := some 8) (Ow.B 12 511) rfl rfl (one_of HT_.out (by kernel_rfl)) (by decide) (fun K hK => ?_)
          refine box_step ?hg (N := 8) ?hd (cs := bursarlaw26_awake.Z6_1) (t := 50) ?hr ?_; (case hd => rfl); (case hg => rfl); (case hr => first | (go_simp; done) | (go_simp; rfl))
          intro gb294 hg w49 hbox hb
          replace HO := Aside0.mk (Ow.Own.add HO.out hg hbox hb)
          clear hb hbox hg
          simp only [List.cons_append, List.nil_append] at HO
          refine hK.out _ _ (by have h_ := Ow.Own.pick [0, 1, 2, 3] HO.out (by decide); first | exact h_ | exact Ow.Own.cong h_ (by first | ((try simp only [hq.1]) <;> rfl) | fail)) (fun hHeld => ?_)
          clear hK K
          refine norm_ (a' := ?_) ?_ ?_
          rotate_left
          ·show Act.put _ (some 8) _ = _
           simp only [Act.put, List.setIfInBounds_toArray, List.set_cons_zero, List.set_cons_succ, i64_w, i32_w]
           rfl
          exact norm_ (by first | (simp only [putAll, Act.put, List.setIfInBounds_toArray, List.set_cons_zero, List.set_cons_succ]; done) | (simp only [putAll, Act.put, List.setIfInBounds_toArray, List.set_cons_zero, List.set_cons_succ]; rfl) | (simp only [hq.1, putAll, Act.put, List.setIfInBounds_toArray, List.set_cons_zero, List.set_cons_succ] <;> rfl)) (hJ0_2_7_8 (gb293, gb294) _ (Ow.Own.cong (Ow.Own.pick [0, 1, 2, 3, 4, 5] HO.out (by decide)) (by first | ((try simp only [hq.1]) <;> rfl) | fail)))
        rintro ⟨gb293, gb294⟩ w49 HO7_
        clear HO
        have HO := Aside0.mk HO7_
        clear HO7_
        have hHeld := Ow.Own.pick [0, 1, 2, 3] HO.out (by decide)
        refine norm_ (a' := ?_) ?_ ?_
        rotate_left
        ·simp only [putAll, Act.put, List.setIfInBounds_toArray, List.set_cons_zero, List.set_cons_succ]
         rfl
        refine one_ (i := 9) (N := none) (Ow.B 12 1023) rfl rfl (one_of HT_.out (by kernel_rfl)) (by decide) (fun K hK => ?_)
        refine Ow.oskip Ot.ty HO.out (by rfl) rfl rfl rfl rfl (by with_reducible first | exact Ow.at0 | exact Ow.at1 | exact Ow.at2 | exact Ow.at3 | exact Ow.at4 | exact Ow.at5) (by first | exact Ow.ev_tmp rfl | rfl) (by first | ((try simp only [hq.1]) <;> rfl) | fail) (by first | ((try simp only [hq.1]) <;> rfl) | fail) (by first | ((try simp only [hq.1]) <;> rfl) | fail) ?_
        clear HO; intro wz_ HO; simp only [List.set_cons_zero, List.set_cons_succ] at HO
        refine hK.out _ _ (by have h_ := Ow.Own.pick [0, 1, 2, 3] HO.out (by decide); first | exact h_ | exact Ow.Own.cong h_ (by first | ((try simp only [hq.1]) <;> rfl) | fail)) (fun hHeld => ?_)
        clear hK K
        refine one_ (i := 10) (N := none) (Ow.B 12 2047) rfl rfl (one_of HT_.out (by kernel_rfl)) (by decide) (fun K hK => ?_)
        refine Ow.oskip Ot.ty HO.out (by rfl) rfl rfl rfl rfl (by with_reducible first | exact Ow.at0 | exact Ow.at1 | exact Ow.at2 | exact Ow.at3 | exact Ow.at4 | exact Ow.at5) (by first | exact Ow.ev_tmp rfl | rfl) (by first | ((try simp only [hq.1]) <;> rfl) | fail) (by first | ((try simp only [hq.1]) <;> rfl) | fail) (by first | ((try simp only [hq.1]) <;> rfl) | fail) ?_
        clear HO; intro wz_ HO; simp only [List.set_cons_zero, List.set_cons_succ] at HO
        refine hK.out _ _ (by have h_ := Ow.Own.pick [0, 1, 2, 3] HO.out (by decide); first | exact h_ | exact Ow.Own.cong h_ (by first | ((try simp only [hq.1]) <;> rfl) | fail)) (fun hHeld => ?_)
        clear hK K
        refine' Ow.pu (i := 11) (N := some 9) (Ow.B 12 4095) HT_.out ?hv_ ?ha_ ?_; (case hv_ => intro w'; go_simp; with_reducible rfl); (case ha_ => simp only [Ow.Sl, i64_w, i32_w]; rfl)
        refine done_ (done_of HT_.out (by kernel_rfl)) ?_
        try go_wp2_with (first | ((with_reducible refine Ow.gate_build rfl ?_); (try (refine gate_guard (by rfl) ?_; dsimp only)); refine' Ow.tbuild Ot.bd rfl rfl rfl ?hf_ ?_; (case hf_ => repeat (any_goals (first | exact Ow.Fills.nil | (refine' Ow.Fills.c ?hv_ rfl ?hz_ ?_; (case hv_ => first | exact Ow.ev_tmp rfl | rfl); (case hz_ => first | (refine ⟨?_, ?_⟩ <;> (first | ((try simp only [hq.1]) <;> rfl) | fail)) | fail)))))) | ((with_reducible refine Ow.gate_load rfl ?_); (try (refine gate_guard (by rfl) ?_; dsimp only)); (first | refine Ow.l1 Ot.ty HO.out rfl rfl rfl rfl (by first | ((try simp only [hq.1]) <;> rfl) | fail) ?_ | refine Ow.l0 Ot.ty HO.out rfl rfl rfl rfl (by first | ((try simp only [hq.1]) <;> rfl) | fail) ?_ | refine Ow.lp Ot.ty HO.out rfl rfl rfl rfl (by first | ((try simp only [hq.1]) <;> rfl) | fail) ?_)) | ((with_reducible refine gate_store rfl ?_); (try (refine gate_guard (by rfl) ?_; dsimp only)); (first | refine Ow.s0 Ot.ty HO.out rfl rfl rfl rfl rfl (by first | exact Ow.ev_tmp rfl | rfl) (by first | (refine ⟨?_, ?_, ?_⟩ <;> (first | ((try simp only [hq.1]) <;> rfl) | fail)) | fail) ?_ | refine Ow.sp Ot.ty HO.out rfl rfl rfl rfl rfl (by first | exact Ow.ev_tmp rfl | rfl) (by first | (refine ⟨?_, ?_, ?_⟩ <;> (first | ((try simp only [hq.1]) <;> rfl) | fail)) | fail) ?_); clear HO; intro wz_ HO; simp only [List.set_cons_zero, List.set_cons_succ] at HO))
        refine Ow.ostart (n := 12) (ds := []) (Ow.B 12 0) HO.out (by kernel_rfl) rfl (by kernel_rfl) ?_
        intro hHeld; replace HO := Aside0.mk hHeld; refine with_tabW bursarlaw26_awake.tab4 bursarlaw26_awake.bits4 (fun HT_ HW_ => ?_)
        refine take_ (i := 1) (N := some 36) (v := ?_) (a' := ?_) (Ow.B 12 2) rfl rfl (take_ofW HT_.out HW_.out (by kernel_rfl)) (fun _ _ _ h => h) (Or.inl ⟨by rfl, ?_⟩) hHeld ?_ ?_
        rotate_left
        ·intro w' s_
         first | refine Ow.r1 Ot.ty s_ rfl rfl rfl (by first | ((try simp only [hq.1]) <;> rfl) | fail) | (refine' Ow.r0 Ot.ty s_ rfl rfl rfl ?h; (case h => first | ((try simp only [hq.1]) <;> rfl) | fail)) | (refine' Ow.rp Ot.ty s_ rfl rfl rfl ?h; (case h => first | ((try simp only [hq.1]) <;> rfl) | fail)) | (go_simp; with_reducible rfl)
        rotate_left
        ·simp only [Act.put, List.setIfInBounds_toArray, List.set_cons_zero, List.set_cons_succ, i64_w, i32_w]
         rfl
        obtain ⟨Q21, hQ21_⟩ : ∃ q_ : Array Value, q_ = (#[.string t280, .string t281, .string t282, .int .i64 t283, .int .i64 t284, .int .i64 t285] : Array Value) := ⟨_, rfl⟩
        try rw [← hQ21_]
        have hQ21 := Aside0.mk hQ21_; replace hq := Aside0.mk (And.intro hQ21_ hq.1); clear hQ21_
        obtain ⟨Q22, hQ22_⟩ : ∃ q_ : Array Value, q_ = (#[.int .i64 t286, .int .i64 t287, .string t288, .string t289, .string t290, .int .i64 t291] : Array Value) := ⟨_, rfl⟩
        try rw [← hQ22_]
        have hQ22 := Aside0.mk hQ22_; replace hq := Aside0.mk (And.intro hQ22_ hq.1); clear hQ22_
        refine join_ (σ := Nat × Nat) 3 (Ow.B 12 511) (fun s_ => [(35, .agg #[.string t295, .string t296, .string t297, .int .i64 t298, .string t299, .string t300, .string t301, .string t302, .string t303, .int .i64 t304, .int .i64 t305, .string t306, .bool t307, .int .i64 t308, .string t309, .string t310, .string t311, .int .i64 t312, .int .i64 t313, .int .i64 t314, .bool t315, .bool t316, .int .i64 t317, .int .i64 t318, .bool t319]), (37, .tuple #[.agg #[.string t320, .string t321, .string t322, .int .i64 t323, .int .i64 t324, .int .i64 t325], .agg #[.int .i64 t326, .int .i64 t327, .string t328, .string t329, .string t330, .int .i64 t331], .string t332]), (10, .pointer (some ⟨s_.1, 0, none⟩)), (11, .pointer (some ⟨s_.2, 0, none⟩)), (34, .tuple #[.agg #[.string t320, .string t321, .string t322, .int .i64 t323, .int .i64 t324, .int .i64 t325], .agg #[.int .i64 t326, .int .i64 t327, .string t328, .string t329, .string t330, .int .i64 t331], .string t332]), (38, .agg #[.string t320, .string t321, .string t322, .int .i64 t323, .int .i64 t324, .int .i64 t325]), (39, .agg #[.int .i64 t326, .int .i64 t327, .string t328, .string t329, .string t330, .int .i64 t331]), (40, .string t332)]) (fun s_ w' => Ow.Own w w' [(gb213, Q1, 23), (gb214, Q2, 50), (gb253, Q11, 23), (gb254, Q12, 50), (gb293, Q21, 23), (gb294, Q22, 50), (s_.1, bursarlaw26_awake.Z6, 23), (s_.2, bursarlaw26_awake.Z6_1, 50)]) ?_ ?_
        rotate_left
        ·intro hJ0_2_7_8
         refine join_ (σ := Nat) 4 (Ow.B 12 255) (fun s_ => [(35, .agg #[.string t295, .string t296, .string t297, .int .i64 t298, .string t299, .string t300, .string t301, .string t302, .string t303, .int .i64 t304, .int .i64 t305, .string t306, .bool t307, .int .i64 t308, .string t309, .string t310, .string t311, .int .i64 t312, .int .i64 t313, .int .i64 t314, .bool t315, .bool t316, .int .i64 t317, .int .i64 t318, .bool t319]), (37, .tuple #[.agg #[.string t320, .string t321, .string t322, .int .i64 t323, .int .i64 t324, .int .i64 t325], .agg #[.int .i64 t326, .int .i64 t327, .string t328, .string t329, .string t330, .int .i64 t331], .string t332]), (10, .pointer (some ⟨s_, 0, none⟩)), (34, .tuple #[.agg #[.string t320, .string t321, .string t322, .int .i64 t323, .int .i64 t324, .int .i64 t325], .agg #[.int .i64 t326, .int .i64 t327, .string t328, .string t329, .string t330, .int .i64 t331], .string t332]), (38, .agg #[.string t320, .string t321, .string t322, .int .i64 t323, .int .i64 t324, .int .i64 t325]), (39, .agg #[.int .i64 t326, .int .i64 t327, .string t328, .string t329, .string t330, .int .i64 t331]), (40, .string t332)]) (fun s_ w' => Ow.Own w w' [(gb213, Q1, 23), (gb214, Q2, 50), (gb253, Q11, 23), (gb254, Q12, 50), (gb293, Q21, 23), (gb294, Q22, 50), (s_, bursarlaw26_awake.Z6, 23)]) ?_ ?_
         rotate_left
         ·intro hJ0_2_7
          refine join_ (σ := Nat) 4 (Ow.B 12 383) (fun s_ => [(35, .agg #[.string t295, .string t296, .string t297, .int .i64 t298, .string t299, .string t300, .string t301, .string t302, .string t303, .int .i64 t304, .int .i64 t305, .string t306, .bool t307, .int .i64 t308, .string t309, .string t310, .string t311, .int .i64 t312, .int .i64 t313, .int .i64 t314, .bool t315, .bool t316, .int .i64 t317, .int .i64 t318, .bool t319]), (37, .tuple #[.agg #[.string t320, .string t321, .string t322, .int .i64 t323, .int .i64 t324, .int .i64 t325], .agg #[.int .i64 t326, .int .i64 t327, .string t328, .string t329, .string t330, .int .i64 t331], .string t332]), (11, .pointer (some ⟨s_, 0, none⟩)), (34, .tuple #[.agg #[.string t320, .string t321, .string t322, .int .i64 t323, .int .i64 t324, .int .i64 t325], .agg #[.int .i64 t326, .int .i64 t327, .string t328, .string t329, .string t330, .int .i64 t331], .string t332]), (38, .agg #[.string t320, .string t321, .string t322, .int .i64 t323, .int .i64 t324, .int .i64 t325]), (39, .agg #[.int .i64 t326, .int .i64 t327, .string t328, .string t329, .string t330, .int .i64 t331]), (40, .string t332)]) (fun s_ w' => Ow.Own w w' [(gb213, Q1, 23), (gb214, Q2, 50), (gb253, Q11, 23), (gb254, Q12, 50), (gb293, Q21, 23), (gb294, Q22, 50), (s_, bursarlaw26_awake.Z6_1, 50)]) ?_ ?_
          rotate_left
          ·intro hJ0_2_8
           refine join_ (σ := Nat × Nat) 8 (Ow.B 12 387) (fun s_ => [(35, .agg #[.string t295, .string t296, .string t297, .int .i64 t298, .string t299, .string t300, .string t301, .string t302, .string t303, .int .i64 t304, .int .i64 t305, .string t306, .bool t307, .int .i64 t308, .string t309, .string t310, .string t311, .int .i64 t312, .int .i64 t313, .int .i64 t314, .bool t315, .bool t316, .int .i64 t317, .int .i64 t318, .bool t319]), (10, .pointer (some ⟨s_.1, 0, none⟩)), (11, .pointer (some ⟨s_.2, 0, none⟩))]) (fun s_ w' => Ow.Own w w' [(gb213, Q1, 23), (gb214, Q2, 50), (gb253, Q11, 23), (gb254, Q12, 50), (gb293, Q21, 23), (gb294, Q22, 50), (s_.1, bursarlaw26_awake.Z6, 23), (s_.2, bursarlaw26_awake.Z6_1, 50)]) ?_ ?_
           rotate_left
           ·intro hJ0_7_8
            refine join_ (σ := Unit) 5 (Ow.B 12 127) (fun s_ => [(35, .agg #[.string t295, .string t296, .string t297, .int .i64 t298, .string t299, .string t300, .string t301, .string t302, .string t303, .int .i64 t304, .int .i64 t305, .string t306, .bool t307, .int .i64 t308, .string t309, .string t310, .string t311, .int .i64 t312, .int .i64 t313, .int .i64 t314, .bool t315, .bool t316, .int .i64 t317, .int .i64 t318, .bool t319]), (37, .tuple #[.agg #[.string t320, .string t321, .string t322, .int .i64 t323, .int .i64 t324, .int .i64 t325], .agg #[.int .i64 t326, .int .i64 t327, .string t328, .string t329, .string t330, .int .i64 t331], .string t332]), (34, .tuple #[.agg #[.string t320, .string t321, .string t322, .int .i64 t323, .int .i64 t324, .int .i64 t325], .agg #[.int .i64 t326, .int .i64 t327, .string t328, .string t329, .string t330, .int .i64 t331], .string t332]), (38, .agg #[.string t320, .string t321, .string t322, .int .i64 t323, .int .i64 t324, .int .i64 t325]), (39, .agg #[.int .i64 t326, .int .i64 t327, .string t328, .string t329, .string t330, .int .i64 t331]), (40, .string t332)]) (fun s_ w' => Ow.Own w w' [(gb213, Q1, 23), (gb214, Q2, 50), (gb253, Q11, 23), (gb254, Q12, 50), (gb293, Q21, 23), (gb294, Q22, 50)]) ?_ ?_
            rotate_left
            ·intro hJ0_2
             refine join_ (σ := Nat) 9 (Ow.B 12 131) (fun s_ => [(35, .agg #[.string t295, .string t296, .string t297, .int .i64 t298, .string t299, .string t300, .string t301, .string t302, .string t303, .int .i64 t304, .int .i64 t305, .string t306, .bool t307, .int .i64 t308, .string t309, .string t310, .string t311, .int .i64 t312, .int .i64 t313, .int .i64 t314, .bool t315, .bool t316, .int .i64 t317, .int .i64 t318, .bool t319]), (10, .pointer (some ⟨s_, 0, none⟩))]) (fun s_ w' => Ow.Own w w' [(gb213, Q1, 23), (gb214, Q2, 50), (gb253, Q11, 23), (gb254, Q12, 50), (gb293, Q21, 23), (gb294, Q22, 50), (s_, bursarlaw26_awake.Z6, 23)]) ?_ ?_
             rotate_left
             ·intro hJ0_7
              refine join_ (σ := Nat) 9 (Ow.B 12 259) (fun s_ => [(35, .agg #[.string t295, .string t296, .string t297, .int .i64 t298, .string t299, .string t300, .string t301, .string t302, .string t303, .int .i64 t304, .int .i64 t305, .string t306, .bool t307, .int .i64 t308, .string t309, .string t310, .string t311, .int .i64 t312, .int .i64 t313, .int .i64 t314, .bool t315, .bool t316, .int .i64 t317, .int .i64 t318, .bool t319]), (11, .pointer (some ⟨s_, 0, none⟩))]) (fun s_ w' => Ow.Own w w' [(gb213, Q1, 23), (gb214, Q2, 50), (gb253, Q11, 23), (gb254, Q12, 50), (gb293, Q21, 23), (gb294, Q22, 50), (s_, bursarlaw26_awake.Z6_1, 50)]) ?_ ?_
              rotate_left
              ·intro hJ0_8
               refine join_ (σ := Nat × Nat) 9 (Ow.B 12 386) (fun s_ => [(10, .pointer (some ⟨s_.1, 0, none⟩)), (11, .pointer (some ⟨s_.2, 0, none⟩))]) (fun s_ w' => Ow.Own w w' [(gb213, Q1, 23), (gb214, Q2, 50), (gb253, Q11, 23), (gb254, Q12, 50), (gb293, Q21, 23), (gb294, Q22, 50), (s_.1, bursarlaw26_awake.Z6, 23), (s_.2, bursarlaw26_awake.Z6_1, 50)]) ?_ ?_
               rotate_left
               ·intro hJ7_8
                refine join_ (σ := Unit) 10 (Ow.B 12 3) (fun s_ => [(35, .agg #[.string t295, .string t296, .string t297, .int .i64 t298, .string t299, .string t300, .string t301, .string t302, .string t303, .int .i64 t304, .int .i64 t305, .string t306, .bool t307, .int .i64 t308, .string t309, .string t310, .string t311, .int .i64 t312, .int .i64 t313, .int .i64 t314, .bool t315, .bool t316, .int .i64 t317, .int .i64 t318, .bool t319])]) (fun s_ w' => Ow.Own w w' [(gb213, Q1, 23), (gb214, Q2, 50), (gb253, Q11, 23), (gb254, Q12, 50), (gb293, Q21, 23), (gb294, Q22, 50)]) ?_ ?_
                rotate_left
                ·intro hJ0
                 refine join_ (σ := Nat) 10 (Ow.B 12 130) (fun s_ => [(10, .pointer (some ⟨s_, 0, none⟩))]) (fun s_ w' => Ow.Own w w' [(gb213, Q1, 23), (gb214, Q2, 50), (gb253, Q11, 23), (gb254, Q12, 50), (gb293, Q21, 23), (gb294, Q22, 50), (s_, bursarlaw26_awake.Z6, 23)]) ?_ ?_
                 rotate_left
                 ·intro hJ7
                  refine join_ (σ := Nat) 10 (Ow.B 12 258) (fun s_ => [(11, .pointer (some ⟨s_, 0, none⟩))]) (fun s_ w' => Ow.Own w w' [(gb213, Q1, 23), (gb214, Q2, 50), (gb253, Q11, 23), (gb254, Q12, 50), (gb293, Q21, 23), (gb294, Q22, 50), (s_, bursarlaw26_awake.Z6_1, 50)]) ?_ ?_
                  rotate_left
                  ·intro hJ8
                   refine three_ (i := 0) (j := 7) (k := 8) (Ni := some 35) (Nj := some 10) (Nk := some 11) (Ow.B 12 3) (Ow.B 12 130) (Ow.B 12 258) rfl rfl rfl rfl rfl rfl (three_of HT_.out (by kernel_rfl)) (by decide) (by decide) (by decide) (fun K hK => ?_) (fun K hK => ?_) (fun K hK => ?_)
                   ·skip
                    refine goes_ Tryd.func21 (by kernel_rfl) rfl #[.string (⟨#[48, 49, 48, 48, 48, 48]⟩ : ByteArray), .int .i64 50, .int .i64 201] (by rfl) rfl rfl (by (try simp only [List.map_toArray, List.map_cons, List.map_nil]); first | done | rfl | (simp only [hq.1]; done) | (simp only [hq.1]; rfl) | (simp only [List.length_drop, List.length_take]; rfl)) ?_
                    obtain ⟨Q23, hQ23_⟩ : ∃ q_ : Array Value, q_ = (#[.string t295, .string t296, .string t297, .int .i64 t298, .string t299, .string t300, .string t301, .string t302, .string t303, .int .i64 t304, .int .i64 t305, .string t306, .bool t307, .int .i64 t308, .string t309, .string t310, .string t311, .int .i64 t312, .int .i64 t313, .int .i64 t314, .bool t315, .bool t316, .int .i64 t317, .int .i64 t318, .bool t319] : Array Value) := ⟨_, rfl⟩
                    try rw [← hQ23_]
                    have hQ23 := Aside0.mk hQ23_; replace hq := Aside0.mk (And.intro hQ23_ hq.1); clear hQ23_
                    refine Calls.mono (calls_of_args (by first | ((try simp only [hq.1]) <;> rfl) | fail) (bursarlaw26_some.calls (⟨#[48, 49, 48, 48, 48, 48]⟩ : ByteArray) 50 201 t295 t296 t297 t298 t299 t300 t301 t302 t303 t304 t305 t306 t307 t308 t309 t310 t311 t312 t313 t314 t315 t316 t317 t318 t319 _ A7.out)) ?_
                    rintro e w64 ⟨he_, hb⟩
                    (try rw [← hQ23.out] at he_)
                    subst he_
                    replace HO := Aside0.mk (Ow.Own.call HO.out hb)
                    clear hb
                    refine ⟨_, rfl, ?_⟩
                    refine hK.out _ _ (by first | exact HO.out | exact Ow.Own.cong HO.out (by first | ((try simp only [hq.1]) <;> rfl) | fail)) (fun hHeld => ?_)
                    clear hK K
                    refine norm_ (a' := ?_) ?_ ?_
                    rotate_left
                    ·show Act.put _ (some 35) _ = _
                     simp only [Act.put, List.setIfInBounds_toArray, List.set_cons_zero, List.set_cons_succ, i64_w, i32_w]
                     rfl
                    exact norm_ (by first | (simp only [putAll, Act.put, List.setIfInBounds_toArray, List.set_cons_zero, List.set_cons_succ]; done) | (simp only [putAll, Act.put, List.setIfInBounds_toArray, List.set_cons_zero, List.set_cons_succ]; rfl) | (simp only [hq.1, putAll, Act.put, List.setIfInBounds_toArray, List.set_cons_zero, List.set_cons_succ] <;> rfl)) (hJ0 () _ (Ow.Own.cong (Ow.Own.pick [0, 1, 2, 3, 4, 5] HO.out (by decide)) (by first | ((try simp only [hq.1]) <;> rfl) | fail)))
                   ·skip
                    refine box_step ?hg (N := 10) ?hd (cs := bursarlaw26_awake.Z6) (t := 23) ?hr ?_; (case hd => rfl); (case hg => rfl); (case hr => first | (go_simp; done) | (go_simp; rfl))
                    intro gb333 hg w64 hbox hb
                    replace HO := Aside0.mk (Ow.Own.add HO.out hg hbox hb)
                    clear hb hbox hg
                    simp only [List.cons_append, List.nil_append] at HO
                    refine hK.out _ _ (by have h_ := Ow.Own.pick [0, 1, 2, 3, 4, 5] HO.out (by decide); first | exact h_ | exact Ow.Own.cong h_ (by first | ((try simp only [hq.1]) <;> rfl) | fail)) (fun hHeld => ?_)
                    clear hK K
                    refine norm_ (a' := ?_) ?_ ?_
                    rotate_left
                    ·show Act.put _ (some 10) _ = _
                     simp only [Act.put, List.setIfInBounds_toArray, List.set_cons_zero, List.set_cons_succ, i64_w, i32_w]
                     rfl
                    exact norm_ (by first | (simp only [putAll, Act.put, List.setIfInBounds_toArray, List.set_cons_zero, List.set_cons_succ]; done) | (simp only [putAll, Act.put, List.setIfInBounds_toArray, List.set_cons_zero, List.set_cons_succ]; rfl) | (simp only [hq.1, putAll, Act.put, List.setIfInBounds_toArray, List.set_cons_zero, List.set_cons_succ] <;> rfl)) (hJ7 (gb333) _ (Ow.Own.cong (Ow.Own.pick [0, 1, 2, 3, 4, 5, 6] HO.out (by decide)) (by first | ((try simp only [hq.1]) <;> rfl) | fail)))
                   ·skip
                    refine box_step ?hg (N := 11) ?hd (cs := bursarlaw26_awake.Z6_1) (t := 50) ?hr ?_; (case hd => rfl); (case hg => rfl); (case hr => first | (go_simp; done) | (go_simp; rfl))
                    intro gb334 hg w64 hbox hb
                    replace HO := Aside0.mk (Ow.Own.add HO.out hg hbox hb)
                    clear hb hbox hg
                    simp only [List.cons_append, List.nil_append] at HO
                    refine hK.out _ _ (by have h_ := Ow.Own.pick [0, 1, 2, 3, 4, 5] HO.out (by decide); first | exact h_ | exact Ow.Own.cong h_ (by first | ((try simp only [hq.1]) <;> rfl) | fail)) (fun hHeld => ?_)
                    clear hK K
                    refine norm_ (a' := ?_) ?_ ?_
                    rotate_left
                    ·show Act.put _ (some 11) _ = _
                     simp only [Act.put, List.setIfInBounds_toArray, List.set_cons_zero, List.set_cons_succ, i64_w, i32_w]
                     rfl
                    exact norm_ (by first | (simp only [putAll, Act.put, List.setIfInBounds_toArray, List.set_cons_zero, List.set_cons_succ]; done) | (simp only [putAll, Act.put, List.setIfInBounds_toArray, List.set_cons_zero, List.set_cons_succ]; rfl) | (simp only [hq.1, putAll, Act.put, List.setIfInBounds_toArray, List.set_cons_zero, List.set_cons_succ] <;> rfl)) (hJ8 (gb334) _ (Ow.Own.cong (Ow.Own.pick [0, 1, 2, 3, 4, 5, 6] HO.out (by decide)) (by first | ((try simp only [hq.1]) <;> rfl) | fail)))
                  ·skip
                   rintro gb334 w65 HO7_
                   clear HO
                   have HO := Aside0.mk HO7_
                   clear HO7_
                   have hHeld := Ow.Own.pick [0, 1, 2, 3, 4, 5] HO.out (by decide)
                   refine norm_ (a' := ?_) ?_ ?_
                   rotate_left
                   ·simp only [putAll, Act.put, List.setIfInBounds_toArray, List.set_cons_zero, List.set_cons_succ]
                    rfl
                   refine two_ (i := 0) (j := 7) (Ni := some 35) (Nj := some 10) (Ow.B 12 259) (Ow.B 12 386) rfl rfl rfl rfl (two_of HT_.out (by kernel_rfl)) (by decide) (by decide) (fun K hK => ?_) (fun K hK => ?_)
                   ·skip
                    refine goes_ Tryd.func21 (by kernel_rfl) rfl #[.string (⟨#[48, 49, 48, 48, 48, 48]⟩ : ByteArray), .int .i64 50, .int .i64 201] (by rfl) rfl rfl (by (try simp only [List.map_toArray, List.map_cons, List.map_nil]); first | done | rfl | (simp only [hq.1]; done) | (simp only [hq.1]; rfl) | (simp only [List.length_drop, List.length_take]; rfl)) ?_
                    obtain ⟨Q24, hQ24_⟩ : ∃ q_ : Array Value, q_ = (#[.string t295, .string t296, .string t297, .int .i64 t298, .string t299, .string t300, .string t301, .string t302, .string t303, .int .i64 t304, .int .i64 t305, .string t306, .bool t307, .int .i64 t308, .string t309, .string t310, .string t311, .int .i64 t312, .int .i64 t313, .int .i64 t314, .bool t315, .bool t316, .int .i64 t317, .int .i64 t318, .bool t319] : Array Value) := ⟨_, rfl⟩
                    try rw [← hQ24_]
                    have hQ24 := Aside0.mk hQ24_; replace hq := Aside0.mk (And.intro hQ24_ hq.1); clear hQ24_
                    refine Calls.mono (calls_of_args (by first | ((try simp only [hq.1]) <;> rfl) | fail) (bursarlaw26_some.calls (⟨#[48, 49, 48, 48, 48, 48]⟩ : ByteArray) 50 201 t295 t296 t297 t298 t299 t300 t301 t302 t303 t304 t305 t306 t307 t308 t309 t310 t311 t312 t313 t314 t315 t316 t317 t318 t319 _ A7.out)) ?_
                    rintro e w66 ⟨he_, hb⟩
                    (try rw [← hQ24.out] at he_)
                    subst he_
                    replace HO := Aside0.mk (Ow.Own.call HO.out hb)
                    clear hb
                    refine ⟨_, rfl, ?_⟩
                    refine hK.out _ _ (by have h_ := Ow.Own.pick [0, 1, 2, 3, 4, 5] HO.out (by decide); first | exact h_ | exact Ow.Own.cong h_ (by first | ((try simp only [hq.1]) <;> rfl) | fail)) (fun hHeld => ?_)
                    clear hK K
                    refine norm_ (a' := ?_) ?_ ?_
                    rotate_left
                    ·show Act.put _ (some 35) _ = _
                     simp only [Act.put, List.setIfInBounds_toArray, List.set_cons_zero, List.set_cons_succ, i64_w, i32_w]
                     rfl
                    exact norm_ (by first | (simp only [putAll, Act.put, List.setIfInBounds_toArray, List.set_cons_zero, List.set_cons_succ]; done) | (simp only [putAll, Act.put, List.setIfInBounds_toArray, List.set_cons_zero, List.set_cons_succ]; rfl) | (simp only [hq.1, putAll, Act.put, List.setIfInBounds_toArray, List.set_cons_zero, List.set_cons_succ] <;> rfl)) (hJ0_8 (gb334) _ (Ow.Own.cong (Ow.Own.pick [0, 1, 2, 3, 4, 5, 6] HO.out (by decide)) (by first | ((try simp only [hq.1]) <;> rfl) | fail)))
                   ·skip
                    refine box_step ?hg (N := 10) ?hd (cs := bursarlaw26_awake.Z6) (t := 23) ?hr ?_; (case hd => rfl); (case hg => rfl); (case hr => first | (go_simp; done) | (go_simp; rfl))
                    intro gb333 hg w66 hbox hb
                    replace HO := Aside0.mk (Ow.Own.add HO.out hg hbox hb)
                    clear hb hbox hg
                    simp only [List.cons_append, List.nil_append] at HO
                    refine hK.out _ _ (by have h_ := Ow.Own.pick [0, 1, 2, 3, 4, 5] HO.out (by decide); first | exact h_ | exact Ow.Own.cong h_ (by first | ((try simp only [hq.1]) <;> rfl) | fail)) (fun hHeld => ?_)
                    clear hK K
                    refine norm_ (a' := ?_) ?_ ?_
                    rotate_left
                    ·show Act.put _ (some 10) _ = _
                     simp only [Act.put, List.setIfInBounds_toArray, List.set_cons_zero, List.set_cons_succ, i64_w, i32_w]
                     rfl
                    exact norm_ (by first | (simp only [putAll, Act.put, List.setIfInBounds_toArray, List.set_cons_zero, List.set_cons_succ]; done) | (simp only [putAll, Act.put, List.setIfInBounds_toArray, List.set_cons_zero, List.set_cons_succ]; rfl) | (simp only [hq.1, putAll, Act.put, List.setIfInBounds_toArray, List.set_cons_zero, List.set_cons_succ] <;> rfl)) (hJ7_8 (gb333, gb334) _ (Ow.Own.cong (Ow.Own.pick [0, 1, 2, 3, 4, 5, 7, 6] HO.out (by decide)) (by first | ((try simp only [hq.1]) <;> rfl) | fail)))
                 ·skip
                  rintro gb333 w65 HO7_
                  clear HO
                  have HO := Aside0.mk HO7_
                  clear HO7_
                  have hHeld := Ow.Own.pick [0, 1, 2, 3, 4, 5] HO.out (by decide)
                  refine norm_ (a' := ?_) ?_ ?_
                  rotate_left
                  ·simp only [putAll, Act.put, List.setIfInBounds_toArray, List.set_cons_zero, List.set_cons_succ]
                   rfl
                  refine two_ (i := 0) (j := 8) (Ni := some 35) (Nj := some 11) (Ow.B 12 131) (Ow.B 12 386) rfl rfl rfl rfl (two_of HT_.out (by kernel_rfl)) (by decide) (by decide) (fun K hK => ?_) (fun K hK => ?_)
                  ·skip
                   refine goes_ Tryd.func21 (by kernel_rfl) rfl #[.string (⟨#[48, 49, 48, 48, 48, 48]⟩ : ByteArray), .int .i64 50, .int .i64 201] (by rfl) rfl rfl (by (try simp only [List.map_toArray, List.map_cons, List.map_nil]); first | done | rfl | (simp only [hq.1]; done) | (simp only [hq.1]; rfl) | (simp only [List.length_drop, List.length_take]; rfl)) ?_
                   obtain ⟨Q25, hQ25_⟩ : ∃ q_ : Array Value, q_ = (#[.string t295, .string t296, .string t297, .int .i64 t298, .string t299, .string t300, .string t301, .string t302, .string t303, .int .i64 t304, .int .i64 t305, .string t306, .bool t307, .int .i64 t308, .string t309, .string t310, .string t311, .int .i64 t312, .int .i64 t313, .int .i64 t314, .bool t315, .bool t316, .int .i64 t317, .int .i64 t318, .bool t319] : Array Value) := ⟨_, rfl⟩
                   try rw [← hQ25_]
                   have hQ25 := Aside0.mk hQ25_; replace hq := Aside0.mk (And.intro hQ25_ hq.1); clear hQ25_
                   refine Calls.mono (calls_of_args (by first | ((try simp only [hq.1]) <;> rfl) | fail) (bursarlaw26_some.calls (⟨#[48, 49, 48, 48, 48, 48]⟩ : ByteArray) 50 201 t295 t296 t297 t298 t299 t300 t301 t302 t303 t304 t305 t306 t307 t308 t309 t310 t311 t312 t313 t314 t315 t316 t317 t318 t319 _ A7.out)) ?_
                   rintro e w66 ⟨he_, hb⟩
                   (try rw [← hQ25.out] at he_)
                   subst he_
                   replace HO := Aside0.mk (Ow.Own.call HO.out hb)
                   clear hb
                   refine ⟨_, rfl, ?_⟩
                   refine hK.out _ _ (by have h_ := Ow.Own.pick [0, 1, 2, 3, 4, 5] HO.out (by decide); first | exact h_ | exact Ow.Own.cong h_ (by first | ((try simp only [hq.1]) <;> rfl) | fail)) (fun hHeld => ?_)
                   clear hK K
                   refine norm_ (a' := ?_) ?_ ?_
                   rotate_left
                   ·show Act.put _ (some 35) _ = _
                    simp only [Act.put, List.setIfInBounds_toArray, List.set_cons_zero, List.set_cons_succ, i64_w, i32_w]
                    rfl
                   exact norm_ (by first | (simp only [putAll, Act.put, List.setIfInBounds_toArray, List.set_cons_zero, List.set_cons_succ]; done) | (simp only [putAll, Act.put, List.setIfInBounds_toArray, List.set_cons_zero, List.set_cons_succ]; rfl) | (simp only [hq.1, putAll, Act.put, List.setIfInBounds_toArray, List.set_cons_zero, List.set_cons_succ] <;> rfl)) (hJ0_7 (gb333) _ (Ow.Own.cong (Ow.Own.pick [0, 1, 2, 3, 4, 5, 6] HO.out (by decide)) (by first | ((try simp only [hq.1]) <;> rfl) | fail)))
                  ·skip
                   refine box_step ?hg (N := 11) ?hd (cs := bursarlaw26_awake.Z6_1) (t := 50) ?hr ?_; (case hd => rfl); (case hg => rfl); (case hr => first | (go_simp; done) | (go_simp; rfl))
                   intro gb334 hg w66 hbox hb
                   replace HO := Aside0.mk (Ow.Own.add HO.out hg hbox hb)
                   clear hb hbox hg
                   simp only [List.cons_append, List.nil_append] at HO
                   refine hK.out _ _ (by have h_ := Ow.Own.pick [0, 1, 2, 3, 4, 5] HO.out (by decide); first | exact h_ | exact Ow.Own.cong h_ (by first | ((try simp only [hq.1]) <;> rfl) | fail)) (fun hHeld => ?_)
                   clear hK K
                   refine norm_ (a' := ?_) ?_ ?_
                   rotate_left
                   ·show Act.put _ (some 11) _ = _
                    simp only [Act.put, List.setIfInBounds_toArray, List.set_cons_zero, List.set_cons_succ, i64_w, i32_w]
                    rfl
                   exact norm_ (by first | (simp only [putAll, Act.put, List.setIfInBounds_toArray, List.set_cons_zero, List.set_cons_succ]; done) | (simp only [putAll, Act.put, List.setIfInBounds_toArray, List.set_cons_zero, List.set_cons_succ]; rfl) | (simp only [hq.1, putAll, Act.put, List.setIfInBounds_toArray, List.set_cons_zero, List.set_cons_succ] <;> rfl)) (hJ7_8 (gb333, gb334) _ (Ow.Own.cong (Ow.Own.pick [0, 1, 2, 3, 4, 5, 6, 7] HO.out (by decide)) (by first | ((try simp only [hq.1]) <;> rfl) | fail)))
                ·skip
                 rintro _ w65 HO7_
                 clear HO
                 have HO := Aside0.mk HO7_
                 clear HO7_
                 have hHeld := Ow.Own.pick [0, 1, 2, 3, 4, 5] HO.out (by decide)
                 refine norm_ (a' := ?_) ?_ ?_
                 rotate_left
                 ·simp only [putAll, Act.put, List.setIfInBounds_toArray, List.set_cons_zero, List.set_cons_succ]
                  rfl
                 refine three_ (i := 2) (j := 7) (k := 8) (Ni := some 37) (Nj := some 10) (Nk := some 11) (Ow.B 12 7) (Ow.B 12 131) (Ow.B 12 259) rfl rfl rfl rfl rfl rfl (three_of HT_.out (by kernel_rfl)) (by decide) (by decide) (by decide) (fun K hK => ?_) (fun K hK => ?_) (fun K hK => ?_)
                 ·skip
                  obtain ⟨Q26, hQ26_⟩ : ∃ q_ : Array Value, q_ = (#[.string t295, .string t296, .string t297, .int .i64 t298, .string t299, .string t300, .string t301, .string t302, .string t303, .int .i64 t304, .int .i64 t305, .string t306, .bool t307, .int .i64 t308, .string t309, .string t310, .string t311, .int .i64 t312, .int .i64 t313, .int .i64 t314, .bool t315, .bool t316, .int .i64 t317, .int .i64 t318, .bool t319] : Array Value) := ⟨_, rfl⟩
                  try rw [← hQ26_]
                  have hQ26 := Aside0.mk hQ26_; replace hq := Aside0.mk (And.intro hQ26_ hq.1); clear hQ26_
                  refine goes_ Tryd.func20 (by kernel_rfl) rfl #[.agg Q26, .agg #[.string t200, .string t201, .string t202, .int .i64 t203, .int .i64 t204, .int .i64 t205], .bool true] (by rfl) rfl rfl (by (try simp only [List.map_toArray, List.map_cons, List.map_nil]); first | done | rfl | (simp only [hq.1]; done) | (simp only [hq.1]; rfl) | (simp only [List.length_drop, List.length_take]; rfl)) ?_
                  refine Calls.mono (calls_of_args (by first | ((try simp only [hq.1]) <;> rfl) | fail) (dispute_Decide.calls k t295 t296 t297 t298 t299 t300 t301 t302 t303 t304 t305 t306 t307 t308 t309 t310 t311 t312 t313 t314 t315 t316 t317 t318 t319 t200 t201 t202 t203 t204 t205 true t320 t321 t322 t323 t324 t325 t326 t327 t328 t329 t330 t331 t332 _ A8.out)) ?_
                  rintro e w66 ⟨he_, hb⟩
                  subst he_
                  replace HO := Aside0.mk (Ow.Own.call HO.out hb)
                  clear hb
                  refine ⟨_, rfl, ?_⟩
                  refine hK.out _ _ (by first | exact HO.out | exact Ow.Own.cong HO.out (by first | ((try simp only [hq.1]) <;> rfl) | fail)) (fun hHeld => ?_)
                  clear hK K
                  refine norm_ (a' := ?_) ?_ ?_
                  rotate_left
                  ·show Act.put _ (some 37) _ = _
                   simp only [Act.put, List.setIfInBounds_toArray, List.set_cons_zero, List.set_cons_succ, i64_w, i32_w]
                   rfl
                  refine' Ow.pu (i := 3) (N := some 34) (Ow.B 12 15) HT_.out ?hv_ ?ha_ ?_; (case hv_ => intro w'; go_simp; with_reducible rfl); (case ha_ => simp only [Ow.Sl, i64_w, i32_w]; rfl)
                  refine' Ow.pu (i := 4) (N := some 38) (Ow.B 12 31) HT_.out ?hv_ ?ha_ ?_; (case hv_ => intro w'; go_simp; with_reducible rfl); (case ha_ => simp only [Ow.Sl, i64_w, i32_w]; rfl)
                  refine' Ow.pu (i := 5) (N := some 39) (Ow.B 12 63) HT_.out ?hv_ ?ha_ ?_; (case hv_ => intro w'; go_simp; with_reducible rfl); (case ha_ => simp only [Ow.Sl, i64_w, i32_w]; rfl)
                  refine' Ow.pu (i := 6) (N := some 40) (Ow.B 12 127) HT_.out ?hv_ ?ha_ ?_; (case hv_ => intro w'; go_simp; with_reducible rfl); (case ha_ => simp only [Ow.Sl, i64_w, i32_w]; rfl)
                  exact norm_ (by first | (simp only [putAll, Act.put, List.setIfInBounds_toArray, List.set_cons_zero, List.set_cons_succ]; done) | (simp only [putAll, Act.put, List.setIfInBounds_toArray, List.set_cons_zero, List.set_cons_succ]; rfl) | (simp only [hq.1, putAll, Act.put, List.setIfInBounds_toArray, List.set_cons_zero, List.set_cons_succ] <;> rfl)) (hJ0_2 () _ (Ow.Own.cong (Ow.Own.pick [0, 1, 2, 3, 4, 5] HO.out (by decide)) (by first | ((try simp only [hq.1]) <;> rfl) | fail)))
                 ·skip
                  refine box_step ?hg (N := 10) ?hd (cs := bursarlaw26_awake.Z6) (t := 23) ?hr ?_; (case hd => rfl); (case hg => rfl); (case hr => first | (go_simp; done) | (go_simp; rfl))
                  intro gb333 hg w66 hbox hb
                  replace HO := Aside0.mk (Ow.Own.add HO.out hg hbox hb)
                  clear hb hbox hg
                  simp only [List.cons_append, List.nil_append] at HO
                  refine hK.out _ _ (by have h_ := Ow.Own.pick [0, 1, 2, 3, 4, 5] HO.out (by decide); first | exact h_ | exact Ow.Own.cong h_ (by first | ((try simp only [hq.1]) <;> rfl) | fail)) (fun hHeld => ?_)
                  clear hK K
                  refine norm_ (a' := ?_) ?_ ?_
                  rotate_left
                  ·show Act.put _ (some 10) _ = _
                   simp only [Act.put, List.setIfInBounds_toArray, List.set_cons_zero, List.set_cons_succ, i64_w, i32_w]
                   rfl
                  exact norm_ (by first | (simp only [putAll, Act.put, List.setIfInBounds_toArray, List.set_cons_zero, List.set_cons_succ]; done) | (simp only [putAll, Act.put, List.setIfInBounds_toArray, List.set_cons_zero, List.set_cons_succ]; rfl) | (simp only [hq.1, putAll, Act.put, List.setIfInBounds_toArray, List.set_cons_zero, List.set_cons_succ] <;> rfl)) (hJ0_7 (gb333) _ (Ow.Own.cong (Ow.Own.pick [0, 1, 2, 3, 4, 5, 6] HO.out (by decide)) (by first | ((try simp only [hq.1]) <;> rfl) | fail)))
                 ·skip
                  refine box_step ?hg (N := 11) ?hd (cs := bursarlaw26_awake.Z6_1) (t := 50) ?hr ?_; (case hd => rfl); (case hg => rfl); (case hr => first | (go_simp; done) | (go_simp; rfl))
                  intro gb334 hg w66 hbox hb
                  replace HO := Aside0.mk (Ow.Own.add HO.out hg hbox hb)
                  clear hb hbox hg
                  simp only [List.cons_append, List.nil_append] at HO
                  refine hK.out _ _ (by have h_ := Ow.Own.pick [0, 1, 2, 3, 4, 5] HO.out (by decide); first | exact h_ | exact Ow.Own.cong h_ (by first | ((try simp only [hq.1]) <;> rfl) | fail)) (fun hHeld => ?_)
                  clear hK K
                  refine norm_ (a' := ?_) ?_ ?_
                  rotate_left
                  ·show Act.put _ (some 11) _ = _
                   simp only [Act.put, List.setIfInBounds_toArray, List.set_cons_zero, List.set_cons_succ, i64_w, i32_w]
                   rfl
                  exact norm_ (by first | (simp only [putAll, Act.put, List.setIfInBounds_toArray, List.set_cons_zero, List.set_cons_succ]; done) | (simp only [putAll, Act.put, List.setIfInBounds_toArray, List.set_cons_zero, List.set_cons_succ]; rfl) | (simp only [hq.1, putAll, Act.put, List.setIfInBounds_toArray, List.set_cons_zero, List.set_cons_succ] <;> rfl)) (hJ0_8 (gb334) _ (Ow.Own.cong (Ow.Own.pick [0, 1, 2, 3, 4, 5, 6] HO.out (by decide)) (by first | ((try simp only [hq.1]) <;> rfl) | fail)))
               ·skip
                rintro ⟨gb333, gb334⟩ w66 HO7_
                clear HO
                have HO := Aside0.mk HO7_
                clear HO7_
                have hHeld := Ow.Own.pick [0, 1, 2, 3, 4, 5] HO.out (by decide)
                refine norm_ (a' := ?_) ?_ ?_
                rotate_left
                ·simp only [putAll, Act.put, List.setIfInBounds_toArray, List.set_cons_zero, List.set_cons_succ]
                 rfl
                refine one_ (i := 0) (N := some 35) (Ow.B 12 387) rfl rfl (one_of HT_.out (by kernel_rfl)) (by decide) (fun K hK => ?_)
                refine goes_ Tryd.func21 (by kernel_rfl) rfl #[.string (⟨#[48, 49, 48, 48, 48, 48]⟩ : ByteArray), .int .i64 50, .int .i64 201] (by rfl) rfl rfl (by (try simp only [List.map_toArray, List.map_cons, List.map_nil]); first | done | rfl | (simp only [hq.1]; done) | (simp only [hq.1]; rfl) | (simp only [List.length_drop, List.length_take]; rfl)) ?_
                obtain ⟨Q27, hQ27_⟩ : ∃ q_ : Array Value, q_ = (#[.string t295, .string t296, .string t297, .int .i64 t298, .string t299, .string t300, .string t301, .string t302, .string t303, .int .i64 t304, .int .i64 t305, .string t306, .bool t307, .int .i64 t308, .string t309, .string t310, .string t311, .int .i64 t312, .int .i64 t313, .int .i64 t314, .bool t315, .bool t316, .int .i64 t317, .int .i64 t318, .bool t319] : Array Value) := ⟨_, rfl⟩
                try rw [← hQ27_]
                have hQ27 := Aside0.mk hQ27_; replace hq := Aside0.mk (And.intro hQ27_ hq.1); clear hQ27_
                refine Calls.mono (calls_of_args (by first | ((try simp only [hq.1]) <;> rfl) | fail) (bursarlaw26_some.calls (⟨#[48, 49, 48, 48, 48, 48]⟩ : ByteArray) 50 201 t295 t296 t297 t298 t299 t300 t301 t302 t303 t304 t305 t306 t307 t308 t309 t310 t311 t312 t313 t314 t315 t316 t317 t318 t319 _ A7.out)) ?_
                rintro e w67 ⟨he_, hb⟩
                (try rw [← hQ27.out] at he_)
                subst he_
                replace HO := Aside0.mk (Ow.Own.call HO.out hb)
                clear hb
                refine ⟨_, rfl, ?_⟩
                refine hK.out _ _ (by have h_ := Ow.Own.pick [0, 1, 2, 3, 4, 5] HO.out (by decide); first | exact h_ | exact Ow.Own.cong h_ (by first | ((try simp only [hq.1]) <;> rfl) | fail)) (fun hHeld => ?_)
                clear hK K
                refine norm_ (a' := ?_) ?_ ?_
                rotate_left
                ·show Act.put _ (some 35) _ = _
                 simp only [Act.put, List.setIfInBounds_toArray, List.set_cons_zero, List.set_cons_succ, i64_w, i32_w]
                 rfl
                exact norm_ (by first | (simp only [putAll, Act.put, List.setIfInBounds_toArray, List.set_cons_zero, List.set_cons_succ]; done) | (simp only [putAll, Act.put, List.setIfInBounds_toArray, List.set_cons_zero, List.set_cons_succ]; rfl) | (simp only [hq.1, putAll, Act.put, List.setIfInBounds_toArray, List.set_cons_zero, List.set_cons_succ] <;> rfl)) (hJ0_7_8 (gb333, gb334) _ (Ow.Own.cong (Ow.Own.pick [0, 1, 2, 3, 4, 5, 6, 7] HO.out (by decide)) (by first | ((try simp only [hq.1]) <;> rfl) | fail)))
              ·skip
               rintro gb334 w66 HO7_
               clear HO
               have HO := Aside0.mk HO7_
               clear HO7_
               have hHeld := Ow.Own.pick [0, 1, 2, 3, 4, 5] HO.out (by decide)
               refine norm_ (a' := ?_) ?_ ?_
               rotate_left
               ·simp only [putAll, Act.put, List.setIfInBounds_toArray, List.set_cons_zero, List.set_cons_succ]
                rfl
               refine two_ (i := 2) (j := 7) (Ni := some 37) (Nj := some 10) (Ow.B 12 263) (Ow.B 12 387) rfl rfl rfl rfl (two_of HT_.out (by kernel_rfl)) (by decide) (by decide) (fun K hK => ?_) (fun K hK => ?_)
               ·skip
                obtain ⟨Q28, hQ28_⟩ : ∃ q_ : Array Value, q_ = (#[.string t295, .string t296, .string t297, .int .i64 t298, .string t299, .string t300, .string t301, .string t302, .string t303, .int .i64 t304, .int .i64 t305, .string t306, .bool t307, .int .i64 t308, .string t309, .string t310, .string t311, .int .i64 t312, .int .i64 t313, .int .i64 t314, .bool t315, .bool t316, .int .i64 t317, .int .i64 t318, .bool t319] : Array Value) := ⟨_, rfl⟩
                try rw [← hQ28_]
                have hQ28 := Aside0.mk hQ28_; replace hq := Aside0.mk (And.intro hQ28_ hq.1); clear hQ28_
                refine goes_ Tryd.func20 (by kernel_rfl) rfl #[.agg Q28, .agg #[.string t200, .string t201, .string t202, .int .i64 t203, .int .i64 t204, .int .i64 t205], .bool true] (by rfl) rfl rfl (by (try simp only [List.map_toArray, List.map_cons, List.map_nil]); first | done | rfl | (simp only [hq.1]; done) | (simp only [hq.1]; rfl) | (simp only [List.length_drop, List.length_take]; rfl)) ?_
                refine Calls.mono (calls_of_args (by first | ((try simp only [hq.1]) <;> rfl) | fail) (dispute_Decide.calls k t295 t296 t297 t298 t299 t300 t301 t302 t303 t304 t305 t306 t307 t308 t309 t310 t311 t312 t313 t314 t315 t316 t317 t318 t319 t200 t201 t202 t203 t204 t205 true t320 t321 t322 t323 t324 t325 t326 t327 t328 t329 t330 t331 t332 _ A8.out)) ?_
                rintro e w67 ⟨he_, hb⟩
                subst he_
                replace HO := Aside0.mk (Ow.Own.call HO.out hb)
                clear hb
                refine ⟨_, rfl, ?_⟩
                refine hK.out _ _ (by have h_ := Ow.Own.pick [0, 1, 2, 3, 4, 5] HO.out (by decide); first | exact h_ | exact Ow.Own.cong h_ (by first | ((try simp only [hq.1]) <;> rfl) | fail)) (fun hHeld => ?_)
                clear hK K
                refine norm_ (a' := ?_) ?_ ?_
                rotate_left
                ·show Act.put _ (some 37) _ = _
                 simp only [Act.put, List.setIfInBounds_toArray, List.set_cons_zero, List.set_cons_succ, i64_w, i32_w]
                 rfl
                refine' Ow.pu (i := 3) (N := some 34) (Ow.B 12 271) HT_.out ?hv_ ?ha_ ?_; (case hv_ => intro w'; go_simp; with_reducible rfl); (case ha_ => simp only [Ow.Sl, i64_w, i32_w]; rfl)
                refine' Ow.pu (i := 4) (N := some 38) (Ow.B 12 287) HT_.out ?hv_ ?ha_ ?_; (case hv_ => intro w'; go_simp; with_reducible rfl); (case ha_ => simp only [Ow.Sl, i64_w, i32_w]; rfl)
                refine' Ow.pu (i := 5) (N := some 39) (Ow.B 12 319) HT_.out ?hv_ ?ha_ ?_; (case hv_ => intro w'; go_simp; with_reducible rfl); (case ha_ => simp only [Ow.Sl, i64_w, i32_w]; rfl)
                refine' Ow.pu (i := 6) (N := some 40) (Ow.B 12 383) HT_.out ?hv_ ?ha_ ?_; (case hv_ => intro w'; go_simp; with_reducible rfl); (case ha_ => simp only [Ow.Sl, i64_w, i32_w]; rfl)
                exact norm_ (by first | (simp only [putAll, Act.put, List.setIfInBounds_toArray, List.set_cons_zero, List.set_cons_succ]; done) | (simp only [putAll, Act.put, List.setIfInBounds_toArray, List.set_cons_zero, List.set_cons_succ]; rfl) | (simp only [hq.1, putAll, Act.put, List.setIfInBounds_toArray, List.set_cons_zero, List.set_cons_succ] <;> rfl)) (hJ0_2_8 (gb334) _ (Ow.Own.cong (Ow.Own.pick [0, 1, 2, 3, 4, 5, 6] HO.out (by decide)) (by first | ((try simp only [hq.1]) <;> rfl) | fail)))
               ·skip
                refine box_step ?hg (N := 10) ?hd (cs := bursarlaw26_awake.Z6) (t := 23) ?hr ?_; (case hd => rfl); (case hg => rfl); (case hr => first | (go_simp; done) | (go_simp; rfl))
                intro gb333 hg w67 hbox hb
                replace HO := Aside0.mk (Ow.Own.add HO.out hg hbox hb)
                clear hb hbox hg
                simp only [List.cons_append, List.nil_append] at HO
                refine hK.out _ _ (by have h_ := Ow.Own.pick [0, 1, 2, 3, 4, 5] HO.out (by decide); first | exact h_ | exact Ow.Own.cong h_ (by first | ((try simp only [hq.1]) <;> rfl) | fail)) (fun hHeld => ?_)
                clear hK K
                refine norm_ (a' := ?_) ?_ ?_
                rotate_left
                ·show Act.put _ (some 10) _ = _
                 simp only [Act.put, List.setIfInBounds_toArray, List.set_cons_zero, List.set_cons_succ, i64_w, i32_w]
                 rfl
                exact norm_ (by first | (simp only [putAll, Act.put, List.setIfInBounds_toArray, List.set_cons_zero, List.set_cons_succ]; done) | (simp only [putAll, Act.put, List.setIfInBounds_toArray, List.set_cons_zero, List.set_cons_succ]; rfl) | (simp only [hq.1, putAll, Act.put, List.setIfInBounds_toArray, List.set_cons_zero, List.set_cons_succ] <;> rfl)) (hJ0_7_8 (gb333, gb334) _ (Ow.Own.cong (Ow.Own.pick [0, 1, 2, 3, 4, 5, 7, 6] HO.out (by decide)) (by first | ((try simp only [hq.1]) <;> rfl) | fail)))
             ·skip
              rintro gb333 w66 HO7_
              clear HO
              have HO := Aside0.mk HO7_
              clear HO7_
              have hHeld := Ow.Own.pick [0, 1, 2, 3, 4, 5] HO.out (by decide)
              refine norm_ (a' := ?_) ?_ ?_
              rotate_left
              ·simp only [putAll, Act.put, List.setIfInBounds_toArray, List.set_cons_zero, List.set_cons_succ]
               rfl
              refine two_ (i := 2) (j := 8) (Ni := some 37) (Nj := some 11) (Ow.B 12 135) (Ow.B 12 387) rfl rfl rfl rfl (two_of HT_.out (by kernel_rfl)) (by decide) (by decide) (fun K hK => ?_) (fun K hK => ?_)
              ·skip
               obtain ⟨Q29, hQ29_⟩ : ∃ q_ : Array Value, q_ = (#[.string t295, .string t296, .string t297, .int .i64 t298, .string t299, .string t300, .string t301, .string t302, .string t303, .int .i64 t304, .int .i64 t305, .string t306, .bool t307, .int .i64 t308, .string t309, .string t310, .string t311, .int .i64 t312, .int .i64 t313, .int .i64 t314, .bool t315, .bool t316, .int .i64 t317, .int .i64 t318, .bool t319] : Array Value) := ⟨_, rfl⟩
               try rw [← hQ29_]
               have hQ29 := Aside0.mk hQ29_; replace hq := Aside0.mk (And.intro hQ29_ hq.1); clear hQ29_
               refine goes_ Tryd.func20 (by kernel_rfl) rfl #[.agg Q29, .agg #[.string t200, .string t201, .string t202, .int .i64 t203, .int .i64 t204, .int .i64 t205], .bool true] (by rfl) rfl rfl (by (try simp only [List.map_toArray, List.map_cons, List.map_nil]); first | done | rfl | (simp only [hq.1]; done) | (simp only [hq.1]; rfl) | (simp only [List.length_drop, List.length_take]; rfl)) ?_
               refine Calls.mono (calls_of_args (by first | ((try simp only [hq.1]) <;> rfl) | fail) (dispute_Decide.calls k t295 t296 t297 t298 t299 t300 t301 t302 t303 t304 t305 t306 t307 t308 t309 t310 t311 t312 t313 t314 t315 t316 t317 t318 t319 t200 t201 t202 t203 t204 t205 true t320 t321 t322 t323 t324 t325 t326 t327 t328 t329 t330 t331 t332 _ A8.out)) ?_
               rintro e w67 ⟨he_, hb⟩
               subst he_
               replace HO := Aside0.mk (Ow.Own.call HO.out hb)
               clear hb
               refine ⟨_, rfl, ?_⟩
               refine hK.out _ _ (by have h_ := Ow.Own.pick [0, 1, 2, 3, 4, 5] HO.out (by decide); first | exact h_ | exact Ow.Own.cong h_ (by first | ((try simp only [hq.1]) <;> rfl) | fail)) (fun hHeld => ?_)
               clear hK K
               refine norm_ (a' := ?_) ?_ ?_
               rotate_left
               ·show Act.put _ (some 37) _ = _
                simp only [Act.put, List.setIfInBounds_toArray, List.set_cons_zero, List.set_cons_succ, i64_w, i32_w]
                rfl
               refine' Ow.pu (i := 3) (N := some 34) (Ow.B 12 143) HT_.out ?hv_ ?ha_ ?_; (case hv_ => intro w'; go_simp; with_reducible rfl); (case ha_ => simp only [Ow.Sl, i64_w, i32_w]; rfl)
               refine' Ow.pu (i := 4) (N := some 38) (Ow.B 12 159) HT_.out ?hv_ ?ha_ ?_; (case hv_ => intro w'; go_simp; with_reducible rfl); (case ha_ => simp only [Ow.Sl, i64_w, i32_w]; rfl)
               refine' Ow.pu (i := 5) (N := some 39) (Ow.B 12 191) HT_.out ?hv_ ?ha_ ?_; (case hv_ => intro w'; go_simp; with_reducible rfl); (case ha_ => simp only [Ow.Sl, i64_w, i32_w]; rfl)
               refine' Ow.pu (i := 6) (N := some 40) (Ow.B 12 255) HT_.out ?hv_ ?ha_ ?_; (case hv_ => intro w'; go_simp; with_reducible rfl); (case ha_ => simp only [Ow.Sl, i64_w, i32_w]; rfl)
               exact norm_ (by first | (simp only [putAll, Act.put, List.setIfInBounds_toArray, List.set_cons_zero, List.set_cons_succ]; done) | (simp only [putAll, Act.put, List.setIfInBounds_toArray, List.set_cons_zero, List.set_cons_succ]; rfl) | (simp only [hq.1, putAll, Act.put, List.setIfInBounds_toArray, List.set_cons_zero, List.set_cons_succ] <;> rfl)) (hJ0_2_7 (gb333) _ (Ow.Own.cong (Ow.Own.pick [0, 1, 2, 3, 4, 5, 6] HO.out (by decide)) (by first | ((try simp only [hq.1]) <;> rfl) | fail)))
              ·skip
               refine box_step ?hg (N := 11) ?hd (cs := bursarlaw26_awake.Z6_1) (t := 50) ?hr ?_; (case hd => rfl); (case hg => rfl); (case hr => first | (go_simp; done) | (go_simp; rfl))
               intro gb334 hg w67 hbox hb
               replace HO := Aside0.mk (Ow.Own.add HO.out hg hbox hb)
               clear hb hbox hg
               simp only [List.cons_append, List.nil_append] at HO
               refine hK.out _ _ (by have h_ := Ow.Own.pick [0, 1, 2, 3, 4, 5] HO.out (by decide); first | exact h_ | exact Ow.Own.cong h_ (by first | ((try simp only [hq.1]) <;> rfl) | fail)) (fun hHeld => ?_)
               clear hK K
               refine norm_ (a' := ?_) ?_ ?_
               rotate_left
               ·show Act.put _ (some 11) _ = _
                simp only [Act.put, List.setIfInBounds_toArray, List.set_cons_zero, List.set_cons_succ, i64_w, i32_w]
                rfl
               exact norm_ (by first | (simp only [putAll, Act.put, List.setIfInBounds_toArray, List.set_cons_zero, List.set_cons_succ]; done) | (simp only [putAll, Act.put, List.setIfInBounds_toArray, List.set_cons_zero, List.set_cons_succ]; rfl) | (simp only [hq.1, putAll, Act.put, List.setIfInBounds_toArray, List.set_cons_zero, List.set_cons_succ] <;> rfl)) (hJ0_7_8 (gb333, gb334) _ (Ow.Own.cong (Ow.Own.pick [0, 1, 2, 3, 4, 5, 6, 7] HO.out (by decide)) (by first | ((try simp only [hq.1]) <;> rfl) | fail)))
            ·skip
             rintro _ w66 HO7_
             clear HO
             have HO := Aside0.mk HO7_
             clear HO7_
             have hHeld := Ow.Own.pick [0, 1, 2, 3, 4, 5] HO.out (by decide)
             refine norm_ (a' := ?_) ?_ ?_
             rotate_left
             ·simp only [putAll, Act.put, List.setIfInBounds_toArray, List.set_cons_zero, List.set_cons_succ]
              rfl
             refine two_ (i := 7) (j := 8) (Ni := some 10) (Nj := some 11) (Ow.B 12 255) (Ow.B 12 383) rfl rfl rfl rfl (two_of HT_.out (by kernel_rfl)) (by decide) (by decide) (fun K hK => ?_) (fun K hK => ?_)
             ·skip
              refine box_step ?hg (N := 10) ?hd (cs := bursarlaw26_awake.Z6) (t := 23) ?hr ?_; (case hd => rfl); (case hg => rfl); (case hr => first | (go_simp; done) | (go_simp; rfl))
              intro gb333 hg w67 hbox hb
              replace HO := Aside0.mk (Ow.Own.add HO.out hg hbox hb)
              clear hb hbox hg
              simp only [List.cons_append, List.nil_append] at HO
              refine hK.out _ _ (by have h_ := Ow.Own.pick [0, 1, 2, 3, 4, 5] HO.out (by decide); first | exact h_ | exact Ow.Own.cong h_ (by first | ((try simp only [hq.1]) <;> rfl) | fail)) (fun hHeld => ?_)
              clear hK K
              refine norm_ (a' := ?_) ?_ ?_
              rotate_left
              ·show Act.put _ (some 10) _ = _
               simp only [Act.put, List.setIfInBounds_toArray, List.set_cons_zero, List.set_cons_succ, i64_w, i32_w]
               rfl
              exact norm_ (by first | (simp only [putAll, Act.put, List.setIfInBounds_toArray, List.set_cons_zero, List.set_cons_succ]; done) | (simp only [putAll, Act.put, List.setIfInBounds_toArray, List.set_cons_zero, List.set_cons_succ]; rfl) | (simp only [hq.1, putAll, Act.put, List.setIfInBounds_toArray, List.set_cons_zero, List.set_cons_succ] <;> rfl)) (hJ0_2_7 (gb333) _ (Ow.Own.cong (Ow.Own.pick [0, 1, 2, 3, 4, 5, 6] HO.out (by decide)) (by first | ((try simp only [hq.1]) <;> rfl) | fail)))
             ·skip
              refine box_step ?hg (N := 11) ?hd (cs := bursarlaw26_awake.Z6_1) (t := 50) ?hr ?_; (case hd => rfl); (case hg => rfl); (case hr => first | (go_simp; done) | (go_simp; rfl))
              intro gb334 hg w67 hbox hb
              replace HO := Aside0.mk (Ow.Own.add HO.out hg hbox hb)
              clear hb hbox hg
              simp only [List.cons_append, List.nil_append] at HO
              refine hK.out _ _ (by have h_ := Ow.Own.pick [0, 1, 2, 3, 4, 5] HO.out (by decide); first | exact h_ | exact Ow.Own.cong h_ (by first | ((try simp only [hq.1]) <;> rfl) | fail)) (fun hHeld => ?_)
              clear hK K
              refine norm_ (a' := ?_) ?_ ?_
              rotate_left
              ·show Act.put _ (some 11) _ = _
               simp only [Act.put, List.setIfInBounds_toArray, List.set_cons_zero, List.set_cons_succ, i64_w, i32_w]
               rfl
              exact norm_ (by first | (simp only [putAll, Act.put, List.setIfInBounds_toArray, List.set_cons_zero, List.set_cons_succ]; done) | (simp only [putAll, Act.put, List.setIfInBounds_toArray, List.set_cons_zero, List.set_cons_succ]; rfl) | (simp only [hq.1, putAll, Act.put, List.setIfInBounds_toArray, List.set_cons_zero, List.set_cons_succ] <;> rfl)) (hJ0_2_8 (gb334) _ (Ow.Own.cong (Ow.Own.pick [0, 1, 2, 3, 4, 5, 6] HO.out (by decide)) (by first | ((try simp only [hq.1]) <;> rfl) | fail)))
           ·skip
            rintro ⟨gb333, gb334⟩ w67 HO7_
            clear HO
            have HO := Aside0.mk HO7_
            clear HO7_
            have hHeld := Ow.Own.pick [0, 1, 2, 3, 4, 5] HO.out (by decide)
            refine norm_ (a' := ?_) ?_ ?_
            rotate_left
            ·simp only [putAll, Act.put, List.setIfInBounds_toArray, List.set_cons_zero, List.set_cons_succ]
             rfl
            refine one_ (i := 2) (N := some 37) (Ow.B 12 391) rfl rfl (one_of HT_.out (by kernel_rfl)) (by decide) (fun K hK => ?_)
            obtain ⟨Q30, hQ30_⟩ : ∃ q_ : Array Value, q_ = (#[.string t295, .string t296, .string t297, .int .i64 t298, .string t299, .string t300, .string t301, .string t302, .string t303, .int .i64 t304, .int .i64 t305, .string t306, .bool t307, .int .i64 t308, .string t309, .string t310, .string t311, .int .i64 t312, .int .i64 t313, .int .i64 t314, .bool t315, .bool t316, .int .i64 t317, .int .i64 t318, .bool t319] : Array Value) := ⟨_, rfl⟩
            try rw [← hQ30_]
            have hQ30 := Aside0.mk hQ30_; replace hq := Aside0.mk (And.intro hQ30_ hq.1); clear hQ30_
            refine goes_ Tryd.func20 (by kernel_rfl) rfl #[.agg Q30, .agg #[.string t200, .string t201, .string t202, .int .i64 t203, .int .i64 t204, .int .i64 t205], .bool true] (by rfl) rfl rfl (by (try simp only [List.map_toArray, List.map_cons, List.map_nil]); first | done | rfl | (simp only [hq.1]; done) | (simp only [hq.1]; rfl) | (simp only [List.length_drop, List.length_take]; rfl)) ?_
            refine Calls.mono (calls_of_args (by first | ((try simp only [hq.1]) <;> rfl) | fail) (dispute_Decide.calls k t295 t296 t297 t298 t299 t300 t301 t302 t303 t304 t305 t306 t307 t308 t309 t310 t311 t312 t313 t314 t315 t316 t317 t318 t319 t200 t201 t202 t203 t204 t205 true t320 t321 t322 t323 t324 t325 t326 t327 t328 t329 t330 t331 t332 _ A8.out)) ?_
            rintro e w68 ⟨he_, hb⟩
            subst he_
            replace HO := Aside0.mk (Ow.Own.call HO.out hb)
            clear hb
            refine ⟨_, rfl, ?_⟩
            refine hK.out _ _ (by have h_ := Ow.Own.pick [0, 1, 2, 3, 4, 5] HO.out (by decide); first | exact h_ | exact Ow.Own.cong h_ (by first | ((try simp only [hq.1]) <;> rfl) | fail)) (fun hHeld => ?_)
            clear hK K
            refine norm_ (a' := ?_) ?_ ?_
            rotate_left
            ·show Act.put _ (some 37) _ = _
             simp only [Act.put, List.setIfInBounds_toArray, List.set_cons_zero, List.set_cons_succ, i64_w, i32_w]
             rfl
            refine' Ow.pu (i := 3) (N := some 34) (Ow.B 12 399) HT_.out ?hv_ ?ha_ ?_; (case hv_ => intro w'; go_simp; with_reducible rfl); (case ha_ => simp only [Ow.Sl, i64_w, i32_w]; rfl)
            refine' Ow.pu (i := 4) (N := some 38) (Ow.B 12 415) HT_.out ?hv_ ?ha_ ?_; (case hv_ => intro w'; go_simp; with_reducible rfl); (case ha_ => simp only [Ow.Sl, i64_w, i32_w]; rfl)
            refine' Ow.pu (i := 5) (N := some 39) (Ow.B 12 447) HT_.out ?hv_ ?ha_ ?_; (case hv_ => intro w'; go_simp; with_reducible rfl); (case ha_ => simp only [Ow.Sl, i64_w, i32_w]; rfl)
            refine' Ow.pu (i := 6) (N := some 40) (Ow.B 12 511) HT_.out ?hv_ ?ha_ ?_; (case hv_ => intro w'; go_simp; with_reducible rfl); (case ha_ => simp only [Ow.Sl, i64_w, i32_w]; rfl)
            exact norm_ (by first | (simp only [putAll, Act.put, List.setIfInBounds_toArray, List.set_cons_zero, List.set_cons_succ]; done) | (simp only [putAll, Act.put, List.setIfInBounds_toArray, List.set_cons_zero, List.set_cons_succ]; rfl) | (simp only [hq.1, putAll, Act.put, List.setIfInBounds_toArray, List.set_cons_zero, List.set_cons_succ] <;> rfl)) (hJ0_2_7_8 (gb333, gb334) _ (Ow.Own.cong (Ow.Own.pick [0, 1, 2, 3, 4, 5, 6, 7] HO.out (by decide)) (by first | ((try simp only [hq.1]) <;> rfl) | fail)))
          ·skip
           rintro gb334 w67 HO7_
           clear HO
           have HO := Aside0.mk HO7_
           clear HO7_
           have hHeld := Ow.Own.pick [0, 1, 2, 3, 4, 5] HO.out (by decide)
           refine norm_ (a' := ?_) ?_ ?_
           rotate_left
           ·simp only [putAll, Act.put, List.setIfInBounds_toArray, List.set_cons_zero, List.set_cons_succ]
            rfl
           refine one_ (i := 7) (N := some 10) (Ow.B 12 511) rfl rfl (one_of HT_.out (by kernel_rfl)) (by decide) (fun K hK => ?_)
           refine box_step ?hg (N := 10) ?hd (cs := bursarlaw26_awake.Z6) (t := 23) ?hr ?_; (case hd => rfl); (case hg => rfl); (case hr => first | (go_simp; done) | (go_simp; rfl))
           intro gb333 hg w68 hbox hb
           replace HO := Aside0.mk (Ow.Own.add HO.out hg hbox hb)
           clear hb hbox hg
           simp only [List.cons_append, List.nil_append] at HO
           refine hK.out _ _ (by have h_ := Ow.Own.pick [0, 1, 2, 3, 4, 5] HO.out (by decide); first | exact h_ | exact Ow.Own.cong h_ (by first | ((try simp only [hq.1]) <;> rfl) | fail)) (fun hHeld => ?_)
           clear hK K
           refine norm_ (a' := ?_) ?_ ?_
           rotate_left
           ·show Act.put _ (some 10) _ = _
            simp only [Act.put, List.setIfInBounds_toArray, List.set_cons_zero, List.set_cons_succ, i64_w, i32_w]
            rfl
           exact norm_ (by first | (simp only [putAll, Act.put, List.setIfInBounds_toArray, List.set_cons_zero, List.set_cons_succ]; done) | (simp only [putAll, Act.put, List.setIfInBounds_toArray, List.set_cons_zero, List.set_cons_succ]; rfl) | (simp only [hq.1, putAll, Act.put, List.setIfInBounds_toArray, List.set_cons_zero, List.set_cons_succ] <;> rfl)) (hJ0_2_7_8 (gb333, gb334) _ (Ow.Own.cong (Ow.Own.pick [0, 1, 2, 3, 4, 5, 7, 6] HO.out (by decide)) (by first | ((try simp only [hq.1]) <;> rfl) | fail)))
         ·skip
          rintro gb333 w67 HO7_
          clear HO
          have HO := Aside0.mk HO7_
          clear HO7_
          have hHeld := Ow.Own.pick [0, 1, 2, 3, 4, 5] HO.out (by decide)
          refine norm_ (a' := ?_) ?_ ?_
          rotate_left
          ·simp only [putAll, Act.put, List.setIfInBounds_toArray, List.set_cons_zero, List.set_cons_succ]
           rfl
          refine one_ (i := 8) (N := some 11) (Ow.B 12 511) rfl rfl (one_of HT_.out (by kernel_rfl)) (by decide) (fun K hK => ?_)
          refine box_step ?hg (N := 11) ?hd (cs := bursarlaw26_awake.Z6_1) (t := 50) ?hr ?_; (case hd => rfl); (case hg => rfl); (case hr => first | (go_simp; done) | (go_simp; rfl))
          intro gb334 hg w68 hbox hb
          replace HO := Aside0.mk (Ow.Own.add HO.out hg hbox hb)
          clear hb hbox hg
          simp only [List.cons_append, List.nil_append] at HO
          refine hK.out _ _ (by have h_ := Ow.Own.pick [0, 1, 2, 3, 4, 5] HO.out (by decide); first | exact h_ | exact Ow.Own.cong h_ (by first | ((try simp only [hq.1]) <;> rfl) | fail)) (fun hHeld => ?_)
          clear hK K
          refine norm_ (a' := ?_) ?_ ?_
          rotate_left
          ·show Act.put _ (some 11) _ = _
           simp only [Act.put, List.setIfInBounds_toArray, List.set_cons_zero, List.set_cons_succ, i64_w, i32_w]
           rfl
          exact norm_ (by first | (simp only [putAll, Act.put, List.setIfInBounds_toArray, List.set_cons_zero, List.set_cons_succ]; done) | (simp only [putAll, Act.put, List.setIfInBounds_toArray, List.set_cons_zero, List.set_cons_succ]; rfl) | (simp only [hq.1, putAll, Act.put, List.setIfInBounds_toArray, List.set_cons_zero, List.set_cons_succ] <;> rfl)) (hJ0_2_7_8 (gb333, gb334) _ (Ow.Own.cong (Ow.Own.pick [0, 1, 2, 3, 4, 5, 6, 7] HO.out (by decide)) (by first | ((try simp only [hq.1]) <;> rfl) | fail)))
        rintro ⟨gb333, gb334⟩ w68 HO7_
        clear HO
        have HO := Aside0.mk HO7_
        clear HO7_
        have hHeld := Ow.Own.pick [0, 1, 2, 3, 4, 5] HO.out (by decide)
        refine norm_ (a' := ?_) ?_ ?_
        rotate_left
        ·simp only [putAll, Act.put, List.setIfInBounds_toArray, List.set_cons_zero, List.set_cons_succ]
         rfl
        refine one_ (i := 9) (N := none) (Ow.B 12 1023) rfl rfl (one_of HT_.out (by kernel_rfl)) (by decide) (fun K hK => ?_)
        refine Ow.oskip Ot.ty HO.out (by rfl) rfl rfl rfl rfl (by with_reducible first | exact Ow.at0 | exact Ow.at1 | exact Ow.at2 | exact Ow.at3 | exact Ow.at4 | exact Ow.at5 | exact Ow.at6 | exact Ow.at7) (by first | exact Ow.ev_tmp rfl | rfl) (by first | ((try simp only [hq.1]) <;> rfl) | fail) (by first | ((try simp only [hq.1]) <;> rfl) | fail) (by first | ((try simp only [hq.1]) <;> rfl) | fail) ?_
        clear HO; intro wz_ HO; simp only [List.set_cons_zero, List.set_cons_succ] at HO
        refine hK.out _ _ (by have h_ := Ow.Own.pick [0, 1, 2, 3, 4, 5] HO.out (by decide); first | exact h_ | exact Ow.Own.cong h_ (by first | ((try simp only [hq.1]) <;> rfl) | fail)) (fun hHeld => ?_)
        clear hK K
        refine one_ (i := 10) (N := none) (Ow.B 12 2047) rfl rfl (one_of HT_.out (by kernel_rfl)) (by decide) (fun K hK => ?_)
        refine Ow.oskip Ot.ty HO.out (by rfl) rfl rfl rfl rfl (by with_reducible first | exact Ow.at0 | exact Ow.at1 | exact Ow.at2 | exact Ow.at3 | exact Ow.at4 | exact Ow.at5 | exact Ow.at6 | exact Ow.at7) (by first | exact Ow.ev_tmp rfl | rfl) (by first | ((try simp only [hq.1]) <;> rfl) | fail) (by first | ((try simp only [hq.1]) <;> rfl) | fail) (by first | ((try simp only [hq.1]) <;> rfl) | fail) ?_
        clear HO; intro wz_ HO; simp only [List.set_cons_zero, List.set_cons_succ] at HO
        refine hK.out _ _ (by have h_ := Ow.Own.pick [0, 1, 2, 3, 4, 5] HO.out (by decide); first | exact h_ | exact Ow.Own.cong h_ (by first | ((try simp only [hq.1]) <;> rfl) | fail)) (fun hHeld => ?_)
        clear hK K
        refine' Ow.pu (i := 11) (N := some 12) (Ow.B 12 4095) HT_.out ?hv_ ?ha_ ?_; (case hv_ => intro w'; go_simp; with_reducible rfl); (case ha_ => simp only [Ow.Sl, i64_w, i32_w]; rfl)
        refine done_ (done_of HT_.out (by kernel_rfl)) ?_
        try go_wp2_with (first | ((with_reducible refine Ow.gate_build rfl ?_); (try (refine gate_guard (by rfl) ?_; dsimp only)); refine' Ow.tbuild Ot.bd rfl rfl rfl ?hf_ ?_; (case hf_ => repeat (any_goals (first | exact Ow.Fills.nil | (refine' Ow.Fills.c ?hv_ rfl ?hz_ ?_; (case hv_ => first | exact Ow.ev_tmp rfl | rfl); (case hz_ => first | (refine ⟨?_, ?_⟩ <;> (first | ((try simp only [hq.1]) <;> rfl) | fail)) | fail)))))) | ((with_reducible refine Ow.gate_load rfl ?_); (try (refine gate_guard (by rfl) ?_; dsimp only)); (first | refine Ow.l1 Ot.ty HO.out rfl rfl rfl rfl (by first | ((try simp only [hq.1]) <;> rfl) | fail) ?_ | refine Ow.l0 Ot.ty HO.out rfl rfl rfl rfl (by first | ((try simp only [hq.1]) <;> rfl) | fail) ?_ | refine Ow.lp Ot.ty HO.out rfl rfl rfl rfl (by first | ((try simp only [hq.1]) <;> rfl) | fail) ?_)) | ((with_reducible refine gate_store rfl ?_); (try (refine gate_guard (by rfl) ?_; dsimp only)); (first | refine Ow.s0 Ot.ty HO.out rfl rfl rfl rfl rfl (by first | exact Ow.ev_tmp rfl | rfl) (by first | (refine ⟨?_, ?_, ?_⟩ <;> (first | ((try simp only [hq.1]) <;> rfl) | fail)) | fail) ?_ | refine Ow.sp Ot.ty HO.out rfl rfl rfl rfl rfl (by first | exact Ow.ev_tmp rfl | rfl) (by first | (refine ⟨?_, ?_, ?_⟩ <;> (first | ((try simp only [hq.1]) <;> rfl) | fail)) | fail) ?_); clear HO; intro wz_ HO; simp only [List.set_cons_zero, List.set_cons_succ] at HO))
        all_goals go_ret
        all_goals exact ⟨by first | rfl | (simp only [hq.1]; done) | (simp only [hq.1]; rfl) | (simp [errW_none, errW_some] <;> rfl) | (simp [*, errW_none, errW_some] <;> rfl), Ow.Own.below HO.out⟩
       ·rw [if_neg c15] at H
        exact absurd H (by simp)
      ·rw [if_neg c14] at H
       exact absurd H (by simp)
     ·rw [if_neg c13] at H
      exact absurd H (by simp)
    ·rw [if_neg c12] at H
     exact absurd H (by simp)
   ·rw [if_neg c11] at H
    exact absurd H (by simp)
  ·rw [if_neg c10] at H
   exact absurd H (by simp)
 ·rw [if_neg c9] at H
  exact absurd H (by simp)

end Go.Proofs.YtkfpocggjbfomaaDoor.XT
