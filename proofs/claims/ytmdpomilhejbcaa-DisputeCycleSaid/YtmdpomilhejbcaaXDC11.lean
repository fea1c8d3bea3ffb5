-- Written by wip/xprint.py, a session's program: printed out of the translation, with hand-written functions. Lean checks it.
import Derived.Test.YtmdpomilhejbcaaXDC0
import Derived.Test.YtmdpomilhejbcaaXDC9
import Derived.Test.YtmdpomilhejbcaaXDC10
namespace Go.Proofs.Ytmdpomilhejbcaa.XDC
open Go.RowKit Go.Proofs.YtmdpomilhejbcaaW.PrintWords Go.Proofs.YtmdpomilhejbcaaW.PrintLast Go.Proofs.YtmdpomilhejbcaaW.PrintMore
attribute [local go_sem] max2_int min2_int max_two min_two max_three min_three max_four min_four   -- for this text's walks alone
set_option linter.unusedVariables false
set_option linter.unusedSimpArgs false

/-! ### bursarlaw26_awake: function 7 -/
def bursarlaw26_awake.f (k : Nat)  : Option (Bool) := (bursarlaw26_some.f (⟨#[48, 48, 48, 48, 48, 48]⟩ : ByteArray) 50 0).bind fun bt132 => ((dispute_Decide.f k bt132.1 bt132.2.1 bt132.2.2.1 bt132.2.2.2.1 bt132.2.2.2.2.1 bt132.2.2.2.2.2.1 bt132.2.2.2.2.2.2.1 bt132.2.2.2.2.2.2.2.1 bt132.2.2.2.2.2.2.2.2.1 bt132.2.2.2.2.2.2.2.2.2.1 bt132.2.2.2.2.2.2.2.2.2.2.1 bt132.2.2.2.2.2.2.2.2.2.2.2.1 bt132.2.2.2.2.2.2.2.2.2.2.2.2.1 bt132.2.2.2.2.2.2.2.2.2.2.2.2.2.1 bt132.2.2.2.2.2.2.2.2.2.2.2.2.2.2.1 bt132.2.2.2.2.2.2.2.2.2.2.2.2.2.2.2.1 bt132.2.2.2.2.2.2.2.2.2.2.2.2.2.2.2.2.1 bt132.2.2.2.2.2.2.2.2.2.2.2.2.2.2.2.2.2.1 bt132.2.2.2.2.2.2.2.2.2.2.2.2.2.2.2.2.2.2.1 bt132.2.2.2.2.2.2.2.2.2.2.2.2.2.2.2.2.2.2.2.1 bt132.2.2.2.2.2.2.2.2.2.2.2.2.2.2.2.2.2.2.2.2.1 bt132.2.2.2.2.2.2.2.2.2.2.2.2.2.2.2.2.2.2.2.2.2.1 bt132.2.2.2.2.2.2.2.2.2.2.2.2.2.2.2.2.2.2.2.2.2.2.1 bt132.2.2.2.2.2.2.2.2.2.2.2.2.2.2.2.2.2.2.2.2.2.2.2.1 bt132.2.2.2.2.2.2.2.2.2.2.2.2.2.2.2.2.2.2.2.2.2.2.2.2 (⟨#[]⟩ : ByteArray) (⟨#[]⟩ : ByteArray) (⟨#[]⟩ : ByteArray) 0 0 0 false).bind fun bt157 => ((bursarlaw26_some.f (⟨#[48, 49, 48, 48, 48, 48]⟩ : ByteArray) 50 0).bind fun bt172 => ((dispute_Decide.f k bt172.1 bt172.2.1 bt172.2.2.1 bt172.2.2.2.1 bt172.2.2.2.2.1 bt172.2.2.2.2.2.1 bt172.2.2.2.2.2.2.1 bt172.2.2.2.2.2.2.2.1 bt172.2.2.2.2.2.2.2.2.1 bt172.2.2.2.2.2.2.2.2.2.1 bt172.2.2.2.2.2.2.2.2.2.2.1 bt172.2.2.2.2.2.2.2.2.2.2.2.1 bt172.2.2.2.2.2.2.2.2.2.2.2.2.1 bt172.2.2.2.2.2.2.2.2.2.2.2.2.2.1 bt172.2.2.2.2.2.2.2.2.2.2.2.2.2.2.1 bt172.2.2.2.2.2.2.2.2.2.2.2.2.2.2.2.1 bt172.2.2.2.2.2.2.2.2.2.2.2.2.2.2.2.2.1 bt172.2.2.2.2.2.2.2.2.2.2.2.2.2.2.2.2.2.1 bt172.2.2.2.2.2.2.2.2.2.2.2.2.2.2.2.2.2.2.1 bt172.2.2.2.2.2.2.2.2.2.2.2.2.2.2.2.2.2.2.2.1 bt172.2.2.2.2.2.2.2.2.2.2.2.2.2.2.2.2.2.2.2.2.1 bt172.2.2.2.2.2.2.2.2.2.2.2.2.2.2.2.2.2.2.2.2.2.1 bt172.2.2.2.2.2.2.2.2.2.2.2.2.2.2.2.2.2.2.2.2.2.2.1 bt172.2.2.2.2.2.2.2.2.2.2.2.2.2.2.2.2.2.2.2.2.2.2.2.1 bt172.2.2.2.2.2.2.2.2.2.2.2.2.2.2.2.2.2.2.2.2.2.2.2.2 bt157.1 bt157.2.1 bt157.2.2.1 bt157.2.2.2.1 bt157.2.2.2.2.1 bt157.2.2.2.2.2.1 true).bind fun bt197 => ((bursarlaw26_some.f (⟨#[48, 49, 48, 48, 48, 48]⟩ : ByteArray) 40 0).bind fun bt212 => ((dispute_Decide.f k bt212.1 bt212.2.1 bt212.2.2.1 bt212.2.2.2.1 bt212.2.2.2.2.1 bt212.2.2.2.2.2.1 bt212.2.2.2.2.2.2.1 bt212.2.2.2.2.2.2.2.1 bt212.2.2.2.2.2.2.2.2.1 bt212.2.2.2.2.2.2.2.2.2.1 bt212.2.2.2.2.2.2.2.2.2.2.1 bt212.2.2.2.2.2.2.2.2.2.2.2.1 bt212.2.2.2.2.2.2.2.2.2.2.2.2.1 bt212.2.2.2.2.2.2.2.2.2.2.2.2.2.1 bt212.2.2.2.2.2.2.2.2.2.2.2.2.2.2.1 bt212.2.2.2.2.2.2.2.2.2.2.2.2.2.2.2.1 bt212.2.2.2.2.2.2.2.2.2.2.2.2.2.2.2.2.1 bt212.2.2.2.2.2.2.2.2.2.2.2.2.2.2.2.2.2.1 bt212.2.2.2.2.2.2.2.2.2.2.2.2.2.2.2.2.2.2.1 bt212.2.2.2.2.2.2.2.2.2.2.2.2.2.2.2.2.2.2.2.1 bt212.2.2.2.2.2.2.2.2.2.2.2.2.2.2.2.2.2.2.2.2.1 bt212.2.2.2.2.2.2.2.2.2.2.2.2.2.2.2.2.2.2.2.2.2.1 bt212.2.2.2.2.2.2.2.2.2.2.2.2.2.2.2.2.2.2.2.2.2.2.1 bt212.2.2.2.2.2.2.2.2.2.2.2.2.2.2.2.2.2.2.2.2.2.2.2.1 bt212.2.2.2.2.2.2.2.2.2.2.2.2.2.2.2.2.2.2.2.2.2.2.2.2 bt157.1 bt157.2.1 bt157.2.2.1 bt157.2.2.2.1 bt157.2.2.2.2.1 bt157.2.2.2.2.2.1 true).bind fun bt237 => ((bursarlaw26_some.f (⟨#[48, 49, 48, 48, 48, 48]⟩ : ByteArray) 50 201).bind fun bt252 => ((dispute_Decide.f k bt252.1 bt252.2.1 bt252.2.2.1 bt252.2.2.2.1 bt252.2.2.2.2.1 bt252.2.2.2.2.2.1 bt252.2.2.2.2.2.2.1 bt252.2.2.2.2.2.2.2.1 bt252.2.2.2.2.2.2.2.2.1 bt252.2.2.2.2.2.2.2.2.2.1 bt252.2.2.2.2.2.2.2.2.2.2.1 bt252.2.2.2.2.2.2.2.2.2.2.2.1 bt252.2.2.2.2.2.2.2.2.2.2.2.2.1 bt252.2.2.2.2.2.2.2.2.2.2.2.2.2.1 bt252.2.2.2.2.2.2.2.2.2.2.2.2.2.2.1 bt252.2.2.2.2.2.2.2.2.2.2.2.2.2.2.2.1 bt252.2.2.2.2.2.2.2.2.2.2.2.2.2.2.2.2.1 bt252.2.2.2.2.2.2.2.2.2.2.2.2.2.2.2.2.2.1 bt252.2.2.2.2.2.2.2.2.2.2.2.2.2.2.2.2.2.2.1 bt252.2.2.2.2.2.2.2.2.2.2.2.2.2.2.2.2.2.2.2.1 bt252.2.2.2.2.2.2.2.2.2.2.2.2.2.2.2.2.2.2.2.2.1 bt252.2.2.2.2.2.2.2.2.2.2.2.2.2.2.2.2.2.2.2.2.2.1 bt252.2.2.2.2.2.2.2.2.2.2.2.2.2.2.2.2.2.2.2.2.2.2.1 bt252.2.2.2.2.2.2.2.2.2.2.2.2.2.2.2.2.2.2.2.2.2.2.2.1 bt252.2.2.2.2.2.2.2.2.2.2.2.2.2.2.2.2.2.2.2.2.2.2.2.2 bt157.1 bt157.2.1 bt157.2.2.1 bt157.2.2.2.1 bt157.2.2.2.2.1 bt157.2.2.2.2.2.1 true).bind fun bt277 => (if bt157.2.2.2.1 = 1 then (if bt157.2.2.2.2.2.2.1 = 3 then (if bt157.2.2.2.2.2.2.2.2.2.2.2.2.toList = ([48, 48] : List UInt8) then (if bt197.2.2.2.1 = 2 then (if bt197.2.2.2.2.2.2.2.2.2.2.2.2.toList = ([48, 48] : List UInt8) then (if bt237.2.2.2.2.2.2.2.2.2.2.2.2.toList = ([54, 49] : List UInt8) then (if bt277.2.2.2.2.2.2.2.2.2.2.2.2.toList = ([53, 52] : List UInt8) then (some true) else (none)) else (none)) else (none)) else (none)) else (none)) else (none)) else (none)))))))))
theorem bursarlaw26_awake.mono : ∀ k, LeO (bursarlaw26_awake.f k ) (bursarlaw26_awake.f (k + 1) ) := by
  intro  k
  unfold bursarlaw26_awake.f
  repeat' first
      | (with_reducible exact dispute_Decide.mono _ _ _ _ _ _ _ _ _ _ _ _ _ _ _ _ _ _ _ _ _ _ _ _ _ _ _ _ _ _ _ _ _)
      | (with_reducible exact LeO.refl _)
      | (with_reducible exact LeO.none _)
      | (with_reducible refine LeO.ite ?_ ?_)
      | (with_reducible refine LeO.bind ?_ (fun _ => ?_))
      | exact dispute_Decide.mono _ _ _ _ _ _ _ _ _ _ _ _ _ _ _ _ _ _ _ _ _ _ _ _ _ _ _ _ _ _ _ _ _
      | exact LeO.none _
      | refine LeO.ite ?_ ?_
      | refine LeO.bind ?_ (fun _ => ?_)
def bursarlaw26_awake.T2 : Bool × List (List Nat × List Nat) := (true, [([], []), ([], []), ([0, 1, 0], [0, 1]), ([2], [2]), ([3], [3]), ([3], [3]), ([3], [3]), ([], []), ([], []), ([7, 4, 2, 0, 1, 2, 3, 4, 7, 8], [4, 7]), ([8, 5, 9, 0, 1, 2, 3, 4, 5, 7, 8, 9], [5, 8]), ([6, 10, 0, 1, 2, 3, 4, 5, 6, 7, 8, 9, 10], [6])])
def bursarlaw26_awake.B2 : List Nat := [0, 0, 3, 7, 15, 15, 15, 0, 0, 415, 959, 2047]
theorem bursarlaw26_awake.tab2 : rtab .any (opsOf Try.f7 2) = bursarlaw26_awake.T2 := by kernel_rfl
theorem bursarlaw26_awake.bits2 : waitsOk bursarlaw26_awake.T2.2 bursarlaw26_awake.B2 = true := by kernel_rfl
def bursarlaw26_awake.T3 : Bool × List (List Nat × List Nat) := (true, [([], []), ([], []), ([0, 1, 0], [0, 1]), ([2], [2]), ([3], [3]), ([3], [3]), ([3], [3]), ([], []), ([], []), ([7, 4, 2, 0, 1, 2, 3, 4, 7, 8], [4, 7]), ([8, 5, 9, 0, 1, 2, 3, 4, 5, 7, 8, 9], [5, 8]), ([6, 10, 0, 1, 2, 3, 4, 5, 6, 7, 8, 9, 10], [6])])
def bursarlaw26_awake.B3 : List Nat := [0, 0, 3, 7, 15, 15, 15, 0, 0, 415, 959, 2047]
theorem bursarlaw26_awake.tab3 : rtab .any (opsOf Try.f7 3) = bursarlaw26_awake.T3 := by kernel_rfl
theorem bursarlaw26_awake.bits3 : waitsOk bursarlaw26_awake.T3.2 bursarlaw26_awake.B3 = true := by kernel_rfl
def bursarlaw26_awake.T4 : Bool × List (List Nat × List Nat) := (true, [([], []), ([], []), ([0, 1, 0], [0, 1]), ([2], [2]), ([3], [3]), ([3], [3]), ([3], [3]), ([], []), ([], []), ([7, 4, 2, 0, 1, 2, 3, 4, 7, 8], [4, 7]), ([8, 5, 9, 0, 1, 2, 3, 4, 5, 7, 8, 9], [5, 8]), ([6, 10, 0, 1, 2, 3, 4, 5, 6, 7, 8, 9, 10], [6])])
def bursarlaw26_awake.B4 : List Nat := [0, 0, 3, 7, 15, 15, 15, 0, 0, 415, 959, 2047]
theorem bursarlaw26_awake.tab4 : rtab .any (opsOf Try.f7 4) = bursarlaw26_awake.T4 := by kernel_rfl
theorem bursarlaw26_awake.bits4 : waitsOk bursarlaw26_awake.T4.2 bursarlaw26_awake.B4 = true := by kernel_rfl
def bursarlaw26_awake.Z6 : Array Value := #[.string (⟨#[]⟩ : ByteArray), .string (⟨#[]⟩ : ByteArray), .string (⟨#[]⟩ : ByteArray), .int .i64 0, .int .i64 0, .int .i64 0]
def bursarlaw26_awake.Z6_1 : Array Value := #[.int .i64 0, .int .i64 0, .string (⟨#[]⟩ : ByteArray), .string (⟨#[]⟩ : ByteArray), .string (⟨#[]⟩ : ByteArray), .int .i64 0]
set_option maxHeartbeats 8000000 in
set_option maxRecDepth 100000 in
theorem bursarlaw26_awake.calls (k : Nat)  (r : Bool) (w : World) (h : bursarlaw26_awake.f k  = some r) :
    Calls Try.prog 7 #[] w fun e w' => e = .returned (.bool r) ∧ Below w.heap.size w w' := by
 have hu33 := Try.underlying33
 have hu37 := Try.underlying37
 have HO := Aside0.mk (Ow.Own.nil w)
 have hmf : ∀ (fn : Fn) (first cap : Array Value) (w : World), (Instr.makeFunc fn first cap).run Try.prog w = .ok (.func fn first cap) w := fun _ _ _ _ => rfl
 have H : ((bursarlaw26_some.f (⟨#[48, 48, 48, 48, 48, 48]⟩ : ByteArray) 50 0).bind fun bt132 => ((dispute_Decide.f k bt132.1 bt132.2.1 bt132.2.2.1 bt132.2.2.2.1 bt132.2.2.2.2.1 bt132.2.2.2.2.2.1 bt132.2.2.2.2.2.2.1 bt132.2.2.2.2.2.2.2.1 bt132.2.2.2.2.2.2.2.2.1 bt132.2.2.2.2.2.2.2.2.2.1 bt132.2.2.2.2.2.2.2.2.2.2.1 bt132.2.2.2.2.2.2.2.2.2.2.2.1 bt132.2.2.2.2.2.2.2.2.2.2.2.2.1 bt132.2.2.2.2.2.2.2.2.2.2.2.2.2.1 bt132.2.2.2.2.2.2.2.2.2.2.2.2.2.2.1 bt132.2.2.2.2.2.2.2.2.2.2.2.2.2.2.2.1 bt132.2.2.2.2.2.2.2.2.2.2.2.2.2.2.2.2.1 bt132.2.2.2.2.2.2.2.2.2.2.2.2.2.2.2.2.2.1 bt132.2.2.2.2.2.2.2.2.2.2.2.2.2.2.2.2.2.2.1 bt132.2.2.2.2.2.2.2.2.2.2.2.2.2.2.2.2.2.2.2.1 bt132.2.2.2.2.2.2.2.2.2.2.2.2.2.2.2.2.2.2.2.2.1 bt132.2.2.2.2.2.2.2.2.2.2.2.2.2.2.2.2.2.2.2.2.2.1 bt132.2.2.2.2.2.2.2.2.2.2.2.2.2.2.2.2.2.2.2.2.2.2.1 bt132.2.2.2.2.2.2.2.2.2.2.2.2.2.2.2.2.2.2.2.2.2.2.2.1 bt132.2.2.2.2.2.2.2.2.2.2.2.2.2.2.2.2.2.2.2.2.2.2.2.2 (⟨#[]⟩ : ByteArray) (⟨#[]⟩ : ByteArray) (⟨#[]⟩ : ByteArray) 0 0 0 false).bind fun bt157 => ((bursarlaw26_some.f (⟨#[48, 49, 48, 48, 48, 48]⟩ : ByteArray) 50 0).bind fun bt172 => ((dispute_Decide.f k bt172.1 bt172.2.1 bt172.2.2.1 bt172.2.2.2.1 bt172.2.2.2.2.1 bt172.2.2.2.2.2.1 bt172.2.2.2.2.2.2.1 bt172.2.2.2.2.2.2.2.1 bt172.2.2.2.2.2.2.2.2.1 bt172.2.2.2.2.2.2.2.2.2.1 bt172.2.2.2.2.2.2.2.2.2.2.1 bt172.2.2.2.2.2.2.2.2.2.2.2.1 bt172.2.2.2.2.2.2.2.2.2.2.2.2.1 bt172.2.2.2.2.2.2.2.2.2.2.2.2.2.1 bt172.2.2.2.2.2.2.2.2.2.2.2.2.2.2.1 bt172.2.2.2.2.2.2.2.2.2.2.2.2.2.2.2.1 bt172.2.2.2.2.2.2.2.2.2.2.2.2.2.2.2.2.1 bt172.2.2.2.2.2.2.2.2.2.2.2.2.2.2.2.2.2.1 bt172.2.2.2.2.2.2.2.2.2.2.2.2.2.2.2.2.2.2.1 bt172.2.2.2.2.2.2.2.2.2.2.2.2.2.2.2.2.2.2.2.1 bt172.2.2.2.2.2.2.2.2.2.2.2.2.2.2.2.2.2.2.2.2.1 bt172.2.2.2.2.2.2.2.2.2.2.2.2.2.2.2.2.2.2.2.2.2.1 bt172.2.2.2.2.2.2.2.2.2.2.2.2.2.2.2.2.2.2.2.2.2.2.1 bt172.2.2.2.2.2.2.2.2.2.2.2.2.2.2.2.2.2.2.2.2.2.2.2.1 bt172.2.2.2.2.2.2.2.2.2.2.2.2.2.2.2.2.2.2.2.2.2.2.2.2 bt157.1 bt157.2.1 bt157.2.2.1 bt157.2.2.2.1 bt157.2.2.2.2.1 bt157.2.2.2.2.2.1 true).bind fun bt197 => ((bursarlaw26_some.f (⟨#[48, 49, 48, 48, 48, 48]⟩ : ByteArray) 40 0).bind fun bt212 => ((dispute_Decide.f k bt212.1 bt212.2.1 bt212.2.2.1 bt212.2.2.2.1 bt212.2.2.2.2.1 bt212.2.2.2.2.2.1 bt212.2.2.2.2.2.2.1 bt212.2.2.2.2.2.2.2.1 bt212.2.2.2.2.2.2.2.2.1 bt212.2.2.2.2.2.2.2.2.2.1 bt212.2.2.2.2.2.2.2.2.2.2.1 bt212.2.2.2.2.2.2.2.2.2.2.2.1 bt212.2.2.2.2.2.2.2.2.2.2.2.2.1 bt212.2.2.2.2.2.2.2.2.2.2.2.2.2.1 bt212.2.2.2.2.2.2.2.2.2.2.2.2.2.2.1 bt212.2.2.2.2.2.2.2.2.2.2.2.2.2.2.2.1 bt212.2.2.2.2.2.2.2.2.2.2.2.2.2.2.2.2.1 bt212.2.2.2.2.2.2.2.2.2.2.2.2.2.2.2.2.2.1 bt212.2.2.2.2.2.2.2.2.2.2.2.2.2.2.2.2.2.2.1 bt212.2.2.2.2.2.2.2.2.2.2.2.2.2.2.2.2.2.2.2.1 bt212.2.2.2.2.2.2.2.2.2.2.2.2.2.2.2.2.2.2.2.2.1 bt212.2.2.2.2.2.2.2.2.2.2.2.2.2.2.2.2.2.2.2.2.2.1 bt212.2.2.2.2.2.2.2.2.2.2.2.2.2.2.2.2.2.2.2.2.2.2.1 bt212.2.2.2.2.2.2.2.2.2.2.2.2.2.2.2.2.2.2.2.2.2.2.2.1 bt212.2.2.2.2.2.2.2.2.2.2.2.2.2.2.2.2.2.2.2.2.2.2.2.2 bt157.1 bt157.2.1 bt157.2.2.1 bt157.2.2.2.1 bt157.2.2.2.2.1 bt157.2.2.2.2.2.1 true).bind fun bt237 => ((bursarlaw26_some.f (⟨#[48, 49, 48, 48, 48, 48]⟩ : ByteArray) 50 201).bind fun bt252 => ((dispute_Decide.f k bt252.1 bt252.2.1 bt252.2.2.1 bt252.2.2.2.1 bt252.2.2.2.2.1 bt252.2.2.2.2.2.1 bt252.2.2.2.2.2.2.1 bt252.2.2.2.2.2.2.2.1 bt252.2.2.2.2.2.2.2.2.1 bt252.2.2.2.2.2.2.2.2.2.1 bt252.2.2.2.2.2.2.2.2.2.2.1 bt252.2.2.2.2.2.2.2.2.2.2.2.1 bt252.2.2.2.2.2.2.2.2.2.2.2.2.1 bt252.2.2.2.2.2.2.2.2.2.2.2.2.2.1 bt252.2.2.2.2.2.2.2.2.2.2.2.2.2.2.1 bt252.2.2.2.2.2.2.2.2.2.2.2.2.2.2.2.1 bt252.2.2.2.2.2.2.2.2.2.2.2.2.2.2.2.2.1 bt252.2.2.2.2.2.2.2.2.2.2.2.2.2.2.2.2.2.1 bt252.2.2.2.2.2.2.2.2.2.2.2.2.2.2.2.2.2.2.1 bt252.2.2.2.2.2.2.2.2.2.2.2.2.2.2.2.2.2.2.2.1 bt252.2.2.2.2.2.2.2.2.2.2.2.2.2.2.2.2.2.2.2.2.1 bt252.2.2.2.2.2.2.2.2.2.2.2.2.2.2.2.2.2.2.2.2.2.1 bt252.2.2.2.2.2.2.2.2.2.2.2.2.2.2.2.2.2.2.2.2.2.2.1 bt252.2.2.2.2.2.2.2.2.2.2.2.2.2.2.2.2.2.2.2.2.2.2.2.1 bt252.2.2.2.2.2.2.2.2.2.2.2.2.2.2.2.2.2.2.2.2.2.2.2.2 bt157.1 bt157.2.1 bt157.2.2.1 bt157.2.2.2.1 bt157.2.2.2.2.1 bt157.2.2.2.2.2.1 true).bind fun bt277 => (if bt157.2.2.2.1 = 1 then (if bt157.2.2.2.2.2.2.1 = 3 then (if bt157.2.2.2.2.2.2.2.2.2.2.2.2.toList = ([48, 48] : List UInt8) then (if bt197.2.2.2.1 = 2 then (if bt197.2.2.2.2.2.2.2.2.2.2.2.2.toList = ([48, 48] : List UInt8) then (if bt237.2.2.2.2.2.2.2.2.2.2.2.2.toList = ([54, 49] : List UInt8) then (if bt277.2.2.2.2.2.2.2.2.2.2.2.2.toList = ([53, 52] : List UInt8) then (some true) else (none)) else (none)) else (none)) else (none)) else (none)) else (none)) else (none)))))))))) = some r := h
 clear h
 replace H := Option.bind_eq_some_iff.mp H
 obtain ⟨⟨t132, t133, t134, t135, t136, t137, t138, t139, t140, t141, t142, t143, t144, t145, t146, t147, t148, t149, t150, t151, t152, t153, t154, t155, t156⟩, A10, H⟩ := H
 replace H : ((dispute_Decide.f k t132 t133 t134 t135 t136 t137 t138 t139 t140 t141 t142 t143 t144 t145 t146 t147 t148 t149 t150 t151 t152 t153 t154 t155 t156 (⟨#[]⟩ : ByteArray) (⟨#[]⟩ : ByteArray) (⟨#[]⟩ : ByteArray) 0 0 0 false).bind fun bt157 => ((bursarlaw26_some.f (⟨#[48, 49, 48, 48, 48, 48]⟩ : ByteArray) 50 0).bind fun bt172 => ((dispute_Decide.f k bt172.1 bt172.2.1 bt172.2.2.1 bt172.2.2.2.1 bt172.2.2.2.2.1 bt172.2.2.2.2.2.1 bt172.2.2.2.2.2.2.1 bt172.2.2.2.2.2.2.2.1 bt172.2.2.2.2.2.2.2.2.1 bt172.2.2.2.2.2.2.2.2.2.1 bt172.2.2.2.2.2.2.2.2.2.2.1 bt172.2.2.2.2.2.2.2.2.2.2.2.1 bt172.2.2.2.2.2.2.2.2.2.2.2.2.1 bt172.2.2.2.2.2.2.2.2.2.2.2.2.2.1 bt172.2.2.2.2.2.2.2.2.2.2.2.2.2.2.1 bt172.2.2.2.2.2.2.2.2.2.2.2.2.2.2.2.1 bt172.2.2.2.2.2.2.2.2.2.2.2.2.2.2.2.2.1 bt172.2.2.2.2.2.2.2.2.2.2.2.2.2.2.2.2.2.1 bt172.2.2.2.2.2.2.2.2.2.2.2.2.2.2.2.2.2.2.1 bt172.2.2.2.2.2.2.2.2.2.2.2.2.2.2.2.2.2.2.2.1 bt172.2.2.2.2.2.2.2.2.2.2.2.2.2.2.2.2.2.2.2.2.1 bt172.2.2.2.2.2.2.2.2.2.2.2.2.2.2.2.2.2.2.2.2.2.1 bt172.2.2.2.2.2.2.2.2.2.2.2.2.2.2.2.2.2.2.2.2.2.2.1 bt172.2.2.2.2.2.2.2.2.2.2.2.2.2.2.2.2.2.2.2.2.2.2.2.1 bt172.2.2.2.2.2.2.2.2.2.2.2.2.2.2.2.2.2.2.2.2.2.2.2.2 bt157.1 bt157.2.1 bt157.2.2.1 bt157.2.2.2.1 bt157.2.2.2.2.1 bt157.2.2.2.2.2.1 true).bind fun bt197 => ((bursarlaw26_some.f (⟨#[48, 49, 48, 48, 48, 48]⟩ : ByteArray) 40 0).bind fun bt212 => ((dispute_Decide.f k bt212.1 bt212.2.1 bt212.2.2.1 bt212.2.2.2.1 bt212.2.2.2.2.1 bt212.2.2.2.2.2.1 bt212.2.2.2.2.2.2.1 bt212.2.2.2.2.2.2.2.1 bt212.2.2.2.2.2.2.2.2.1 bt212.2.2.2.2.2.2.2.2.2.1 bt212.2.2.2.2.2.2.2.2.2.2.1 bt212.2.2.2.2.2.2.2.2.2.2.2.1 bt212.2.2.2.2.2.2.2.2.2.2.2.2.1 bt212.2.2.2.2.2.2.2.2.2.2.2.2.2.1 bt212.2.2.2.2.2.2.2.2.2.2.2.2.2.2.1 bt212.2.2.2.2.2.2.2.2.2.2.2.2.2.2.2.1 bt212.2.2.2.2.2.2.2.2.2.2.2.2.2.2.2.2.1 bt212.2.2.2.2.2.2.2.2.2.2.2.2.2.2.2.2.2.1 bt212.2.2.2.2.2.2.2.2.2.2.2.2.2.2.2.2.2.2.1 bt212.2.2.2.2.2.2.2.2.2.2.2.2.2.2.2.2.2.2.2.1 bt212.2.2.2.2.2.2.2.2.2.2.2.2.2.2.2.2.2.2.2.2.1 bt212.2.2.2.2.2.2.2.2.2.2.2.2.2.2.2.2.2.2.2.2.2.1 bt212.2.2.2.2.2.2.2.2.2.2.2.2.2.2.2.2.2.2.2.2.2.2.1 bt212.2.2.2.2.2.2.2.2.2.2.2.2.2.2.2.2.2.2.2.2.2.2.2.1 bt212.2.2.2.2.2.2.2.2.2.2.2.2.2.2.2.2.2.2.2.2.2.2.2.2 bt157.1 bt157.2.1 bt157.2.2.1 bt157.2.2.2.1 bt157.2.2.2.2.1 bt157.2.2.2.2.2.1 true).bind fun bt237 => ((bursarlaw26_some.f (⟨#[48, 49, 48, 48, 48, 48]⟩ : ByteArray) 50 201).bind fun bt252 => ((dispute_Decide.f k bt252.1 bt252.2.1 bt252.2.2.1 bt252.2.2.2.1 bt252.2.2.2.2.1 bt252.2.2.2.2.2.1 bt252.2.2.2.2.2.2.1 bt252.2.2.2.2.2.2.2.1 bt252.2.2.2.2.2.2.2.2.1 bt252.2.2.2.2.2.2.2.2.2.1 bt252.2.2.2.2.2.2.2.2.2.2.1 bt252.2.2.2.2.2.2.2.2.2.2.2.1 bt252.2.2.2.2.2.2.2.2.2.2.2.2.1 bt252.2.2.2.2.2.2.2.2.2.2.2.2.2.1 bt252.2.2.2.2.2.2.2.2.2.2.2.2.2.2.1 bt252.2.2.2.2.2.2.2.2.2.2.2.2.2.2.2.1 bt252.2.2.2.2.2.2.2.2.2.2.2.2.2.2.2.2.1 bt252.2.2.2.2.2.2.2.2.2.2.2.2.2.2.2.2.2.1 bt252.2.2.2.2.2.2.2.2.2.2.2.2.2.2.2.2.2.2.1 bt252.2.2.2.2.2.2.2.2.2.2.2.2.2.2.2.2.2.2.2.1 bt252.2.2.2.2.2.2.2.2.2.2.2.2.2.2.2.2.2.2.2.2.1 bt252.2.2.2.2.2.2.2.2.2.2.2.2.2.2.2.2.2.2.2.2.2.1 bt252.2.2.2.2.2.2.2.2.2.2.2.2.2.2.2.2.2.2.2.2.2.2.1 bt252.2.2.2.2.2.2.2.2.2.2.2.2.2.2.2.2.2.2.2.2.2.2.2.1 bt252.2.2.2.2.2.2.2.2.2.2.2.2.2.2.2.2.2.2.2.2.2.2.2.2 bt157.1 bt157.2.1 bt157.2.2.1 bt157.2.2.2.1 bt157.2.2.2.2.1 bt157.2.2.2.2.2.1 true).bind fun bt277 => (if bt157.2.2.2.1 = 1 then (if bt157.2.2.2.2.2.2.1 = 3 then (if bt157.2.2.2.2.2.2.2.2.2.2.2.2.toList = ([48, 48] : List UInt8) then (if bt197.2.2.2.1 = 2 then (if bt197.2.2.2.2.2.2.2.2.2.2.2.2.toList = ([48, 48] : List UInt8) then (if bt237.2.2.2.2.2.2.2.2.2.2.2.2.toList = ([54, 49] : List UInt8) then (if bt277.2.2.2.2.2.2.2.2.2.2.2.2.toList = ([53, 52] : List UInt8) then (some true) else (none)) else (none)) else (none)) else (none)) else (none)) else (none)) else (none))))))))) = some r := H
 have A1 := Aside0.mk A10
 clear A10
 replace H := Option.bind_eq_some_iff.mp H
 obtain ⟨⟨t157, t158, t159, t160, t161, t162, t163, t164, t165, t166, t167, t168, t169⟩, A20, H⟩ := H
 replace H : ((bursarlaw26_some.f (⟨#[48, 49, 48, 48, 48, 48]⟩ : ByteArray) 50 0).bind fun bt172 => ((dispute_Decide.f k bt172.1 bt172.2.1 bt172.2.2.1 bt172.2.2.2.1 bt172.2.2.2.2.1 bt172.2.2.2.2.2.1 bt172.2.2.2.2.2.2.1 bt172.2.2.2.2.2.2.2.1 bt172.2.2.2.2.2.2.2.2.1 bt172.2.2.2.2.2.2.2.2.2.1 bt172.2.2.2.2.2.2.2.2.2.2.1 bt172.2.2.2.2.2.2.2.2.2.2.2.1 bt172.2.2.2.2.2.2.2.2.2.2.2.2.1 bt172.2.2.2.2.2.2.2.2.2.2.2.2.2.1 bt172.2.2.2.2.2.2.2.2.2.2.2.2.2.2.1 bt172.2.2.2.2.2.2.2.2.2.2.2.2.2.2.2.1 bt172.2.2.2.2.2.2.2.2.2.2.2.2.2.2.2.2.1 bt172.2.2.2.2.2.2.2.2.2.2.2.2.2.2.2.2.2.1 bt172.2.2.2.2.2.2.2.2.2.2.2.2.2.2.2.2.2.2.1 bt172.2.2.2.2.2.2.2.2.2.2.2.2.2.2.2.2.2.2.2.1 bt172.2.2.2.2.2.2.2.2.2.2.2.2.2.2.2.2.2.2.2.2.1 bt172.2.2.2.2.2.2.2.2.2.2.2.2.2.2.2.2.2.2.2.2.2.1 bt172.2.2.2.2.2.2.2.2.2.2.2.2.2.2.2.2.2.2.2.2.2.2.1 bt172.2.2.2.2.2.2.2.2.2.2.2.2.2.2.2.2.2.2.2.2.2.2.2.1 bt172.2.2.2.2.2.2.2.2.2.2.2.2.2.2.2.2.2.2.2.2.2.2.2.2 t157 t158 t159 t160 t161 t162 true).bind fun bt197 => ((bursarlaw26_some.f (⟨#[48, 49, 48, 48, 48, 48]⟩ : ByteArray) 40 0).bind fun bt212 => ((dispute_Decide.f k bt212.1 bt212.2.1 bt212.2.2.1 bt212.2.2.2.1 bt212.2.2.2.2.1 bt212.2.2.2.2.2.1 bt212.2.2.2.2.2.2.1 bt212.2.2.2.2.2.2.2.1 bt212.2.2.2.2.2.2.2.2.1 bt212.2.2.2.2.2.2.2.2.2.1 bt212.2.2.2.2.2.2.2.2.2.2.1 bt212.2.2.2.2.2.2.2.2.2.2.2.1 bt212.2.2.2.2.2.2.2.2.2.2.2.2.1 bt212.2.2.2.2.2.2.2.2.2.2.2.2.2.1 bt212.2.2.2.2.2.2.2.2.2.2.2.2.2.2.1 bt212.2.2.2.2.2.2.2.2.2.2.2.2.2.2.2.1 bt212.2.2.2.2.2.2.2.2.2.2.2.2.2.2.2.2.1 bt212.2.2.2.2.2.2.2.2.2.2.2.2.2.2.2.2.2.1 bt212.2.2.2.2.2.2.2.2.2.2.2.2.2.2.2.2.2.2.1 bt212.2.2.2.2.2.2.2.2.2.2.2.2.2.2.2.2.2.2.2.1 bt212.2.2.2.2.2.2.2.2.2.2.2.2.2.2.2.2.2.2.2.2.1 bt212.2.2.2.2.2.2.2.2.2.2.2.2.2.2.2.2.2.2.2.2.2.1 bt212.2.2.2.2.2.2.2.2.2.2.2.2.2.2.2.2.2.2.2.2.2.2.1 bt212.2.2.2.2.2.2.2.2.2.2.2.2.2.2.2.2.2.2.2.2.2.2.2.1 bt212.2.2.2.2.2.2.2.2.2.2.2.2.2.2.2.2.2.2.2.2.2.2.2.2 t157 t158 t159 t160 t161 t162 true).bind fun bt237 => ((bursarlaw26_some.f (⟨#[48, 49, 48, 48, 48, 48]⟩ : ByteArray) 50 201).bind fun bt252 => ((dispute_Decide.f k bt252.1 bt252.2.1 bt252.2.2.1 bt252.2.2.2.1 bt252.2.2.2.2.1 bt252.2.2.2.2.2.1 bt252.2.2.2.2.2.2.1 bt252.2.2.2.2.2.2.2.1 bt252.2.2.2.2.2.2.2.2.1 bt252.2.2.2.2.2.2.2.2.2.1 bt252.2.2.2.2.2.2.2.2.2.2.1 bt252.2.2.2.2.2.2.2.2.2.2.2.1 bt252.2.2.2.2.2.2.2.2.2.2.2.2.1 bt252.2.2.2.2.2.2.2.2.2.2.2.2.2.1 bt252.2.2.2.2.2.2.2.2.2.2.2.2.2.2.1 bt252.2.2.2.2.2.2.2.2.2.2.2.2.2.2.2.1 bt252.2.2.2.2.2.2.2.2.2.2.2.2.2.2.2.2.1 bt252.2.2.2.2.2.2.2.2.2.2.2.2.2.2.2.2.2.1 bt252.2.2.2.2.2.2.2.2.2.2.2.2.2.2.2.2.2.2.1 bt252.2.2.2.2.2.2.2.2.2.2.2.2.2.2.2.2.2.2.2.1 bt252.2.2.2.2.2.2.2.2.2.2.2.2.2.2.2.2.2.2.2.2.1 bt252.2.2.2.2.2.2.2.2.2.2.2.2.2.2.2.2.2.2.2.2.2.1 bt252.2.2.2.2.2.2.2.2.2.2.2.2.2.2.2.2.2.2.2.2.2.2.1 bt252.2.2.2.2.2.2.2.2.2.2.2.2.2.2.2.2.2.2.2.2.2.2.2.1 bt252.2.2.2.2.2.2.2.2.2.2.2.2.2.2.2.2.2.2.2.2.2.2.2.2 t157 t158 t159 t160 t161 t162 true).bind fun bt277 => (if t160 = 1 then (if t163 = 3 then (if t169.toList = ([48, 48] : List UInt8) then (if bt197.2.2.2.1 = 2 then (if bt197.2.2.2.2.2.2.2.2.2.2.2.2.toList = ([48, 48] : List UInt8) then (if bt237.2.2.2.2.2.2.2.2.2.2.2.2.toList = ([54, 49] : List UInt8) then (if bt277.2.2.2.2.2.2.2.2.2.2.2.2.toList = ([53, 52] : List UInt8) then (some true) else (none)) else (none)) else (none)) else (none)) else (none)) else (none)) else (none)))))))) = some r := H
 have A2 := Aside0.mk A20
 clear A20
 replace H := Option.bind_eq_some_iff.mp H
 obtain ⟨⟨t172, t173, t174, t175, t176, t177, t178, t179, t180, t181, t182, t183, t184, t185, t186, t187, t188, t189, t190, t191, t192, t193, t194, t195, t196⟩, A30, H⟩ := H
 replace H : ((dispute_Decide.f k t172 t173 t174 t175 t176 t177 t178 t179 t180 t181 t182 t183 t184 t185 t186 t187 t188 t189 t190 t191 t192 t193 t194 t195 t196 t157 t158 t159 t160 t161 t162 true).bind fun bt197 => ((bursarlaw26_some.f (⟨#[48, 49, 48, 48, 48, 48]⟩ : ByteArray) 40 0).bind fun bt212 => ((dispute_Decide.f k bt212.1 bt212.2.1 bt212.2.2.1 bt212.2.2.2.1 bt212.2.2.2.2.1 bt212.2.2.2.2.2.1 bt212.2.2.2.2.2.2.1 bt212.2.2.2.2.2.2.2.1 bt212.2.2.2.2.2.2.2.2.1 bt212.2.2.2.2.2.2.2.2.2.1 bt212.2.2.2.2.2.2.2.2.2.2.1 bt212.2.2.2.2.2.2.2.2.2.2.2.1 bt212.2.2.2.2.2.2.2.2.2.2.2.2.1 bt212.2.2.2.2.2.2.2.2.2.2.2.2.2.1 bt212.2.2.2.2.2.2.2.2.2.2.2.2.2.2.1 bt212.2.2.2.2.2.2.2.2.2.2.2.2.2.2.2.1 bt212.2.2.2.2.2.2.2.2.2.2.2.2.2.2.2.2.1 bt212.2.2.2.2.2.2.2.2.2.2.2.2.2.2.2.2.2.1 bt212.2.2.2.2.2.2.2.2.2.2.2.2.2.2.2.2.2.2.1 bt212.2.2.2.2.2.2.2.2.2.2.2.2.2.2.2.2.2.2.2.1 bt212.2.2.2.2.2.2.2.2.2.2.2.2.2.2.2.2.2.2.2.2.1 bt212.2.2.2.2.2.2.2.2.2.2.2.2.2.2.2.2.2.2.2.2.2.1 bt212.2.2.2.2.2.2.2.2.2.2.2.2.2.2.2.2.2.2.2.2.2.2.1 bt212.2.2.2.2.2.2.2.2.2.2.2.2.2.2.2.2.2.2.2.2.2.2.2.1 bt212.2.2.2.2.2.2.2.2.2.2.2.2.2.2.2.2.2.2.2.2.2.2.2.2 t157 t158 t159 t160 t161 t162 true).bind fun bt237 => ((bursarlaw26_some.f (⟨#[48, 49, 48, 48, 48, 48]⟩ : ByteArray) 50 201).bind fun bt252 => ((dispute_Decide.f k bt252.1 bt252.2.1 bt252.2.2.1 bt252.2.2.2.1 bt252.2.2.2.2.1 bt252.2.2.2.2.2.1 bt252.2.2.2.2.2.2.1 bt252.2.2.2.2.2.2.2.1 bt252.2.2.2.2.2.2.2.2.1 bt252.2.2.2.2.2.2.2.2.2.1 bt252.2.2.2.2.2.2.2.2.2.2.1 bt252.2.2.2.2.2.2.2.2.2.2.2.1 bt252.2.2.2.2.2.2.2.2.2.2.2.2.1 bt252.2.2.2.2.2.2.2.2.2.2.2.2.2.1 bt252.2.2.2.2.2.2.2.2.2.2.2.2.2.2.1 bt252.2.2.2.2.2.2.2.2.2.2.2.2.2.2.2.1 bt252.2.2.2.2.2.2.2.2.2.2.2.2.2.2.2.2.1 bt252.2.2.2.2.2.2.2.2.2.2.2.2.2.2.2.2.2.1 bt252.2.2.2.2.2.2.2.2.2.2.2.2.2.2.2.2.2.2.1 bt252.2.2.2.2.2.2.2.2.2.2.2.2.2.2.2.2.2.2.2.1 bt252.2.2.2.2.2.2.2.2.2.2.2.2.2.2.2.2.2.2.2.2.1 bt252.2.2.2.2.2.2.2.2.2.2.2.2.2.2.2.2.2.2.2.2.2.1 bt252.2.2.2.2.2.2.2.2.2.2.2.2.2.2.2.2.2.2.2.2.2.2.1 bt252.2.2.2.2.2.2.2.2.2.2.2.2.2.2.2.2.2.2.2.2.2.2.2.1 bt252.2.2.2.2.2.2.2.2.2.2.2.2.2.2.2.2.2.2.2.2.2.2.2.2 t157 t158 t159 t160 t161 t162 true).bind fun bt277 => (if t160 = 1 then (if t163 = 3 then (if t169.toList = ([48, 48] : List UInt8) then (if bt197.2.2.2.1 = 2 then (if bt197.2.2.2.2.2.2.2.2.2.2.2.2.toList = ([48, 48] : List UInt8) then (if bt237.2.2.2.2.2.2.2.2.2.2.2.2.toList = ([54, 49] : List UInt8) then (if bt277.2.2.2.2.2.2.2.2.2.2.2.2.toList = ([53, 52] : List UInt8) then (some true) else (none)) else (none)) else (none)) else (none)) else (none)) else (none)) else (none))))))) = some r := H
 have A3 := Aside0.mk A30
 clear A30
 replace H := Option.bind_eq_some_iff.mp H
 obtain ⟨⟨t197, t198, t199, t200, t201, t202, t203, t204, t205, t206, t207, t208, t209⟩, A40, H⟩ := H
 replace H : ((bursarlaw26_some.f (⟨#[48, 49, 48, 48, 48, 48]⟩ : ByteArray) 40 0).bind fun bt212 => ((dispute_Decide.f k bt212.1 bt212.2.1 bt212.2.2.1 bt212.2.2.2.1 bt212.2.2.2.2.1 bt212.2.2.2.2.2.1 bt212.2.2.2.2.2.2.1 bt212.2.2.2.2.2.2.2.1 bt212.2.2.2.2.2.2.2.2.1 bt212.2.2.2.2.2.2.2.2.2.1 bt212.2.2.2.2.2.2.2.2.2.2.1 bt212.2.2.2.2.2.2.2.2.2.2.2.1 bt212.2.2.2.2.2.2.2.2.2.2.2.2.1 bt212.2.2.2.2.2.2.2.2.2.2.2.2.2.1 bt212.2.2.2.2.2.2.2.2.2.2.2.2.2.2.1 bt212.2.2.2.2.2.2.2.2.2.2.2.2.2.2.2.1 bt212.2.2.2.2.2.2.2.2.2.2.2.2.2.2.2.2.1 bt212.2.2.2.2.2.2.2.2.2.2.2.2.2.2.2.2.2.1 bt212.2.2.2.2.2.2.2.2.2.2.2.2.2.2.2.2.2.2.1 bt212.2.2.2.2.2.2.2.2.2.2.2.2.2.2.2.2.2.2.2.1 bt212.2.2.2.2.2.2.2.2.2.2.2.2.2.2.2.2.2.2.2.2.1 bt212.2.2.2.2.2.2.2.2.2.2.2.2.2.2.2.2.2.2.2.2.2.1 bt212.2.2.2.2.2.2.2.2.2.2.2.2.2.2.2.2.2.2.2.2.2.2.1 bt212.2.2.2.2.2.2.2.2.2.2.2.2.2.2.2.2.2.2.2.2.2.2.2.1 bt212.2.2.2.2.2.2.2.2.2.2.2.2.2.2.2.2.2.2.2.2.2.2.2.2 t157 t158 t159 t160 t161 t162 true).bind fun bt237 => ((bursarlaw26_some.f (⟨#[48, 49, 48, 48, 48, 48]⟩ : ByteArray) 50 201).bind fun bt252 => ((dispute_Decide.f k bt252.1 bt252.2.1 bt252.2.2.1 bt252.2.2.2.1 bt252.2.2.2.2.1 bt252.2.2.2.2.2.1 bt252.2.2.2.2.2.2.1 bt252.2.2.2.2.2.2.2.1 bt252.2.2.2.2.2.2.2.2.1 bt252.2.2.2.2.2.2.2.2.2.1 bt252.2.2.2.2.2.2.2.2.2.2.1 bt252.2.2.2.2.2.2.2.2.2.2.2.1 bt252.2.2.2.2.2.2.2.2.2.2.2.2.1 bt252.2.2.2.2.2.2.2.2.2.2.2.2.2.1 bt252.2.2.2.2.2.2.2.2.2.2.2.2.2.2.1 bt252.2.2.2.2.2.2.2.2.2.2.2.2.2.2.2.1 bt252.2.2.2.2.2.2.2.2.2.2.2.2.2.2.2.2.1 bt252.2.2.2.2.2.2.2.2.2.2.2.2.2.2.2.2.2.1 bt252.2.2.2.2.2.2.2.2.2.2.2.2.2.2.2.2.2.2.1 bt252.2.2.2.2.2.2.2.2.2.2.2.2.2.2.2.2.2.2.2.1 bt252.2.2.2.2.2.2.2.2.2.2.2.2.2.2.2.2.2.2.2.2.1 bt252.2.2.2.2.2.2.2.2.2.2.2.2.2.2.2.2.2.2.2.2.2.1 bt252.2.2.2.2.2.2.2.2.2.2.2.2.2.2.2.2.2.2.2.2.2.2.1 bt252.2.2.2.2.2.2.2.2.2.2.2.2.2.2.2.2.2.2.2.2.2.2.2.1 bt252.2.2.2.2.2.2.2.2.2.2.2.2.2.2.2.2.2.2.2.2.2.2.2.2 t157 t158 t159 t160 t161 t162 true).bind fun bt277 => (if t160 = 1 then (if t163 = 3 then (if t169.toList = ([48, 48] : List UInt8) then (if t200 = 2 then (if t209.toList = ([48, 48] : List UInt8) then (if bt237.2.2.2.2.2.2.2.2.2.2.2.2.toList = ([54, 49] : List UInt8) then (if bt277.2.2.2.2.2.2.2.2.2.2.2.2.toList = ([53, 52] : List UInt8) then (some true) else (none)) else (none)) else (none)) else (none)) else (none)) else (none)) else (none)))))) = some r := H
 have A4 := Aside0.mk A40
 clear A40
 replace H := Option.bind_eq_some_iff.mp H
 obtain ⟨⟨t212, t213, t214, t215, t216, t217, t218, t219, t220, t221, t222, t223, t224, t225, t226, t227, t228, t229, t230, t231, t232, t233, t234, t235, t236⟩, A50, H⟩ := H
 replace H : ((dispute_Decide.f k t212 t213 t214 t215 t216 t217 t218 t219 t220 t221 t222 t223 t224 t225 t226 t227 t228 t229 t230 t231 t232 t233 t234 t235 t236 t157 t158 t159 t160 t161 t162 true).bind fun bt237 => ((bursarlaw26_some.f (⟨#[48, 49, 48, 48, 48, 48]⟩ : ByteArray) 50 201).bind fun bt252 => ((dispute_Decide.f k bt252.1 bt252.2.1 bt252.2.2.1 bt252.2.2.2.1 bt252.2.2.2.2.1 bt252.2.2.2.2.2.1 bt252.2.2.2.2.2.2.1 bt252.2.2.2.2.2.2.2.1 bt252.2.2.2.2.2.2.2.2.1 bt252.2.2.2.2.2.2.2.2.2.1 bt252.2.2.2.2.2.2.2.2.2.2.1 bt252.2.2.2.2.2.2.2.2.2.2.2.1 bt252.2.2.2.2.2.2.2.2.2.2.2.2.1 bt252.2.2.2.2.2.2.2.2.2.2.2.2.2.1 bt252.2.2.2.2.2.2.2.2.2.2.2.2.2.2.1 bt252.2.2.2.2.2.2.2.2.2.2.2.2.2.2.2.1 bt252.2.2.2.2.2.2.2.2.2.2.2.2.2.2.2.2.1 bt252.2.2.2.2.2.2.2.2.2.2.2.2.2.2.2.2.2.1 bt252.2.2.2.2.2.2.2.2.2.2.2.2.2.2.2.2.2.2.1 bt252.2.2.2.2.2.2.2.2.2.2.2.2.2.2.2.2.2.2.2.1 bt252.2.2.2.2.2.2.2.2.2.2.2.2.2.2.2.2.2.2.2.2.1 bt252.2.2.2.2.2.2.2.2.2.2.2.2.2.2.2.2.2.2.2.2.2.1 bt252.2.2.2.2.2.2.2.2.2.2.2.2.2.2.2.2.2.2.2.2.2.2.1 bt252.2.2.2.2.2.2.2.2.2.2.2.2.2.2.2.2.2.2.2.2.2.2.2.1 bt252.2.2.2.2.2.2.2.2.2.2.2.2.2.2.2.2.2.2.2.2.2.2.2.2 t157 t158 t159 t160 t161 t162 true).bind fun bt277 => (if t160 = 1 then (if t163 = 3 then (if t169.toList = ([48, 48] : List UInt8) then (if t200 = 2 then (if t209.toList = ([48, 48] : List UInt8) then (if bt237.2.2.2.2.2.2.2.2.2.2.2.2.toList = ([54, 49] : List UInt8) then (if bt277.2.2.2.2.2.2.2.2.2.2.2.2.toList = ([53, 52] : List UInt8) then (some true) else (none)) else (none)) else (none)) else (none)) else (none)) else (none)) else (none))))) = some r := H
 have A5 := Aside0.mk A50
 clear A50
 replace H := Option.bind_eq_some_iff.mp H
 obtain ⟨⟨t237, t238, t239, t240, t241, t242, t243, t244, t245, t246, t247, t248, t249⟩, A60, H⟩ := H
 replace H : ((bursarlaw26_some.f (⟨#[48, 49, 48, 48, 48, 48]⟩ : ByteArray) 50 201).bind fun bt252 => ((dispute_Decide.f k bt252.1 bt252.2.1 bt252.2.2.1 bt252.2.2.2.1 bt252.2.2.2.2.1 bt252.2.2.2.2.2.1 bt252.2.2.2.2.2.2.1 bt252.2.2.2.2.2.2.2.1 bt252.2.2.2.2.2.2.2.2.1 bt252.2.2.2.2.2.2.2.2.2.1 bt252.2.2.2.2.2.2.2.2.2.2.1 bt252.2.2.2.2.2.2.2.2.2.2.2.1 bt252.2.2.2.2.2.2.2.2.2.2.2.2.1 bt252.2.2.2.2.2.2.2.2.2.2.2.2.2.1 bt252.2.2.2.2.2.2.2.2.2.2.2.2.2.2.1 bt252.2.2.2.2.2.2.2.2.2.2.2.2.2.2.2.1 bt252.2.2.2.2.2.2.2.2.2.2.2.2.2.2.2.2.1 bt252.2.2.2.2.2.2.2.2.2.2.2.2.2.2.2.2.2.1 bt252.2.2.2.2.2.2.2.2.2.2.2.2.2.2.2.2.2.2.1 bt252.2.2.2.2.2.2.2.2.2.2.2.2.2.2.2.2.2.2.2.1 bt252.2.2.2.2.2.2.2.2.2.2.2.2.2.2.2.2.2.2.2.2.1 bt252.2.2.2.2.2.2.2.2.2.2.2.2.2.2.2.2.2.2.2.2.2.1 bt252.2.2.2.2.2.2.2.2.2.2.2.2.2.2.2.2.2.2.2.2.2.2.1 bt252.2.2.2.2.2.2.2.2.2.2.2.2.2.2.2.2.2.2.2.2.2.2.2.1 bt252.2.2.2.2.2.2.2.2.2.2.2.2.2.2.2.2.2.2.2.2.2.2.2.2 t157 t158 t159 t160 t161 t162 true).bind fun bt277 => (if t160 = 1 then (if t163 = 3 then (if t169.toList = ([48, 48] : List UInt8) then (if t200 = 2 then (if t209.toList = ([48, 48] : List UInt8) then (if t249.toList = ([54, 49] : List UInt8) then (if bt277.2.2.2.2.2.2.2.2.2.2.2.2.toList = ([53, 52] : List UInt8) then (some true) else (none)) else (none)) else (none)) else (none)) else (none)) else (none)) else (none)))) = some r := H
 have A6 := Aside0.mk A60
 clear A60
 replace H := Option.bind_eq_some_iff.mp H
 obtain ⟨⟨t252, t253, t254, t255, t256, t257, t258, t259, t260, t261, t262, t263, t264, t265, t266, t267, t268, t269, t270, t271, t272, t273, t274, t275, t276⟩, A70, H⟩ := H
 replace H : ((dispute_Decide.f k t252 t253 t254 t255 t256 t257 t258 t259 t260 t261 t262 t263 t264 t265 t266 t267 t268 t269 t270 t271 t272 t273 t274 t275 t276 t157 t158 t159 t160 t161 t162 true).bind fun bt277 => (if t160 = 1 then (if t163 = 3 then (if t169.toList = ([48, 48] : List UInt8) then (if t200 = 2 then (if t209.toList = ([48, 48] : List UInt8) then (if t249.toList = ([54, 49] : List UInt8) then (if bt277.2.2.2.2.2.2.2.2.2.2.2.2.toList = ([53, 52] : List UInt8) then (some true) else (none)) else (none)) else (none)) else (none)) else (none)) else (none)) else (none))) = some r := H
 have A7 := Aside0.mk A70
 clear A70
 replace H := Option.bind_eq_some_iff.mp H
 obtain ⟨⟨t277, t278, t279, t280, t281, t282, t283, t284, t285, t286, t287, t288, t289⟩, A80, H⟩ := H
 replace H : (if t160 = 1 then (if t163 = 3 then (if t169.toList = ([48, 48] : List UInt8) then (if t200 = 2 then (if t209.toList = ([48, 48] : List UInt8) then (if t249.toList = ([54, 49] : List UInt8) then (if t289.toList = ([53, 52] : List UInt8) then (some true) else (none)) else (none)) else (none)) else (none)) else (none)) else (none)) else (none)) = some r := H
 have A8 := Aside0.mk A80
 clear A80
 by_cases c9 : t160 = 1
 ·rw [if_pos c9] at H
  have c9b0 : (t160 == 1) = true := beq_iff_eq.mpr c9
  have c9b1 : (t160 != 1) = false := bne_eq_false_iff_eq.mpr c9
  clear c9
  by_cases c10 : t163 = 3
  ·rw [if_pos c10] at H
   have c10b0 : (t163 == 3) = true := beq_iff_eq.mpr c10
   have c10b1 : (t163 != 3) = false := bne_eq_false_iff_eq.mpr c10
   clear c10
   by_cases c11 : t169.toList = ([48, 48] : List UInt8)
   ·rw [if_pos c11] at H
    have c11b0 : (t169.toList == ([48, 48] : List UInt8)) = true := beq_iff_eq.mpr c11
    have c11b1 : (t169.toList != ([48, 48] : List UInt8)) = false := bne_eq_false_iff_eq.mpr c11
    clear c11
    by_cases c12 : t200 = 2
    ·rw [if_pos c12] at H
     have c12b0 : (t200 == 2) = true := beq_iff_eq.mpr c12
     have c12b1 : (t200 != 2) = false := bne_eq_false_iff_eq.mpr c12
     clear c12
     by_cases c13 : t209.toList = ([48, 48] : List UInt8)
     ·rw [if_pos c13] at H
      have c13b0 : (t209.toList == ([48, 48] : List UInt8)) = true := beq_iff_eq.mpr c13
      have c13b1 : (t209.toList != ([48, 48] : List UInt8)) = false := bne_eq_false_iff_eq.mpr c13
      clear c13
      by_cases c14 : t249.toList = ([54, 49] : List UInt8)
      ·rw [if_pos c14] at H
       have c14b0 : (t249.toList == ([54, 49] : List UInt8)) = true := beq_iff_eq.mpr c14
       have c14b1 : (t249.toList != ([54, 49] : List UInt8)) = false := bne_eq_false_iff_eq.mpr c14
       clear c14
       by_cases c15 : t289.toList = ([53, 52] : List UInt8)
       ·rw [if_pos c15] at H
        have c15b0 : (t289.toList == ([53, 52] : List UInt8)) = true := beq_iff_eq.mpr c15
        have c15b1 : (t289.toList != ([53, 52] : List UInt8)) = false := bne_eq_false_iff_eq.mpr c15
        clear c15
        obtain rfl := Option.some.inj H
        go_enter Try.func7, Try.ntmps7
        obtain ⟨Q0, hQ0_⟩ : ∃ q_ : Array Value, q_ = (#[.string t132, .string t133, .string t134, .int .i64 t135, .string t136, .string t137, .string t138, .string t139, .string t140, .int .i64 t141, .int .i64 t142, .string t143, .bool t144, .int .i64 t145, .string t146, .string t147, .string t148, .int .i64 t149, .int .i64 t150, .int .i64 t151, .bool t152, .bool t153, .int .i64 t154, .int .i64 t155, .bool t156] : Array Value) := ⟨_, rfl⟩
        try rw [← hQ0_]
        have hQ0 := Aside0.mk hQ0_; have hq := Aside0.mk hQ0_; clear hQ0_
        try go_wp2_with (first | ((with_reducible refine gate_callee (f := 18) rfl ?_); refine goesL_ (some 14) rfl rfl Try.func18 (by kernel_rfl) rfl #[.string (⟨#[48, 48, 48, 48, 48, 48]⟩ : ByteArray), .int .i64 50, .int .i64 0] rfl (by (try simp only [List.map_toArray, List.map_cons, List.map_nil]); first | done | rfl | (simp only [hq.1]; done) | (simp only [hq.1]; rfl)) ?_; refine Calls.mono (calls_of_args (by first | ((try simp only [hq.1]) <;> rfl) | fail) (bursarlaw26_some.calls (⟨#[48, 48, 48, 48, 48, 48]⟩ : ByteArray) 50 0 t132 t133 t134 t135 t136 t137 t138 t139 t140 t141 t142 t143 t144 t145 t146 t147 t148 t149 t150 t151 t152 t153 t154 t155 t156 _ A1.out)) ?_; rintro e w16 ⟨he_, hb⟩; (try rw [← hQ0.out] at he_); subst he_; refine ⟨_, rfl, ?_⟩; replace HO := Aside0.mk (Ow.Own.call HO.out hb); clear hb) | ((with_reducible refine gate_callee (f := 8) rfl ?_); refine goesL_ (some 16) rfl rfl Try.func8 (by kernel_rfl) rfl #[.agg Q0, .agg #[.string (⟨#[]⟩ : ByteArray), .string (⟨#[]⟩ : ByteArray), .string (⟨#[]⟩ : ByteArray), .int .i64 0, .int .i64 0, .int .i64 0], .bool false] rfl (by (try simp only [List.map_toArray, List.map_cons, List.map_nil]); first | done | rfl | (simp only [hq.1]; done) | (simp only [hq.1]; rfl)) ?_; refine Calls.mono (calls_of_args (by first | ((try simp only [hq.1]) <;> rfl) | fail) (dispute_Decide.calls k t132 t133 t134 t135 t136 t137 t138 t139 t140 t141 t142 t143 t144 t145 t146 t147 t148 t149 t150 t151 t152 t153 t154 t155 t156 (⟨#[]⟩ : ByteArray) (⟨#[]⟩ : ByteArray) (⟨#[]⟩ : ByteArray) 0 0 0 false t157 t158 t159 t160 t161 t162 t163 t164 t165 t166 t167 t168 t169 _ A2.out)) ?_; rintro e w17 ⟨he_, hb⟩; subst he_; refine ⟨_, rfl, ?_⟩; replace HO := Aside0.mk (Ow.Own.call HO.out hb); clear hb) | ((with_reducible refine gate_dst (N := 1) rfl ?_); refine Ow.box rfl (N := 1) rfl (cs := bursarlaw26_awake.Z6) (t := 33) HO.out (by first | (go_simp; done) | (go_simp; rfl)) ?_; clear HO; intro gb170 w18 HO; simp only [List.cons_append, List.nil_append] at HO) | ((with_reducible refine gate_dst (N := 2) rfl ?_); refine Ow.box rfl (N := 2) rfl (cs := bursarlaw26_awake.Z6_1) (t := 37) HO.out (by first | (go_simp; done) | (go_simp; rfl)) ?_; clear HO; intro gb171 w19 HO; simp only [List.cons_append, List.nil_append] at HO) | ((with_reducible refine Ow.gate_build rfl ?_); (try (refine gate_guard (by rfl) ?_; dsimp only)); refine' Ow.tbuild Ot.bd rfl rfl rfl ?hf_ ?_; (case hf_ => repeat (any_goals (first | exact Ow.Fills.nil | (refine' Ow.Fills.c ?hv_ rfl ?hz_ ?_; (case hv_ => first | exact Ow.ev_tmp rfl | rfl); (case hz_ => first | (refine ⟨?_, ?_⟩ <;> (first | ((try simp only [hq.1]) <;> rfl) | fail)) | fail)))))) | ((with_reducible refine Ow.gate_load rfl ?_); (try (refine gate_guard (by rfl) ?_; dsimp only)); (first | refine Ow.l1 Ot.ty HO.out rfl rfl rfl rfl (by first | ((try simp only [hq.1]) <;> rfl) | fail) ?_ | refine Ow.l0 Ot.ty HO.out rfl rfl rfl rfl (by first | ((try simp only [hq.1]) <;> rfl) | fail) ?_ | refine Ow.lp Ot.ty HO.out rfl rfl rfl rfl (by first | ((try simp only [hq.1]) <;> rfl) | fail) ?_)) | ((with_reducible refine gate_store rfl ?_); (try (refine gate_guard (by rfl) ?_; dsimp only)); (first | refine Ow.s0 Ot.ty HO.out rfl rfl rfl rfl rfl (by first | exact Ow.ev_tmp rfl | rfl) (by first | (refine ⟨?_, ?_, ?_⟩ <;> (first | ((try simp only [hq.1]) <;> rfl) | fail)) | fail) ?_ | refine Ow.sp Ot.ty HO.out rfl rfl rfl rfl rfl (by first | exact Ow.ev_tmp rfl | rfl) (by first | (refine ⟨?_, ?_, ?_⟩ <;> (first | ((try simp only [hq.1]) <;> rfl) | fail)) | fail) ?_); clear HO; intro wz_ HO; simp only [List.set_cons_zero, List.set_cons_succ] at HO))
        refine Ow.ostart (n := 12) (ds := []) (Ow.B 12 0) HO.out (by kernel_rfl) rfl (by kernel_rfl) ?_
        intro hHeld; replace HO := Aside0.mk hHeld; refine with_tabW bursarlaw26_awake.tab2 bursarlaw26_awake.bits2 (fun HT_ HW_ => ?_)
        refine take_ (i := 1) (N := some 22) (v := ?_) (a' := ?_) (Ow.B 12 2) rfl rfl (take_ofW HT_.out HW_.out (by kernel_rfl)) (fun _ _ _ h => h) (Or.inl ⟨by rfl, ?_⟩) hHeld ?_ ?_
        rotate_left
        ·intro w' s_
         first | refine Ow.r1 Ot.ty s_ rfl rfl rfl (by first | ((try simp only [hq.1]) <;> rfl) | fail) | (refine' Ow.r0 Ot.ty s_ rfl rfl rfl ?h; (case h => first | ((try simp only [hq.1]) <;> rfl) | fail)) | (refine' Ow.rp Ot.ty s_ rfl rfl rfl ?h; (case h => first | ((try simp only [hq.1]) <;> rfl) | fail)) | (go_simp; with_reducible rfl)
        rotate_left
        ·simp only [Act.put, List.setIfInBounds_toArray, List.set_cons_zero, List.set_cons_succ, i64_w, i32_w]
         rfl
        obtain ⟨Q1, hQ1_⟩ : ∃ q_ : Array Value, q_ = (#[.string t157, .string t158, .string t159, .int .i64 t160, .int .i64 t161, .int .i64 t162] : Array Value) := ⟨_, rfl⟩
        try rw [← hQ1_]
        have hQ1 := Aside0.mk hQ1_; replace hq := Aside0.mk (And.intro hQ1_ hq.1); clear hQ1_
        obtain ⟨Q2, hQ2_⟩ : ∃ q_ : Array Value, q_ = (#[.int .i64 t163, .int .i64 t164, .string t165, .string t166, .string t167, .int .i64 t168] : Array Value) := ⟨_, rfl⟩
        try rw [← hQ2_]
        have hQ2 := Aside0.mk hQ2_; replace hq := Aside0.mk (And.intro hQ2_ hq.1); clear hQ2_
        refine join_ (σ := Nat × Nat) 3 (Ow.B 12 511) (fun s_ => [(21, .agg #[.string t172, .string t173, .string t174, .int .i64 t175, .string t176, .string t177, .string t178, .string t179, .string t180, .int .i64 t181, .int .i64 t182, .string t183, .bool t184, .int .i64 t185, .string t186, .string t187, .string t188, .int .i64 t189, .int .i64 t190, .int .i64 t191, .bool t192, .bool t193, .int .i64 t194, .int .i64 t195, .bool t196]), (23, .tuple #[.agg #[.string t197, .string t198, .string t199, .int .i64 t200, .int .i64 t201, .int .i64 t202], .agg #[.int .i64 t203, .int .i64 t204, .string t205, .string t206, .string t207, .int .i64 t208], .string t209]), (4, .pointer (some ⟨s_.1, 0, none⟩)), (5, .pointer (some ⟨s_.2, 0, none⟩)), (20, .tuple #[.agg #[.string t197, .string t198, .string t199, .int .i64 t200, .int .i64 t201, .int .i64 t202], .agg #[.int .i64 t203, .int .i64 t204, .string t205, .string t206, .string t207, .int .i64 t208], .string t209]), (24, .agg #[.string t197, .string t198, .string t199, .int .i64 t200, .int .i64 t201, .int .i64 t202]), (25, .agg #[.int .i64 t203, .int .i64 t204, .string t205, .string t206, .string t207, .int .i64 t208]), (26, .string t209)]) (fun s_ w' => Ow.Own w w' [(gb170, Q1, 33), (gb171, Q2, 37), (s_.1, bursarlaw26_awake.Z6, 33), (s_.2, bursarlaw26_awake.Z6_1, 37)]) ?_ ?_
        rotate_left
        ·intro hJ0_2_7_8
         refine join_ (σ := Nat) 4 (Ow.B 12 255) (fun s_ => [(21, .agg #[.string t172, .string t173, .string t174, .int .i64 t175, .string t176, .string t177, .string t178, .string t179, .string t180, .int .i64 t181, .int .i64 t182, .string t183, .bool t184, .int .i64 t185, .string t186, .string t187, .string t188, .int .i64 t189, .int .i64 t190, .int .i64 t191, .bool t192, .bool t193, .int .i64 t194, .int .i64 t195, .bool t196]), (23, .tuple #[.agg #[.string t197, .string t198, .string t199, .int .i64 t200, .int .i64 t201, .int .i64 t202], .agg #[.int .i64 t203, .int .i64 t204, .string t205, .string t206, .string t207, .int .i64 t208], .string t209]), (4, .pointer (some ⟨s_, 0, none⟩)), (20, .tuple #[.agg #[.string t197, .string t198, .string t199, .int .i64 t200, .int .i64 t201, .int .i64 t202], .agg #[.int .i64 t203, .int .i64 t204, .string t205, .string t206, .string t207, .int .i64 t208], .string t209]), (24, .agg #[.string t197, .string t198, .string t199, .int .i64 t200, .int .i64 t201, .int .i64 t202]), (25, .agg #[.int .i64 t203, .int .i64 t204, .string t205, .string t206, .string t207, .int .i64 t208]), (26, .string t209)]) (fun s_ w' => Ow.Own w w' [(gb170, Q1, 33), (gb171, Q2, 37), (s_, bursarlaw26_awake.Z6, 33)]) ?_ ?_
         rotate_left
         ·intro hJ0_2_7
          refine join_ (σ := Nat) 4 (Ow.B 12 383) (fun s_ => [(21, .agg #[.string t172, .string t173, .string t174, .int .i64 t175, .string t176, .string t177, .string t178, .string t179, .string t180, .int .i64 t181, .int .i64 t182, .string t183, .bool t184, .int .i64 t185, .string t186, .string t187, .string t188, .int .i64 t189, .int .i64 t190, .int .i64 t191, .bool t192, .bool t193, .int .i64 t194, .int .i64 t195, .bool t196]), (23, .tuple #[.agg #[.string t197, .string t198, .string t199, .int .i64 t200, .int .i64 t201, .int .i64 t202], .agg #[.int .i64 t203, .int .i64 t204, .string t205, .string t206, .string t207, .int .i64 t208], .string t209]), (5, .pointer (some ⟨s_, 0, none⟩)), (20, .tuple #[.agg #[.string t197, .string t198, .string t199, .int .i64 t200, .int .i64 t201, .int .i64 t202], .agg #[.int .i64 t203, .int .i64 t204, .string t205, .string t206, .string t207, .int .i64 t208], .string t209]), (24, .agg #[.string t197, .string t198, .string t199, .int .i64 t200, .int .i64 t201, .int .i64 t202]), (25, .agg #[.int .i64 t203, .int .i64 t204, .string t205, .string t206, .string t207, .int .i64 t208]), (26, .string t209)]) (fun s_ w' => Ow.Own w w' [(gb170, Q1, 33), (gb171, Q2, 37), (s_, bursarlaw26_awake.Z6_1, 37)]) ?_ ?_
          rotate_left
          ·intro hJ0_2_8
           refine join_ (σ := Nat × Nat) 8 (Ow.B 12 387) (fun s_ => [(21, .agg #[.string t172, .string t173, .string t174, .int .i64 t175, .string t176, .string t177, .string t178, .string t179, .string t180, .int .i64 t181, .int .i64 t182, .string t183, .bool t184, .int .i64 t185, .string t186, .string t187, .string t188, .int .i64 t189, .int .i64 t190, .int .i64 t191, .bool t192, .bool t193, .int .i64 t194, .int .i64 t195, .bool t196]), (4, .pointer (some ⟨s_.1, 0, none⟩)), (5, .pointer (some ⟨s_.2, 0, none⟩))]) (fun s_ w' => Ow.Own w w' [(gb170, Q1, 33), (gb171, Q2, 37), (s_.1, bursarlaw26_awake.Z6, 33), (s_.2, bursarlaw26_awake.Z6_1, 37)]) ?_ ?_
           rotate_left
           ·intro hJ0_7_8
            refine join_ (σ := Unit) 5 (Ow.B 12 127) (fun s_ => [(21, .agg #[.string t172, .string t173, .string t174, .int .i64 t175, .string t176, .string t177, .string t178, .string t179, .string t180, .int .i64 t181, .int .i64 t182, .string t183, .bool t184, .int .i64 t185, .string t186, .string t187, .string t188, .int .i64 t189, .int .i64 t190, .int .i64 t191, .bool t192, .bool t193, .int .i64 t194, .int .i64 t195, .bool t196]), (23, .tuple #[.agg #[.string t197, .string t198, .string t199, .int .i64 t200, .int .i64 t201, .int .i64 t202], .agg #[.int .i64 t203, .int .i64 t204, .string t205, .string t206, .string t207, .int .i64 t208], .string t209]), (20, .tuple #[.agg #[.string t197, .string t198, .string t199, .int .i64 t200, .int .i64 t201, .int .i64 t202], .agg #[.int .i64 t203, .int .i64 t204, .string t205, .string t206, .string t207, .int .i64 t208], .string t209]), (24, .agg #[.string t197, .string t198, .string t199, .int .i64 t200, .int .i64 t201, .int .i64 t202]), (25, .agg #[.int .i64 t203, .int .i64 t204, .string t205, .string t206, .string t207, .int .i64 t208]), (26, .string t209)]) (fun s_ w' => Ow.Own w w' [(gb170, Q1, 33), (gb171, Q2, 37)]) ?_ ?_
            rotate_left
            ·intro hJ0_2
             refine join_ (σ := Nat) 9 (Ow.B 12 131) (fun s_ => [(21, .agg #[.string t172, .string t173, .string t174, .int .i64 t175, .string t176, .string t177, .string t178, .string t179, .string t180, .int .i64 t181, .int .i64 t182, .string t183, .bool t184, .int .i64 t185, .string t186, .string t187, .string t188, .int .i64 t189, .int .i64 t190, .int .i64 t191, .bool t192, .bool t193, .int .i64 t194, .int .i64 t195, .bool t196]), (4, .pointer (some ⟨s_, 0, none⟩))]) (fun s_ w' => Ow.Own w w' [(gb170, Q1, 33), (gb171, Q2, 37), (s_, bursarlaw26_awake.Z6, 33)]) ?_ ?_
             rotate_left
             ·intro hJ0_7
              refine join_ (σ := Nat) 9 (Ow.B 12 259) (fun s_ => [(21, .agg #[.string t172, .string t173, .string t174, .int .i64 t175, .string t176, .string t177, .string t178, .string t179, .string t180, .int .i64 t181, .int .i64 t182, .string t183, .bool t184, .int .i64 t185, .string t186, .string t187, .string t188, .int .i64 t189, .int .i64 t190, .int .i64 t191, .bool t192, .bool t193, .int .i64 t194, .int .i64 t195, .bool t196]), (5, .pointer (some ⟨s_, 0, none⟩))]) (fun s_ w' => Ow.Own w w' [(gb170, Q1, 33), (gb171, Q2, 37), (s_, bursarlaw26_awake.Z6_1, 37)]) ?_ ?_
              rotate_left
              ·intro hJ0_8
               refine join_ (σ := Nat × Nat) 9 (Ow.B 12 386) (fun s_ => [(4, .pointer (some ⟨s_.1, 0, none⟩)), (5, .pointer (some ⟨s_.2, 0, none⟩))]) (fun s_ w' => Ow.Own w w' [(gb170, Q1, 33), (gb171, Q2, 37), (s_.1, bursarlaw26_awake.Z6, 33), (s_.2, bursarlaw26_awake.Z6_1, 37)]) ?_ ?_
               rotate_left
               ·intro hJ7_8
                refine join_ (σ := Unit) 10 (Ow.B 12 3) (fun s_ => [(21, .agg #[.string t172, .string t173, .string t174, .int .i64 t175, .string t176, .string t177, .string t178, .string t179, .string t180, .int .i64 t181, .int .i64 t182, .string t183, .bool t184, .int .i64 t185, .string t186, .string t187, .string t188, .int .i64 t189, .int .i64 t190, .int .i64 t191, .bool t192, .bool t193, .int .i64 t194, .int .i64 t195, .bool t196])]) (fun s_ w' => Ow.Own w w' [(gb170, Q1, 33), (gb171, Q2, 37)]) ?_ ?_
                rotate_left
                ·intro hJ0
                 refine join_ (σ := Nat) 10 (Ow.B 12 130) (fun s_ => [(4, .pointer (some ⟨s_, 0, none⟩))]) (fun s_ w' => Ow.Own w w' [(gb170, Q1, 33), (gb171, Q2, 37), (s_, bursarlaw26_awake.Z6, 33)]) ?_ ?_
                 rotate_left
                 ·intro hJ7
                  refine join_ (σ := Nat) 10 (Ow.B 12 258) (fun s_ => [(5, .pointer (some ⟨s_, 0, none⟩))]) (fun s_ w' => Ow.Own w w' [(gb170, Q1, 33), (gb171, Q2, 37), (s_, bursarlaw26_awake.Z6_1, 37)]) ?_ ?_
                  rotate_left
                  ·intro hJ8
                   refine three_ (i := 0) (j := 7) (k := 8) (Ni := some 21) (Nj := some 4) (Nk := some 5) (Ow.B 12 3) (Ow.B 12 130) (Ow.B 12 258) rfl rfl rfl rfl rfl rfl (three_of HT_.out (by kernel_rfl)) (by decide) (by decide) (by decide) (fun K hK => ?_) (fun K hK => ?_) (fun K hK => ?_)
                   ·skip
                    refine goes_ Try.func18 (by kernel_rfl) rfl #[.string (⟨#[48, 49, 48, 48, 48, 48]⟩ : ByteArray), .int .i64 50, .int .i64 0] (by rfl) rfl rfl (by (try simp only [List.map_toArray, List.map_cons, List.map_nil]); first | done | rfl | (simp only [hq.1]; done) | (simp only [hq.1]; rfl) | (simp only [List.length_drop, List.length_take]; rfl)) ?_
                    obtain ⟨Q3, hQ3_⟩ : ∃ q_ : Array Value, q_ = (#[.string t172, .string t173, .string t174, .int .i64 t175, .string t176, .string t177, .string t178, .string t179, .string t180, .int .i64 t181, .int .i64 t182, .string t183, .bool t184, .int .i64 t185, .string t186, .string t187, .string t188, .int .i64 t189, .int .i64 t190, .int .i64 t191, .bool t192, .bool t193, .int .i64 t194, .int .i64 t195, .bool t196] : Array Value) := ⟨_, rfl⟩
                    try rw [← hQ3_]
                    have hQ3 := Aside0.mk hQ3_; replace hq := Aside0.mk (And.intro hQ3_ hq.1); clear hQ3_
                    refine Calls.mono (calls_of_args (by first | ((try simp only [hq.1]) <;> rfl) | fail) (bursarlaw26_some.calls (⟨#[48, 49, 48, 48, 48, 48]⟩ : ByteArray) 50 0 t172 t173 t174 t175 t176 t177 t178 t179 t180 t181 t182 t183 t184 t185 t186 t187 t188 t189 t190 t191 t192 t193 t194 t195 t196 _ A3.out)) ?_
                    rintro e w26 ⟨he_, hb⟩
                    (try rw [← hQ3.out] at he_)
                    subst he_
                    replace HO := Aside0.mk (Ow.Own.call HO.out hb)
                    clear hb
                    refine ⟨_, rfl, ?_⟩
                    refine hK.out _ _ (by first | exact HO.out | exact Ow.Own.cong HO.out (by first | ((try simp only [hq.1]) <;> rfl) | fail)) (fun hHeld => ?_)
                    clear hK K
                    refine norm_ (a' := ?_) ?_ ?_
                    rotate_left
                    ·show Act.put _ (some 21) _ = _
                     simp only [Act.put, List.setIfInBounds_toArray, List.set_cons_zero, List.set_cons_succ, i64_w, i32_w]
                     rfl
                    exact norm_ (by first | (simp only [putAll, Act.put, List.setIfInBounds_toArray, List.set_cons_zero, List.set_cons_succ]; done) | (simp only [putAll, Act.put, List.setIfInBounds_toArray, List.set_cons_zero, List.set_cons_succ]; rfl) | (simp only [hq.1, putAll, Act.put, List.setIfInBounds_toArray, List.set_cons_zero, List.set_cons_succ] <;> rfl)) (hJ0 () _ (Ow.Own.cong (Ow.Own.pick [0, 1] HO.out (by decide)) (by first | ((try simp only [hq.1]) <;> rfl) | fail)))
                   ·skip
                    refine box_step ?hg (N := 4) ?hd (cs := bursarlaw26_awake.Z6) (t := 33) ?hr ?_; (case hd => rfl); (case hg => rfl); (case hr => first | (go_simp; done) | (go_simp; rfl))
                    intro gb210 hg w26 hbox hb
                    replace HO := Aside0.mk (Ow.Own.add HO.out hg hbox hb)
                    clear hb hbox hg
                    simp only [List.cons_append, List.nil_append] at HO
                    refine hK.out _ _ (by have h_ := Ow.Own.pick [0, 1] HO.out (by decide); first | exact h_ | exact Ow.Own.cong h_ (by first | ((try simp only [hq.1]) <;> rfl) | fail)) (fun hHeld => ?_)
                    clear hK K
                    refine norm_ (a' := ?_) ?_ ?_
                    rotate_left
                    ·show Act.put _ (some 4) _ = _
                     simp only [Act.put, List.setIfInBounds_toArray, List.set_cons_zero, List.set_cons_succ, i64_w, i32_w]
                     rfl
                    exact norm_ (by first | (simp only [putAll, Act.put, List.setIfInBounds_toArray, List.set_cons_zero, List.set_cons_succ]; done) | (simp only [putAll, Act.put, List.setIfInBounds_toArray, List.set_cons_zero, List.set_cons_succ]; rfl) | (simp only [hq.1, putAll, Act.put, List.setIfInBounds_toArray, List.set_cons_zero, List.set_cons_succ] <;> rfl)) (hJ7 (gb210) _ (Ow.Own.cong (Ow.Own.pick [0, 1, 2] HO.out (by decide)) (by first | ((try simp only [hq.1]) <;> rfl) | fail)))
                   ·skip
                    refine box_step ?hg (N := 5) ?hd (cs := bursarlaw26_awake.Z6_1) (t := 37) ?hr ?_; (case hd => rfl); (case hg => rfl); (case hr => first | (go_simp; done) | (go_simp; rfl))
                    intro gb211 hg w26 hbox hb
                    replace HO := Aside0.mk (Ow.Own.add HO.out hg hbox hb)
                    clear hb hbox hg
                    simp only [List.cons_append, List.nil_append] at HO
                    refine hK.out _ _ (by have h_ := Ow.Own.pick [0, 1] HO.out (by decide); first | exact h_ | exact Ow.Own.cong h_ (by first | ((try simp only [hq.1]) <;> rfl) | fail)) (fun hHeld => ?_)
                    clear hK K
                    refine norm_ (a' := ?_) ?_ ?_
                    rotate_left
                    ·show Act.put _ (some 5) _ = _
                     simp only [Act.put, List.setIfInBounds_toArray, List.set_cons_zero, List.set_cons_succ, i64_w, i32_w]
                     rfl
                    exact norm_ (by first | (simp only [putAll, Act.put, List.setIfInBounds_toArray, List.set_cons_zero, List.set_cons_succ]; done) | (simp only [putAll, Act.put, List.setIfInBounds_toArray, List.set_cons_zero, List.set_cons_succ]; rfl) | (simp only [hq.1, putAll, Act.put, List.setIfInBounds_toArray, List.set_cons_zero, List.set_cons_succ] <;> rfl)) (hJ8 (gb211) _ (Ow.Own.cong (Ow.Own.pick [0, 1, 2] HO.out (by decide)) (by first | ((try simp only [hq.1]) <;> rfl) | fail)))
                  ·skip
                   rintro gb211 w27 HO7_
                   clear HO
                   have HO := Aside0.mk HO7_
                   clear HO7_
                   have hHeld := Ow.Own.pick [0, 1] HO.out (by decide)
                   refine norm_ (a' := ?_) ?_ ?_
                   rotate_left
                   ·simp only [putAll, Act.put, List.setIfInBounds_toArray, List.set_cons_zero, List.set_cons_succ]
                    rfl
                   refine two_ (i := 0) (j := 7) (Ni := some 21) (Nj := some 4) (Ow.B 12 259) (Ow.B 12 386) rfl rfl rfl rfl (two_of HT_.out (by kernel_rfl)) (by decide) (by decide) (fun K hK => ?_) (fun K hK => ?_)
                   ·skip
                    refine goes_ Try.func18 (by kernel_rfl) rfl #[.string (⟨#[48, 49, 48, 48, 48, 48]⟩ : ByteArray), .int .i64 50, .int .i64 0] (by rfl) rfl rfl (by (try simp only [List.map_toArray, List.map_cons, List.map_nil]); first | done | rfl | (simp only [hq.1]; done) | (simp only [hq.1]; rfl) | (simp only [List.length_drop, List.length_take]; rfl)) ?_
                    obtain ⟨Q4, hQ4_⟩ : ∃ q_ : Array Value, q_ = (#[.string t172, .string t173, .string t174, .int .i64 t175, .string t176, .string t177, .string t178, .string t179, .string t180, .int .i64 t181, .int .i64 t182, .string t183, .bool t184, .int .i64 t185, .string t186, .string t187, .string t188, .int .i64 t189, .int .i64 t190, .int .i64 t191, .bool t192, .bool t193, .int .i64 t194, .int .i64 t195, .bool t196] : Array Value) := ⟨_, rfl⟩
                    try rw [← hQ4_]
                    have hQ4 := Aside0.mk hQ4_; replace hq := Aside0.mk (And.intro hQ4_ hq.1); clear hQ4_
                    refine Calls.mono (calls_of_args (by first | ((try simp only [hq.1]) <;> rfl) | fail) (bursarlaw26_some.calls (⟨#[48, 49, 48, 48, 48, 48]⟩ : ByteArray) 50 0 t172 t173 t174 t175 t176 t177 t178 t179 t180 t181 t182 t183 t184 t185 t186 t187 t188 t189 t190 t191 t192 t193 t194 t195 t196 _ A3.out)) ?_
                    rintro e w28 ⟨he_, hb⟩
                    (try rw [← hQ4.out] at he_)
                    subst he_
                    replace HO := Aside0.mk (Ow.Own.call HO.out hb)
                    clear hb
                    refine ⟨_, rfl, ?_⟩
                    refine hK.out _ _ (by have h_ := Ow.Own.pick [0, 1] HO.out (by decide); first | exact h_ | exact Ow.Own.cong h_ (by first | ((try simp only [hq.1]) <;> rfl) | fail)) (fun hHeld => ?_)
                    clear hK K
                    refine norm_ (a' := ?_) ?_ ?_
                    rotate_left
                    ·show Act.put _ (some 21) _ = _
                     simp only [Act.put, List.setIfInBounds_toArray, List.set_cons_zero, List.set_cons_succ, i64_w, i32_w]
                     rfl
                    exact norm_ (by first | (simp only [putAll, Act.put, List.setIfInBounds_toArray, List.set_cons_zero, List.set_cons_succ]; done) | (simp only [putAll, Act.put, List.setIfInBounds_toArray, List.set_cons_zero, List.set_cons_succ]; rfl) | (simp only [hq.1, putAll, Act.put, List.setIfInBounds_toArray, List.set_cons_zero, List.set_cons_succ] <;> rfl)) (hJ0_8 (gb211) _ (Ow.Own.cong (Ow.Own.pick [0, 1, 2] HO.out (by decide)) (by first | ((try simp only [hq.1]) <;> rfl) | fail)))
                   ·skip
                    refine box_step ?hg (N := 4) ?hd (cs := bursarlaw26_awake.Z6) (t := 33) ?hr ?_; (case hd => rfl); (case hg => rfl); (case hr => first | (go_simp; done) | (go_simp; rfl))
                    intro gb210 hg w28 hbox hb
                    replace HO := Aside0.mk (Ow.Own.add HO.out hg hbox hb)
                    clear hb hbox hg
                    simp only [List.cons_append, List.nil_append] at HO
                    refine hK.out _ _ (by have h_ := Ow.Own.pick [0, 1] HO.out (by decide); first | exact h_ | exact Ow.Own.cong h_ (by first | ((try simp only [hq.1]) <;> rfl) | fail)) (fun hHeld => ?_)
                    clear hK K
                    refine norm_ (a' := ?_) ?_ ?_
                    rotate_left
                    ·show Act.put _ (some 4) _ = _
                     simp only [Act.put, List.setIfInBounds_toArray, List.set_cons_zero, List.set_cons_succ, i64_w, i32_w]
                     rfl
                    exact norm_ (by first | (simp only [putAll, Act.put, List.setIfInBounds_toArray, List.set_cons_zero, List.set_cons_succ]; done) | (simp only [putAll, Act.put, List.setIfInBounds_toArray, List.set_cons_zero, List.set_cons_succ]; rfl) | (simp only [hq.1, putAll, Act.put, List.setIfInBounds_toArray, List.set_cons_zero, List.set_cons_succ] <;> rfl)) (hJ7_8 (gb210, gb211) _ (Ow.Own.cong (Ow.Own.pick [0, 1, 3, 2] HO.out (by decide)) (by first | ((try simp only [hq.1]) <;> rfl) | fail)))
                 ·skip
                  rintro gb210 w27 HO7_
                  clear HO
                  have HO := Aside0.mk HO7_
                  clear HO7_
                  have hHeld := Ow.Own.pick [0, 1] HO.out (by decide)
                  refine norm_ (a' := ?_) ?_ ?_
                  rotate_left
                  ·simp only [putAll, Act.put, List.setIfInBounds_toArray, List.set_cons_zero, List.set_cons_succ]
                   rfl
                  refine two_ (i := 0) (j := 8) (Ni := some 21) (Nj := some 5) (Ow.B 12 131) (Ow.B 12 386) rfl rfl rfl rfl (two_of HT_.out (by kernel_rfl)) (by decide) (by decide) (fun K hK => ?_) (fun K hK => ?_)
                  ·skip
                   refine goes_ Try.func18 (by kernel_rfl) rfl #[.string (⟨#[48, 49, 48, 48, 48, 48]⟩ : ByteArray), .int .i64 50, .int .i64 0] (by rfl) rfl rfl (by (try simp only [List.map_toArray, List.map_cons, List.map_nil]); first | done | rfl | (simp only [hq.1]; done) | (simp only [hq.1]; rfl) | (simp only [List.length_drop, List.length_take]; rfl)) ?_
                   obtain ⟨Q5, hQ5_⟩ : ∃ q_ : Array Value, q_ = (#[.string t172, .string t173, .string t174, .int .i64 t175, .string t176, .string t177, .string t178, .string t179, .string t180, .int .i64 t181, .int .i64 t182, .string t183, .bool t184, .int .i64 t185, .string t186, .string t187, .string t188, .int .i64 t189, .int .i64 t190, .int .i64 t191, .bool t192, .bool t193, .int .i64 t194, .int .i64 t195, .bool t196] : Array Value) := ⟨_, rfl⟩
                   try rw [← hQ5_]
                   have hQ5 := Aside0.mk hQ5_; replace hq := Aside0.mk (And.intro hQ5_ hq.1); clear hQ5_
                   refine Calls.mono (calls_of_args (by first | ((try simp only [hq.1]) <;> rfl) | fail) (bursarlaw26_some.calls (⟨#[48, 49, 48, 48, 48, 48]⟩ : ByteArray) 50 0 t172 t173 t174 t175 t176 t177 t178 t179 t180 t181 t182 t183 t184 t185 t186 t187 t188 t189 t190 t191 t192 t193 t194 t195 t196 _ A3.out)) ?_
                   rintro e w28 ⟨he_, hb⟩
                   (try rw [← hQ5.out] at he_)
                   subst he_
                   replace HO := Aside0.mk (Ow.Own.call HO.out hb)
                   clear hb
                   refine ⟨_, rfl, ?_⟩
                   refine hK.out _ _ (by have h_ := Ow.Own.pick [0, 1] HO.out (by decide); first | exact h_ | exact Ow.Own.cong h_ (by first | ((try simp only [hq.1]) <;> rfl) | fail)) (fun hHeld => ?_)
                   clear hK K
                   refine norm_ (a' := ?_) ?_ ?_
                   rotate_left
                   ·show Act.put _ (some 21) _ = _
                    simp only [Act.put, List.setIfInBounds_toArray, List.set_cons_zero, List.set_cons_succ, i64_w, i32_w]
                    rfl
                   exact norm_ (by first | (simp only [putAll, Act.put, List.setIfInBounds_toArray, List.set_cons_zero, List.set_cons_succ]; done) | (simp only [putAll, Act.put, List.setIfInBounds_toArray, List.set_cons_zero, List.set_cons_succ]; rfl) | (simp only [hq.1, putAll, Act.put, List.setIfInBounds_toArray, List.set_cons_zero, List.set_cons_succ] <;> rfl)) (hJ0_7 (gb210) _ (Ow.Own.cong (Ow.Own.pick [0, 1, 2] HO.out (by decide)) (by first | ((try simp only [hq.1]) <;> rfl) | fail)))
                  ·skip
                   refine box_step ?hg (N := 5) ?hd (cs := bursarlaw26_awake.Z6_1) (t := 37) ?hr ?_; (case hd => rfl); (case hg => rfl); (case hr => first | (go_simp; done) | (go_simp; rfl))
                   intro gb211 hg w28 hbox hb
                   replace HO := Aside0.mk (Ow.Own.add HO.out hg hbox hb)
                   clear hb hbox hg
                   simp only [List.cons_append, List.nil_append] at HO
                   refine hK.out _ _ (by have h_ := Ow.Own.pick [0, 1] HO.out (by decide); first | exact h_ | exact Ow.Own.cong h_ (by first | ((try simp only [hq.1]) <;> rfl) | fail)) (fun hHeld => ?_)
                   clear hK K
                   refine norm_ (a' := ?_) ?_ ?_
                   rotate_left
                   ·show Act.put _ (some 5) _ = _
                    simp only [Act.put, List.setIfInBounds_toArray, List.set_cons_zero, List.set_cons_succ, i64_w, i32_w]
                    rfl
                   exact norm_ (by first | (simp only [putAll, Act.put, List.setIfInBounds_toArray, List.set_cons_zero, List.set_cons_succ]; done) | (simp only [putAll, Act.put, List.setIfInBounds_toArray, List.set_cons_zero, List.set_cons_succ]; rfl) | (simp only [hq.1, putAll, Act.put, List.setIfInBounds_toArray, List.set_cons_zero, List.set_cons_succ] <;> rfl)) (hJ7_8 (gb210, gb211) _ (Ow.Own.cong (Ow.Own.pick [0, 1, 2, 3] HO.out (by decide)) (by first | ((try simp only [hq.1]) <;> rfl) | fail)))
                ·skip
                 rintro _ w27 HO7_
                 clear HO
                 have HO := Aside0.mk HO7_
                 clear HO7_
                 have hHeld := Ow.Own.pick [0, 1] HO.out (by decide)
                 refine norm_ (a' := ?_) ?_ ?_
                 rotate_left
                 ·simp only [putAll, Act.put, List.setIfInBounds_toArray, List.set_cons_zero, List.set_cons_succ]
                  rfl
                 refine three_ (i := 2) (j := 7) (k := 8) (Ni := some 23) (Nj := some 4) (Nk := some 5) (Ow.B 12 7) (Ow.B 12 131) (Ow.B 12 259) rfl rfl rfl rfl rfl rfl (three_of HT_.out (by kernel_rfl)) (by decide) (by decide) (by decide) (fun K hK => ?_) (fun K hK => ?_) (fun K hK => ?_)
                 ·skip
                  obtain ⟨Q6, hQ6_⟩ : ∃ q_ : Array Value, q_ = (#[.string t172, .string t173, .string t174, .int .i64 t175, .string t176, .string t177, .string t178, .string t179, .string t180, .int .i64 t181, .int .i64 t182, .string t183, .bool t184, .int .i64 t185, .string t186, .string t187, .string t188, .int .i64 t189, .int .i64 t190, .int .i64 t191, .bool t192, .bool t193, .int .i64 t194, .int .i64 t195, .bool t196] : Array Value) := ⟨_, rfl⟩
                  try rw [← hQ6_]
                  have hQ6 := Aside0.mk hQ6_; replace hq := Aside0.mk (And.intro hQ6_ hq.1); clear hQ6_
                  refine goes_ Try.func8 (by kernel_rfl) rfl #[.agg Q6, .agg #[.string t157, .string t158, .string t159, .int .i64 t160, .int .i64 t161, .int .i64 t162], .bool true] (by rfl) rfl rfl (by (try simp only [List.map_toArray, List.map_cons, List.map_nil]); first | done | rfl | (simp only [hq.1]; done) | (simp only [hq.1]; rfl) | (simp only [List.length_drop, List.length_take]; rfl)) ?_
                  refine Calls.mono (calls_of_args (by first | ((try simp only [hq.1]) <;> rfl) | fail) (dispute_Decide.calls k t172 t173 t174 t175 t176 t177 t178 t179 t180 t181 t182 t183 t184 t185 t186 t187 t188 t189 t190 t191 t192 t193 t194 t195 t196 t157 t158 t159 t160 t161 t162 true t197 t198 t199 t200 t201 t202 t203 t204 t205 t206 t207 t208 t209 _ A4.out)) ?_
                  rintro e w28 ⟨he_, hb⟩
                  subst he_
                  replace HO := Aside0.mk (Ow.Own.call HO.out hb)
                  clear hb
                  refine ⟨_, rfl, ?_⟩
                  refine hK.out _ _ (by first | exact HO.out | exact Ow.Own.cong HO.out (by first | ((try simp only [hq.1]) <;> rfl) | fail)) (fun hHeld => ?_)
                  clear hK K
                  refine norm_ (a' := ?_) ?_ ?_
                  rotate_left
                  ·show Act.put _ (some 23) _ = _
                   simp only [Act.put, List.setIfInBounds_toArray, List.set_cons_zero, List.set_cons_succ, i64_w, i32_w]
                   rfl
                  refine' Ow.pu (i := 3) (N := some 20) (Ow.B 12 15) HT_.out ?hv_ ?ha_ ?_; (case hv_ => intro w'; go_simp; with_reducible rfl); (case ha_ => simp only [Ow.Sl, i64_w, i32_w]; rfl)
                  refine' Ow.pu (i := 4) (N := some 24) (Ow.B 12 31) HT_.out ?hv_ ?ha_ ?_; (case hv_ => intro w'; go_simp; with_reducible rfl); (case ha_ => simp only [Ow.Sl, i64_w, i32_w]; rfl)
                  refine' Ow.pu (i := 5) (N := some 25) (Ow.B 12 63) HT_.out ?hv_ ?ha_ ?_; (case hv_ => intro w'; go_simp; with_reducible rfl); (case ha_ => simp only [Ow.Sl, i64_w, i32_w]; rfl)
                  refine' Ow.pu (i := 6) (N := some 26) (Ow.B 12 127) HT_.out ?hv_ ?ha_ ?_; (case hv_ => intro w'; go_simp; with_reducible rfl); (case ha_ => simp only [Ow.Sl, i64_w, i32_w]; rfl)
                  exact norm_ (by first | (simp only [putAll, Act.put, List.setIfInBounds_toArray, List.set_cons_zero, List.set_cons_succ]; done) | (simp only [putAll, Act.put, List.setIfInBounds_toArray, List.set_cons_zero, List.set_cons_succ]; rfl) | (simp only [hq.1, putAll, Act.put, List.setIfInBounds_toArray, List.set_cons_zero, List.set_cons_succ] <;> rfl)) (hJ0_2 () _ (Ow.Own.cong (Ow.Own.pick [0, 1] HO.out (by decide)) (by first | ((try simp only [hq.1]) <;> rfl) | fail)))
                 ·skip
                  refine box_step ?hg (N := 4) ?hd (cs := bursarlaw26_awake.Z6) (t := 33) ?hr ?_; (case hd => rfl); (case hg => rfl); (case hr => first | (go_simp; done) | (go_simp; rfl))
                  intro gb210 hg w28 hbox hb
                  replace HO := Aside0.mk (Ow.Own.add HO.out hg hbox hb)
                  clear hb hbox hg
                  simp only [List.cons_append, List.nil_append] at HO
                  refine hK.out _ _ (by have h_ := Ow.Own.pick [0, 1] HO.out (by decide); first | exact h_ | exact Ow.Own.cong h_ (by first | ((try simp only [hq.1]) <;> rfl) | fail)) (fun hHeld => ?_)
                  clear hK K
                  refine norm_ (a' := ?_) ?_ ?_
                  rotate_left
                  ·show Act.put _ (some 4) _ = _
                   simp only [Act.put, List.setIfInBounds_toArray, List.set_cons_zero, List.set_cons_succ, i64_w, i32_w]
                   rfl
                  exact norm_ (by first | (simp only [putAll, Act.put, List.setIfInBounds_toArray, List.set_cons_zero, List.set_cons_succ]; done) | (simp only [putAll, Act.put, List.setIfInBounds_toArray, List.set_cons_zero, List.set_cons_succ]; rfl) | (simp only [hq.1, putAll, Act.put, List.setIfInBounds_toArray, List.set_cons_zero, List.set_cons_succ] <;> rfl)) (hJ0_7 (gb210) _ (Ow.Own.cong (Ow.Own.pick [0, 1, 2] HO.out (by decide)) (by first | ((try simp only [hq.1]) <;> rfl) | fail)))
                 ·skip
                  refine box_step ?hg (N := 5) ?hd (cs := bursarlaw26_awake.Z6_1) (t := 37) ?hr ?_; (case hd => rfl); (case hg => rfl); (case hr => first | (go_simp; done) | (go_simp; rfl))
                  intro gb211 hg w28 hbox hb
                  replace HO := Aside0.mk (Ow.Own.add HO.out hg hbox hb)
                  clear hb hbox hg
                  simp only [List.cons_append, List.nil_append] at HO
                  refine hK.out _ _ (by have h_ := Ow.Own.pick [0, 1] HO.out (by decide); first | exact h_ | exact Ow.Own.cong h_ (by first | ((try simp only [hq.1]) <;> rfl) | fail)) (fun hHeld => ?_)
                  clear hK K
                  refine norm_ (a' := ?_) ?_ ?_
                  rotate_left
                  ·show Act.put _ (some 5) _ = _
                   simp only [Act.put, List.setIfInBounds_toArray, List.set_cons_zero, List.set_cons_succ, i64_w, i32_w]
                   rfl
                  exact norm_ (by first | (simp only [putAll, Act.put, List.setIfInBounds_toArray, List.set_cons_zero, List.set_cons_succ]; done) | (simp only [putAll, Act.put, List.setIfInBounds_toArray, List.set_cons_zero, List.set_cons_succ]; rfl) | (simp only [hq.1, putAll, Act.put, List.setIfInBounds_toArray, List.set_cons_zero, List.set_cons_succ] <;> rfl)) (hJ0_8 (gb211) _ (Ow.Own.cong (Ow.Own.pick [0, 1, 2] HO.out (by decide)) (by first | ((try simp only [hq.1]) <;> rfl) | fail)))
               ·skip
                rintro ⟨gb210, gb211⟩ w28 HO7_
                clear HO
                have HO := Aside0.mk HO7_
                clear HO7_
                have hHeld := Ow.Own.pick [0, 1] HO.out (by decide)
                refine norm_ (a' := ?_) ?_ ?_
                rotate_left
                ·simp only [putAll, Act.put, List.setIfInBounds_toArray, List.set_cons_zero, List.set_cons_succ]
                 rfl
                refine one_ (i := 0) (N := some 21) (Ow.B 12 387) rfl rfl (one_of HT_.out (by kernel_rfl)) (by decide) (fun K hK => ?_)
                refine goes_ Try.func18 (by kernel_rfl) rfl #[.string (⟨#[48, 49, 48, 48, 48, 48]⟩ : ByteArray), .int .i64 50, .int .i64 0] (by rfl) rfl rfl (by (try simp only [List.map_toArray, List.map_cons, List.map_nil]); first | done | rfl | (simp only [hq.1]; done) | (simp only [hq.1]; rfl) | (simp only [List.length_drop, List.length_take]; rfl)) ?_
                obtain ⟨Q7, hQ7_⟩ : ∃ q_ : Array Value, q_ = (#[.string t172, .string t173, .string t174, .int .i64 t175, .string t176, .string t177, .string t178, .string t179, .string t180, .int .i64 t181, .int .i64 t182, .string t183, .bool t184, .int .i64 t185, .string t186, .string t187, .string t188, .int .i64 t189, .int .i64 t190, .int .i64 t191, .bool t192, .bool t193, .int .i64 t194, .int .i64 t195, .bool t196] : Array Value) := ⟨_, rfl⟩
                try rw [← hQ7_]
                have hQ7 := Aside0.mk hQ7_; replace hq := Aside0.mk (And.intro hQ7_ hq.1); clear hQ7_
                refine Calls.mono (calls_of_args (by first | ((try simp only [hq.1]) <;> rfl) | fail) (bursarlaw26_some.calls (⟨#[48, 49, 48, 48, 48, 48]⟩ : ByteArray) 50 0 t172 t173 t174 t175 t176 t177 t178 t179 t180 t181 t182 t183 t184 t185 t186 t187 t188 t189 t190 t191 t192 t193 t194 t195 t196 _ A3.out)) ?_
                rintro e w29 ⟨he_, hb⟩
                (try rw [← hQ7.out] at he_)
                subst he_
                replace HO := Aside0.mk (Ow.Own.call HO.out hb)
                clear hb
                refine ⟨_, rfl, ?_⟩
                refine hK.out _ _ (by have h_ := Ow.Own.pick [0, 1] HO.out (by decide); first | exact h_ | exact Ow.Own.cong h_ (by first | ((try simp only [hq.1]) <;> rfl) | fail)) (fun hHeld => ?_)
                clear hK K
                refine norm_ (a' := ?_) ?_ ?_
                rotate_left
                ·show Act.put _ (some 21) _ = _
                 simp only [Act.put, List.setIfInBounds_toArray, List.set_cons_zero, List.set_cons_succ, i64_w, i32_w]
                 rfl
                exact norm_ (by first | (simp only [putAll, Act.put, List.setIfInBounds_toArray, List.set_cons_zero, List.set_cons_succ]; done) | (simp only [putAll, Act.put, List.setIfInBounds_toArray, List.set_cons_zero, List.set_cons_succ]; rfl) | (simp only [hq.1, putAll, Act.put, List.setIfInBounds_toArray, List.set_cons_zero, List.set_cons_succ] <;> rfl)) (hJ0_7_8 (gb210, gb211) _ (Ow.Own.cong (Ow.Own.pick [0, 1, 2, 3] HO.out (by decide)) (by first | ((try simp only [hq.1]) <;> rfl) | fail)))
              ·skip
               rintro gb211 w28 HO7_
               clear HO
               have HO := Aside0.mk HO7_
               clear HO7_
               have hHeld := Ow.Own.pick [0, 1] HO.out (by decide)
               refine norm_ (a' := ?_) ?_ ?_
               rotate_left
               ·simp only [putAll, Act.put, List.setIfInBounds_toArray, List.set_cons_zero, List.set_cons_succ]
                rfl
               refine two_ (i := 2) (j := 7) (Ni := some 23) (Nj := some 4) (Ow.B 12 263) (Ow.B 12 387) rfl rfl rfl rfl (two_of HT_.out (by kernel_rfl)) (by decide) (by decide) (fun K hK => ?_) (fun K hK => ?_)
               ·skip
                obtain ⟨Q8, hQ8_⟩ : ∃ q_ : Array Value, q_ = (#[.string t172, .string t173, .string t174, .int .i64 t175, .string t176, .string t177, .string t178, .string t179, .string t180, .int .i64 t181, .int .i64 t182, .string t183, .bool t184, .int .i64 t185, .string t186, .string t187, .string t188, .int .i64 t189, .int .i64 t190, .int .i64 t191, .bool t192, .bool t193, .int .i64 t194, .int .i64 t195, .bool t196] : Array Value) := ⟨_, rfl⟩
                try rw [← hQ8_]
                have hQ8 := Aside0.mk hQ8_; replace hq := Aside0.mk (And.intro hQ8_ hq.1); clear hQ8_
                refine goes_ Try.func8 (by kernel_rfl) rfl #[.agg Q8, .agg #[.string t157, .string t158, .string t159, .int .i64 t160, .int .i64 t161, .int .i64 t162], .bool true] (by rfl) rfl rfl (by (try simp only [List.map_toArray, List.map_cons, List.map_nil]); first | done | rfl | (simp only [hq.1]; done) | (simp only [hq.1]; rfl) | (simp only [List.length_drop, List.length_take]; rfl)) ?_
                refine Calls.mono (calls_of_args (by first | ((try simp only [hq.1]) <;> rfl) | fail) (dispute_Decide.calls k t172 t173 t174 t175 t176 t177 t178 t179 t180 t181 t182 t183 t184 t185 t186 t187 t188 t189 t190 t191 t192 t193 t194 t195 t196 t157 t158 t159 t160 t161 t162 true t197 t198 t199 t200 t201 t202 t203 t204 t205 t206 t207 t208 t209 _ A4.out)) ?_
                rintro e w29 ⟨he_, hb⟩
                subst he_
                replace HO := Aside0.mk (Ow.Own.call HO.out hb)
                clear hb
                refine ⟨_, rfl, ?_⟩
                refine hK.out _ _ (by have h_ := Ow.Own.pick [0, 1] HO.out (by decide); first | exact h_ | exact Ow.Own.cong h_ (by first | ((try simp only [hq.1]) <;> rfl) | fail)) (fun hHeld => ?_)
                clear hK K
                refine norm_ (a' := ?_) ?_ ?_
                rotate_left
                ·show Act.put _ (some 23) _ = _
                 simp only [Act.put, List.setIfInBounds_toArray, List.set_cons_zero, List.set_cons_succ, i64_w, i32_w]
                 rfl
                refine' Ow.pu (i := 3) (N := some 20) (Ow.B 12 271) HT_.out ?hv_ ?ha_ ?_; (case hv_ => intro w'; go_simp; with_reducible rfl); (case ha_ => simp only [Ow.Sl, i64_w, i32_w]; rfl)
                refine' Ow.pu (i := 4) (N := some 24) (Ow.B 12 287) HT_.out ?hv_ ?ha_ ?_; (case hv_ => intro w'; go_simp; with_reducible rfl); (case ha_ => simp only [Ow.Sl, i64_w, i32_w]; rfl)
                refine' Ow.pu (i := 5) (N := some 25) (Ow.B 12 319) HT_.out ?hv_ ?ha_ ?_; (case hv_ => intro w'; go_simp; with_reducible rfl); (case ha_ => simp only [Ow.Sl, i64_w, i32_w]; rfl)
                refine' Ow.pu (i := 6) (N := some 26) (Ow.B 12 383) HT_.out ?hv_ ?ha_ ?_; (case hv_ => intro w'; go_simp; with_reducible rfl); (case ha_ => simp only [Ow.Sl, i64_w, i32_w]; rfl)
                exact norm_ (by first | (simp only [putAll, Act.put, List.setIfInBounds_toArray, List.set_cons_zero, List.set_cons_succ]; done) | (simp only [putAll, Act.put, List.setIfInBounds_toArray, List.set_cons_zero, List.set_cons_succ]; rfl) | (simp only [hq.1, putAll, Act.put, List.setIfInBounds_toArray, List.set_cons_zero, List.set_cons_succ] <;> rfl)) (hJ0_2_8 (gb211) _ (Ow.Own.cong (Ow.Own.pick [0, 1, 2] HO.out (by decide)) (by first | ((try simp only [hq.1]) <;> rfl) | fail)))
               ·skip
                refine box_step ?hg (N := 4) ?hd (cs := bursarlaw26_awake.Z6) (t := 33) ?hr ?_; (case hd => rfl); (case hg => rfl); (case hr => first | (go_simp; done) | (go_simp; rfl))
                intro gb210 hg w29 hbox hb
                replace HO := Aside0.mk (Ow.Own.add HO.out hg hbox hb)
                clear hb hbox hg
                simp only [List.cons_append, List.nil_append] at HO
                refine hK.out _ _ (by have h_ := Ow.Own.pick [0, 1] HO.out (by decide); first | exact h_ | exact Ow.Own.cong h_ (by first | ((try simp only [hq.1]) <;> rfl) | fail)) (fun hHeld => ?_)
                clear hK K
                refine norm_ (a' := ?_) ?_ ?_
                rotate_left
                ·show Act.put _ (some 4) _ = _
                 simp only [Act.put, List.setIfInBounds_toArray, List.set_cons_zero, List.set_cons_succ, i64_w, i32_w]
                 rfl
                exact norm_ (by first | (simp only [putAll, Act.put, List.setIfInBounds_toArray, List.set_cons_zero, List.set_cons_succ]; done) | (simp only [putAll, Act.put, List.setIfInBounds_toArray, List.set_cons_zero, List.set_cons_succ]; rfl) | (simp only [hq.1, putAll, Act.put, List.setIfInBounds_toArray, List.set_cons_zero, List.set_cons_succ] <;> rfl)) (hJ0_7_8 (gb210, gb211) _ (Ow.Own.cong (Ow.Own.pick [0, 1, 3, 2] HO.out (by decide)) (by first | ((try simp only [hq.1]) <;> rfl) | fail)))
             ·skip
              rintro gb210 w28 HO7_
              clear HO
              have HO := Aside0.mk HO7_
              clear HO7_
              have hHeld := Ow.Own.pick [0, 1] HO.out (by decide)
              refine norm_ (a' := ?_) ?_ ?_
              rotate_left
              ·simp only [putAll, Act.put, List.setIfInBounds_toArray, List.set_cons_zero, List.set_cons_succ]
               rfl
              refine two_ (i := 2) (j := 8) (Ni := some 23) (Nj := some 5) (Ow.B 12 135) (Ow.B 12 387) rfl rfl rfl rfl (two_of HT_.out (by kernel_rfl)) (by decide) (by decide) (fun K hK => ?_) (fun K hK => ?_)
              ·skip
               obtain ⟨Q9, hQ9_⟩ : ∃ q_ : Array Value, q_ = (#[.string t172, .string t173, .string t174, .int .i64 t175, .string t176, .string t177, .string t178, .string t179, .string t180, .int .i64 t181, .int .i64 t182, .string t183, .bool t184, .int .i64 t185, .string t186, .string t187, .string t188, .int .i64 t189, .int .i64 t190, .int .i64 t191, .bool t192, .bool t193, .int .i64 t194, .int .i64 t195, .bool t196] : Array Value) := ⟨_, rfl⟩
               try rw [← hQ9_]
               have hQ9 := Aside0.mk hQ9_; replace hq := Aside0.mk (And.intro hQ9_ hq.1); clear hQ9_
               refine goes_ Try.func8 (by kernel_rfl) rfl #[.agg Q9, .agg #[.string t157, .string t158, .string t159, .int .i64 t160, .int .i64 t161, .int .i64 t162], .bool true] (by rfl) rfl rfl (by (try simp only [List.map_toArray, List.map_cons, List.map_nil]); first | done | rfl | (simp only [hq.1]; done) | (simp only [hq.1]; rfl) | (simp only [List.length_drop, List.length_take]; rfl)) ?_
               refine Calls.mono (calls_of_args (by first | ((try simp only [hq.1]) <;> rfl) | fail) (dispute_Decide.calls k t172 t173 t174 t175 t176 t177 t178 t179 t180 t181 t182 t183 t184 t185 t186 t187 t188 t189 t190 t191 t192 t193 t194 t195 t196 t157 t158 t159 t160 t161 t162 true t197 t198 t199 t200 t201 t202 t203 t204 t205 t206 t207 t208 t209 _ A4.out)) ?_
               rintro e w29 ⟨he_, hb⟩
               subst he_
               replace HO := Aside0.mk (Ow.Own.call HO.out hb)
               clear hb
               refine ⟨_, rfl, ?_⟩
               refine hK.out _ _ (by have h_ := Ow.Own.pick [0, 1] HO.out (by decide); first | exact h_ | exact Ow.Own.cong h_ (by first | ((try simp only [hq.1]) <;> rfl) | fail)) (fun hHeld => ?_)
               clear hK K
               refine norm_ (a' := ?_) ?_ ?_
               rotate_left
               ·show Act.put _ (some 23) _ = _
                simp only [Act.put, List.setIfInBounds_toArray, List.set_cons_zero, List.set_cons_succ, i64_w, i32_w]
                rfl
               refine' Ow.pu (i := 3) (N := some 20) (Ow.B 12 143) HT_.out ?hv_ ?ha_ ?_; (case hv_ => intro w'; go_simp; with_reducible rfl); (case ha_ => simp only [Ow.Sl, i64_w, i32_w]; rfl)
               refine' Ow.pu (i := 4) (N := some 24) (Ow.B 12 159) HT_.out ?hv_ ?ha_ ?_; (case hv_ => intro w'; go_simp; with_reducible rfl); (case ha_ => simp only [Ow.Sl, i64_w, i32_w]; rfl)
               refine' Ow.pu (i := 5) (N := some 25) (Ow.B 12 191) HT_.out ?hv_ ?ha_ ?_; (case hv_ => intro w'; go_simp; with_reducible rfl); (case ha_ => simp only [Ow.Sl, i64_w, i32_w]; rfl)
               refine' Ow.pu (i := 6) (N := some 26) (Ow.B 12 255) HT_.out ?hv_ ?ha_ ?_; (case hv_ => intro w'; go_simp; with_reducible rfl); (case ha_ => simp only [Ow.Sl, i64_w, i32_w]; rfl)
               exact norm_ (by first | (simp only [putAll, Act.put, List.setIfInBounds_toArray, List.set_cons_zero, List.set_cons_succ]; done) | (simp only [putAll, Act.put, List.setIfInBounds_toArray, List.set_cons_zero, List.set_cons_succ]; rfl) | (simp only [hq.1, putAll, Act.put, List.setIfInBounds_toArray, List.set_cons_zero, List.set_cons_succ] <;> rfl)) (hJ0_2_7 (gb210) _ (Ow.Own.cong (Ow.Own.pick [0, 1, 2] HO.out (by decide)) (by first | ((try simp only [hq.1]) <;> rfl) | fail)))
              ·skip
               refine box_step ?hg (N := 5) ?hd (cs := bursarlaw26_awake.Z6_1) (t := 37) ?hr ?_; (case hd => rfl); (case hg => rfl); (case hr => first | (go_simp; done) | (go_simp; rfl))
               intro gb211 hg w29 hbox hb
               replace HO := Aside0.mk (Ow.Own.add HO.out hg hbox hb)
               clear hb hbox hg
               simp only [List.cons_append, List.nil_append] at HO
               refine hK.out _ _ (by have h_ := Ow.Own.pick [0, 1] HO.out (by decide); first | exact h_ | exact Ow.Own.cong h_ (by first | ((try simp only [hq.1]) <;> rfl) | fail)) (fun hHeld => ?_)
               clear hK K
               refine norm_ (a' := ?_) ?_ ?_
               rotate_left
               ·show Act.put _ (some 5) _ = _
                simp only [Act.put, List.setIfInBounds_toArray, List.set_cons_zero, List.set_cons_succ, i64_w, i32_w]
                rfl
               exact norm_ (by first | (simp only [putAll, Act.put, List.setIfInBounds_toArray, List.set_cons_zero, List.set_cons_succ]; done) | (simp only [putAll, Act.put, List.setIfInBounds_toArray, List.set_cons_zero, List.set_cons_succ]; rfl) | (simp only [hq.1, putAll, Act.put, List.setIfInBounds_toArray, List.set_cons_zero, List.set_cons_succ] <;> rfl)) (hJ0_7_8 (gb210, gb211) _ (Ow.Own.cong (Ow.Own.pick [0, 1, 2, 3] HO.out (by decide)) (by first | ((try simp only [hq.1]) <;> rfl) | fail)))
            ·skip
             rintro _ w28 HO7_
             clear HO
             have HO := Aside0.mk HO7_
             clear HO7_
             have hHeld := Ow.Own.pick [0, 1] HO.out (by decide)
             refine norm_ (a' := ?_) ?_ ?_
             rotate_left
             ·simp only [putAll, Act.put, List.setIfInBounds_toArray, List.set_cons_zero, List.set_cons_succ]
              rfl
             refine two_ (i := 7) (j := 8) (Ni := some 4) (Nj := some 5) (Ow.B 12 255) (Ow.B 12 383) rfl rfl rfl rfl (two_of HT_.out (by kernel_rfl)) (by decide) (by decide) (fun K hK => ?_) (fun K hK => ?_)
             ·skip
              refine box_step ?hg (N := 4) ?hd (cs := bursarlaw26_awake.Z6) (t := 33) ?hr ?_; (case hd => rfl); (case hg => rfl); (case hr => first | (go_simp; done) | (go_simp; rfl))
              intro gb210 hg w29 hbox hb
              replace HO := Aside0.mk (Ow.Own.add HO.out hg hbox hb)
              clear hb hbox hg
              simp only [List.cons_append, List.nil_append] at HO
              refine hK.out _ _ (by have h_ := Ow.Own.pick [0, 1] HO.out (by decide); first | exact h_ | exact Ow.Own.cong h_ (by first | ((try simp only [hq.1]) <;> rfl) | fail)) (fun hHeld => ?_)
              clear hK K
              refine norm_ (a' := ?_) ?_ ?_
              rotate_left
              ·show Act.put _ (some 4) _ = _
               simp only [Act.put, List.setIfInBounds_toArray, List.set_cons_zero, List.set_cons_succ, i64_w, i32_w]
               rfl
              exact norm_ (by first | (simp only [putAll, Act.put, List.setIfInBounds_toArray, List.set_cons_zero, List.set_cons_succ]; done) | (simp only [putAll, Act.put, List.setIfInBounds_toArray, List.set_cons_zero, List.set_cons_succ]; rfl) | (simp only [hq.1, putAll, Act.put, List.setIfInBounds_toArray, List.set_cons_zero, List.set_cons_succ] <;> rfl)) (hJ0_2_7 (gb210) _ (Ow.Own.cong (Ow.Own.pick [0, 1, 2] HO.out (by decide)) (by first | ((try simp only [hq.1]) <;> rfl) | fail)))
             ·skip
              refine box_step ?hg (N := 5) ?hd (cs := bursarlaw26_awake.Z6_1) (t := 37) ?hr ?_; (case hd => rfl); (case hg => rfl); (case hr => first | (go_simp; done) | (go_simp; rfl))
              intro gb211 hg w29 hbox hb
              replace HO := Aside0.mk (Ow.Own.add HO.out hg hbox hb)
              clear hb hbox hg
              simp only [List.cons_append, List.nil_append] at HO
              refine hK.out _ _ (by have h_ := Ow.Own.pick [0, 1] HO.out (by decide); first | exact h_ | exact Ow.Own.cong h_ (by first | ((try simp only [hq.1]) <;> rfl) | fail)) (fun hHeld => ?_)
              clear hK K
              refine norm_ (a' := ?_) ?_ ?_
              rotate_left
              ·show Act.put _ (some 5) _ = _
               simp only [Act.put, List.setIfInBounds_toArray, List.set_cons_zero, List.set_cons_succ, i64_w, i32_w]
               rfl
              exact norm_ (by first | (simp only [putAll, Act.put, List.setIfInBounds_toArray, List.set_cons_zero, List.set_cons_succ]; done) | (simp only [putAll, Act.put, List.setIfInBounds_toArray, List.set_cons_zero, List.set_cons_succ]; rfl) | (simp only [hq.1, putAll, Act.put, List.setIfInBounds_toArray, List.set_cons_zero, List.set_cons_succ] <;> rfl)) (hJ0_2_8 (gb211) _ (Ow.Own.cong (Ow.Own.pick [0, 1, 2] HO.out (by decide)) (by first | ((try simp only [hq.1]) <;> rfl) | fail)))
           ·skip
            rintro ⟨gb210, gb211⟩ w29 HO7_
            clear HO
            have HO := Aside0.mk HO7_
            clear HO7_
            have hHeld := Ow.Own.pick [0, 1] HO.out (by decide)
            refine norm_ (a' := ?_) ?_ ?_
            rotate_left
            ·simp only [putAll, Act.put, List.setIfInBounds_toArray, List.set_cons_zero, List.set_cons_succ]
             rfl
            refine one_ (i := 2) (N := some 23) (Ow.B 12 391) rfl rfl (one_of HT_.out (by kernel_rfl)) (by decide) (fun K hK => ?_)
            obtain ⟨Q10, hQ10_⟩ : ∃ q_ : Array Value, q_ = (#[.string t172, .string t173, .string t174, .int .i64 t175, .string t176, .string t177, .string t178, .string t179, .string t180, .int .i64 t181, .int .i64 t182, .string t183, .bool t184, .int .i64 t185, .string t186, .string t187, .string t188, .int .i64 t189, .int .i64 t190, .int .i64 t191, .bool t192, .bool t193, .int .i64 t194, .int .i64 t195, .bool t196] : Array Value) := ⟨_, rfl⟩
            try rw [← hQ10_]
            have hQ10 := Aside0.mk hQ10_; replace hq := Aside0.mk (And.intro hQ10_ hq.1); clear hQ10_
            refine goes_ Try.func8 (by kernel_rfl) rfl #[.agg Q10, .agg #[.string t157, .string t158, .string t159, .int .i64 t160, .int .i64 t161, .int .i64 t162], .bool true] (by rfl) rfl rfl (by (try simp only [List.map_toArray, List.map_cons, List.map_nil]); first | done | rfl | (simp only [hq.1]; done) | (simp only [hq.1]; rfl) | (simp only [List.length_drop, List.length_take]; rfl)) ?_
            refine Calls.mono (calls_of_args (by first | ((try simp only [hq.1]) <;> rfl) | fail) (dispute_Decide.calls k t172 t173 t174 t175 t176 t177 t178 t179 t180 t181 t182 t183 t184 t185 t186 t187 t188 t189 t190 t191 t192 t193 t194 t195 t196 t157 t158 t159 t160 t161 t162 true t197 t198 t199 t200 t201 t202 t203 t204 t205 t206 t207 t208 t209 _ A4.out)) ?_
            rintro e w30 ⟨he_, hb⟩
            subst he_
            replace HO := Aside0.mk (Ow.Own.call HO.out hb)
            clear hb
            refine ⟨_, rfl, ?_⟩
            refine hK.out _ _ (by have h_ := Ow.Own.pick [0, 1] HO.out (by decide); first | exact h_ | exact Ow.Own.cong h_ (by first | ((try simp only [hq.1]) <;> rfl) | fail)) (fun hHeld => ?_)
            clear hK K
            refine norm_ (a' := ?_) ?_ ?_
            rotate_left
            ·show Act.put _ (some 23) _ = _
             simp only [Act.put, List.setIfInBounds_toArray, List.set_cons_zero, List.set_cons_succ, i64_w, i32_w]
             rfl
            refine' Ow.pu (i := 3) (N := some 20) (Ow.B 12 399) HT_.out ?hv_ ?ha_ ?_; (case hv_ => intro w'; go_simp; with_reducible rfl); (case ha_ => simp only [Ow.Sl, i64_w, i32_w]; rfl)
            refine' Ow.pu (i := 4) (N := some 24) (Ow.B 12 415) HT_.out ?hv_ ?ha_ ?_; (case hv_ => intro w'; go_simp; with_reducible rfl); (case ha_ => simp only [Ow.Sl, i64_w, i32_w]; rfl)
            refine' Ow.pu (i := 5) (N := some 25) (Ow.B 12 447) HT_.out ?hv_ ?ha_ ?_; (case hv_ => intro w'; go_simp; with_reducible rfl); (case ha_ => simp only [Ow.Sl, i64_w, i32_w]; rfl)
            refine' Ow.pu (i := 6) (N := some 26) (Ow.B 12 511) HT_.out ?hv_ ?ha_ ?_; (case hv_ => intro w'; go_simp; with_reducible rfl); (case ha_ => simp only [Ow.Sl, i64_w, i32_w]; rfl)
            exact norm_ (by first | (simp only [putAll, Act.put, List.setIfInBounds_toArray, List.set_cons_zero, List.set_cons_succ]; done) | (simp only [putAll, Act.put, List.setIfInBounds_toArray, List.set_cons_zero, List.set_cons_succ]; rfl) | (simp only [hq.1, putAll, Act.put, List.setIfInBounds_toArray, List.set_cons_zero, List.set_cons_succ] <;> rfl)) (hJ0_2_7_8 (gb210, gb211) _ (Ow.Own.cong (Ow.Own.pick [0, 1, 2, 3] HO.out (by decide)) (by first | ((try simp only [hq.1]) <;> rfl) | fail)))
          ·skip
           rintro gb211 w29 HO7_
           clear HO
           have HO := Aside0.mk HO7_
           clear HO7_
           have hHeld := Ow.Own.pick [0, 1] HO.out (by decide)
           refine norm_ (a' := ?_) ?_ ?_
           rotate_left
           ·simp only [putAll, Act.put, List.setIfInBounds_toArray, List.set_cons_zero, List.set_cons_succ]
            rfl
           refine one_ (i := 7) (N := some 4) (Ow.B 12 511) rfl rfl (one_of HT_.out (by kernel_rfl)) (by decide) (fun K hK => ?_)
           refine box_step ?hg (N := 4) ?hd (cs := bursarlaw26_awake.Z6) (t := 33) ?hr ?_; (case hd => rfl); (case hg => rfl); (case hr => first | (go_simp; done) | (go_simp; rfl))
           intro gb210 hg w30 hbox hb
           replace HO := Aside0.mk (Ow.Own.add HO.out hg hbox hb)
           clear hb hbox hg
           simp only [List.cons_append, List.nil_append] at HO
           refine hK.out _ _ (by have h_ := Ow.Own.pick [0, 1] HO.out (by decide); first | exact h_ | exact Ow.Own.cong h_ (by first | ((try simp only [hq.1]) <;> rfl) | fail)) (fun hHeld => ?_)
           clear hK K
           refine norm_ (a' := ?_) ?_ ?_
           rotate_left
           ·show Act.put _ (some 4) _ = _
            simp only [Act.put, List.setIfInBounds_toArray, List.set_cons_zero, List.set_cons_succ, i64_w, i32_w]
            rfl
           exact norm_ (by first | (simp only [putAll, Act.put, List.setIfInBounds_toArray, List.set_cons_zero, List.set_cons_succ]; done) | (simp only [putAll, Act.put, List.setIfInBounds_toArray, List.set_cons_zero, List.set_cons_succ]; rfl) | (simp only [hq.1, putAll, Act.put, List.setIfInBounds_toArray, List.set_cons_zero, List.set_cons_succ] <;> rfl)) (hJ0_2_7_8 (gb210, gb211) _ (Ow.Own.cong (Ow.Own.pick [0, 1, 3, 2] HO.out (by decide)) (by first | ((try simp only [hq.1]) <;> rfl) | fail)))
         ·skip
          rintro gb210 w29 HO7_
          clear HO
          have HO := Aside0.mk HO7_
          clear HO7_
          have hHeld := Ow.Own.pick [0, 1] HO.out (by decide)
          refine norm_ (a' := ?_) ?_ ?_
          rotate_left
          ·simp only [putAll, Act.put, List.setIfInBounds_toArray, List.set_cons_zero, List.set_cons_succ]
           rfl
          refine one_ (i := 8) (N := some 5) (Ow.B 12 511) rfl rfl (one_of HT_.out (by kernel_rfl)) (by decide) (fun K hK => ?_)
          refine box_step ?hg (N := 5) ?hd (cs := bursarlaw26_awake.Z6_1) (t := 37) ?hr ?_; (case hd => rfl); (case hg => rfl); (case hr => first | (go_simp; done) | (go_simp; rfl))
          intro gb211 hg w30 hbox hb
          replace HO := Aside0.mk (Ow.Own.add HO.out hg hbox hb)
          clear hb hbox hg
          simp only [List.cons_append, List.nil_append] at HO
          refine hK.out _ _ (by have h_ := Ow.Own.pick [0, 1] HO.out (by decide); first | exact h_ | exact Ow.Own.cong h_ (by first | ((try simp only [hq.1]) <;> rfl) | fail)) (fun hHeld => ?_)
          clear hK K
          refine norm_ (a' := ?_) ?_ ?_
          rotate_left
          ·show Act.put _ (some 5) _ = _
           simp only [Act.put, List.setIfInBounds_toArray, List.set_cons_zero, List.set_cons_succ, i64_w, i32_w]
           rfl
          exact norm_ (by first | (simp only [putAll, Act.put, List.setIfInBounds_toArray, List.set_cons_zero, List.set_cons_succ]; done) | (simp only [putAll, Act.put, List.setIfInBounds_toArray, List.set_cons_zero, List.set_cons_succ]; rfl) | (simp only [hq.1, putAll, Act.put, List.setIfInBounds_toArray, List.set_cons_zero, List.set_cons_succ] <;> rfl)) (hJ0_2_7_8 (gb210, gb211) _ (Ow.Own.cong (Ow.Own.pick [0, 1, 2, 3] HO.out (by decide)) (by first | ((try simp only [hq.1]) <;> rfl) | fail)))
        rintro ⟨gb210, gb211⟩ w30 HO7_
        clear HO
        have HO := Aside0.mk HO7_
        clear HO7_
        have hHeld := Ow.Own.pick [0, 1] HO.out (by decide)
        refine norm_ (a' := ?_) ?_ ?_
        rotate_left
        ·simp only [putAll, Act.put, List.setIfInBounds_toArray, List.set_cons_zero, List.set_cons_succ]
         rfl
        refine one_ (i := 9) (N := none) (Ow.B 12 1023) rfl rfl (one_of HT_.out (by kernel_rfl)) (by decide) (fun K hK => ?_)
        refine Ow.oskip Ot.ty HO.out (by rfl) rfl rfl rfl rfl (by with_reducible first | exact Ow.at0 | exact Ow.at1 | exact Ow.at2 | exact Ow.at3) (by first | exact Ow.ev_tmp rfl | rfl) (by first | ((try simp only [hq.1]) <;> rfl) | fail) (by first | ((try simp only [hq.1]) <;> rfl) | fail) (by first | ((try simp only [hq.1]) <;> rfl) | fail) ?_
        clear HO; intro wz_ HO; simp only [List.set_cons_zero, List.set_cons_succ] at HO
        refine hK.out _ _ (by have h_ := Ow.Own.pick [0, 1] HO.out (by decide); first | exact h_ | exact Ow.Own.cong h_ (by first | ((try simp only [hq.1]) <;> rfl) | fail)) (fun hHeld => ?_)
        clear hK K
        refine one_ (i := 10) (N := none) (Ow.B 12 2047) rfl rfl (one_of HT_.out (by kernel_rfl)) (by decide) (fun K hK => ?_)
        refine Ow.oskip Ot.ty HO.out (by rfl) rfl rfl rfl rfl (by with_reducible first | exact Ow.at0 | exact Ow.at1 | exact Ow.at2 | exact Ow.at3) (by first | exact Ow.ev_tmp rfl | rfl) (by first | ((try simp only [hq.1]) <;> rfl) | fail) (by first | ((try simp only [hq.1]) <;> rfl) | fail) (by first | ((try simp only [hq.1]) <;> rfl) | fail) ?_
        clear HO; intro wz_ HO; simp only [List.set_cons_zero, List.set_cons_succ] at HO
        refine hK.out _ _ (by have h_ := Ow.Own.pick [0, 1] HO.out (by decide); first | exact h_ | exact Ow.Own.cong h_ (by first | ((try simp only [hq.1]) <;> rfl) | fail)) (fun hHeld => ?_)
        clear hK K
        refine' Ow.pu (i := 11) (N := some 6) (Ow.B 12 4095) HT_.out ?hv_ ?ha_ ?_; (case hv_ => intro w'; go_simp; with_reducible rfl); (case ha_ => simp only [Ow.Sl, i64_w, i32_w]; rfl)
        refine done_ (done_of HT_.out (by kernel_rfl)) ?_
        try go_wp2_with (first | ((with_reducible refine Ow.gate_build rfl ?_); (try (refine gate_guard (by rfl) ?_; dsimp only)); refine' Ow.tbuild Ot.bd rfl rfl rfl ?hf_ ?_; (case hf_ => repeat (any_goals (first | exact Ow.Fills.nil | (refine' Ow.Fills.c ?hv_ rfl ?hz_ ?_; (case hv_ => first | exact Ow.ev_tmp rfl | rfl); (case hz_ => first | (refine ⟨?_, ?_⟩ <;> (first | ((try simp only [hq.1]) <;> rfl) | fail)) | fail)))))) | ((with_reducible refine Ow.gate_load rfl ?_); (try (refine gate_guard (by rfl) ?_; dsimp only)); (first | refine Ow.l1 Ot.ty HO.out rfl rfl rfl rfl (by first | ((try simp only [hq.1]) <;> rfl) | fail) ?_ | refine Ow.l0 Ot.ty HO.out rfl rfl rfl rfl (by first | ((try simp only [hq.1]) <;> rfl) | fail) ?_ | refine Ow.lp Ot.ty HO.out rfl rfl rfl rfl (by first | ((try simp only [hq.1]) <;> rfl) | fail) ?_)) | ((with_reducible refine gate_store rfl ?_); (try (refine gate_guard (by rfl) ?_; dsimp only)); (first | refine Ow.s0 Ot.ty HO.out rfl rfl rfl rfl rfl (by first | exact Ow.ev_tmp rfl | rfl) (by first | (refine ⟨?_, ?_, ?_⟩ <;> (first | ((try simp only [hq.1]) <;> rfl) | fail)) | fail) ?_ | refine Ow.sp Ot.ty HO.out rfl rfl rfl rfl rfl (by first | exact Ow.ev_tmp rfl | rfl) (by first | (refine ⟨?_, ?_, ?_⟩ <;> (first | ((try simp only [hq.1]) <;> rfl) | fail)) | fail) ?_); clear HO; intro wz_ HO; simp only [List.set_cons_zero, List.set_cons_succ] at HO))
        refine Ow.ostart (n := 12) (ds := []) (Ow.B 12 0) HO.out (by kernel_rfl) rfl (by kernel_rfl) ?_
        intro hHeld; replace HO := Aside0.mk hHeld; refine with_tabW bursarlaw26_awake.tab3 bursarlaw26_awake.bits3 (fun HT_ HW_ => ?_)
        refine take_ (i := 1) (N := some 29) (v := ?_) (a' := ?_) (Ow.B 12 2) rfl rfl (take_ofW HT_.out HW_.out (by kernel_rfl)) (fun _ _ _ h => h) (Or.inl ⟨by rfl, ?_⟩) hHeld ?_ ?_
        rotate_left
        ·intro w' s_
         first | refine Ow.r1 Ot.ty s_ rfl rfl rfl (by first | ((try simp only [hq.1]) <;> rfl) | fail) | (refine' Ow.r0 Ot.ty s_ rfl rfl rfl ?h; (case h => first | ((try simp only [hq.1]) <;> rfl) | fail)) | (refine' Ow.rp Ot.ty s_ rfl rfl rfl ?h; (case h => first | ((try simp only [hq.1]) <;> rfl) | fail)) | (go_simp; with_reducible rfl)
        rotate_left
        ·simp only [Act.put, List.setIfInBounds_toArray, List.set_cons_zero, List.set_cons_succ, i64_w, i32_w]
         rfl
        obtain ⟨Q11, hQ11_⟩ : ∃ q_ : Array Value, q_ = (#[.string t197, .string t198, .string t199, .int .i64 t200, .int .i64 t201, .int .i64 t202] : Array Value) := ⟨_, rfl⟩
        try rw [← hQ11_]
        have hQ11 := Aside0.mk hQ11_; replace hq := Aside0.mk (And.intro hQ11_ hq.1); clear hQ11_
        obtain ⟨Q12, hQ12_⟩ : ∃ q_ : Array Value, q_ = (#[.int .i64 t203, .int .i64 t204, .string t205, .string t206, .string t207, .int .i64 t208] : Array Value) := ⟨_, rfl⟩
        try rw [← hQ12_]
        have hQ12 := Aside0.mk hQ12_; replace hq := Aside0.mk (And.intro hQ12_ hq.1); clear hQ12_
        refine join_ (σ := Nat × Nat) 3 (Ow.B 12 511) (fun s_ => [(28, .agg #[.string t212, .string t213, .string t214, .int .i64 t215, .string t216, .string t217, .string t218, .string t219, .string t220, .int .i64 t221, .int .i64 t222, .string t223, .bool t224, .int .i64 t225, .string t226, .string t227, .string t228, .int .i64 t229, .int .i64 t230, .int .i64 t231, .bool t232, .bool t233, .int .i64 t234, .int .i64 t235, .bool t236]), (30, .tuple #[.agg #[.string t237, .string t238, .string t239, .int .i64 t240, .int .i64 t241, .int .i64 t242], .agg #[.int .i64 t243, .int .i64 t244, .string t245, .string t246, .string t247, .int .i64 t248], .string t249]), (7, .pointer (some ⟨s_.1, 0, none⟩)), (8, .pointer (some ⟨s_.2, 0, none⟩)), (27, .tuple #[.agg #[.string t237, .string t238, .string t239, .int .i64 t240, .int .i64 t241, .int .i64 t242], .agg #[.int .i64 t243, .int .i64 t244, .string t245, .string t246, .string t247, .int .i64 t248], .string t249]), (31, .agg #[.string t237, .string t238, .string t239, .int .i64 t240, .int .i64 t241, .int .i64 t242]), (32, .agg #[.int .i64 t243, .int .i64 t244, .string t245, .string t246, .string t247, .int .i64 t248]), (33, .string t249)]) (fun s_ w' => Ow.Own w w' [(gb170, Q1, 33), (gb171, Q2, 37), (gb210, Q11, 33), (gb211, Q12, 37), (s_.1, bursarlaw26_awake.Z6, 33), (s_.2, bursarlaw26_awake.Z6_1, 37)]) ?_ ?_
        rotate_left
        ·intro hJ0_2_7_8
         refine join_ (σ := Nat) 4 (Ow.B 12 255) (fun s_ => [(28, .agg #[.string t212, .string t213, .string t214, .int .i64 t215, .string t216, .string t217, .string t218, .string t219, .string t220, .int .i64 t221, .int .i64 t222, .string t223, .bool t224, .int .i64 t225, .string t226, .string t227, .string t228, .int .i64 t229, .int .i64 t230, .int .i64 t231, .bool t232, .bool t233, .int .i64 t234, .int .i64 t235, .bool t236]), (30, .tuple #[.agg #[.string t237, .string t238, .string t239, .int .i64 t240, .int .i64 t241, .int .i64 t242], .agg #[.int .i64 t243, .int .i64 t244, .string t245, .string t246, .string t247, .int .i64 t248], .string t249]), (7, .pointer (some ⟨s_, 0, none⟩)), (27, .tuple #[.agg #[.string t237, .string t238, .string t239, .int .i64 t240, .int .i64 t241, .int .i64 t242], .agg #[.int .i64 t243, .int .i64 t244, .string t245, .string t246, .string t247, .int .i64 t248], .string t249]), (31, .agg #[.string t237, .string t238, .string t239, .int .i64 t240, .int .i64 t241, .int .i64 t242]), (32, .agg #[.int .i64 t243, .int .i64 t244, .string t245, .string t246, .string t247, .int .i64 t248]), (33, .string t249)]) (fun s_ w' => Ow.Own w w' [(gb170, Q1, 33), (gb171, Q2, 37), (gb210, Q11, 33), (gb211, Q12, 37), (s_, bursarlaw26_awake.Z6, 33)]) ?_ ?_
         rotate_left
         ·intro hJ0_2_7
          refine join_ (σ := Nat) 4 (Ow.B 12 383) (fun s_ => [(28, .agg #[.string t212, .string t213, .string t214, .int .i64 t215, .string t216, .string t217, .string t218, .string t219, .string t220, .int .i64 t221, .int .i64 t222, .string t223, .bool t224, .int .i64 t225, .string t226, .string t227, .string t228, .int .i64 t229, .int .i64 t230, .int .i64 t231, .bool t232, .bool t233, .int .i64 t234, .int .i64 t235, .bool t236]), (30, .tuple #[.agg #[.string t237, .string t238, .string t239, .int .i64 t240, .int .i64 t241, .int .i64 t242], .agg #[.int .i64 t243, .int .i64 t244, .string t245, .string t246, .string t247, .int .i64 t248], .string t249]), (8, .pointer (some ⟨s_, 0, none⟩)), (27, .tuple #[.agg #[.string t237, .string t238, .string t239, .int .i64 t240, .int .i64 t241, .int .i64 t242], .agg #[.int .i64 t243, .int .i64 t244, .string t245, .string t246, .string t247, .int .i64 t248], .string t249]), (31, .agg #[.string t237, .string t238, .string t239, .int .i64 t240, .int .i64 t241, .int .i64 t242]), (32, .agg #[.int .i64 t243, .int .i64 t244, .string t245, .string t246, .string t247, .int .i64 t248]), (33, .string t249)]) (fun s_ w' => Ow.Own w w' [(gb170, Q1, 33), (gb171, Q2, 37), (gb210, Q11, 33), (gb211, Q12, 37), (s_, bursarlaw26_awake.Z6_1, 37)]) ?_ ?_
          rotate_left
          ·intro hJ0_2_8
           refine join_ (σ := Nat × Nat) 8 (Ow.B 12 387) (fun s_ => [(28, .agg #[.string t212, .string t213, .string t214, .int .i64 t215, .string t216, .string t217, .string t218, .string t219, .string t220, .int .i64 t221, .int .i64 t222, .string t223, .bool t224, .int .i64 t225, .string t226, .string t227, .string t228, .int .i64 t229, .int .i64 t230, .int .i64 t231, .bool t232, .bool t233, .int .i64 t234, .int .i64 t235, .bool t236]), (7, .pointer (some ⟨s_.1, 0, none⟩)), (8, .pointer (some ⟨s_.2, 0, none⟩))]) (fun s_ w' => Ow.Own w w' [(gb170, Q1, 33), (gb171, Q2, 37), (gb210, Q11, 33), (gb211, Q12, 37), (s_.1, bursarlaw26_awake.Z6, 33), (s_.2, bursarlaw26_awake.Z6_1, 37)]) ?_ ?_
           rotate_left
           ·intro hJ0_7_8
            refine join_ (σ := Unit) 5 (Ow.B 12 127) (fun s_ => [(28, .agg #[.string t212, .string t213, .string t214, .int .i64 t215, .string t216, .string t217, .string t218, .string t219, .string t220, .int .i64 t221, .int .i64 t222, .string t223, .bool t224, .int .i64 t225, .string t226, .string t227, .string t228, .int .i64 t229, .int .i64 t230, .int .i64 t231, .bool t232, .bool t233, .int .i64 t234, .int .i64 t235, .bool t236]), (30, .tuple #[.agg #[.string t237, .string t238, .string t239, .int .i64 t240, .int .i64 t241, .int .i64 t242], .agg #[.int .i64 t243, .int .i64 t244, .string t245, .string t246, .string t247, .int .i64 t248], .string t249]), (27, .tuple #[.agg #[.string t237, .string t238, .string t239, .int .i64 t240, .int .i64 t241, .int .i64 t242], .agg #[.int .i64 t243, .int .i64 t244, .string t245, .string t246, .string t247, .int .i64 t248], .string t249]), (31, .agg #[.string t237, .string t238, .string t239, .int .i64 t240, .int .i64 t241, .int .i64 t242]), (32, .agg #[.int .i64 t243, .int .i64 t244, .string t245, .string t246, .string t247, .int .i64 t248]), (33, .string t249)]) (fun s_ w' => Ow.Own w w' [(gb170, Q1, 33), (gb171, Q2, 37), (gb210, Q11, 33), (gb211, Q12, 37)]) ?_ ?_
            rotate_left
            ·intro hJ0_2
             refine join_ (σ := Nat) 9 (Ow.B 12 131) (fun s_ => [(28, .agg #[.string t212, .string t213, .string t214, .int .i64 t215, .string t216, .string t217, .string t218, .string t219, .string t220, .int .i64 t221, .int .i64 t222, .string t223, .bool t224, .int .i64 t225, .string t226, .string t227, .string t228, .int .i64 t229, .int .i64 t230, .int .i64 t231, .bool t232, .bool t233, .int .i64 t234, .int .i64 t235, .bool t236]), (7, .pointer (some ⟨s_, 0, none⟩))]) (fun s_ w' => Ow.Own w w' [(gb170, Q1, 33), (gb171, Q2, 37), (gb210, Q11, 33), (gb211, Q12, 37), (s_, bursarlaw26_awake.Z6, 33)]) ?_ ?_
             rotate_left
             ·intro hJ0_7
              refine join_ (σ := Nat) 9 (Ow.B 12 259) (fun s_ => [(28, .agg #[.string t212, .string t213, .string t214, .int .i64 t215, .string t216, .string t217, .string t218, .string t219, .string t220, .int .i64 t221, .int .i64 t222, .string t223, .bool t224, .int .i64 t225, .string t226, .string t227, .string t228, .int .i64 t229, .int .i64 t230, .int .i64 t231, .bool t232, .bool t233, .int .i64 t234, .int .i64 t235, .bool t236]), (8, .pointer (some ⟨s_, 0, none⟩))]) (fun s_ w' => Ow.Own w w' [(gb170, Q1, 33), (gb171, Q2, 37), (gb210, Q11, 33), (gb211, Q12, 37), (s_, bursarlaw26_awake.Z6_1, 37)]) ?_ ?_
              rotate_left
              ·intro hJ0_8
               refine join_ (σ := Nat × Nat) 9 (Ow.B 12 386) (fun s_ => [(7, .pointer (some ⟨s_.1, 0, none⟩)), (8, .pointer (some ⟨s_.2, 0, none⟩))]) (fun s_ w' => Ow.Own w w' [(gb170, Q1, 33), (gb171, Q2, 37), (gb210, Q11, 33), (gb211, Q12, 37), (s_.1, bursarlaw26_awake.Z6, 33), (s_.2, bursarlaw26_awake.Z6_1, 37)]) ?_ ?_
               rotate_left
               ·intro hJ7_8
                refine join_ (σ := Unit) 10 (Ow.B 12 3) (fun s_ => [(28, .agg #[.string t212, .string t213, .string t214, .int .i64 t215, .string t216, .string t217, .string t218, .string t219, .string t220, .int .i64 t221, .int .i64 t222, .string t223, .bool t224, .int .i64 t225, .string t226, .string t227, .string t228, .int .i64 t229, .int .i64 t230, .int .i64 t231, .bool t232, .bool t233, .int .i64 t234, .int .i64 t235, .bool t236])]) (fun s_ w' => Ow.Own w w' [(gb170, Q1, 33), (gb171, Q2, 37), (gb210, Q11, 33), (gb211, Q12, 37)]) ?_ ?_
                rotate_left
                ·intro hJ0
                 refine join_ (σ := Nat) 10 (Ow.B 12 130) (fun s_ => [(7, .pointer (some ⟨s_, 0, none⟩))]) (fun s_ w' => Ow.Own w w' [(gb170, Q1, 33), (gb171, Q2, 37), (gb210, Q11, 33), (gb211, Q12, 37), (s_, bursarlaw26_awake.Z6, 33)]) ?_ ?_
                 rotate_left
                 ·intro hJ7
                  refine join_ (σ := Nat) 10 (Ow.B 12 258) (fun s_ => [(8, .pointer (some ⟨s_, 0, none⟩))]) (fun s_ w' => Ow.Own w w' [(gb170, Q1, 33), (gb171, Q2, 37), (gb210, Q11, 33), (gb211, Q12, 37), (s_, bursarlaw26_awake.Z6_1, 37)]) ?_ ?_
                  rotate_left
                  ·intro hJ8
                   refine three_ (i := 0) (j := 7) (k := 8) (Ni := some 28) (Nj := some 7) (Nk := some 8) (Ow.B 12 3) (Ow.B 12 130) (Ow.B 12 258) rfl rfl rfl rfl rfl rfl (three_of HT_.out (by kernel_rfl)) (by decide) (by decide) (by decide) (fun K hK => ?_) (fun K hK => ?_) (fun K hK => ?_)
                   ·skip
                    refine goes_ Try.func18 (by kernel_rfl) rfl #[.string (⟨#[48, 49, 48, 48, 48, 48]⟩ : ByteArray), .int .i64 40, .int .i64 0] (by rfl) rfl rfl (by (try simp only [List.map_toArray, List.map_cons, List.map_nil]); first | done | rfl | (simp only [hq.1]; done) | (simp only [hq.1]; rfl) | (simp only [List.length_drop, List.length_take]; rfl)) ?_
                    obtain ⟨Q13, hQ13_⟩ : ∃ q_ : Array Value, q_ = (#[.string t212, .string t213, .string t214, .int .i64 t215, .string t216, .string t217, .string t218, .string t219, .string t220, .int .i64 t221, .int .i64 t222, .string t223, .bool t224, .int .i64 t225, .string t226, .string t227, .string t228, .int .i64 t229, .int .i64 t230, .int .i64 t231, .bool t232, .bool t233, .int .i64 t234, .int .i64 t235, .bool t236] : Array Value) := ⟨_, rfl⟩
                    try rw [← hQ13_]
                    have hQ13 := Aside0.mk hQ13_; replace hq := Aside0.mk (And.intro hQ13_ hq.1); clear hQ13_
                    refine Calls.mono (calls_of_args (by first | ((try simp only [hq.1]) <;> rfl) | fail) (bursarlaw26_some.calls (⟨#[48, 49, 48, 48, 48, 48]⟩ : ByteArray) 40 0 t212 t213 t214 t215 t216 t217 t218 t219 t220 t221 t222 t223 t224 t225 t226 t227 t228 t229 t230 t231 t232 t233 t234 t235 t236 _ A5.out)) ?_
                    rintro e w45 ⟨he_, hb⟩
                    (try rw [← hQ13.out] at he_)
                    subst he_
                    replace HO := Aside0.mk (Ow.Own.call HO.out hb)
                    clear hb
                    refine ⟨_, rfl, ?_⟩
                    refine hK.out _ _ (by first | exact HO.out | exact Ow.Own.cong HO.out (by first | ((try simp only [hq.1]) <;> rfl) | fail)) (fun hHeld => ?_)
                    clear hK K
                    refine norm_ (a' := ?_) ?_ ?_
                    rotate_left
                    ·show Act.put _ (some 28) _ = _
                     simp only [Act.put, List.setIfInBounds_toArray, List.set_cons_zero, List.set_cons_succ, i64_w, i32_w]
                     rfl
                    exact norm_ (by first | (simp only [putAll, Act.put, List.setIfInBounds_toArray, List.set_cons_zero, List.set_cons_succ]; done) | (simp only [putAll, Act.put, List.setIfInBounds_toArray, List.set_cons_zero, List.set_cons_succ]; rfl) | (simp only [hq.1, putAll, Act.put, List.setIfInBounds_toArray, List.set_cons_zero, List.set_cons_succ] <;> rfl)) (hJ0 () _ (Ow.Own.cong (Ow.Own.pick [0, 1, 2, 3] HO.out (by decide)) (by first | ((try simp only [hq.1]) <;> rfl) | fail)))
                   ·skip
                    refine box_step ?hg (N := 7) ?hd (cs := bursarlaw26_awake.Z6) (t := 33) ?hr ?_; (case hd => rfl); (case hg => rfl); (case hr => first | (go_simp; done) | (go_simp; rfl))
                    intro gb250 hg w45 hbox hb
                    replace HO := Aside0.mk (Ow.Own.add HO.out hg hbox hb)
                    clear hb hbox hg
                    simp only [List.cons_append, List.nil_append] at HO
                    refine hK.out _ _ (by have h_ := Ow.Own.pick [0, 1, 2, 3] HO.out (by decide); first | exact h_ | exact Ow.Own.cong h_ (by first | ((try simp only [hq.1]) <;> rfl) | fail)) (fun hHeld => ?_)
                    clear hK K
                    refine norm_ (a' := ?_) ?_ ?_
                    rotate_left
                    ·show Act.put _ (some 7) _ = _
                     simp only [Act.put, List.setIfInBounds_toArray, List.set_cons_zero, List.set_cons_succ, i64_w, i32_w]
                     rfl
                    exact norm_ (by first | (simp only [putAll, Act.put, List.setIfInBounds_toArray, List.set_cons_zero, List.set_cons_succ]; done) | (simp only [putAll, Act.put, List.setIfInBounds_toArray, List.set_cons_zero, List.set_cons_succ]; rfl) | (simp only [hq.1, putAll, Act.put, List.setIfInBounds_toArray, List.set_cons_zero, List.set_cons_succ] <;> rfl)) (hJ7 (gb250) _ (Ow.Own.cong (Ow.Own.pick [0, 1, 2, 3, 4] HO.out (by decide)) (by first | ((try simp only [hq.1]) <;> rfl) | fail)))
                   ·skip
                    refine box_step ?hg (N := 8) ?hd (cs := bursarlaw26_awake.Z6_1) (t := 37) ?hr ?_; (case hd => rfl); (case hg => rfl); (case hr => first | (go_simp; done) | (go_simp; rfl))
                    intro gb251 hg w45 hbox hb
                    replace HO := Aside0.mk (Ow.Own.add HO.out hg hbox hb)
                    clear hb hbox hg
                    simp only [List.cons_append, List.nil_append] at HO
                    refine hK.out _ _ (by have h_ := Ow.Own.pick [0, 1, 2, 3] HO.out (by decide); first | exact h_ | exact Ow.Own.cong h_ (by first | ((try simp only [hq.1]) <;> rfl) | fail)) (fun hHeld => ?_)
                    clear hK K
                    refine norm_ (a' := ?_) ?_ ?_
                    rotate_left
                    ·show Act.put _ (some 8) _ = _
                     simp only [Act.put, List.setIfInBounds_toArray, List.set_cons_zero, List.set_cons_succ, i64_w, i32_w]
                     rfl
                    exact norm_ (by first | (simp only [putAll, Act.put, List.setIfInBounds_toArray, List.set_cons_zero, List.set_cons_succ]; done) | (simp only [putAll, Act.put, List.setIfInBounds_toArray, List.set_cons_zero, List.set_cons_succ]; rfl) | (simp only [hq.1, putAll, Act.put, List.setIfInBounds_toArray, List.set_cons_zero, List.set_cons_succ] <;> rfl)) (hJ8 (gb251) _ (Ow.Own.cong (Ow.Own.pick [0, 1, 2, 3, 4] HO.out (by decide)) (by first | ((try simp only [hq.1]) <;> rfl) | fail)))
                  ·skip
                   rintro gb251 w46 HO7_
                   clear HO
                   have HO := Aside0.mk HO7_
                   clear HO7_
                   have hHeld := Ow.Own.pick [0, 1, 2, 3] HO.out (by decide)
                   refine norm_ (a' := ?_) ?_ ?_
                   rotate_left
                   ·simp only [putAll, Act.put, List.setIfInBounds_toArray, List.set_cons_zero, List.set_cons_succ]
                    rfl
                   refine two_ (i := 0) (j := 7) (Ni := some 28) (Nj := some 7) (Ow.B 12 259) (Ow.B 12 386) rfl rfl rfl rfl (two_of HT_.out (by kernel_rfl)) (by decide) (by decide) (fun K hK => ?_) (fun K hK => ?_)
                   ·skip
                    refine goes_ Try.func18 (by kernel_rfl) rfl #[.string (⟨#[48, 49, 48, 48, 48, 48]⟩ : ByteArray), .int .i64 40, .int .i64 0] (by rfl) rfl rfl (by (try simp only [List.map_toArray, List.map_cons, List.map_nil]); first | done | rfl | (simp only [hq.1]; done) | (simp only [hq.1]; rfl) | (simp only [List.length_drop, List.length_take]; rfl)) ?_
                    obtain ⟨Q14, hQ14_⟩ : ∃ q_ : Array Value, q_ = (#[.string t212, .string t213, .string t214, .int .i64 t215, .string t216, .string t217, .string t218, .string t219, .string t220, .int .i64 t221, .int .i64 t222, .string t223, .bool t224, .int .i64 t225, .string t226, .string t227, .string t228, .int .i64 t229, .int .i64 t230, .int .i64 t231, .bool t232, .bool t233, .int .i64 t234, .int .i64 t235, .bool t236] : Array Value) := ⟨_, rfl⟩
                    try rw [← hQ14_]
                    have hQ14 := Aside0.mk hQ14_; replace hq := Aside0.mk (And.intro hQ14_ hq.1); clear hQ14_
                    refine Calls.mono (calls_of_args (by first | ((try simp only [hq.1]) <;> rfl) | fail) (bursarlaw26_some.calls (⟨#[48, 49, 48, 48, 48, 48]⟩ : ByteArray) 40 0 t212 t213 t214 t215 t216 t217 t218 t219 t220 t221 t222 t223 t224 t225 t226 t227 t228 t229 t230 t231 t232 t233 t234 t235 t236 _ A5.out)) ?_
                    rintro e w47 ⟨he_, hb⟩
                    (try rw [← hQ14.out] at he_)
                    subst he_
                    replace HO := Aside0.mk (Ow.Own.call HO.out hb)
                    clear hb
                    refine ⟨_, rfl, ?_⟩
                    refine hK.out _ _ (by have h_ := Ow.Own.pick [0, 1, 2, 3] HO.out (by decide); first | exact h_ | exact Ow.Own.cong h_ (by first | ((try simp only [hq.1]) <;> rfl) | fail)) (fun hHeld => ?_)
                    clear hK K
                    refine norm_ (a' := ?_) ?_ ?_
                    rotate_left
                    ·show Act.put _ (some 28) _ = _
                     simp only [Act.put, List.setIfInBounds_toArray, List.set_cons_zero, List.set_cons_succ, i64_w, i32_w]
                     rfl
                    exact norm_ (by first | (simp only [putAll, Act.put, List.setIfInBounds_toArray, List.set_cons_zero, List.set_cons_succ]; done) | (simp only [putAll, Act.put, List.setIfInBounds_toArray, List.set_cons_zero, List.set_cons_succ]; rfl) | (simp only [hq.1, putAll, Act.put, List.setIfInBounds_toArray, List.set_cons_zero, List.set_cons_succ] <;> rfl)) (hJ0_8 (gb251) _ (Ow.Own.cong (Ow.Own.pick [0, 1, 2, 3, 4] HO.out (by decide)) (by first | ((try simp only [hq.1]) <;> rfl) | fail)))
                   ·skip
                    refine box_step ?hg (N := 7) ?hd (cs := bursarlaw26_awake.Z6) (t := 33) ?hr ?_; (case hd => rfl); (case hg => rfl); (case hr => first | (go_simp; done) | (go_simp; rfl))
                    intro gb250 hg w47 hbox hb
                    replace HO := Aside0.mk (Ow.Own.add HO.out hg hbox hb)
                    clear hb hbox hg
                    simp only [List.cons_append, List.nil_append] at HO
                    refine hK.out _ _ (by have h_ := Ow.Own.pick [0, 1, 2, 3] HO.out (by decide); first | exact h_ | exact Ow.Own.cong h_ (by first | ((try simp only [hq.1]) <;> rfl) | fail)) (fun hHeld => ?_)
                    clear hK K
                    refine norm_ (a' := ?_) ?_ ?_
                    rotate_left
                    ·show Act.put _ (some 7) _ = _
                     simp only [Act.put, List.setIfInBounds_toArray, List.set_cons_zero, List.set_cons_succ, i64_w, i32_w]
                     rfl
                    exact norm_ (by first | (simp only [putAll, Act.put, List.setIfInBounds_toArray, List.set_cons_zero, List.set_cons_succ]; done) | (simp only [putAll, Act.put, List.setIfInBounds_toArray, List.set_cons_zero, List.set_cons_succ]; rfl) | (simp only [hq.1, putAll, Act.put, List.setIfInBounds_toArray, List.set_cons_zero, List.set_cons_succ] <;> rfl)) (hJ7_8 (gb250, gb251) _ (Ow.Own.cong (Ow.Own.pick [0, 1, 2, 3, 5, 4] HO.out (by decide)) (by first | ((try simp only [hq.1]) <;> rfl) | fail)))
                 ·skip
                  rintro gb250 w46 HO7_
                  clear HO
                  have HO := Aside0.mk HO7_
                  clear HO7_
                  have hHeld := Ow.Own.pick [0, 1, 2, 3] HO.out (by decide)
                  refine norm_ (a' := ?_) ?_ ?_
                  rotate_left
                  ·simp only [putAll, Act.put, List.setIfInBounds_toArray, List.set_cons_zero, List.set_cons_succ]
                   rfl
                  refine two_ (i := 0) (j := 8) (Ni := some 28) (Nj := some 8) (Ow.B 12 131) (Ow.B 12 386) rfl rfl rfl rfl (two_of HT_.out (by kernel_rfl)) (by decide) (by decide) (fun K hK => ?_) (fun K hK => ?_)
                  ·skip
                   refine goes_ Try.func18 (by kernel_rfl) rfl #[.string (⟨#[48, 49, 48, 48, 48, 48]⟩ : ByteArray), .int .i64 40, .int .i64 0] (by rfl) rfl rfl (by (try simp only [List.map_toArray, List.map_cons, List.map_nil]); first | done | rfl | (simp only [hq.1]; done) | (simp only [hq.1]; rfl) | (simp only [List.length_drop, List.length_take]; rfl)) ?_
                   obtain ⟨Q15, hQ15_⟩ : ∃ q_ : Array Value, q_ = (#[.string t212, .string t213, .string t214, .int .i64 t215, .string t216, .string t217, .string t218, .string t219, .string t220, .int .i64 t221, .int .i64 t222, .string t223, .bool t224, .int .i64 t225, .string t226, .string t227, .string t228, .int .i64 t229, .int .i64 t230, .int .i64 t231, .bool t232, .bool t233, .int .i64 t234, .int .i64 t235, .bool t236] : Array Value) := ⟨_, rfl⟩
                   try rw [← hQ15_]
                   have hQ15 := Aside0.mk hQ15_; replace hq := Aside0.mk (And.intro hQ15_ hq.1); clear hQ15_
                   refine Calls.mono (calls_of_args (by first | ((try simp only [hq.1]) <;> rfl) | fail) (bursarlaw26_some.calls (⟨#[48, 49, 48, 48, 48, 48]⟩ : ByteArray) 40 0 t212 t213 t214 t215 t216 t217 t218 t219 t220 t221 t222 t223 t224 t225 t226 t227 t228 t229 t230 t231 t232 t233 t234 t235 t236 _ A5.out)) ?_
                   rintro e w47 ⟨he_, hb⟩
                   (try rw [← hQ15.out] at he_)
                   subst he_
                   replace HO := Aside0.mk (Ow.Own.call HO.out hb)
                   clear hb
                   refine ⟨_, rfl, ?_⟩
                   refine hK.out _ _ (by have h_ := Ow.Own.pick [0, 1, 2, 3] HO.out (by decide); first | exact h_ | exact Ow.Own.cong h_ (by first | ((try simp only [hq.1]) <;> rfl) | fail)) (fun hHeld => ?_)
                   clear hK K
                   refine norm_ (a' := ?_) ?_ ?_
                   rotate_left
                   ·show Act.put _ (some 28) _ = _
                    simp only [Act.put, List.setIfInBounds_toArray, List.set_cons_zero, List.set_cons_succ, i64_w, i32_w]
                    rfl
                   exact norm_ (by first | (simp only [putAll, Act.put, List.setIfInBounds_toArray, List.set_cons_zero, List.set_cons_succ]; done) | (simp only [putAll, Act.put, List.setIfInBounds_toArray, List.set_cons_zero, List.set_cons_succ]; rfl) | (simp only [hq.1, putAll, Act.put, List.setIfInBounds_toArray, List.set_cons_zero, List.set_cons_succ] <;> rfl)) (hJ0_7 (gb250) _ (Ow.Own.cong (Ow.Own.pick [0, 1, 2, 3, 4] HO.out (by decide)) (by first | ((try simp only [hq.1]) <;> rfl) | fail)))
                  ·skip
                   refine box_step ?hg (N := 8) ?hd (cs := bursarlaw26_awake.Z6_1) (t := 37) ?hr ?_; (case hd => rfl); (case hg => rfl); (case hr => first | (go_simp; done) | (go_simp; rfl))
                   intro gb251 hg w47 hbox hb
                   replace HO := Aside0.mk (Ow.Own.add HO.out hg hbox hb)
                   clear hb hbox hg
                   simp only [List.cons_append, List.nil_append] at HO
                   refine hK.out _ _ (by have h_ := Ow.Own.pick [0, 1, 2, 3] HO.out (by decide); first | exact h_ | exact Ow.Own.cong h_ (by first | ((try simp only [hq.1]) <;> rfl) | fail)) (fun hHeld => ?_)
                   clear hK K
                   refine norm_ (a' := ?_) ?_ ?_
                   rotate_left
                   ·show Act.put _ (some 8) _ = _
                    simp only [Act.put, List.setIfInBounds_toArray, List.set_cons_zero, List.set_cons_succ, i64_w, i32_w]
                    rfl
                   exact norm_ (by first | (simp only [putAll, Act.put, List.setIfInBounds_toArray, List.set_cons_zero, List.set_cons_succ]; done) | (simp only [putAll, Act.put, List.setIfInBounds_toArray, List.set_cons_zero, List.set_cons_succ]; rfl) | (simp only [hq.1, putAll, Act.put, List.setIfInBounds_toArray, List.set_cons_zero, List.set_cons_succ] <;> rfl)) (hJ7_8 (gb250, gb251) _ (Ow.Own.cong (Ow.Own.pick [0, 1, 2, 3, 4, 5] HO.out (by decide)) (by first | ((try simp only [hq.1]) <;> rfl) | fail)))
                ·skip
                 rintro _ w46 HO7_
                 clear HO
                 have HO := Aside0.mk HO7_
                 clear HO7_
                 have hHeld := Ow.Own.pick [0, 1, 2, 3] HO.out (by decide)
                 refine norm_ (a' := ?_) ?_ ?_
                 rotate_left
                 ·simp only [putAll, Act.put, List.setIfInBounds_toArray, List.set_cons_zero, List.set_cons_succ]
                  rfl
                 refine three_ (i := 2) (j := 7) (k := 8) (Ni := some 30) (Nj := some 7) (Nk := some 8) (Ow.B 12 7) (Ow.B 12 131) (Ow.B 12 259) rfl rfl rfl rfl rfl rfl (three_of HT_.out (by kernel_rfl)) (by decide) (by decide) (by decide) (fun K hK => ?_) (fun K hK => ?_) (fun K hK => ?_)
                 ·skip
                  obtain ⟨Q16, hQ16_⟩ : ∃ q_ : Array Value, q_ = (#[.string t212, .string t213, .string t214, .int .i64 t215, .string t216, .string t217, .string t218, .string t219, .string t220, .int .i64 t221, .int .i64 t222, .string t223, .bool t224, .int .i64 t225, .string t226, .string t227, .string t228, .int .i64 t229, .int .i64 t230, .int .i64 t231, .bool t232, .bool t233, .int .i64 t234, .int .i64 t235, .bool t236] : Array Value) := ⟨_, rfl⟩
                  try rw [← hQ16_]
                  have hQ16 := Aside0.mk hQ16_; replace hq := Aside0.mk (And.intro hQ16_ hq.1); clear hQ16_
                  refine goes_ Try.func8 (by kernel_rfl) rfl #[.agg Q16, .agg #[.string t157, .string t158, .string t159, .int .i64 t160, .int .i64 t161, .int .i64 t162], .bool true] (by rfl) rfl rfl (by (try simp only [List.map_toArray, List.map_cons, List.map_nil]); first | done | rfl | (simp only [hq.1]; done) | (simp only [hq.1]; rfl) | (simp only [List.length_drop, List.length_take]; rfl)) ?_
                  refine Calls.mono (calls_of_args (by first | ((try simp only [hq.1]) <;> rfl) | fail) (dispute_Decide.calls k t212 t213 t214 t215 t216 t217 t218 t219 t220 t221 t222 t223 t224 t225 t226 t227 t228 t229 t230 t231 t232 t233 t234 t235 t236 t157 t158 t159 t160 t161 t162 true t237 t238 t239 t240 t241 t242 t243 t244 t245 t246 t247 t248 t249 _ A6.out)) ?_
                  rintro e w47 ⟨he_, hb⟩
                  subst he_
                  replace HO := Aside0.mk (Ow.Own.call HO.out hb)
                  clear hb
                  refine ⟨_, rfl, ?_⟩
                  refine hK.out _ _ (by first | exact HO.out | exact Ow.Own.cong HO.out (by first | ((try simp only [hq.1]) <;> rfl) | fail)) (fun hHeld => ?_)
                  clear hK K
                  refine norm_ (a' := ?_) ?_ ?_
                  rotate_left
                  ·show Act.put _ (some 30) _ = _
                   simp only [Act.put, List.setIfInBounds_toArray, List.set_cons_zero, List.set_cons_succ, i64_w, i32_w]
                   rfl
                  refine' Ow.pu (i := 3) (N := some 27) (Ow.B 12 15) HT_.out ?hv_ ?ha_ ?_; (case hv_ => intro w'; go_simp; with_reducible rfl); (case ha_ => simp only [Ow.Sl, i64_w, i32_w]; rfl)
                  refine' Ow.pu (i := 4) (N := some 31) (Ow.B 12 31) HT_.out ?hv_ ?ha_ ?_; (case hv_ => intro w'; go_simp; with_reducible rfl); (case ha_ => simp only [Ow.Sl, i64_w, i32_w]; rfl)
                  refine' Ow.pu (i := 5) (N := some 32) (Ow.B 12 63) HT_.out ?hv_ ?ha_ ?_; (case hv_ => intro w'; go_simp; with_reducible rfl); (case ha_ => simp only [Ow.Sl, i64_w, i32_w]; rfl)
                  refine' Ow.pu (i := 6) (N := some 33) (Ow.B 12 127) HT_.out ?hv_ ?ha_ ?_; (case hv_ => intro w'; go_simp; with_reducible rfl); (case ha_ => simp only [Ow.Sl, i64_w, i32_w]; rfl)
                  exact norm_ (by first | (simp only [putAll, Act.put, List.setIfInBounds_toArray, List.set_cons_zero, List.set_cons_succ]; done) | (simp only [putAll, Act.put, List.setIfInBounds_toArray, List.set_cons_zero, List.set_cons_succ]; rfl) | (simp only [hq.1, putAll, Act.put, List.setIfInBounds_toArray, List.set_cons_zero, List.set_cons_succ] <;> rfl)) (hJ0_2 () _ (Ow.Own.cong (Ow.Own.pick [0, 1, 2, 3] HO.out (by decide)) (by first | ((try simp only [hq.1]) <;> rfl) | fail)))
                 ·skip
                  refine box_step ?hg (N := 7) ?hd (cs := bursarlaw26_awake.Z6) (t := 33) ?hr ?_; (case hd => rfl); (case hg => rfl); (case hr => first | (go_simp; done) | (go_simp; rfl))
                  intro gb250 hg w47 hbox hb
                  replace HO := Aside0.mk (Ow.Own.add HO.out hg hbox hb)
                  clear hb hbox hg
                  simp only [List.cons_append, List.nil_append] at HO
                  refine hK.out _ _ (by have h_ := Ow.Own.pick [0, 1, 2, 3] HO.out (by decide); first | exact h_ | exact Ow.Own.cong h_ (by first | ((try simp only [hq.1]) <;> rfl) | fail)) (fun hHeld => ?_)
                  clear hK K
                  refine norm_ (a' := ?_) ?_ ?_
                  rotate_left
                  ·show Act.put _ (some 7) _ = _
                   simp only [Act.put, List.setIfInBounds_toArray, List.set_cons_zero, List.set_cons_succ, i64_w, i32_w]
                   rfl
                  exact norm_ (by first | (simp only [putAll, Act.put, List.setIfInBounds_toArray, List.set_cons_zero, List.set_cons_succ]; done) | (simp only [putAll, Act.put, List.setIfInBounds_toArray, List.set_cons_zero, List.set_cons_succ]; rfl) | (simp only [hq.1, putAll, Act.put, List.setIfInBounds_toArray, List.set_cons_zero, List.set_cons_succ] <;> rfl)) (hJ0_7 (gb250) _ (Ow.Own.cong (Ow.Own.pick [0, 1, 2, 3, 4] HO.out (by decide)) (by first | ((try simp only [hq.1]) <;> rfl) | fail)))
                 ·skip
                  refine box_step ?hg (N := 8) ?hd (cs := bursarlaw26_awake.Z6_1) (t := 37) ?hr ?_; (case hd => rfl); (case hg => rfl); (case hr => first | (go_simp; done) | (go_simp; rfl))
                  intro gb251 hg w47 hbox hb
                  replace HO := Aside0.mk (Ow.Own.add HO.out hg hbox hb)
                  clear hb hbox hg
                  simp only [List.cons_append, List.nil_append] at HO
                  refine hK.out _ _ (by have h_ := Ow.Own.pick [0, 1, 2, 3] HO.out (by decide); first | exact h_ | exact Ow.Own.cong h_ (by first | ((try simp only [hq.1]) <;> rfl) | fail)) (fun hHeld => ?_)
                  clear hK K
                  refine norm_ (a' := ?_) ?_ ?_
                  rotate_left
                  ·show Act.put _ (some 8) _ = _
                   simp only [Act.put, List.setIfInBounds_toArray, List.set_cons_zero, List.set_cons_succ, i64_w, i32_w]
                   rfl
                  exact norm_ (by first | (simp only [putAll, Act.put, List.setIfInBounds_toArray, List.set_cons_zero, List.set_cons_succ]; done) | (simp only [putAll, Act.put, List.setIfInBounds_toArray, List.set_cons_zero, List.set_cons_succ]; rfl) | (simp only [hq.1, putAll, Act.put, List.setIfInBounds_toArray, List.set_cons_zero, List.set_cons_succ] <;> rfl)) (hJ0_8 (gb251) _ (Ow.Own.cong (Ow.Own.pick [0, 1, 2, 3, 4] HO.out (by decide)) (by first | ((try simp only [hq.1]) <;> rfl) | fail)))
               ·skip
                rintro ⟨gb250, gb251⟩ w47 HO7_
                clear HO
                have HO := Aside0.mk HO7_
                clear HO7_
                have hHeld := Ow.Own.pick [0, 1, 2, 3] HO.out (by decide)
                refine norm_ (a' := ?_) ?_ ?_
                rotate_left
                ·simp only [putAll, Act.put, List.setIfInBounds_toArray, List.set_cons_zero, List.set_cons_succ]
                 rfl
                refine one_ (i := 0) (N := some 28) (Ow.B 12 387) rfl rfl (one_of HT_.out (by kernel_rfl)) (by decide) (fun K hK => ?_)
                refine goes_ Try.func18 (by kernel_rfl) rfl #[.string (⟨#[48, 49, 48, 48, 48, 48]⟩ : ByteArray), .int .i64 40, .int .i64 0] (by rfl) rfl rfl (by (try simp only [List.map_toArray, List.map_cons, List.map_nil]); first | done | rfl | (simp only [hq.1]; done) | (simp only [hq.1]; rfl) | (simp only [List.length_drop, List.length_take]; rfl)) ?_
                obtain ⟨Q17, hQ17_⟩ : ∃ q_ : Array Value, q_ = (#[.string t212, .string t213, .string t214, .int .i64 t215, .string t216, .string t217, .string t218, .string t219, .string t220, .int .i64 t221, .int .i64 t222, .string t223, .bool t224, .int .i64 t225, .string t226, .string t227, .string t228, .int .i64 t229, .int .i64 t230, .int .i64 t231, .bool t232, .bool t233, .int .i64 t234, .int .i64 t235, .bool t236] : Array Value) := ⟨_, rfl⟩
                try rw [← hQ17_]
                have hQ17 := Aside0.mk hQ17_; replace hq := Aside0.mk (And.intro hQ17_ hq.1); clear hQ17_
                refine Calls.mono (calls_of_args (by first | ((try simp only [hq.1]) <;> rfl) | fail) (bursarlaw26_some.calls (⟨#[48, 49, 48, 48, 48, 48]⟩ : ByteArray) 40 0 t212 t213 t214 t215 t216 t217 t218 t219 t220 t221 t222 t223 t224 t225 t226 t227 t228 t229 t230 t231 t232 t233 t234 t235 t236 _ A5.out)) ?_
                rintro e w48 ⟨he_, hb⟩
                (try rw [← hQ17.out] at he_)
                subst he_
                replace HO := Aside0.mk (Ow.Own.call HO.out hb)
                clear hb
                refine ⟨_, rfl, ?_⟩
                refine hK.out _ _ (by have h_ := Ow.Own.pick [0, 1, 2, 3] HO.out (by decide); first | exact h_ | exact Ow.Own.cong h_ (by first | ((try simp only [hq.1]) <;> rfl) | fail)) (fun hHeld => ?_)
                clear hK K
                refine norm_ (a' := ?_) ?_ ?_
                rotate_left
                ·show Act.put _ (some 28) _ = _
                 simp only [Act.put, List.setIfInBounds_toArray, List.set_cons_zero, List.set_cons_succ, i64_w, i32_w]
                 rfl
                exact norm_ (by first | (simp only [putAll, Act.put, List.setIfInBounds_toArray, List.set_cons_zero, List.set_cons_succ]; done) | (simp only [putAll, Act.put, List.setIfInBounds_toArray, List.set_cons_zero, List.set_cons_succ]; rfl) | (simp only [hq.1, putAll, Act.put, List.setIfInBounds_toArray, List.set_cons_zero, List.set_cons_succ] <;> rfl)) (hJ0_7_8 (gb250, gb251) _ (Ow.Own.cong (Ow.Own.pick [0, 1, 2, 3, 4, 5] HO.out (by decide)) (by first | ((try simp only [hq.1]) <;> rfl) | fail)))
              ·skip
               rintro gb251 w47 HO7_
               clear HO
               have HO := Aside0.mk HO7_
               clear HO7_
               have hHeld := Ow.Own.pick [0, 1, 2, 3] HO.out (by decide)
               refine norm_ (a' := ?_) ?_ ?_
               rotate_left
               ·simp only [putAll, Act.put, List.setIfInBounds_toArray, List.set_cons_zero, List.set_cons_succ]
                rfl
               refine two_ (i := 2) (j := 7) (Ni := some 30) (Nj := some 7) (Ow.B 12 263) (Ow.B 12 387) rfl rfl rfl rfl (two_of HT_.out (by kernel_rfl)) (by decide) (by decide) (fun K hK => ?_) (fun K hK => ?_)
               ·skip
                obtain ⟨Q18, hQ18_⟩ : ∃ q_ : Array Value, q_ = (#[.string t212, .string t213, .string t214, .int .i64 t215, .string t216, .string t217, .string t218, .string t219, .string t220, .int .i64 t221, .int .i64 t222, .string t223, .bool t224, .int .i64 t225, .string t226, .string t227, .string t228, .int .i64 t229, .int .i64 t230, .int .i64 t231, .bool t232, .bool t233, .int .i64 t234, .int .i64 t235, .bool t236] : Array Value) := ⟨_, rfl⟩
                try rw [← hQ18_]
                have hQ18 := Aside0.mk hQ18_; replace hq := Aside0.mk (And.intro hQ18_ hq.1); clear hQ18_
                refine goes_ Try.func8 (by kernel_rfl) rfl #[.agg Q18, .agg #[.string t157, .string t158, .string t159, .int .i64 t160, .int .i64 t161, .int .i64 t162], .bool true] (by rfl) rfl rfl (by (try simp only [List.map_toArray, List.map_cons, List.map_nil]); first | done | rfl | (simp only [hq.1]; done) | (simp only [hq.1]; rfl) | (simp only [List.length_drop, List.length_take]; rfl)) ?_
                refine Calls.mono (calls_of_args (by first | ((try simp only [hq.1]) <;> rfl) | fail) (dispute_Decide.calls k t212 t213 t214 t215 t216 t217 t218 t219 t220 t221 t222 t223 t224 t225 t226 t227 t228 t229 t230 t231 t232 t233 t234 t235 t236 t157 t158 t159 t160 t161 t162 true t237 t238 t239 t240 t241 t242 t243 t244 t245 t246 t247 t248 t249 _ A6.out)) ?_
                rintro e w48 ⟨he_, hb⟩
                subst he_
                replace HO := Aside0.mk (Ow.Own.call HO.out hb)
                clear hb
                refine ⟨_, rfl, ?_⟩
                refine hK.out _ _ (by have h_ := Ow.Own.pick [0, 1, 2, 3] HO.out (by decide); first | exact h_ | exact Ow.Own.cong h_ (by first | ((try simp only [hq.1]) <;> rfl) | fail)) (fun hHeld => ?_)
                clear hK K
                refine norm_ (a' := ?_) ?_ ?_
                rotate_left
                ·show Act.put _ (some 30) _ = _
                 simp only [Act.put, List.setIfInBounds_toArray, List.set_cons_zero, List.set_cons_succ, i64_w, i32_w]
                 rfl
                refine' Ow.pu (i := 3) (N := some 27) (Ow.B 12 271) HT_.out ?hv_ ?ha_ ?_; (case hv_ => intro w'; go_simp; with_reducible rfl); (case ha_ => simp only [Ow.Sl, i64_w, i32_w]; rfl)
                refine' Ow.pu (i := 4) (N := some 31) (Ow.B 12 287) HT_.out ?hv_ ?ha_ ?_; (case hv_ => intro w'; go_simp; with_reducible rfl); (case ha_ => simp only [Ow.Sl, i64_w, i32_w]; rfl)
                refine' Ow.pu (i := 5) (N := some 32) (Ow.B 12 319) HT_.out ?hv_ ?ha_ ?_; (case hv_ => intro w'; go_simp; with_reducible rfl); (case ha_ => simp only [Ow.Sl, i64_w, i32_w]; rfl)
                refine' Ow.pu (i := 6) (N := some 33) (Ow.B 12 383) HT_.out ?hv_ ?ha_ ?_; (case hv_ => intro w'; go_simp; with_reducible rfl); (case ha_ => simp only [Ow.Sl, i64_w, i32_w]; rfl)
                exact norm_ (by first | (simp only [putAll, Act.put, List.setIfInBounds_toArray, List.set_cons_zero, List.set_cons_succ]; done) | (simp only [putAll, Act.put, List.setIfInBounds_toArray, List.set_cons_zero, List.set_cons_succ]; rfl) | (simp only [hq.1, putAll, Act.put, List.setIfInBounds_toArray, List.set_cons_zero, List.set_cons_succ] <;> rfl)) (hJ0_2_8 (gb251) _ (Ow.Own.cong (Ow.Own.pick [0, 1, 2, 3, 4] HO.out (by decide)) (by first | ((try simp only [hq.1]) <;> rfl) | fail)))
               ·skip
                refine box_step ?hg (N := 7) ?hd (cs := bursarlaw26_awake.Z6) (t := 33) ?hr ?_; (case hd => rfl); (case hg => rfl); (case hr => first | (go_simp; done) | (go_simp; rfl))
                intro gb250 hg w48 hbox hb
                replace HO := Aside0.mk (Ow.Own.add HO.out hg hbox hb)
                clear hb hbox hg
                simp only [List.cons_append, List.nil_append] at HO
                refine hK.out _ _ (by have h_ := Ow.Own.pick [0, 1, 2, 3] HO.out (by decide); first | exact h_ | exact Ow.Own.cong h_ (by first | ((try simp only [hq.1]) <;> rfl) | fail)) (fun hHeld => ?_)
                clear hK K
                refine norm_ (a' := ?_) ?_ ?_
                rotate_left
                ·show Act.put _ (some 7) _ = _
                 simp only [Act.put, List.setIfInBounds_toArray, List.set_cons_zero, List.set_cons_succ, i64_w, i32_w]
                 rfl
                exact norm_ (by first | (simp only [putAll, Act.put, List.setIfInBounds_toArray, List.set_cons_zero, List.set_cons_succ]; done) | (simp only [putAll, Act.put, List.setIfInBounds_toArray, List.set_cons_zero, List.set_cons_succ]; rfl) | (simp only [hq.1, putAll, Act.put, List.setIfInBounds_toArray, List.set_cons_zero, List.set_cons_succ] <;> rfl)) (hJ0_7_8 (gb250, gb251) _ (Ow.Own.cong (Ow.Own.pick [0, 1, 2, 3, 5, 4] HO.out (by decide)) (by first | ((try simp only [hq.1]) <;> rfl) | fail)))
             ·skip
              rintro gb250 w47 HO7_
              clear HO
              have HO := Aside0.mk HO7_
              clear HO7_
              have hHeld := Ow.Own.pick [0, 1, 2, 3] HO.out (by decide)
              refine norm_ (a' := ?_) ?_ ?_
              rotate_left
              ·simp only [putAll, Act.put, List.setIfInBounds_toArray, List.set_cons_zero, List.set_cons_succ]
               rfl
              refine two_ (i := 2) (j := 8) (Ni := some 30) (Nj := some 8) (Ow.B 12 135) (Ow.B 12 387) rfl rfl rfl rfl (two_of HT_.out (by kernel_rfl)) (by decide) (by decide) (fun K hK => ?_) (fun K hK => ?_)
              ·skip
               obtain ⟨Q19, hQ19_⟩ : ∃ q_ : Array Value, q_ = (#[.string t212, .string t213, .string t214, .int .i64 t215, .string t216, .string t217, .string t218, .string t219, .string t220, .int .i64 t221, .int .i64 t222, .string t223, .bool t224, .int .i64 t225, .string t226, .string t227, .string t228, .int .i64 t229, .int .i64 t230, .int .i64 t231, .bool t232, .bool t233, .int .i64 t234, .int .i64 t235, .bool t236] : Array Value) := ⟨_, rfl⟩
               try rw [← hQ19_]
               have hQ19 := Aside0.mk hQ19_; replace hq := Aside0.mk (And.intro hQ19_ hq.1); clear hQ19_
               refine goes_ Try.func8 (by kernel_rfl) rfl #[.agg Q19, .agg #[.string t157, .string t158, .string t159, .int .i64 t160, .int .i64 t161, .int .i64 t162], .bool true] (by rfl) rfl rfl (by (try simp only [List.map_toArray, List.map_cons, List.map_nil]); first | done | rfl | (simp only [hq.1]; done) | (simp only [hq.1]; rfl) | (simp only [List.length_drop, List.length_take]; rfl)) ?_
               refine Calls.mono (calls_of_args (by first | ((try simp only [hq.1]) <;> rfl) | fail) (dispute_Decide.calls k t212 t213 t214 t215 t216 t217 t218 t219 t220 t221 t222 t223 t224 t225 t226 t227 t228 t229 t230 t231 t232 t233 t234 t235 t236 t157 t158 t159 t160 t161 t162 true t237 t238 t239 t240 t241 t242 t243 t244 t245 t246 t247 t248 t249 _ A6.out)) ?_
               rintro e w48 ⟨he_, hb⟩
               subst he_
               replace HO := Aside0.mk (Ow.Own.call HO.out hb)
               clear hb
               refine ⟨_, rfl, ?_⟩
               refine hK.out _ _ (by have h_ := Ow.Own.pick [0, 1, 2, 3] HO.out (by decide); first | exact h_ | exact Ow.Own.cong h_ (by first | ((try simp only [hq.1]) <;> rfl) | fail)) (fun hHeld => ?_)
               clear hK K
               refine norm_ (a' := ?_) ?_ ?_
               rotate_left
               ·show Act.put _ (some 30) _ = _
                simp only [Act.put, List.setIfInBounds_toArray, List.set_cons_zero, List.set_cons_succ, i64_w, i32_w]
                rfl
               refine' Ow.pu (i := 3) (N := some 27) (Ow.B 12 143) HT_.out ?hv_ ?ha_ ?_; (case hv_ => intro w'; go_simp; with_reducible rfl); (case ha_ => simp only [Ow.Sl, i64_w, i32_w]; rfl)
               refine' Ow.pu (i := 4) (N := some 31) (Ow.B 12 159) HT_.out ?hv_ ?ha_ ?_; (case hv_ => intro w'; go_simp; with_reducible rfl); (case ha_ => simp only [Ow.Sl, i64_w, i32_w]; rfl)
               refine' Ow.pu (i := 5) (N := some 32) (Ow.B 12 191) HT_.out ?hv_ ?ha_ ?_; (case hv_ => intro w'; go_simp; with_reducible rfl); (case ha_ => simp only [Ow.Sl, i64_w, i32_w]; rfl)
               refine' Ow.pu (i := 6) (N := some 33) (Ow.B 12 255) HT_.out ?hv_ ?ha_ ?_; (case hv_ => intro w'; go_simp; with_reducible rfl); (case ha_ => simp only [Ow.Sl, i64_w, i32_w]; rfl)
               exact norm_ (by first | (simp only [putAll, Act.put, List.setIfInBounds_toArray, List.set_cons_zero, List.set_cons_succ]; done) | (simp only [putAll, Act.put, List.setIfInBounds_toArray, List.set_cons_zero, List.set_cons_succ]; rfl) | (simp only [hq.1, putAll, Act.put, List.setIfInBounds_toArray, List.set_cons_zero, List.set_cons_succ] <;> rfl)) (hJ0_2_7 (gb250) _ (Ow.Own.cong (Ow.Own.pick [0, 1, 2, 3, 4] HO.out (by decide)) (by first | ((try simp only [hq.1]) <;> rfl) | fail)))
              ·skip
               refine box_step ?hg (N := 8) ?hd (cs := bursarlaw26_awake.Z6_1) (t := 37) ?hr ?_; (case hd => rfl); (case hg => rfl); (case hr => first | (go_simp; done) | (go_simp; rfl))
               intro gb251 hg w48 hbox hb
               replace HO := Aside0.mk (Ow.Own.add HO.out hg hbox hb)
               clear hb hbox hg
               simp only [List.cons_append, List.nil_append] at HO
               refine hK.out _ _ (by have h_ := Ow.Own.pick [0, 1, 2, 3] HO.out (by decide); first | exact h_ | exact Ow.Own.cong h_ (by first | ((try simp only [hq.1]) <;> rfl) | fail)) (fun hHeld => ?_)
               clear hK K
               refine norm_ (a' := ?_) ?_ ?_
               rotate_left
               ·show Act.put _ (some 8) _ = _
                simp only [Act.put, List.setIfInBounds_toArray, List.set_cons_zero, List.set_cons_succ, i64_w, i32_w]
                rfl
               exact norm_ (by first | (simp only [putAll, Act.put, List.setIfInBounds_toArray, List.set_cons_zero, List.set_cons_succ]; done) | (simp only [putAll, Act.put, List.setIfInBounds_toArray, List.set_cons_zero, List.set_cons_succ]; rfl) | (simp only [hq.1, putAll, Act.put, List.setIfInBounds_toArray, List.set_cons_zero, List.set_cons_succ] <;> rfl)) (hJ0_7_8 (gb250, gb251) _ (Ow.Own.cong (Ow.Own.pick [0, 1, 2, 3, 4, 5] HO.out (by decide)) (by first | ((try simp only [hq.1]) <;> rfl) | fail)))
            ·skip
             rintro _ w47 HO7_
             clear HO
             have HO := Aside0.mk HO7_
             clear HO7_
             have hHeld := Ow.Own.pick [0, 1, 2, 3] HO.out (by decide)
             refine norm_ (a' := ?_) ?_ ?_
             rotate_left
             ·simp only [putAll, Act.put, List.setIfInBounds_toArray, List.set_cons_zero, List.set_cons_succ]
              rfl
             refine two_ (i := 7) (j := 8) (Ni := some 7) (Nj := some 8) (Ow.B 12 255) (Ow.B 12 383) rfl rfl rfl rfl (two_of HT_.out (by kernel_rfl)) (by decide) (by decide) (fun K hK => ?_) (fun K hK => ?_)
             ·skip
              refine box_step ?hg (N := 7) ?hd (cs := bursarlaw26_awake.Z6) (t := 33) ?hr ?_; (case hd => rfl); (case hg => rfl); (case hr => first | (go_simp; done) | (go_simp; rfl))
              intro gb250 hg w48 hbox hb
              replace HO := Aside0.mk (Ow.Own.add HO.out hg hbox hb)
              clear hb hbox hg
              simp only [List.cons_append, List.nil_append] at HO
              refine hK.out _ _ (by have h_ := Ow.Own.pick [0, 1, 2, 3] HO.out (by decide); first | exact h_ | exact Ow.Own.cong h_ (by first | ((try simp only [hq.1]) <;> rfl) | fail)) (fun hHeld => ?_)
              clear hK K
              refine norm_ (a' := ?_) ?_ ?_
              rotate_left
              ·show Act.put _ (some 7) _ = _
               simp only [Act.put, List.setIfInBounds_toArray, List.set_cons_zero, List.set_cons_succ, i64_w, i32_w]
               rfl
              exact norm_ (by first | (simp only [putAll, Act.put, List.setIfInBounds_toArray, List.set_cons_zero, List.set_cons_succ]; done) | (simp only [putAll, Act.put, List.setIfInBounds_toArray, List.set_cons_zero, List.set_cons_succ]; rfl) | (simp only [hq.1, putAll, Act.put, List.setIfInBounds_toArray, List.set_cons_zero, List.set_cons_succ] <;> rfl)) (hJ0_2_7 (gb250) _ (Ow.Own.cong (Ow.Own.pick [0, 1, 2, 3, 4] HO.out (by decide)) (by first | ((try simp only [hq.1]) <;> rfl) | fail)))
             ·skip
              refine box_step ?hg (N := 8) ?hd (cs := bursarlaw26_awake.Z6_1) (t := 37) ?hr ?_; (case hd => rfl); (case hg => rfl); (case hr => first | (go_simp; done) | (go_simp; rfl))
              intro gb251 hg w48 hbox hb
              replace HO := Aside0.mk (Ow.Own.add HO.out hg hbox hb)
              clear hb hbox hg
              simp only [List.cons_append, List.nil_append] at HO
              refine hK.out _ _ (by have h_ := Ow.Own.pick [0, 1, 2, 3] HO.out (by decide); first | exact h_ | exact Ow.Own.cong h_ (by first | ((try simp only [hq.1]) <;> rfl) | fail)) (fun hHeld => ?_)
              clear hK K
              refine norm_ (a' := ?_) ?_ ?_
              rotate_left
              ·show Act.put _ (some 8) _ = _
               simp only [Act.put, List.setIfInBounds_toArray, List.set_cons_zero, List.set_cons_succ, i64_w, i32_w]
               rfl
              exact norm_ (by first | (simp only [putAll, Act.put, List.setIfInBounds_toArray, List.set_cons_zero, List.set_cons_succ]; done) | (simp only [putAll, Act.put, List.setIfInBounds_toArray, List.set_cons_zero, List.set_cons_succ]; rfl) | (simp only [hq.1, putAll, Act.put, List.setIfInBounds_toArray, List.set_cons_zero, List.set_cons_succ] <;> rfl)) (hJ0_2_8 (gb251) _ (Ow.Own.cong (Ow.Own.pick [0, 1, 2, 3, 4] HO.out (by decide)) (by first | ((try simp only [hq.1]) <;> rfl) | fail)))
           ·skip
            rintro ⟨gb250, gb251⟩ w48 HO7_
            clear HO
            have HO := Aside0.mk HO7_
            clear HO7_
            have hHeld := Ow.Own.pick [0, 1, 2, 3] HO.out (by decide)
            refine norm_ (a' := ?_) ?_ ?_
            rotate_left
            ·simp only [putAll, Act.put, List.setIfInBounds_toArray, List.set_cons_zero, List.set_cons_succ]
             rfl
            refine one_ (i := 2) (N := some 30) (Ow.B 12 391) rfl rfl (one_of HT_.out (by kernel_rfl)) (by decide) (fun K hK => ?_)
            obtain ⟨Q20, hQ20_⟩ : ∃ q_ : Array Value, q_ = (#[.string t212, .string t213, .string t214, .int .i64 t215, .string t216, .string t217, .string t218, .string t219, .string t220, .int .i64 t221, .int .i64 t222, .string t223, .bool t224, .int .i64 t225, .string t226, .string t227, .string t228, .int .i64 t229, .int .i64 t230, .int .i64 t231, .bool t232, .bool t233, .int .i64 t234, .int .i64 t235, .bool t236] : Array Value) := ⟨_, rfl⟩
            try rw [← hQ20_]
            have hQ20 := Aside0.mk hQ20_; replace hq := Aside0.mk (And.intro hQ20_ hq.1); clear hQ20_
            refine goes_ Try.func8 (by kernel_rfl) rfl #[.agg Q20, .agg #[.string t157, .string t158, .string t159, .int .i64 t160, .int .i64 t161, .int .i64 t162], .bool true] (by rfl) rfl rfl (by (try simp only [List.map_toArray, List.map_cons, List.map_nil]); first | done | rfl | (simp only [hq.1]; done) | (simp only [hq.1]; rfl) | (simp only [List.length_drop, List.length_take]; rfl)) ?_
            refine Calls.mono (calls_of_args (by first | ((try simp only [hq.1]) <;> rfl) | fail) (dispute_Decide.calls k t212 t213 t214 t215 t216 t217 t218 t219 t220 t221 t222 t223 t224 t225 t226 t227 t228 t229 t230 t231 t232 t233 t234 t235 t236 t157 t158 t159 t160 t161 t162 true t237 t238 t239 t240 t241 t242 t243 t244 t245 t246 t247 t248 t249 _ A6.out)) ?_
            rintro e w49 ⟨he_, hb⟩
            subst he_
            replace HO := Aside0.mk (Ow.Own.call HO.out hb)
            clear hb
            refine ⟨_, rfl, ?_⟩
            refine hK.out _ _ (by have h_ := Ow.Own.pick [0, 1, 2, 3] HO.out (by decide); first | exact h_ | exact Ow.Own.cong h_ (by first | ((try simp only [hq.1]) <;> rfl) | fail)) (fun hHeld => ?_)
            clear hK K
            refine norm_ (a' := ?_) ?_ ?_
            rotate_left
            ·show Act.put _ (some 30) _ = _
             simp only [Act.put, List.setIfInBounds_toArray, List.set_cons_zero, List.set_cons_succ, i64_w, i32_w]
             rfl
            refine' Ow.pu (i := 3) (N := some 27) (Ow.B 12 399) HT_.out ?hv_ ?ha_ ?_; (case hv_ => intro w'; go_simp; with_reducible rfl); (case ha_ => simp only [Ow.Sl, i64_w, i32_w]; rfl)
            refine' Ow.pu (i := 4) (N := some 31) (Ow.B 12 415) HT_.out ?hv_ ?ha_ ?_; (case hv_ => intro w'; go_simp; with_reducible rfl); (case ha_ => simp only [Ow.Sl, i64_w, i32_w]; rfl)
            refine' Ow.pu (i := 5) (N := some 32) (Ow.B 12 447) HT_.out ?hv_ ?ha_ ?_; (case hv_ => intro w'; go_simp; with_reducible rfl); (case ha_ => simp only [Ow.Sl, i64_w, i32_w]; rfl)
            refine' Ow.pu (i := 6) (N := some 33) (Ow.B 12 511) HT_.out ?hv_ ?ha_ ?_; (case hv_ => intro w'; go_simp; with_reducible rfl); (case ha_ => simp only [Ow.Sl, i64_w, i32_w]; rfl)
            exact norm_ (by first | (simp only [putAll, Act.put, List.setIfInBounds_toArray, List.set_cons_zero, List.set_cons_succ]; done) | (simp only [putAll, Act.put, List.setIfInBounds_toArray, List.set_cons_zero, List.set_cons_succ]; rfl) | (simp only [hq.1, putAll, Act.put, List.setIfInBounds_toArray, List.set_cons_zero, List.set_cons_succ] <;> rfl)) (hJ0_2_7_8 (gb250, gb251) _ (Ow.Own.cong (Ow.Own.pick [0, 1, 2, 3, 4, 5] HO.out (by decide)) (by first | ((try simp only [hq.1]) <;> rfl) | fail)))
          ·skip
           rintro gb251 w48 HO7_
           clear HO
           have HO := Aside0.mk HO7_
           clear HO7_
           have hHeld := Ow.Own.pick [0, 1, 2, 3] HO.out (by decide)
           refine norm_ (a' := ?_) ?_ ?_
           rotate_left
           ·simp only [putAll, Act.put, List.setIfInBounds_toArray, List.set_cons_zero, List.set_cons_succ]
            rfl
           refine one_ (i := 7) (N := some 7) (Ow.B 12 511) rfl rfl (one_of HT_.out (by kernel_rfl)) (by decide) (fun K hK => ?_)
           refine box_step ?hg (N := 7) ?hd (cs := bursarlaw26_awake.Z6) (t := 33) ?hr ?_; (case hd => rfl); (case hg => rfl); (case hr => first | (go_simp; done) | (go_simp; rfl))
           intro gb250 hg w49 hbox hb
           replace HO := Aside0.mk (Ow.Own.add HO.out hg hbox hb)
           clear hb hbox hg
           simp only [List.cons_append, List.nil_append] at HO
           refine hK.out _ _ (by have h_ := Ow.Own.pick [0, 1, 2, 3] HO.out (by decide); first | exact h_ | exact Ow.Own.cong h_ (by first | ((try simp only [hq.1]) <;> rfl) | fail)) (fun hHeld => ?_)
           clear hK K
           refine norm_ (a' := ?_) ?_ ?_
           rotate_left
           ·show Act.put _ (some 7) _ = _
            simp only [Act.put, List.setIfInBounds_toArray, List.set_cons_zero, List.set_cons_succ, i64_w, i32_w]
            rfl
           exact norm_ (by first | (simp only [putAll, Act.put, List.setIfInBounds_toArray, List.set_cons_zero, List.set_cons_succ]; done) | (simp only [putAll, Act.put, List.setIfInBounds_toArray, List.set_cons_zero, List.set_cons_succ]; rfl) | (simp only [hq.1, putAll, Act.put, List.setIfInBounds_toArray, List.set_cons_zero, List.set_cons_succ] <;> rfl)) (hJ0_2_7_8 (gb250, gb251) _ (Ow.Own.cong (Ow.Own.pick [0, 1, 2, 3, 5, 4] HO.out (by decide)) (by first | ((try simp only [hq.1]) <;> rfl) | fail)))
         ·skip
          rintro gb250 w48 HO7_
          clear HO
          have HO := Aside0.mk HO7_
          clear HO7_
          have hHeld := Ow.Own.pick [0, 1, 2, 3] HO.out (by decide)
          refine norm_ (a' := ?_) ?_ ?_
          rotate_left
          ·simp only [putAll, Act.put, List.setIfInBounds_toArray, List.set_cons_zero, List.set_cons_succ]
           rfl
          refine one_ (i := 8) (N := some 8) (Ow.B 12 511) rfl rfl (one_of HT_.out (by kernel_rfl)) (by decide) (fun K hK => ?_)
          refine box_step ?hg (N := 8) ?hd (cs := bursarlaw26_awake.Z6_1) (t := 37) ?hr ?_; (case hd => rfl); (case hg => rfl); (case hr => first | (go_simp; done) | (go_simp; rfl))
          intro gb251 hg w49 hbox hb
          replace HO := Aside0.mk (Ow.Own.add HO.out hg hbox hb)
          clear hb hbox hg
          simp only [List.cons_append, List.nil_append] at HO
          refine hK.out _ _ (by have h_ := Ow.Own.pick [0, 1, 2, 3] HO.out (by decide); first | exact h_ | exact Ow.Own.cong h_ (by first | ((try simp only [hq.1]) <;> rfl) | fail)) (fun hHeld => ?_)
          clear hK K
          refine norm_ (a' := ?_) ?_ ?_
          rotate_left
          ·show Act.put _ (some 8) _ = _
           simp only [Act.put, List.setIfInBounds_toArray, List.set_cons_zero, List.set_cons_succ, i64_w, i32_w]
           rfl
          exact norm_ (by first | (simp only [putAll, Act.put, List.setIfInBounds_toArray, List.set_cons_zero, List.set_cons_succ]; done) | (simp only [putAll, Act.put, List.setIfInBounds_toArray, List.set_cons_zero, List.set_cons_succ]; rfl) | (simp only [hq.1, putAll, Act.put, List.setIfInBounds_toArray, List.set_cons_zero, List.set_cons_succ] <;> rfl)) (hJ0_2_7_8 (gb250, gb251) _ (Ow.Own.cong (Ow.Own.pick [0, 1, 2, 3, 4, 5] HO.out (by decide)) (by first | ((try simp only [hq.1]) <;> rfl) | fail)))
        rintro ⟨gb250, gb251⟩ w49 HO7_
        clear HO
        have HO := Aside0.mk HO7_
        clear HO7_
        have hHeld := Ow.Own.pick [0, 1, 2, 3] HO.out (by decide)
        refine norm_ (a' := ?_) ?_ ?_
        rotate_left
        ·simp only [putAll, Act.put, List.setIfInBounds_toArray, List.set_cons_zero, List.set_cons_succ]
         rfl
        refine one_ (i := 9) (N := none) (Ow.B 12 1023) rfl rfl (one_of HT_.out (by kernel_rfl)) (by decide) (fun K hK => ?_)
        refine Ow.oskip Ot.ty HO.out (by rfl) rfl rfl rfl rfl (by with_reducible first | exact Ow.at0 | exact Ow.at1 | exact Ow.at2 | exact Ow.at3 | exact Ow.at4 | exact Ow.at5) (by first | exact Ow.ev_tmp rfl | rfl) (by first | ((try simp only [hq.1]) <;> rfl) | fail) (by first | ((try simp only [hq.1]) <;> rfl) | fail) (by first | ((try simp only [hq.1]) <;> rfl) | fail) ?_
        clear HO; intro wz_ HO; simp only [List.set_cons_zero, List.set_cons_succ] at HO
        refine hK.out _ _ (by have h_ := Ow.Own.pick [0, 1, 2, 3] HO.out (by decide); first | exact h_ | exact Ow.Own.cong h_ (by first | ((try simp only [hq.1]) <;> rfl) | fail)) (fun hHeld => ?_)
        clear hK K
        refine one_ (i := 10) (N := none) (Ow.B 12 2047) rfl rfl (one_of HT_.out (by kernel_rfl)) (by decide) (fun K hK => ?_)
        refine Ow.oskip Ot.ty HO.out (by rfl) rfl rfl rfl rfl (by with_reducible first | exact Ow.at0 | exact Ow.at1 | exact Ow.at2 | exact Ow.at3 | exact Ow.at4 | exact Ow.at5) (by first | exact Ow.ev_tmp rfl | rfl) (by first | ((try simp only [hq.1]) <;> rfl) | fail) (by first | ((try simp only [hq.1]) <;> rfl) | fail) (by first | ((try simp only [hq.1]) <;> rfl) | fail) ?_
        clear HO; intro wz_ HO; simp only [List.set_cons_zero, List.set_cons_succ] at HO
        refine hK.out _ _ (by have h_ := Ow.Own.pick [0, 1, 2, 3] HO.out (by decide); first | exact h_ | exact Ow.Own.cong h_ (by first | ((try simp only [hq.1]) <;> rfl) | fail)) (fun hHeld => ?_)
        clear hK K
        refine' Ow.pu (i := 11) (N := some 9) (Ow.B 12 4095) HT_.out ?hv_ ?ha_ ?_; (case hv_ => intro w'; go_simp; with_reducible rfl); (case ha_ => simp only [Ow.Sl, i64_w, i32_w]; rfl)
        refine done_ (done_of HT_.out (by kernel_rfl)) ?_
        try go_wp2_with (first | ((with_reducible refine Ow.gate_build rfl ?_); (try (refine gate_guard (by rfl) ?_; dsimp only)); refine' Ow.tbuild Ot.bd rfl rfl rfl ?hf_ ?_; (case hf_ => repeat (any_goals (first | exact Ow.Fills.nil | (refine' Ow.Fills.c ?hv_ rfl ?hz_ ?_; (case hv_ => first | exact Ow.ev_tmp rfl | rfl); (case hz_ => first | (refine ⟨?_, ?_⟩ <;> (first | ((try simp only [hq.1]) <;> rfl) | fail)) | fail)))))) | ((with_reducible refine Ow.gate_load rfl ?_); (try (refine gate_guard (by rfl) ?_; dsimp only)); (first | refine Ow.l1 Ot.ty HO.out rfl rfl rfl rfl (by first | ((try simp only [hq.1]) <;> rfl) | fail) ?_ | refine Ow.l0 Ot.ty HO.out rfl rfl rfl rfl (by first | ((try simp only [hq.1]) <;> rfl) | fail) ?_ | refine Ow.lp Ot.ty HO.out rfl rfl rfl rfl (by first | ((try simp only [hq.1]) <;> rfl) | fail) ?_)) | ((with_reducible refine gate_store rfl ?_); (try (refine gate_guard (by rfl) ?_; dsimp only)); (first | refine Ow.s0 Ot.ty HO.out rfl rfl rfl rfl rfl (by first | exact Ow.ev_tmp rfl | rfl) (by first | (refine ⟨?_, ?_, ?_⟩ <;> (first | ((try simp only [hq.1]) <;> rfl) | fail)) | fail) ?_ | refine Ow.sp Ot.ty HO.out rfl rfl rfl rfl rfl (by first | exact Ow.ev_tmp rfl | rfl) (by first | (refine ⟨?_, ?_, ?_⟩ <;> (first | ((try simp only [hq.1]) <;> rfl) | fail)) | fail) ?_); clear HO; intro wz_ HO; simp only [List.set_cons_zero, List.set_cons_succ] at HO))
        refine Ow.ostart (n := 12) (ds := []) (Ow.B 12 0) HO.out (by kernel_rfl) rfl (by kernel_rfl) ?_
        intro hHeld; replace HO := Aside0.mk hHeld; refine with_tabW bursarlaw26_awake.tab4 bursarlaw26_awake.bits4 (fun HT_ HW_ => ?_)
        refine take_ (i := 1) (N := some 36) (v := ?_) (a' := ?_) (Ow.B 12 2) rfl rfl (take_ofW HT_.out HW_.out (by kernel_rfl)) (fun _ _ _ h => h) (Or.inl ⟨by rfl, ?_⟩) hHeld ?_ ?_
        rotate_left
        ·intro w' s_
         first | refine Ow.r1 Ot.ty s_ rfl rfl rfl (by first | ((try simp only [hq.1]) <;> rfl) | fail) | (refine' Ow.r0 Ot.ty s_ rfl rfl rfl ?h; (case h => first | ((try simp only [hq.1]) <;> rfl) | fail)) | (refine' Ow.rp Ot.ty s_ rfl rfl rfl ?h; (case h => first | ((try simp only [hq.1]) <;> rfl) | fail)) | (go_simp; with_reducible rfl)
        rotate_left
        ·simp only [Act.put, List.setIfInBounds_toArray, List.set_cons_zero, List.set_cons_succ, i64_w, i32_w]
         rfl
        obtain ⟨Q21, hQ21_⟩ : ∃ q_ : Array Value, q_ = (#[.string t237, .string t238, .string t239, .int .i64 t240, .int .i64 t241, .int .i64 t242] : Array Value) := ⟨_, rfl⟩
        try rw [← hQ21_]
        have hQ21 := Aside0.mk hQ21_; replace hq := Aside0.mk (And.intro hQ21_ hq.1); clear hQ21_
        obtain ⟨Q22, hQ22_⟩ : ∃ q_ : Array Value, q_ = (#[.int .i64 t243, .int .i64 t244, .string t245, .string t246, .string t247, .int .i64 t248] : Array Value) := ⟨_, rfl⟩
        try rw [← hQ22_]
        have hQ22 := Aside0.mk hQ22_; replace hq := Aside0.mk (And.intro hQ22_ hq.1); clear hQ22_
        refine join_ (σ := Nat × Nat) 3 (Ow.B 12 511) (fun s_ => [(35, .agg #[.string t252, .string t253, .string t254, .int .i64 t255, .string t256, .string t257, .string t258, .string t259, .string t260, .int .i64 t261, .int .i64 t262, .string t263, .bool t264, .int .i64 t265, .string t266, .string t267, .string t268, .int .i64 t269, .int .i64 t270, .int .i64 t271, .bool t272, .bool t273, .int .i64 t274, .int .i64 t275, .bool t276]), (37, .tuple #[.agg #[.string t277, .string t278, .string t279, .int .i64 t280, .int .i64 t281, .int .i64 t282], .agg #[.int .i64 t283, .int .i64 t284, .string t285, .string t286, .string t287, .int .i64 t288], .string t289]), (10, .pointer (some ⟨s_.1, 0, none⟩)), (11, .pointer (some ⟨s_.2, 0, none⟩)), (34, .tuple #[.agg #[.string t277, .string t278, .string t279, .int .i64 t280, .int .i64 t281, .int .i64 t282], .agg #[.int .i64 t283, .int .i64 t284, .string t285, .string t286, .string t287, .int .i64 t288], .string t289]), (38, .agg #[.string t277, .string t278, .string t279, .int .i64 t280, .int .i64 t281, .int .i64 t282]), (39, .agg #[.int .i64 t283, .int .i64 t284, .string t285, .string t286, .string t287, .int .i64 t288]), (40, .string t289)]) (fun s_ w' => Ow.Own w w' [(gb170, Q1, 33), (gb171, Q2, 37), (gb210, Q11, 33), (gb211, Q12, 37), (gb250, Q21, 33), (gb251, Q22, 37), (s_.1, bursarlaw26_awake.Z6, 33), (s_.2, bursarlaw26_awake.Z6_1, 37)]) ?_ ?_
        rotate_left
        ·intro hJ0_2_7_8
         refine join_ (σ := Nat) 4 (Ow.B 12 255) (fun s_ => [(35, .agg #[.string t252, .string t253, .string t254, .int .i64 t255, .string t256, .string t257, .string t258, .string t259, .string t260, .int .i64 t261, .int .i64 t262, .string t263, .bool t264, .int .i64 t265, .string t266, .string t267, .string t268, .int .i64 t269, .int .i64 t270, .int .i64 t271, .bool t272, .bool t273, .int .i64 t274, .int .i64 t275, .bool t276]), (37, .tuple #[.agg #[.string t277, .string t278, .string t279, .int .i64 t280, .int .i64 t281, .int .i64 t282], .agg #[.int .i64 t283, .int .i64 t284, .string t285, .string t286, .string t287, .int .i64 t288], .string t289]), (10, .pointer (some ⟨s_, 0, none⟩)), (34, .tuple #[.agg #[.string t277, .string t278, .string t279, .int .i64 t280, .int .i64 t281, .int .i64 t282], .agg #[.int .i64 t283, .int .i64 t284, .string t285, .string t286, .string t287, .int .i64 t288], .string t289]), (38, .agg #[.string t277, .string t278, .string t279, .int .i64 t280, .int .i64 t281, .int .i64 t282]), (39, .agg #[.int .i64 t283, .int .i64 t284, .string t285, .string t286, .string t287, .int .i64 t288]), (40, .string t289)]) (fun s_ w' => Ow.Own w w' [(gb170, Q1, 33), (gb171, Q2, 37), (gb210, Q11, 33), (gb211, Q12, 37), (gb250, Q21, 33), (gb251, Q22, 37), (s_, bursarlaw26_awake.Z6, 33)]) ?_ ?_
         rotate_left
         ·intro hJ0_2_7
          refine join_ (σ := Nat) 4 (Ow.B 12 383) (fun s_ => [(35, .agg #[.string t252, .string t253, .string t254, .int .i64 t255, .string t256, .string t257, .string t258, .string t259, .string t260, .int .i64 t261, .int .i64 t262, .string t263, .bool t264, .int .i64 t265, .string t266, .string t267, .string t268, .int .i64 t269, .int .i64 t270, .int .i64 t271, .bool t272, .bool t273, .int .i64 t274, .int .i64 t275, .bool t276]), (37, .tuple #[.agg #[.string t277, .string t278, .string t279, .int .i64 t280, .int .i64 t281, .int .i64 t282], .agg #[.int .i64 t283, .int .i64 t284, .string t285, .string t286, .string t287, .int .i64 t288], .string t289]), (11, .pointer (some ⟨s_, 0, none⟩)), (34, .tuple #[.agg #[.string t277, .string t278, .string t279, .int .i64 t280, .int .i64 t281, .int .i64 t282], .agg #[.int .i64 t283, .int .i64 t284, .string t285, .string t286, .string t287, .int .i64 t288], .string t289]), (38, .agg #[.string t277, .string t278, .string t279, .int .i64 t280, .int .i64 t281, .int .i64 t282]), (39, .agg #[.int .i64 t283, .int .i64 t284, .string t285, .string t286, .string t287, .int .i64 t288]), (40, .string t289)]) (fun s_ w' => Ow.Own w w' [(gb170, Q1, 33), (gb171, Q2, 37), (gb210, Q11, 33), (gb211, Q12, 37), (gb250, Q21, 33), (gb251, Q22, 37), (s_, bursarlaw26_awake.Z6_1, 37)]) ?_ ?_
          rotate_left
          ·intro hJ0_2_8
           refine join_ (σ := Nat × Nat) 8 (Ow.B 12 387) (fun s_ => [(35, .agg #[.string t252, .string t253, .string t254, .int .i64 t255, .string t256, .string t257, .string t258, .string t259, .string t260, .int .i64 t261, .int .i64 t262, .string t263, .bool t264, .int .i64 t265, .string t266, .string t267, .string t268, .int .i64 t269, .int .i64 t270, .int .i64 t271, .bool t272, .bool t273, .int .i64 t274, .int .i64 t275, .bool t276]), (10, .pointer (some ⟨s_.1, 0, none⟩)), (11, .pointer (some ⟨s_.2, 0, none⟩))]) (fun s_ w' => Ow.Own w w' [(gb170, Q1, 33), (gb171, Q2, 37), (gb210, Q11, 33), (gb211, Q12, 37), (gb250, Q21, 33), (gb251, Q22, 37), (s_.1, bursarlaw26_awake.Z6, 33), (s_.2, bursarlaw26_awake.Z6_1, 37)]) ?_ ?_
           rotate_left
           ·intro hJ0_7_8
            refine join_ (σ := Unit) 5 (Ow.B 12 127) (fun s_ => [(35, .agg #[.string t252, .string t253, .string t254, .int .i64 t255, .string t256, .string t257, .string t258, .string t259, .string t260, .int .i64 t261, .int .i64 t262, .string t263, .bool t264, .int .i64 t265, .string t266, .string t267, .string t268, .int .i64 t269, .int .i64 t270, .int .i64 t271, .bool t272, .bool t273, .int .i64 t274, .int .i64 t275, .bool t276]), (37, .tuple #[.agg #[.string t277, .string t278, .string t279, .int .i64 t280, .int .i64 t281, .int .i64 t282], .agg #[.int .i64 t283, .int .i64 t284, .string t285, .string t286, .string t287, .int .i64 t288], .string t289]), (34, .tuple #[.agg #[.string t277, .string t278, .string t279, .int .i64 t280, .int .i64 t281, .int .i64 t282], .agg #[.int .i64 t283, .int .i64 t284, .string t285, .string t286, .string t287, .int .i64 t288], .string t289]), (38, .agg #[.string t277, .string t278, .string t279, .int .i64 t280, .int .i64 t281, .int .i64 t282]), (39, .agg #[.int .i64 t283, .int .i64 t284, .string t285, .string t286, .string t287, .int .i64 t288]), (40, .string t289)]) (fun s_ w' => Ow.Own w w' [(gb170, Q1, 33), (gb171, Q2, 37), (gb210, Q11, 33), (gb211, Q12, 37), (gb250, Q21, 33), (gb251, Q22, 37)]) ?_ ?_
            rotate_left
            ·intro hJ0_2
             refine join_ (σ := Nat) 9 (Ow.B 12 131) (fun s_ => [(35, .agg #[.string t252, .string t253, .string t254, .int .i64 t255, .string t256, .string t257, .string t258, .string t259, .string t260, .int .i64 t261, .int .i64 t262, .string t263, .bool t264, .int .i64 t265, .string t266, .string t267, .string t268, .int .i64 t269, .int .i64 t270, .int .i64 t271, .bool t272, .bool t273, .int .i64 t274, .int .i64 t275, .bool t276]), (10, .pointer (some ⟨s_, 0, none⟩))]) (fun s_ w' => Ow.Own w w' [(gb170, Q1, 33), (gb171, Q2, 37), (gb210, Q11, 33), (gb211, Q12, 37), (gb250, Q21, 33), (gb251, Q22, 37), (s_, bursarlaw26_awake.Z6, 33)]) ?_ ?_
             rotate_left
             ·intro hJ0_7
              refine join_ (σ := Nat) 9 (Ow.B 12 259) (fun s_ => [(35, .agg #[.string t252, .string t253, .string t254, .int .i64 t255, .string t256, .string t257, .string t258, .string t259, .string t260, .int .i64 t261, .int .i64 t262, .string t263, .bool t264, .int .i64 t265, .string t266, .string t267, .string t268, .int .i64 t269, .int .i64 t270, .int .i64 t271, .bool t272, .bool t273, .int .i64 t274, .int .i64 t275, .bool t276]), (11, .pointer (some ⟨s_, 0, none⟩))]) (fun s_ w' => Ow.Own w w' [(gb170, Q1, 33), (gb171, Q2, 37), (gb210, Q11, 33), (gb211, Q12, 37), (gb250, Q21, 33), (gb251, Q22, 37), (s_, bursarlaw26_awake.Z6_1, 37)]) ?_ ?_
              rotate_left
              ·intro hJ0_8
               refine join_ (σ := Nat × Nat) 9 (Ow.B 12 386) (fun s_ => [(10, .pointer (some ⟨s_.1, 0, none⟩)), (11, .pointer (some ⟨s_.2, 0, none⟩))]) (fun s_ w' => Ow.Own w w' [(gb170, Q1, 33), (gb171, Q2, 37), (gb210, Q11, 33), (gb211, Q12, 37), (gb250, Q21, 33), (gb251, Q22, 37), (s_.1, bursarlaw26_awake.Z6, 33), (s_.2, bursarlaw26_awake.Z6_1, 37)]) ?_ ?_
               rotate_left
               ·intro hJ7_8
                refine join_ (σ := Unit) 10 (Ow.B 12 3) (fun s_ => [(35, .agg #[.string t252, .string t253, .string t254, .int .i64 t255, .string t256, .string t257, .string t258, .string t259, .string t260, .int .i64 t261, .int .i64 t262, .string t263, .bool t264, .int .i64 t265, .string t266, .string t267, .string t268, .int .i64 t269, .int .i64 t270, .int .i64 t271, .bool t272, .bool t273, .int .i64 t274, .int .i64 t275, .bool t276])]) (fun s_ w' => Ow.Own w w' [(gb170, Q1, 33), (gb171, Q2, 37), (gb210, Q11, 33), (gb211, Q12, 37), (gb250, Q21, 33), (gb251, Q22, 37)]) ?_ ?_
                rotate_left
                ·intro hJ0
                 refine join_ (σ := Nat) 10 (Ow.B 12 130) (fun s_ => [(10, .pointer (some ⟨s_, 0, none⟩))]) (fun s_ w' => Ow.Own w w' [(gb170, Q1, 33), (gb171, Q2, 37), (gb210, Q11, 33), (gb211, Q12, 37), (gb250, Q21, 33), (gb251, Q22, 37), (s_, bursarlaw26_awake.Z6, 33)]) ?_ ?_
                 rotate_left
                 ·intro hJ7
                  refine join_ (σ := Nat) 10 (Ow.B 12 258) (fun s_ => [(11, .pointer (some ⟨s_, 0, none⟩))]) (fun s_ w' => Ow.Own w w' [(gb170, Q1, 33), (gb171, Q2, 37), (gb210, Q11, 33), (gb211, Q12, 37), (gb250, Q21, 33), (gb251, Q22, 37), (s_, bursarlaw26_awake.Z6_1, 37)]) ?_ ?_
                  rotate_left
                  ·intro hJ8
                   refine three_ (i := 0) (j := 7) (k := 8) (Ni := some 35) (Nj := some 10) (Nk := some 11) (Ow.B 12 3) (Ow.B 12 130) (Ow.B 12 258) rfl rfl rfl rfl rfl rfl (three_of HT_.out (by kernel_rfl)) (by decide) (by decide) (by decide) (fun K hK => ?_) (fun K hK => ?_) (fun K hK => ?_)
                   ·skip
                    refine goes_ Try.func18 (by kernel_rfl) rfl #[.string (⟨#[48, 49, 48, 48, 48, 48]⟩ : ByteArray), .int .i64 50, .int .i64 201] (by rfl) rfl rfl (by (try simp only [List.map_toArray, List.map_cons, List.map_nil]); first | done | rfl | (simp only [hq.1]; done) | (simp only [hq.1]; rfl) | (simp only [List.length_drop, List.length_take]; rfl)) ?_
                    obtain ⟨Q23, hQ23_⟩ : ∃ q_ : Array Value, q_ = (#[.string t252, .string t253, .string t254, .int .i64 t255, .string t256, .string t257, .string t258, .string t259, .string t260, .int .i64 t261, .int .i64 t262, .string t263, .bool t264, .int .i64 t265, .string t266, .string t267, .string t268, .int .i64 t269, .int .i64 t270, .int .i64 t271, .bool t272, .bool t273, .int .i64 t274, .int .i64 t275, .bool t276] : Array Value) := ⟨_, rfl⟩
                    try rw [← hQ23_]
                    have hQ23 := Aside0.mk hQ23_; replace hq := Aside0.mk (And.intro hQ23_ hq.1); clear hQ23_
                    refine Calls.mono (calls_of_args (by first | ((try simp only [hq.1]) <;> rfl) | fail) (bursarlaw26_some.calls (⟨#[48, 49, 48, 48, 48, 48]⟩ : ByteArray) 50 201 t252 t253 t254 t255 t256 t257 t258 t259 t260 t261 t262 t263 t264 t265 t266 t267 t268 t269 t270 t271 t272 t273 t274 t275 t276 _ A7.out)) ?_
                    rintro e w64 ⟨he_, hb⟩
                    (try rw [← hQ23.out] at he_)
                    subst he_
                    replace HO := Aside0.mk (Ow.Own.call HO.out hb)
                    clear hb
                    refine ⟨_, rfl, ?_⟩
                    refine hK.out _ _ (by first | exact HO.out | exact Ow.Own.cong HO.out (by first | ((try simp only [hq.1]) <;> rfl) | fail)) (fun hHeld => ?_)
                    clear hK K
                    refine norm_ (a' := ?_) ?_ ?_
                    rotate_left
                    ·show Act.put _ (some 35) _ = _
                     simp only [Act.put, List.setIfInBounds_toArray, List.set_cons_zero, List.set_cons_succ, i64_w, i32_w]
                     rfl
                    exact norm_ (by first | (simp only [putAll, Act.put, List.setIfInBounds_toArray, List.set_cons_zero, List.set_cons_succ]; done) | (simp only [putAll, Act.put, List.setIfInBounds_toArray, List.set_cons_zero, List.set_cons_succ]; rfl) | (simp only [hq.1, putAll, Act.put, List.setIfInBounds_toArray, List.set_cons_zero, List.set_cons_succ] <;> rfl)) (hJ0 () _ (Ow.Own.cong (Ow.Own.pick [0, 1, 2, 3, 4, 5] HO.out (by decide)) (by first | ((try simp only [hq.1]) <;> rfl) | fail)))
                   ·skip
                    refine box_step ?hg (N := 10) ?hd (cs := bursarlaw26_awake.Z6) (t := 33) ?hr ?_; (case hd => rfl); (case hg => rfl); (case hr => first | (go_simp; done) | (go_simp; rfl))
                    intro gb290 hg w64 hbox hb
                    replace HO := Aside0.mk (Ow.Own.add HO.out hg hbox hb)
                    clear hb hbox hg
                    simp only [List.cons_append, List.nil_append] at HO
                    refine hK.out _ _ (by have h_ := Ow.Own.pick [0, 1, 2, 3, 4, 5] HO.out (by decide); first | exact h_ | exact Ow.Own.cong h_ (by first | ((try simp only [hq.1]) <;> rfl) | fail)) (fun hHeld => ?_)
                    clear hK K
                    refine norm_ (a' := ?_) ?_ ?_
                    rotate_left
                    ·show Act.put _ (some 10) _ = _
                     simp only [Act.put, List.setIfInBounds_toArray, List.set_cons_zero, List.set_cons_succ, i64_w, i32_w]
                     rfl
                    exact norm_ (by first | (simp only [putAll, Act.put, List.setIfInBounds_toArray, List.set_cons_zero, List.set_cons_succ]; done) | (simp only [putAll, Act.put, List.setIfInBounds_toArray, List.set_cons_zero, List.set_cons_succ]; rfl) | (simp only [hq.1, putAll, Act.put, List.setIfInBounds_toArray, List.set_cons_zero, List.set_cons_succ] <;> rfl)) (hJ7 (gb290) _ (Ow.Own.cong (Ow.Own.pick [0, 1, 2, 3, 4, 5, 6] HO.out (by decide)) (by first | ((try simp only [hq.1]) <;> rfl) | fail)))
                   ·skip
                    refine box_step ?hg (N := 11) ?hd (cs := bursarlaw26_awake.Z6_1) (t := 37) ?hr ?_; (case hd => rfl); (case hg => rfl); (case hr => first | (go_simp; done) | (go_simp; rfl))
                    intro gb291 hg w64 hbox hb
                    replace HO := Aside0.mk (Ow.Own.add HO.out hg hbox hb)
                    clear hb hbox hg
                    simp only [List.cons_append, List.nil_append] at HO
                    refine hK.out _ _ (by have h_ := Ow.Own.pick [0, 1, 2, 3, 4, 5] HO.out (by decide); first | exact h_ | exact Ow.Own.cong h_ (by first | ((try simp only [hq.1]) <;> rfl) | fail)) (fun hHeld => ?_)
                    clear hK K
                    refine norm_ (a' := ?_) ?_ ?_
                    rotate_left
                    ·show Act.put _ (some 11) _ = _
                     simp only [Act.put, List.setIfInBounds_toArray, List.set_cons_zero, List.set_cons_succ, i64_w, i32_w]
                     rfl
                    exact norm_ (by first | (simp only [putAll, Act.put, List.setIfInBounds_toArray, List.set_cons_zero, List.set_cons_succ]; done) | (simp only [putAll, Act.put, List.setIfInBounds_toArray, List.set_cons_zero, List.set_cons_succ]; rfl) | (simp only [hq.1, putAll, Act.put, List.setIfInBounds_toArray, List.set_cons_zero, List.set_cons_succ] <;> rfl)) (hJ8 (gb291) _ (Ow.Own.cong (Ow.Own.pick [0, 1, 2, 3, 4, 5, 6] HO.out (by decide)) (by first | ((try simp only [hq.1]) <;> rfl) | fail)))
                  ·skip
                   rintro gb291 w65 HO7_
                   clear HO
                   have HO := Aside0.mk HO7_
                   clear HO7_
                   have hHeld := Ow.Own.pick [0, 1, 2, 3, 4, 5] HO.out (by decide)
                   refine norm_ (a' := ?_) ?_ ?_
                   rotate_left
                   ·simp only [putAll, Act.put, List.setIfInBounds_toArray, List.set_cons_zero, List.set_cons_succ]
                    rfl
                   refine two_ (i := 0) (j := 7) (Ni := some 35) (Nj := some 10) (Ow.B 12 259) (Ow.B 12 386) rfl rfl rfl rfl (two_of HT_.out (by kernel_rfl)) (by decide) (by decide) (fun K hK => ?_) (fun K hK => ?_)
                   ·skip
                    refine goes_ Try.func18 (by kernel_rfl) rfl #[.string (⟨#[48, 49, 48, 48, 48, 48]⟩ : ByteArray), .int .i64 50, .int .i64 201] (by rfl) rfl rfl (by (try simp only [List.map_toArray, List.map_cons, List.map_nil]); first | done | rfl | (simp only [hq.1]; done) | (simp only [hq.1]; rfl) | (simp only [List.length_drop, List.length_take]; rfl)) ?_
                    obtain ⟨Q24, hQ24_⟩ : ∃ q_ : Array Value, q_ = (#[.string t252, .string t253, .string t254, .int .i64 t255, .string t256, .string t257, .string t258, .string t259, .string t260, .int .i64 t261, .int .i64 t262, .string t263, .bool t264, .int .i64 t265, .string t266, .string t267, .string t268, .int .i64 t269, .int .i64 t270, .int .i64 t271, .bool t272, .bool t273, .int .i64 t274, .int .i64 t275, .bool t276] : Array Value) := ⟨_, rfl⟩
                    try rw [← hQ24_]
                    have hQ24 := Aside0.mk hQ24_; replace hq := Aside0.mk (And.intro hQ24_ hq.1); clear hQ24_
                    refine Calls.mono (calls_of_args (by first | ((try simp only [hq.1]) <;> rfl) | fail) (bursarlaw26_some.calls (⟨#[48, 49, 48, 48, 48, 48]⟩ : ByteArray) 50 201 t252 t253 t254 t255 t256 t257 t258 t259 t260 t261 t262 t263 t264 t265 t266 t267 t268 t269 t270 t271 t272 t273 t274 t275 t276 _ A7.out)) ?_
                    rintro e w66 ⟨he_, hb⟩
                    (try rw [← hQ24.out] at he_)
                    subst he_
                    replace HO := Aside0.mk (Ow.Own.call HO.out hb)
                    clear hb
                    refine ⟨_, rfl, ?_⟩
                    refine hK.out _ _ (by have h_ := Ow.Own.pick [0, 1, 2, 3, 4, 5] HO.out (by decide); first | exact h_ | exact Ow.Own.cong h_ (by first | ((try simp only [hq.1]) <;> rfl) | fail)) (fun hHeld => ?_)
                    clear hK K
                    refine norm_ (a' := ?_) ?_ ?_
                    rotate_left
                    ·show Act.put _ (some 35) _ = _
                     simp only [Act.put, List.setIfInBounds_toArray, List.set_cons_zero, List.set_cons_succ, i64_w, i32_w]
                     rfl
                    exact norm_ (by first | (simp only [putAll, Act.put, List.setIfInBounds_toArray, List.set_cons_zero, List.set_cons_succ]; done) | (simp only [putAll, Act.put, List.setIfInBounds_toArray, List.set_cons_zero, List.set_cons_succ]; rfl) | (simp only [hq.1, putAll, Act.put, List.setIfInBounds_toArray, List.set_cons_zero, List.set_cons_succ] <;> rfl)) (hJ0_8 (gb291) _ (Ow.Own.cong (Ow.Own.pick [0, 1, 2, 3, 4, 5, 6] HO.out (by decide)) (by first | ((try simp only [hq.1]) <;> rfl) | fail)))
                   ·skip
                    refine box_step ?hg (N := 10) ?hd (cs := bursarlaw26_awake.Z6) (t := 33) ?hr ?_; (case hd => rfl); (case hg => rfl); (case hr => first | (go_simp; done) | (go_simp; rfl))
                    intro gb290 hg w66 hbox hb
                    replace HO := Aside0.mk (Ow.Own.add HO.out hg hbox hb)
                    clear hb hbox hg
                    simp only [List.cons_append, List.nil_append] at HO
                    refine hK.out _ _ (by have h_ := Ow.Own.pick [0, 1, 2, 3, 4, 5] HO.out (by decide); first | exact h_ | exact Ow.Own.cong h_ (by first | ((try simp only [hq.1]) <;> rfl) | fail)) (fun hHeld => ?_)
                    clear hK K
                    refine norm_ (a' := ?_) ?_ ?_
                    rotate_left
                    ·show Act.put _ (some 10) _ = _
                     simp only [Act.put, List.setIfInBounds_toArray, List.set_cons_zero, List.set_cons_succ, i64_w, i32_w]
                     rfl
                    exact norm_ (by first | (simp only [putAll, Act.put, List.setIfInBounds_toArray, List.set_cons_zero, List.set_cons_succ]; done) | (simp only [putAll, Act.put, List.setIfInBounds_toArray, List.set_cons_zero, List.set_cons_succ]; rfl) | (simp only [hq.1, putAll, Act.put, List.setIfInBounds_toArray, List.set_cons_zero, List.set_cons_succ] <;> rfl)) (hJ7_8 (gb290, gb291) _ (Ow.Own.cong (Ow.Own.pick [0, 1, 2, 3, 4, 5, 7, 6] HO.out (by decide)) (by first | ((try simp only [hq.1]) <;> rfl) | fail)))
                 ·skip
                  rintro gb290 w65 HO7_
                  clear HO
                  have HO := Aside0.mk HO7_
                  clear HO7_
                  have hHeld := Ow.Own.pick [0, 1, 2, 3, 4, 5] HO.out (by decide)
                  refine norm_ (a' := ?_) ?_ ?_
                  rotate_left
                  ·simp only [putAll, Act.put, List.setIfInBounds_toArray, List.set_cons_zero, List.set_cons_succ]
                   rfl
                  refine two_ (i := 0) (j := 8) (Ni := some 35) (Nj := some 11) (Ow.B 12 131) (Ow.B 12 386) rfl rfl rfl rfl (two_of HT_.out (by kernel_rfl)) (by decide) (by decide) (fun K hK => ?_) (fun K hK => ?_)
                  ·skip
                   refine goes_ Try.func18 (by kernel_rfl) rfl #[.string (⟨#[48, 49, 48, 48, 48, 48]⟩ : ByteArray), .int .i64 50, .int .i64 201] (by rfl) rfl rfl (by (try simp only [List.map_toArray, List.map_cons, List.map_nil]); first | done | rfl | (simp only [hq.1]; done) | (simp only [hq.1]; rfl) | (simp only [List.length_drop, List.length_take]; rfl)) ?_
                   obtain ⟨Q25, hQ25_⟩ : ∃ q_ : Array Value, q_ = (#[.string t252, .string t253, .string t254, .int .i64 t255, .string t256, .string t257, .string t258, .string t259, .string t260, .int .i64 t261, .int .i64 t262, .string t263, .bool t264, .int .i64 t265, .string t266, .string t267, .string t268, .int .i64 t269, .int .i64 t270, .int .i64 t271, .bool t272, .bool t273, .int .i64 t274, .int .i64 t275, .bool t276] : Array Value) := ⟨_, rfl⟩
                   try rw [← hQ25_]
                   have hQ25 := Aside0.mk hQ25_; replace hq := Aside0.mk (And.intro hQ25_ hq.1); clear hQ25_
                   refine Calls.mono (calls_of_args (by first | ((try simp only [hq.1]) <;> rfl) | fail) (bursarlaw26_some.calls (⟨#[48, 49, 48, 48, 48, 48]⟩ : ByteArray) 50 201 t252 t253 t254 t255 t256 t257 t258 t259 t260 t261 t262 t263 t264 t265 t266 t267 t268 t269 t270 t271 t272 t273 t274 t275 t276 _ A7.out)) ?_
                   rintro e w66 ⟨he_, hb⟩
                   (try rw [← hQ25.out] at he_)
                   subst he_
                   replace HO := Aside0.mk (Ow.Own.call HO.out hb)
                   clear hb
                   refine ⟨_, rfl, ?_⟩
                   refine hK.out _ _ (by have h_ := Ow.Own.pick [0, 1, 2, 3, 4, 5] HO.out (by decide); first | exact h_ | exact Ow.Own.cong h_ (by first | ((try simp only [hq.1]) <;> rfl) | fail)) (fun hHeld => ?_)
                   clear hK K
                   refine norm_ (a' := ?_) ?_ ?_
                   rotate_left
                   ·show Act.put _ (some 35) _ = _
                    simp only [Act.put, List.setIfInBounds_toArray, List.set_cons_zero, List.set_cons_succ, i64_w, i32_w]
                    rfl
                   exact norm_ (by first | (simp only [putAll, Act.put, List.setIfInBounds_toArray, List.set_cons_zero, List.set_cons_succ]; done) | (simp only [putAll, Act.put, List.setIfInBounds_toArray, List.set_cons_zero, List.set_cons_succ]; rfl) | (simp only [hq.1, putAll, Act.put, List.setIfInBounds_toArray, List.set_cons_zero, List.set_cons_succ] <;> rfl)) (hJ0_7 (gb290) _ (Ow.Own.cong (Ow.Own.pick [0, 1, 2, 3, 4, 5, 6] HO.out (by decide)) (by first | ((try simp only [hq.1]) <;> rfl) | fail)))
                  ·skip
                   refine box_step ?hg (N := 11) ?hd (cs := bursarlaw26_awake.Z6_1) (t := 37) ?hr ?_; (case hd => rfl); (case hg => rfl); (case hr => first | (go_simp; done) | (go_simp; rfl))
                   intro gb291 hg w66 hbox hb
                   replace HO := Aside0.mk (Ow.Own.add HO.out hg hbox hb)
                   clear hb hbox hg
                   simp only [List.cons_append, List.nil_append] at HO
                   refine hK.out _ _ (by have h_ := Ow.Own.pick [0, 1, 2, 3, 4, 5] HO.out (by decide); first | exact h_ | exact Ow.Own.cong h_ (by first | ((try simp only [hq.1]) <;> rfl) | fail)) (fun hHeld => ?_)
                   clear hK K
                   refine norm_ (a' := ?_) ?_ ?_
                   rotate_left
                   ·show Act.put _ (some 11) _ = _
                    simp only [Act.put, List.setIfInBounds_toArray, List.set_cons_zero, List.set_cons_succ, i64_w, i32_w]
                    rfl
                   exact norm_ (by first | (simp only [putAll, Act.put, List.setIfInBounds_toArray, List.set_cons_zero, List.set_cons_succ]; done) | (simp only [putAll, Act.put, List.setIfInBounds_toArray, List.set_cons_zero, List.set_cons_succ]; rfl) | (simp only [hq.1, putAll, Act.put, List.setIfInBounds_toArray, List.set_cons_zero, List.set_cons_succ] <;> rfl)) (hJ7_8 (gb290, gb291) _ (Ow.Own.cong (Ow.Own.pick [0, 1, 2, 3, 4, 5, 6, 7] HO.out (by decide)) (by first | ((try simp only [hq.1]) <;> rfl) | fail)))
                ·skip
                 rintro _ w65 HO7_
                 clear HO
                 have HO := Aside0.mk HO7_
                 clear HO7_
                 have hHeld := Ow.Own.pick [0, 1, 2, 3, 4, 5] HO.out (by decide)
                 refine norm_ (a' := ?_) ?_ ?_
                 rotate_left
                 ·simp only [putAll, Act.put, List.setIfInBounds_toArray, List.set_cons_zero, List.set_cons_succ]
                  rfl
                 refine three_ (i := 2) (j := 7) (k := 8) (Ni := some 37) (Nj := some 10) (Nk := some 11) (Ow.B 12 7) (Ow.B 12 131) (Ow.B 12 259) rfl rfl rfl rfl rfl rfl (three_of HT_.out (by kernel_rfl)) (by decide) (by decide) (by decide) (fun K hK => ?_) (fun K hK => ?_) (fun K hK => ?_)
                 ·skip
                  obtain ⟨Q26, hQ26_⟩ : ∃ q_ : Array Value, q_ = (#[.string t252, .string t253, .string t254, .int .i64 t255, .string t256, .string t257, .string t258, .string t259, .string t260, .int .i64 t261, .int .i64 t262, .string t263, .bool t264, .int .i64 t265, .string t266, .string t267, .string t268, .int .i64 t269, .int .i64 t270, .int .i64 t271, .bool t272, .bool t273, .int .i64 t274, .int .i64 t275, .bool t276] : Array Value) := ⟨_, rfl⟩
                  try rw [← hQ26_]
                  have hQ26 := Aside0.mk hQ26_; replace hq := Aside0.mk (And.intro hQ26_ hq.1); clear hQ26_
                  refine goes_ Try.func8 (by kernel_rfl) rfl #[.agg Q26, .agg #[.string t157, .string t158, .string t159, .int .i64 t160, .int .i64 t161, .int .i64 t162], .bool true] (by rfl) rfl rfl (by (try simp only [List.map_toArray, List.map_cons, List.map_nil]); first | done | rfl | (simp only [hq.1]; done) | (simp only [hq.1]; rfl) | (simp only [List.length_drop, List.length_take]; rfl)) ?_
                  refine Calls.mono (calls_of_args (by first | ((try simp only [hq.1]) <;> rfl) | fail) (dispute_Decide.calls k t252 t253 t254 t255 t256 t257 t258 t259 t260 t261 t262 t263 t264 t265 t266 t267 t268 t269 t270 t271 t272 t273 t274 t275 t276 t157 t158 t159 t160 t161 t162 true t277 t278 t279 t280 t281 t282 t283 t284 t285 t286 t287 t288 t289 _ A8.out)) ?_
                  rintro e w66 ⟨he_, hb⟩
                  subst he_
                  replace HO := Aside0.mk (Ow.Own.call HO.out hb)
                  clear hb
                  refine ⟨_, rfl, ?_⟩
                  refine hK.out _ _ (by first | exact HO.out | exact Ow.Own.cong HO.out (by first | ((try simp only [hq.1]) <;> rfl) | fail)) (fun hHeld => ?_)
                  clear hK K
                  refine norm_ (a' := ?_) ?_ ?_
                  rotate_left
                  ·show Act.put _ (some 37) _ = _
                   simp only [Act.put, List.setIfInBounds_toArray, List.set_cons_zero, List.set_cons_succ, i64_w, i32_w]
                   rfl
                  refine' Ow.pu (i := 3) (N := some 34) (Ow.B 12 15) HT_.out ?hv_ ?ha_ ?_; (case hv_ => intro w'; go_simp; with_reducible rfl); (case ha_ => simp only [Ow.Sl, i64_w, i32_w]; rfl)
                  refine' Ow.pu (i := 4) (N := some 38) (Ow.B 12 31) HT_.out ?hv_ ?ha_ ?_; (case hv_ => intro w'; go_simp; with_reducible rfl); (case ha_ => simp only [Ow.Sl, i64_w, i32_w]; rfl)
                  refine' Ow.pu (i := 5) (N := some 39) (Ow.B 12 63) HT_.out ?hv_ ?ha_ ?_; (case hv_ => intro w'; go_simp; with_reducible rfl); (case ha_ => simp only [Ow.Sl, i64_w, i32_w]; rfl)
                  refine' Ow.pu (i := 6) (N := some 40) (Ow.B 12 127) HT_.out ?hv_ ?ha_ ?_; (case hv_ => intro w'; go_simp; with_reducible rfl); (case ha_ => simp only [Ow.Sl, i64_w, i32_w]; rfl)
                  exact norm_ (by first | (simp only [putAll, Act.put, List.setIfInBounds_toArray, List.set_cons_zero, List.set_cons_succ]; done) | (simp only [putAll, Act.put, List.setIfInBounds_toArray, List.set_cons_zero, List.set_cons_succ]; rfl) | (simp only [hq.1, putAll, Act.put, List.setIfInBounds_toArray, List.set_cons_zero, List.set_cons_succ] <;> rfl)) (hJ0_2 () _ (Ow.Own.cong (Ow.Own.pick [0, 1, 2, 3, 4, 5] HO.out (by decide)) (by first | ((try simp only [hq.1]) <;> rfl) | fail)))
                 ·skip
                  refine box_step ?hg (N := 10) ?hd (cs := bursarlaw26_awake.Z6) (t := 33) ?hr ?_; (case hd => rfl); (case hg => rfl); (case hr => first | (go_simp; done) | (go_simp; rfl))
                  intro gb290 hg w66 hbox hb
                  replace HO := Aside0.mk (Ow.Own.add HO.out hg hbox hb)
                  clear hb hbox hg
                  simp only [List.cons_append, List.nil_append] at HO
                  refine hK.out _ _ (by have h_ := Ow.Own.pick [0, 1, 2, 3, 4, 5] HO.out (by decide); first | exact h_ | exact Ow.Own.cong h_ (by first | ((try simp only [hq.1]) <;> rfl) | fail)) (fun hHeld => ?_)
                  clear hK K
                  refine norm_ (a' := ?_) ?_ ?_
                  rotate_left
                  ·show Act.put _ (some 10) _ = _
                   simp only [Act.put, List.setIfInBounds_toArray, List.set_cons_zero, List.set_cons_succ, i64_w, i32_w]
                   rfl
                  exact norm_ (by first | (simp only [putAll, Act.put, List.setIfInBounds_toArray, List.set_cons_zero, List.set_cons_succ]; done) | (simp only [putAll, Act.put, List.setIfInBounds_toArray, List.set_cons_zero, List.set_cons_succ]; rfl) | (simp only [hq.1, putAll, Act.put, List.setIfInBounds_toArray, List.set_cons_zero, List.set_cons_succ] <;> rfl)) (hJ0_7 (gb290) _ (Ow.Own.cong (Ow.Own.pick [0, 1, 2, 3, 4, 5, 6] HO.out (by decide)) (by first | ((try simp only [hq.1]) <;> rfl) | fail)))
                 ·skip
                  refine box_step ?hg (N := 11) ?hd (cs := bursarlaw26_awake.Z6_1) (t := 37) ?hr ?_; (case hd => rfl); (case hg => rfl); (case hr => first | (go_simp; done) | (go_simp; rfl))
                  intro gb291 hg w66 hbox hb
                  replace HO := Aside0.mk (Ow.Own.add HO.out hg hbox hb)
                  clear hb hbox hg
                  simp only [List.cons_append, List.nil_append] at HO
                  refine hK.out _ _ (by have h_ := Ow.Own.pick [0, 1, 2, 3, 4, 5] HO.out (by decide); first | exact h_ | exact Ow.Own.cong h_ (by first | ((try simp only [hq.1]) <;> rfl) | fail)) (fun hHeld => ?_)
                  clear hK K
                  refine norm_ (a' := ?_) ?_ ?_
                  rotate_left
                  ·show Act.put _ (some 11) _ = _
                   simp only [Act.put, List.setIfInBounds_toArray, List.set_cons_zero, List.set_cons_succ, i64_w, i32_w]
                   rfl
                  exact norm_ (by first | (simp only [putAll, Act.put, List.setIfInBounds_toArray, List.set_cons_zero, List.set_cons_succ]; done) | (simp only [putAll, Act.put, List.setIfInBounds_toArray, List.set_cons_zero, List.set_cons_succ]; rfl) | (simp only [hq.1, putAll, Act.put, List.setIfInBounds_toArray, List.set_cons_zero, List.set_cons_succ] <;> rfl)) (hJ0_8 (gb291) _ (Ow.Own.cong (Ow.Own.pick [0, 1, 2, 3, 4, 5, 6] HO.out (by decide)) (by first | ((try simp only [hq.1]) <;> rfl) | fail)))
               ·skip
                rintro ⟨gb290, gb291⟩ w66 HO7_
                clear HO
                have HO := Aside0.mk HO7_
                clear HO7_
                have hHeld := Ow.Own.pick [0, 1, 2, 3, 4, 5] HO.out (by decide)
                refine norm_ (a' := ?_) ?_ ?_
                rotate_left
                ·simp only [putAll, Act.put, List.setIfInBounds_toArray, List.set_cons_zero, List.set_cons_succ]
                 rfl
                refine one_ (i := 0) (N := some 35) (Ow.B 12 387) rfl rfl (one_of HT_.out (by kernel_rfl)) (by decide) (fun K hK => ?_)
                refine goes_ Try.func18 (by kernel_rfl) rfl #[.string (⟨#[48, 49, 48, 48, 48, 48]⟩ : ByteArray), .int .i64 50, .int .i64 201] (by rfl) rfl rfl (by (try simp only [List.map_toArray, List.map_cons, List.map_nil]); first | done | rfl | (simp only [hq.1]; done) | (simp only [hq.1]; rfl) | (simp only [List.length_drop, List.length_take]; rfl)) ?_
                obtain ⟨Q27, hQ27_⟩ : ∃ q_ : Array Value, q_ = (#[.string t252, .string t253, .string t254, .int .i64 t255, .string t256, .string t257, .string t258, .string t259, .string t260, .int .i64 t261, .int .i64 t262, .string t263, .bool t264, .int .i64 t265, .string t266, .string t267, .string t268, .int .i64 t269, .int .i64 t270, .int .i64 t271, .bool t272, .bool t273, .int .i64 t274, .int .i64 t275, .bool t276] : Array Value) := ⟨_, rfl⟩
                try rw [← hQ27_]
                have hQ27 := Aside0.mk hQ27_; replace hq := Aside0.mk (And.intro hQ27_ hq.1); clear hQ27_
                refine Calls.mono (calls_of_args (by first | ((try simp only [hq.1]) <;> rfl) | fail) (bursarlaw26_some.calls (⟨#[48, 49, 48, 48, 48, 48]⟩ : ByteArray) 50 201 t252 t253 t254 t255 t256 t257 t258 t259 t260 t261 t262 t263 t264 t265 t266 t267 t268 t269 t270 t271 t272 t273 t274 t275 t276 _ A7.out)) ?_
                rintro e w67 ⟨he_, hb⟩
                (try rw [← hQ27.out] at he_)
                subst he_
                replace HO := Aside0.mk (Ow.Own.call HO.out hb)
                clear hb
                refine ⟨_, rfl, ?_⟩
                refine hK.out _ _ (by have h_ := Ow.Own.pick [0, 1, 2, 3, 4, 5] HO.out (by decide); first | exact h_ | exact Ow.Own.cong h_ (by first | ((try simp only [hq.1]) <;> rfl) | fail)) (fun hHeld => ?_)
                clear hK K
                refine norm_ (a' := ?_) ?_ ?_
                rotate_left
                ·show Act.put _ (some 35) _ = _
                 simp only [Act.put, List.setIfInBounds_toArray, List.set_cons_zero, List.set_cons_succ, i64_w, i32_w]
                 rfl
                exact norm_ (by first | (simp only [putAll, Act.put, List.setIfInBounds_toArray, List.set_cons_zero, List.set_cons_succ]; done) | (simp only [putAll, Act.put, List.setIfInBounds_toArray, List.set_cons_zero, List.set_cons_succ]; rfl) | (simp only [hq.1, putAll, Act.put, List.setIfInBounds_toArray, List.set_cons_zero, List.set_cons_succ] <;> rfl)) (hJ0_7_8 (gb290, gb291) _ (Ow.Own.cong (Ow.Own.pick [0, 1, 2, 3, 4, 5, 6, 7] HO.out (by decide)) (by first | ((try simp only [hq.1]) <;> rfl) | fail)))
              ·skip
               rintro gb291 w66 HO7_
               clear HO
               have HO := Aside0.mk HO7_
               clear HO7_
               have hHeld := Ow.Own.pick [0, 1, 2, 3, 4, 5] HO.out (by decide)
               refine norm_ (a' := ?_) ?_ ?_
               rotate_left
               ·simp only [putAll, Act.put, List.setIfInBounds_toArray, List.set_cons_zero, List.set_cons_succ]
                rfl
               refine two_ (i := 2) (j := 7) (Ni := some 37) (Nj := some 10) (Ow.B 12 263) (Ow.B 12 387) rfl rfl rfl rfl (two_of HT_.out (by kernel_rfl)) (by decide) (by decide) (fun K hK => ?_) (fun K hK => ?_)
               ·skip
                obtain ⟨Q28, hQ28_⟩ : ∃ q_ : Array Value, q_ = (#[.string t252, .string t253, .string t254, .int .i64 t255, .string t256, .string t257, .string t258, .string t259, .string t260, .int .i64 t261, .int .i64 t262, .string t263, .bool t264, .int .i64 t265, .string t266, .string t267, .string t268, .int .i64 t269, .int .i64 t270, .int .i64 t271, .bool t272, .bool t273, .int .i64 t274, .int .i64 t275, .bool t276] : Array Value) := ⟨_, rfl⟩
                try rw [← hQ28_]
                have hQ28 := Aside0.mk hQ28_; replace hq := Aside0.mk (And.intro hQ28_ hq.1); clear hQ28_
                refine goes_ Try.func8 (by kernel_rfl) rfl #[.agg Q28, .agg #[.string t157, .string t158, .string t159, .int .i64 t160, .int .i64 t161, .int .i64 t162], .bool true] (by rfl) rfl rfl (by (try simp only [List.map_toArray, List.map_cons, List.map_nil]); first | done | rfl | (simp only [hq.1]; done) | (simp only [hq.1]; rfl) | (simp only [List.length_drop, List.length_take]; rfl)) ?_
                refine Calls.mono (calls_of_args (by first | ((try simp only [hq.1]) <;> rfl) | fail) (dispute_Decide.calls k t252 t253 t254 t255 t256 t257 t258 t259 t260 t261 t262 t263 t264 t265 t266 t267 t268 t269 t270 t271 t272 t273 t274 t275 t276 t157 t158 t159 t160 t161 t162 true t277 t278 t279 t280 t281 t282 t283 t284 t285 t286 t287 t288 t289 _ A8.out)) ?_
                rintro e w67 ⟨he_, hb⟩
                subst he_
                replace HO := Aside0.mk (Ow.Own.call HO.out hb)
                clear hb
                refine ⟨_, rfl, ?_⟩
                refine hK.out _ _ (by have h_ := Ow.Own.pick [0, 1, 2, 3, 4, 5] HO.out (by decide); first | exact h_ | exact Ow.Own.cong h_ (by first | ((try simp only [hq.1]) <;> rfl) | fail)) (fun hHeld => ?_)
                clear hK K
                refine norm_ (a' := ?_) ?_ ?_
                rotate_left
                ·show Act.put _ (some 37) _ = _
                 simp only [Act.put, List.setIfInBounds_toArray, List.set_cons_zero, List.set_cons_succ, i64_w, i32_w]
                 rfl
                refine' Ow.pu (i := 3) (N := some 34) (Ow.B 12 271) HT_.out ?hv_ ?ha_ ?_; (case hv_ => intro w'; go_simp; with_reducible rfl); (case ha_ => simp only [Ow.Sl, i64_w, i32_w]; rfl)
                refine' Ow.pu (i := 4) (N := some 38) (Ow.B 12 287) HT_.out ?hv_ ?ha_ ?_; (case hv_ => intro w'; go_simp; with_reducible rfl); (case ha_ => simp only [Ow.Sl, i64_w, i32_w]; rfl)
                refine' Ow.pu (i := 5) (N := some 39) (Ow.B 12 319) HT_.out ?hv_ ?ha_ ?_; (case hv_ => intro w'; go_simp; with_reducible rfl); (case ha_ => simp only [Ow.Sl, i64_w, i32_w]; rfl)
                refine' Ow.pu (i := 6) (N := some 40) (Ow.B 12 383) HT_.out ?hv_ ?ha_ ?_; (case hv_ => intro w'; go_simp; with_reducible rfl); (case ha_ => simp only [Ow.Sl, i64_w, i32_w]; rfl)
                exact norm_ (by first | (simp only [putAll, Act.put, List.setIfInBounds_toArray, List.set_cons_zero, List.set_cons_succ]; done) | (simp only [putAll, Act.put, List.setIfInBounds_toArray, List.set_cons_zero, List.set_cons_succ]; rfl) | (simp only [hq.1, putAll, Act.put, List.setIfInBounds_toArray, List.set_cons_zero, List.set_cons_succ] <;> rfl)) (hJ0_2_8 (gb291) _ (Ow.Own.cong (Ow.Own.pick [0, 1, 2, 3, 4, 5, 6] HO.out (by decide)) (by first | ((try simp only [hq.1]) <;> rfl) | fail)))
               ·skip
                refine box_step ?hg (N := 10) ?hd (cs := bursarlaw26_awake.Z6) (t := 33) ?hr ?_; (case hd => rfl); (case hg => rfl); (case hr => first | (go_simp; done) | (go_simp; rfl))
                intro gb290 hg w67 hbox hb
                replace HO := Aside0.mk (Ow.Own.add HO.out hg hbox hb)
                clear hb hbox hg
                simp only [List.cons_append, List.nil_append] at HO
                refine hK.out _ _ (by have h_ := Ow.Own.pick [0, 1, 2, 3, 4, 5] HO.out (by decide); first | exact h_ | exact Ow.Own.cong h_ (by first | ((try simp only [hq.1]) <;> rfl) | fail)) (fun hHeld => ?_)
                clear hK K
                refine norm_ (a' := ?_) ?_ ?_
                rotate_left
                ·show Act.put _ (some 10) _ = _
                 simp only [Act.put, List.setIfInBounds_toArray, List.set_cons_zero, List.set_cons_succ, i64_w, i32_w]
                 rfl
                exact norm_ (by first | (simp only [putAll, Act.put, List.setIfInBounds_toArray, List.set_cons_zero, List.set_cons_succ]; done) | (simp only [putAll, Act.put, List.setIfInBounds_toArray, List.set_cons_zero, List.set_cons_succ]; rfl) | (simp only [hq.1, putAll, Act.put, List.setIfInBounds_toArray, List.set_cons_zero, List.set_cons_succ] <;> rfl)) (hJ0_7_8 (gb290, gb291) _ (Ow.Own.cong (Ow.Own.pick [0, 1, 2, 3, 4, 5, 7, 6] HO.out (by decide)) (by first | ((try simp only [hq.1]) <;> rfl) | fail)))
             ·skip
              rintro gb290 w66 HO7_
              clear HO
              have HO := Aside0.mk HO7_
              clear HO7_
              have hHeld := Ow.Own.pick [0, 1, 2, 3, 4, 5] HO.out (by decide)
              refine norm_ (a' := ?_) ?_ ?_
              rotate_left
              ·simp only [putAll, Act.put, List.setIfInBounds_toArray, List.set_cons_zero, List.set_cons_succ]
               rfl
              refine two_ (i := 2) (j := 8) (Ni := some 37) (Nj := some 11) (Ow.B 12 135) (Ow.B 12 387) rfl rfl rfl rfl (two_of HT_.out (by kernel_rfl)) (by decide) (by decide) (fun K hK => ?_) (fun K hK => ?_)
              ·skip
               obtain ⟨Q29, hQ29_⟩ : ∃ q_ : Array Value, q_ = (#[.string t252, .string t253, .string t254, .int .i64 t255, .string t256, .string t257, .string t258, .string t259, .string t260, .int .i64 t261, .int .i64 t262, .string t263, .bool t264, .int .i64 t265, .string t266, .string t267, .string t268, .int .i64 t269, .int .i64 t270, .int .i64 t271, .bool t272, .bool t273, .int .i64 t274, .int .i64 t275, .bool t276] : Array Value) := ⟨_, rfl⟩
               try rw [← hQ29_]
               have hQ29 := Aside0.mk hQ29_; replace hq := Aside0.mk (And.intro hQ29_ hq.1); clear hQ29_
               refine goes_ Try.func8 (by kernel_rfl) rfl #[.agg Q29, .agg #[.string t157, .string t158, .string t159, .int .i64 t160, .int .i64 t161, .int .i64 t162], .bool true] (by rfl) rfl rfl (by (try simp only [List.map_toArray, List.map_cons, List.map_nil]); first | done | rfl | (simp only [hq.1]; done) | (simp only [hq.1]; rfl) | (simp only [List.length_drop, List.length_take]; rfl)) ?_
               refine Calls.mono (calls_of_args (by first | ((try simp only [hq.1]) <;> rfl) | fail) (dispute_Decide.calls k t252 t253 t254 t255 t256 t257 t258 t259 t260 t261 t262 t263 t264 t265 t266 t267 t268 t269 t270 t271 t272 t273 t274 t275 t276 t157 t158 t159 t160 t161 t162 true t277 t278 t279 t280 t281 t282 t283 t284 t285 t286 t287 t288 t289 _ A8.out)) ?_
               rintro e w67 ⟨he_, hb⟩
               subst he_
               replace HO := Aside0.mk (Ow.Own.call HO.out hb)
               clear hb
               refine ⟨_, rfl, ?_⟩
               refine hK.out _ _ (by have h_ := Ow.Own.pick [0, 1, 2, 3, 4, 5] HO.out (by decide); first | exact h_ | exact Ow.Own.cong h_ (by first | ((try simp only [hq.1]) <;> rfl) | fail)) (fun hHeld => ?_)
               clear hK K
               refine norm_ (a' := ?_) ?_ ?_
               rotate_left
               ·show Act.put _ (some 37) _ = _
                simp only [Act.put, List.setIfInBounds_toArray, List.set_cons_zero, List.set_cons_succ, i64_w, i32_w]
                rfl
               refine' Ow.pu (i := 3) (N := some 34) (Ow.B 12 143) HT_.out ?hv_ ?ha_ ?_; (case hv_ => intro w'; go_simp; with_reducible rfl); (case ha_ => simp only [Ow.Sl, i64_w, i32_w]; rfl)
               refine' Ow.pu (i := 4) (N := some 38) (Ow.B 12 159) HT_.out ?hv_ ?ha_ ?_; (case hv_ => intro w'; go_simp; with_reducible rfl); (case ha_ => simp only [Ow.Sl, i64_w, i32_w]; rfl)
               refine' Ow.pu (i := 5) (N := some 39) (Ow.B 12 191) HT_.out ?hv_ ?ha_ ?_; (case hv_ => intro w'; go_simp; with_reducible rfl); (case ha_ => simp only [Ow.Sl, i64_w, i32_w]; rfl)
               refine' Ow.pu (i := 6) (N := some 40) (Ow.B 12 255) HT_.out ?hv_ ?ha_ ?_; (case hv_ => intro w'; go_simp; with_reducible rfl); (case ha_ => simp only [Ow.Sl, i64_w, i32_w]; rfl)
               exact norm_ (by first | (simp only [putAll, Act.put, List.setIfInBounds_toArray, List.set_cons_zero, List.set_cons_succ]; done) | (simp only [putAll, Act.put, List.setIfInBounds_toArray, List.set_cons_zero, List.set_cons_succ]; rfl) | (simp only [hq.1, putAll, Act.put, List.setIfInBounds_toArray, List.set_cons_zero, List.set_cons_succ] <;> rfl)) (hJ0_2_7 (gb290) _ (Ow.Own.cong (Ow.Own.pick [0, 1, 2, 3, 4, 5, 6] HO.out (by decide)) (by first | ((try simp only [hq.1]) <;> rfl) | fail)))
              ·skip
               refine box_step ?hg (N := 11) ?hd (cs := bursarlaw26_awake.Z6_1) (t := 37) ?hr ?_; (case hd => rfl); (case hg => rfl); (case hr => first | (go_simp; done) | (go_simp; rfl))
               intro gb291 hg w67 hbox hb
               replace HO := Aside0.mk (Ow.Own.add HO.out hg hbox hb)
               clear hb hbox hg
               simp only [List.cons_append, List.nil_append] at HO
               refine hK.out _ _ (by have h_ := Ow.Own.pick [0, 1, 2, 3, 4, 5] HO.out (by decide); first | exact h_ | exact Ow.Own.cong h_ (by first | ((try simp only [hq.1]) <;> rfl) | fail)) (fun hHeld => ?_)
               clear hK K
               refine norm_ (a' := ?_) ?_ ?_
               rotate_left
               ·show Act.put _ (some 11) _ = _
                simp only [Act.put, List.setIfInBounds_toArray, List.set_cons_zero, List.set_cons_succ, i64_w, i32_w]
                rfl
               exact norm_ (by first | (simp only [putAll, Act.put, List.setIfInBounds_toArray, List.set_cons_zero, List.set_cons_succ]; done) | (simp only [putAll, Act.put, List.setIfInBounds_toArray, List.set_cons_zero, List.set_cons_succ]; rfl) | (simp only [hq.1, putAll, Act.put, List.setIfInBounds_toArray, List.set_cons_zero, List.set_cons_succ] <;> rfl)) (hJ0_7_8 (gb290, gb291) _ (Ow.Own.cong (Ow.Own.pick [0, 1, 2, 3, 4, 5, 6, 7] HO.out (by decide)) (by first | ((try simp only [hq.1]) <;> rfl) | fail)))
            ·skip
             rintro _ w66 HO7_
             clear HO
             have HO := Aside0.mk HO7_
             clear HO7_
             have hHeld := Ow.Own.pick [0, 1, 2, 3, 4, 5] HO.out (by decide)
             refine norm_ (a' := ?_) ?_ ?_
             rotate_left
             ·simp only [putAll, Act.put, List.setIfInBounds_toArray, List.set_cons_zero, List.set_cons_succ]
              rfl
             refine two_ (i := 7) (j := 8) (Ni := some 10) (Nj := some 11) (Ow.B 12 255) (Ow.B 12 383) rfl rfl rfl rfl (two_of HT_.out (by kernel_rfl)) (by decide) (by decide) (fun K hK => ?_) (fun K hK => ?_)
             ·skip
              refine box_step ?hg (N := 10) ?hd (cs := bursarlaw26_awake.Z6) (t := 33) ?hr ?_; (case hd => rfl); (case hg => rfl); (case hr => first | (go_simp; done) | (go_simp; rfl))
              intro gb290 hg w67 hbox hb
              replace HO := Aside0.mk (Ow.Own.add HO.out hg hbox hb)
              clear hb hbox hg
              simp only [List.cons_append, List.nil_append] at HO
              refine hK.out _ _ (by have h_ := Ow.Own.pick [0, 1, 2, 3, 4, 5] HO.out (by decide); first | exact h_ | exact Ow.Own.cong h_ (by first | ((try simp only [hq.1]) <;> rfl) | fail)) (fun hHeld => ?_)
              clear hK K
              refine norm_ (a' := ?_) ?_ ?_
              rotate_left
              ·show Act.put _ (some 10) _ = _
               simp only [Act.put, List.setIfInBounds_toArray, List.set_cons_zero, List.set_cons_succ, i64_w, i32_w]
               rfl
              exact norm_ (by first | (simp only [putAll, Act.put, List.setIfInBounds_toArray, List.set_cons_zero, List.set_cons_succ]; done) | (simp only [putAll, Act.put, List.setIfInBounds_toArray, List.set_cons_zero, List.set_cons_succ]; rfl) | (simp only [hq.1, putAll, Act.put, List.setIfInBounds_toArray, List.set_cons_zero, List.set_cons_succ] <;> rfl)) (hJ0_2_7 (gb290) _ (Ow.Own.cong (Ow.Own.pick [0, 1, 2, 3, 4, 5, 6] HO.out (by decide)) (by first | ((try simp only [hq.1]) <;> rfl) | fail)))
             ·skip
              refine box_step ?hg (N := 11) ?hd (cs := bursarlaw26_awake.Z6_1) (t := 37) ?hr ?_; (case hd => rfl); (case hg => rfl); (case hr => first | (go_simp; done) | (go_simp; rfl))
              intro gb291 hg w67 hbox hb
              replace HO := Aside0.mk (Ow.Own.add HO.out hg hbox hb)
              clear hb hbox hg
              simp only [List.cons_append, List.nil_append] at HO
              refine hK.out _ _ (by have h_ := Ow.Own.pick [0, 1, 2, 3, 4, 5] HO.out (by decide); first | exact h_ | exact Ow.Own.cong h_ (by first | ((try simp only [hq.1]) <;> rfl) | fail)) (fun hHeld => ?_)
              clear hK K
              refine norm_ (a' := ?_) ?_ ?_
              rotate_left
              ·show Act.put _ (some 11) _ = _
               simp only [Act.put, List.setIfInBounds_toArray, List.set_cons_zero, List.set_cons_succ, i64_w, i32_w]
               rfl
              exact norm_ (by first | (simp only [putAll, Act.put, List.setIfInBounds_toArray, List.set_cons_zero, List.set_cons_succ]; done) | (simp only [putAll, Act.put, List.setIfInBounds_toArray, List.set_cons_zero, List.set_cons_succ]; rfl) | (simp only [hq.1, putAll, Act.put, List.setIfInBounds_toArray, List.set_cons_zero, List.set_cons_succ] <;> rfl)) (hJ0_2_8 (gb291) _ (Ow.Own.cong (Ow.Own.pick [0, 1, 2, 3, 4, 5, 6] HO.out (by decide)) (by first | ((try simp only [hq.1]) <;> rfl) | fail)))
           ·skip
            rintro ⟨gb290, gb291⟩ w67 HO7_
            clear HO
            have HO := Aside0.mk HO7_
            clear HO7_
            have hHeld := Ow.Own.pick [0, 1, 2, 3, 4, 5] HO.out (by decide)
            refine norm_ (a' := ?_) ?_ ?_
            rotate_left
            ·simp only [putAll, Act.put, List.setIfInBounds_toArray, List.set_cons_zero, List.set_cons_succ]
             rfl
            refine one_ (i := 2) (N := some 37) (Ow.B 12 391) rfl rfl (one_of HT_.out (by kernel_rfl)) (by decide) (fun K hK => ?_)
            obtain ⟨Q30, hQ30_⟩ : ∃ q_ : Array Value, q_ = (#[.string t252, .string t253, .string t254, .int .i64 t255, .string t256, .string t257, .string t258, .string t259, .string t260, .int .i64 t261, .int .i64 t262, .string t263, .bool t264, .int .i64 t265, .string t266, .string t267, .string t268, .int .i64 t269, .int .i64 t270, .int .i64 t271, .bool t272, .bool t273, .int .i64 t274, .int .i64 t275, .bool t276] : Array Value) := ⟨_, rfl⟩
            try rw [← hQ30_]
            have hQ30 := Aside0.mk hQ30_; replace hq := Aside0.mk (And.intro hQ30_ hq.1); clear hQ30_
            refine goes_ Try.func8 (by kernel_rfl) rfl #[.agg Q30, .agg #[.string t157, .string t158, .string t159, .int .i64 t160, .int .i64 t161, .int .i64 t162], .bool true] (by rfl) rfl rfl (by (try simp only [List.map_toArray, List.map_cons, List.map_nil]); first | done | rfl | (simp only [hq.1]; done) | (simp only [hq.1]; rfl) | (simp only [List.length_drop, List.length_take]; rfl)) ?_
            refine Calls.mono (calls_of_args (by first | ((try simp only [hq.1]) <;> rfl) | fail) (dispute_Decide.calls k t252 t253 t254 t255 t256 t257 t258 t259 t260 t261 t262 t263 t264 t265 t266 t267 t268 t269 t270 t271 t272 t273 t274 t275 t276 t157 t158 t159 t160 t161 t162 true t277 t278 t279 t280 t281 t282 t283 t284 t285 t286 t287 t288 t289 _ A8.out)) ?_
            rintro e w68 ⟨he_, hb⟩
            subst he_
            replace HO := Aside0.mk (Ow.Own.call HO.out hb)
            clear hb
            refine ⟨_, rfl, ?_⟩
            refine hK.out _ _ (by have h_ := Ow.Own.pick [0, 1, 2, 3, 4, 5] HO.out (by decide); first | exact h_ | exact Ow.Own.cong h_ (by first | ((try simp only [hq.1]) <;> rfl) | fail)) (fun hHeld => ?_)
            clear hK K
            refine norm_ (a' := ?_) ?_ ?_
            rotate_left
            ·show Act.put _ (some 37) _ = _
             simp only [Act.put, List.setIfInBounds_toArray, List.set_cons_zero, List.set_cons_succ, i64_w, i32_w]
             rfl
            refine' Ow.pu (i := 3) (N := some 34) (Ow.B 12 399) HT_.out ?hv_ ?ha_ ?_; (case hv_ => intro w'; go_simp; with_reducible rfl); (case ha_ => simp only [Ow.Sl, i64_w, i32_w]; rfl)
            refine' Ow.pu (i := 4) (N := some 38) (Ow.B 12 415) HT_.out ?hv_ ?ha_ ?_; (case hv_ => intro w'; go_simp; with_reducible rfl); (case ha_ => simp only [Ow.Sl, i64_w, i32_w]; rfl)
            refine' Ow.pu (i := 5) (N := some 39) (Ow.B 12 447) HT_.out ?hv_ ?ha_ ?_; (case hv_ => intro w'; go_simp; with_reducible rfl); (case ha_ => simp only [Ow.Sl, i64_w, i32_w]; rfl)
            refine' Ow.pu (i := 6) (N := some 40) (Ow.B 12 511) HT_.out ?hv_ ?ha_ ?_; (case hv_ => intro w'; go_simp; with_reducible rfl); (case ha_ => simp only [Ow.Sl, i64_w, i32_w]; rfl)
            exact norm_ (by first | (simp only [putAll, Act.put, List.setIfInBounds_toArray, List.set_cons_zero, List.set_cons_succ]; done) | (simp only [putAll, Act.put, List.setIfInBounds_toArray, List.set_cons_zero, List.set_cons_succ]; rfl) | (simp only [hq.1, putAll, Act.put, List.setIfInBounds_toArray, List.set_cons_zero, List.set_cons_succ] <;> rfl)) (hJ0_2_7_8 (gb290, gb291) _ (Ow.Own.cong (Ow.Own.pick [0, 1, 2, 3, 4, 5, 6, 7] HO.out (by decide)) (by first | ((try simp only [hq.1]) <;> rfl) | fail)))
          ·skip
           rintro gb291 w67 HO7_
           clear HO
           have HO := Aside0.mk HO7_
           clear HO7_
           have hHeld := Ow.Own.pick [0, 1, 2, 3, 4, 5] HO.out (by decide)
           refine norm_ (a' := ?_) ?_ ?_
           rotate_left
           ·simp only [putAll, Act.put, List.setIfInBounds_toArray, List.set_cons_zero, List.set_cons_succ]
            rfl
           refine one_ (i := 7) (N := some 10) (Ow.B 12 511) rfl rfl (one_of HT_.out (by kernel_rfl)) (by decide) (fun K hK => ?_)
           refine box_step ?hg (N := 10) ?hd (cs := bursarlaw26_awake.Z6) (t := 33) ?hr ?_; (case hd => rfl); (case hg => rfl); (case hr => first | (go_simp; done) | (go_simp; rfl))
           intro gb290 hg w68 hbox hb
           replace HO := Aside0.mk (Ow.Own.add HO.out hg hbox hb)
           clear hb hbox hg
           simp only [List.cons_append, List.nil_append] at HO
           refine hK.out _ _ (by have h_ := Ow.Own.pick [0, 1, 2, 3, 4, 5] HO.out (by decide); first | exact h_ | exact Ow.Own.cong h_ (by first | ((try simp only [hq.1]) <;> rfl) | fail)) (fun hHeld => ?_)
           clear hK K
           refine norm_ (a' := ?_) ?_ ?_
           rotate_left
           ·show Act.put _ (some 10) _ = _
            simp only [Act.put, List.setIfInBounds_toArray, List.set_cons_zero, List.set_cons_succ, i64_w, i32_w]
            rfl
           exact norm_ (by first | (simp only [putAll, Act.put, List.setIfInBounds_toArray, List.set_cons_zero, List.set_cons_succ]; done) | (simp only [putAll, Act.put, List.setIfInBounds_toArray, List.set_cons_zero, List.set_cons_succ]; rfl) | (simp only [hq.1, putAll, Act.put, List.setIfInBounds_toArray, List.set_cons_zero, List.set_cons_succ] <;> rfl)) (hJ0_2_7_8 (gb290, gb291) _ (Ow.Own.cong (Ow.Own.pick [0, 1, 2, 3, 4, 5, 7, 6] HO.out (by decide)) (by first | ((try simp only [hq.1]) <;> rfl) | fail)))
         ·skip
          rintro gb290 w67 HO7_
          clear HO
          have HO := Aside0.mk HO7_
          clear HO7_
          have hHeld := Ow.Own.pick [0, 1, 2, 3, 4, 5] HO.out (by decide)
          refine norm_ (a' := ?_) ?_ ?_
          rotate_left
          ·simp only [putAll, Act.put, List.setIfInBounds_toArray, List.set_cons_zero, List.set_cons_succ]
           rfl
          refine one_ (i := 8) (N := some 11) (Ow.B 12 511) rfl rfl (one_of HT_.out (by kernel_rfl)) (by decide) (fun K hK => ?_)
          refine box_step ?hg (N := 11) ?hd (cs := bursarlaw26_awake.Z6_1) (t := 37) ?hr ?_; (case hd => rfl); (case hg => rfl); (case hr => first | (go_simp; done) | (go_simp; rfl))
          intro gb291 hg w68 hbox hb
          replace HO := Aside0.mk (Ow.Own.add HO.out hg hbox hb)
          clear hb hbox hg
          simp only [List.cons_append, List.nil_append] at HO
          refine hK.out _ _ (by have h_ := Ow.Own.pick [0, 1, 2, 3, 4, 5] HO.out (by decide); first | exact h_ | exact Ow.Own.cong h_ (by first | ((try simp only [hq.1]) <;> rfl) | fail)) (fun hHeld => ?_)
          clear hK K
          refine norm_ (a' := ?_) ?_ ?_
          rotate_left
          ·show Act.put _ (some 11) _ = _
           simp only [Act.put, List.setIfInBounds_toArray, List.set_cons_zero, List.set_cons_succ, i64_w, i32_w]
           rfl
          exact norm_ (by first | (simp only [putAll, Act.put, List.setIfInBounds_toArray, List.set_cons_zero, List.set_cons_succ]; done) | (simp only [putAll, Act.put, List.setIfInBounds_toArray, List.set_cons_zero, List.set_cons_succ]; rfl) | (simp only [hq.1, putAll, Act.put, List.setIfInBounds_toArray, List.set_cons_zero, List.set_cons_succ] <;> rfl)) (hJ0_2_7_8 (gb290, gb291) _ (Ow.Own.cong (Ow.Own.pick [0, 1, 2, 3, 4, 5, 6, 7] HO.out (by decide)) (by first | ((try simp only [hq.1]) <;> rfl) | fail)))
        rintro ⟨gb290, gb291⟩ w68 HO7_
        clear HO
        have HO := Aside0.mk HO7_
        clear HO7_
        have hHeld := Ow.Own.pick [0, 1, 2, 3, 4, 5] HO.out (by decide)
        refine norm_ (a' := ?_) ?_ ?_
        rotate_left
        ·simp only [putAll, Act.put, List.setIfInBounds_toArray, List.set_cons_zero, List.set_cons_succ]
         rfl
        refine one_ (i := 9) (N := none) (Ow.B 12 1023) rfl rfl (one_of HT_.out (by kernel_rfl)) (by decide) (fun K hK => ?_)
        refine Ow.oskip Ot.ty HO.out (by rfl) rfl rfl rfl rfl (by with_reducible first | exact Ow.at0 | exact Ow.at1 | exact Ow.at2 | exact Ow.at3 | exact Ow.at4 | exact Ow.at5 | exact Ow.at6 | exact Ow.at7) (by first | exact Ow.ev_tmp rfl | rfl) (by first | ((try simp only [hq.1]) <;> rfl) | fail) (by first | ((try simp only [hq.1]) <;> rfl) | fail) (by first | ((try simp only [hq.1]) <;> rfl) | fail) ?_
        clear HO; intro wz_ HO; simp only [List.set_cons_zero, List.set_cons_succ] at HO
        refine hK.out _ _ (by have h_ := Ow.Own.pick [0, 1, 2, 3, 4, 5] HO.out (by decide); first | exact h_ | exact Ow.Own.cong h_ (by first | ((try simp only [hq.1]) <;> rfl) | fail)) (fun hHeld => ?_)
        clear hK K
        refine one_ (i := 10) (N := none) (Ow.B 12 2047) rfl rfl (one_of HT_.out (by kernel_rfl)) (by decide) (fun K hK => ?_)
        refine Ow.oskip Ot.ty HO.out (by rfl) rfl rfl rfl rfl (by with_reducible first | exact Ow.at0 | exact Ow.at1 | exact Ow.at2 | exact Ow.at3 | exact Ow.at4 | exact Ow.at5 | exact Ow.at6 | exact Ow.at7) (by first | exact Ow.ev_tmp rfl | rfl) (by first | ((try simp only [hq.1]) <;> rfl) | fail) (by first | ((try simp only [hq.1]) <;> rfl) | fail) (by first | ((try simp only [hq.1]) <;> rfl) | fail) ?_
        clear HO; intro wz_ HO; simp only [List.set_cons_zero, List.set_cons_succ] at HO
        refine hK.out _ _ (by have h_ := Ow.Own.pick [0, 1, 2, 3, 4, 5] HO.out (by decide); first | exact h_ | exact Ow.Own.cong h_ (by first | ((try simp only [hq.1]) <;> rfl) | fail)) (fun hHeld => ?_)
        clear hK K
        refine' Ow.pu (i := 11) (N := some 12) (Ow.B 12 4095) HT_.out ?hv_ ?ha_ ?_; (case hv_ => intro w'; go_simp; with_reducible rfl); (case ha_ => simp only [Ow.Sl, i64_w, i32_w]; rfl)
        refine done_ (done_of HT_.out (by kernel_rfl)) ?_
        try go_wp2_with (first | ((with_reducible refine Ow.gate_build rfl ?_); (try (refine gate_guard (by rfl) ?_; dsimp only)); refine' Ow.tbuild Ot.bd rfl rfl rfl ?hf_ ?_; (case hf_ => repeat (any_goals (first | exact Ow.Fills.nil | (refine' Ow.Fills.c ?hv_ rfl ?hz_ ?_; (case hv_ => first | exact Ow.ev_tmp rfl | rfl); (case hz_ => first | (refine ⟨?_, ?_⟩ <;> (first | ((try simp only [hq.1]) <;> rfl) | fail)) | fail)))))) | ((with_reducible refine Ow.gate_load rfl ?_); (try (refine gate_guard (by rfl) ?_; dsimp only)); (first | refine Ow.l1 Ot.ty HO.out rfl rfl rfl rfl (by first | ((try simp only [hq.1]) <;> rfl) | fail) ?_ | refine Ow.l0 Ot.ty HO.out rfl rfl rfl rfl (by first | ((try simp only [hq.1]) <;> rfl) | fail) ?_ | refine Ow.lp Ot.ty HO.out rfl rfl rfl rfl (by first | ((try simp only [hq.1]) <;> rfl) | fail) ?_)) | ((with_reducible refine gate_store rfl ?_); (try (refine gate_guard (by rfl) ?_; dsimp only)); (first | refine Ow.s0 Ot.ty HO.out rfl rfl rfl rfl rfl (by first | exact Ow.ev_tmp rfl | rfl) (by first | (refine ⟨?_, ?_, ?_⟩ <;> (first | ((try simp only [hq.1]) <;> rfl) | fail)) | fail) ?_ | refine Ow.sp Ot.ty HO.out rfl rfl rfl rfl rfl (by first | exact Ow.ev_tmp rfl | rfl) (by first | (refine ⟨?_, ?_, ?_⟩ <;> (first | ((try simp only [hq.1]) <;> rfl) | fail)) | fail) ?_); clear HO; intro wz_ HO; simp only [List.set_cons_zero, List.set_cons_succ] at HO))
        all_goals go_ret
        all_goals exact ⟨by first | rfl | (simp only [hq.1]; done) | (simp only [hq.1]; rfl) | (simp [errW_none, errW_some] <;> rfl) | (simp [*, errW_none, errW_some] <;> rfl), Ow.Own.below HO.out⟩
       ·rw [if_neg c15] at H
        exact absurd H (by simp)
      ·rw [if_neg c14] at H
       exact absurd H (by simp)
     ·rw [if_neg c13] at H
      exact absurd H (by simp)
    ·rw [if_neg c12] at H
     exact absurd H (by simp)
   ·rw [if_neg c11] at H
    exact absurd H (by simp)
  ·rw [if_neg c10] at H
   exact absurd H (by simp)
 ·rw [if_neg c9] at H
  exact absurd H (by simp)

end Go.Proofs.Ytmdpomilhejbcaa.XDC
