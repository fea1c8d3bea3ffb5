-- Written by wip/xprint.py, a session's program: printed out of the translation, with hand-written functions. Lean checks it.
import Derived.Test.YtddlmcaclbkopaaXAU0
import Derived.Test.YtddlmcaclbkopaaXAU3
import Derived.Test.YtddlmcaclbkopaaXAU5
import Derived.Test.YtddlmcaclbkopaaXAU10
import Derived.Test.YtddlmcaclbkopaaXAU11
import Derived.Test.YtddlmcaclbkopaaXAU13
import Derived.Test.YtddlmcaclbkopaaXAU17
import Derived.Test.YtddlmcaclbkopaaXAU21
import Derived.Test.YtddlmcaclbkopaaXAU22
namespace Go.Proofs.Ytddlmcaclbkopaa.XAU
open Go.RowKit Go.Proofs.YtddlmcaclbkopaaW.PrintWords Go.Proofs.YtddlmcaclbkopaaW.PrintLast Go.Proofs.YtddlmcaclbkopaaW.PrintMore
attribute [local go_sem] max2_int min2_int max_two min_two max_three min_three max_four min_four   -- for this text's walks alone
set_option linter.unusedVariables false
set_option linter.unusedSimpArgs false

attribute [local go_sem high] eqA53
/-! ### bursarlaw22_AuthDecides: function 11 -/
def bursarlaw22_AuthDecides.f (k : Nat) (a0_0 : ByteArray) (a0_1 : ByteArray) (a0_2 : ByteArray) (a0_3 : Int) (a0_4 : ByteArray) (a0_5 : ByteArray) (a0_6 : ByteArray) (a0_7 : ByteArray) (a0_8 : ByteArray) (a0_9 : Int) (a0_10 : Int) (a0_11 : ByteArray) (a0_12 : Bool) (a0_13 : Int) (a0_14 : ByteArray) (a0_15 : ByteArray) (a0_16 : ByteArray) (a0_17 : Int) (a0_18 : Int) (a0_19 : Int) (a0_20 : Bool) (a0_21 : Bool) (a0_22 : Int) (a0_23 : Int) (a0_24 : Bool) : Option (Bool) := (bursarlaw22_Few.f a0_0 a0_1 a0_2 a0_3 a0_4 a0_5 a0_6 a0_7 a0_8 a0_9 a0_10 a0_11 a0_12 a0_13 a0_14 a0_15 a0_16 a0_17 a0_18 a0_19 a0_20 a0_21 a0_22 a0_23 a0_24).bind fun bt502 => ((auth_Auth.f k bt502.1 bt502.2.1 bt502.2.2.1 bt502.2.2.2.1 bt502.2.2.2.2.1 bt502.2.2.2.2.2.1 bt502.2.2.2.2.2.2.1 bt502.2.2.2.2.2.2.2.1 bt502.2.2.2.2.2.2.2.2.1 bt502.2.2.2.2.2.2.2.2.2.1 bt502.2.2.2.2.2.2.2.2.2.2.1 bt502.2.2.2.2.2.2.2.2.2.2.2.1 bt502.2.2.2.2.2.2.2.2.2.2.2.2.1 bt502.2.2.2.2.2.2.2.2.2.2.2.2.2.1 bt502.2.2.2.2.2.2.2.2.2.2.2.2.2.2.1 bt502.2.2.2.2.2.2.2.2.2.2.2.2.2.2.2.1 bt502.2.2.2.2.2.2.2.2.2.2.2.2.2.2.2.2.1 bt502.2.2.2.2.2.2.2.2.2.2.2.2.2.2.2.2.2.1 bt502.2.2.2.2.2.2.2.2.2.2.2.2.2.2.2.2.2.2.1 bt502.2.2.2.2.2.2.2.2.2.2.2.2.2.2.2.2.2.2.2.1 bt502.2.2.2.2.2.2.2.2.2.2.2.2.2.2.2.2.2.2.2.2.1 bt502.2.2.2.2.2.2.2.2.2.2.2.2.2.2.2.2.2.2.2.2.2.1 bt502.2.2.2.2.2.2.2.2.2.2.2.2.2.2.2.2.2.2.2.2.2.2.1 bt502.2.2.2.2.2.2.2.2.2.2.2.2.2.2.2.2.2.2.2.2.2.2.2.1 bt502.2.2.2.2.2.2.2.2.2.2.2.2.2.2.2.2.2.2.2.2.2.2.2.2).bind fun bt527 => ((bursarref22_Auth.f k bt502.1 bt502.2.1 bt502.2.2.1 bt502.2.2.2.1 bt502.2.2.2.2.1 bt502.2.2.2.2.2.1 bt502.2.2.2.2.2.2.1 bt502.2.2.2.2.2.2.2.1 bt502.2.2.2.2.2.2.2.2.1 bt502.2.2.2.2.2.2.2.2.2.1 bt502.2.2.2.2.2.2.2.2.2.2.1 bt502.2.2.2.2.2.2.2.2.2.2.2.1 bt502.2.2.2.2.2.2.2.2.2.2.2.2.1 bt502.2.2.2.2.2.2.2.2.2.2.2.2.2.1 bt502.2.2.2.2.2.2.2.2.2.2.2.2.2.2.1 bt502.2.2.2.2.2.2.2.2.2.2.2.2.2.2.2.1 bt502.2.2.2.2.2.2.2.2.2.2.2.2.2.2.2.2.1 bt502.2.2.2.2.2.2.2.2.2.2.2.2.2.2.2.2.2.1 bt502.2.2.2.2.2.2.2.2.2.2.2.2.2.2.2.2.2.2.1 bt502.2.2.2.2.2.2.2.2.2.2.2.2.2.2.2.2.2.2.2.1 bt502.2.2.2.2.2.2.2.2.2.2.2.2.2.2.2.2.2.2.2.2.1 bt502.2.2.2.2.2.2.2.2.2.2.2.2.2.2.2.2.2.2.2.2.2.1 bt502.2.2.2.2.2.2.2.2.2.2.2.2.2.2.2.2.2.2.2.2.2.2.1 bt502.2.2.2.2.2.2.2.2.2.2.2.2.2.2.2.2.2.2.2.2.2.2.2.1 bt502.2.2.2.2.2.2.2.2.2.2.2.2.2.2.2.2.2.2.2.2.2.2.2.2).bind fun bt542 => (if (bt527.1.toList == bt542.1.toList && ((bt527.2.1.toList == bt542.2.1.toList && (bt527.2.2.1.toList == bt542.2.2.1.toList && (bt527.2.2.2.1.toList == bt542.2.2.2.1.toList && (bt527.2.2.2.2.1 == bt542.2.2.2.2.1 && (bt527.2.2.2.2.2.1 == bt542.2.2.2.2.2.1 && (bt527.2.2.2.2.2.2.1 == bt542.2.2.2.2.2.2.1 && (bt527.2.2.2.2.2.2.2.1 == bt542.2.2.2.2.2.2.2.1))))))) && (bt527.2.2.2.2.2.2.2.2.1 == bt542.2.2.2.2.2.2.2.2.1 && ((bt527.2.2.2.2.2.2.2.2.2.1 == bt542.2.2.2.2.2.2.2.2.2.1 && (bt527.2.2.2.2.2.2.2.2.2.2.1 == bt542.2.2.2.2.2.2.2.2.2.2.1 && (bt527.2.2.2.2.2.2.2.2.2.2.2.1.toList == bt542.2.2.2.2.2.2.2.2.2.2.2.1.toList && (bt527.2.2.2.2.2.2.2.2.2.2.2.2.1.toList == bt542.2.2.2.2.2.2.2.2.2.2.2.2.1.toList && (bt527.2.2.2.2.2.2.2.2.2.2.2.2.2.1.toList == bt542.2.2.2.2.2.2.2.2.2.2.2.2.2.1.toList && (bt527.2.2.2.2.2.2.2.2.2.2.2.2.2.2 == bt542.2.2.2.2.2.2.2.2.2.2.2.2.2.2)))))))))) = true then ((auth_May.f k bt502.1 bt502.2.1 bt502.2.2.1 bt502.2.2.2.1 bt502.2.2.2.2.1 bt502.2.2.2.2.2.1 bt502.2.2.2.2.2.2.1 bt502.2.2.2.2.2.2.2.1 bt502.2.2.2.2.2.2.2.2.1 bt502.2.2.2.2.2.2.2.2.2.1 bt502.2.2.2.2.2.2.2.2.2.2.1 bt502.2.2.2.2.2.2.2.2.2.2.2.1 bt502.2.2.2.2.2.2.2.2.2.2.2.2.1 bt502.2.2.2.2.2.2.2.2.2.2.2.2.2.1 bt502.2.2.2.2.2.2.2.2.2.2.2.2.2.2.1 bt502.2.2.2.2.2.2.2.2.2.2.2.2.2.2.2.1 bt502.2.2.2.2.2.2.2.2.2.2.2.2.2.2.2.2.1 bt502.2.2.2.2.2.2.2.2.2.2.2.2.2.2.2.2.2.1 bt502.2.2.2.2.2.2.2.2.2.2.2.2.2.2.2.2.2.2.1 bt502.2.2.2.2.2.2.2.2.2.2.2.2.2.2.2.2.2.2.2.1 bt502.2.2.2.2.2.2.2.2.2.2.2.2.2.2.2.2.2.2.2.2.1 bt502.2.2.2.2.2.2.2.2.2.2.2.2.2.2.2.2.2.2.2.2.2.1 bt502.2.2.2.2.2.2.2.2.2.2.2.2.2.2.2.2.2.2.2.2.2.2.1 bt502.2.2.2.2.2.2.2.2.2.2.2.2.2.2.2.2.2.2.2.2.2.2.2.1 bt502.2.2.2.2.2.2.2.2.2.2.2.2.2.2.2.2.2.2.2.2.2.2.2.2).bind fun t557 => ((bursarref22_May.f k bt502.1 bt502.2.1 bt502.2.2.1 bt502.2.2.2.1 bt502.2.2.2.2.1 bt502.2.2.2.2.2.1 bt502.2.2.2.2.2.2.1 bt502.2.2.2.2.2.2.2.1 bt502.2.2.2.2.2.2.2.2.1 bt502.2.2.2.2.2.2.2.2.2.1 bt502.2.2.2.2.2.2.2.2.2.2.1 bt502.2.2.2.2.2.2.2.2.2.2.2.1 bt502.2.2.2.2.2.2.2.2.2.2.2.2.1 bt502.2.2.2.2.2.2.2.2.2.2.2.2.2.1 bt502.2.2.2.2.2.2.2.2.2.2.2.2.2.2.1 bt502.2.2.2.2.2.2.2.2.2.2.2.2.2.2.2.1 bt502.2.2.2.2.2.2.2.2.2.2.2.2.2.2.2.2.1 bt502.2.2.2.2.2.2.2.2.2.2.2.2.2.2.2.2.2.1 bt502.2.2.2.2.2.2.2.2.2.2.2.2.2.2.2.2.2.2.1 bt502.2.2.2.2.2.2.2.2.2.2.2.2.2.2.2.2.2.2.2.1 bt502.2.2.2.2.2.2.2.2.2.2.2.2.2.2.2.2.2.2.2.2.1 bt502.2.2.2.2.2.2.2.2.2.2.2.2.2.2.2.2.2.2.2.2.2.1 bt502.2.2.2.2.2.2.2.2.2.2.2.2.2.2.2.2.2.2.2.2.2.2.1 bt502.2.2.2.2.2.2.2.2.2.2.2.2.2.2.2.2.2.2.2.2.2.2.2.1 bt502.2.2.2.2.2.2.2.2.2.2.2.2.2.2.2.2.2.2.2.2.2.2.2.2).bind fun t558 => (if (t557 == t558) = true then ((auth_Advice.f bt502.1 bt502.2.1 bt502.2.2.1 bt502.2.2.2.1 bt502.2.2.2.2.1 bt502.2.2.2.2.2.1 bt502.2.2.2.2.2.2.1 bt502.2.2.2.2.2.2.2.1 bt502.2.2.2.2.2.2.2.2.1 bt502.2.2.2.2.2.2.2.2.2.1 bt502.2.2.2.2.2.2.2.2.2.2.1 bt502.2.2.2.2.2.2.2.2.2.2.2.1).bind fun t559 => ((bursarref22_Advice.f bt502.1 bt502.2.1 bt502.2.2.1 bt502.2.2.2.1 bt502.2.2.2.2.1 bt502.2.2.2.2.2.1 bt502.2.2.2.2.2.2.1 bt502.2.2.2.2.2.2.2.1 bt502.2.2.2.2.2.2.2.2.1 bt502.2.2.2.2.2.2.2.2.2.1 bt502.2.2.2.2.2.2.2.2.2.2.1 bt502.2.2.2.2.2.2.2.2.2.2.2.1).bind fun t560 => (if (t559 == t560) = true then ((auth_Over.f bt502.2.2.2.2.2.2.2.2.2.2.2.2.2.2.1 bt502.2.2.2.2.2.2.2.2.2.2.2.2.2.2.2.1 bt502.2.2.2.2.2.2.2.2.2.2.2.2.2.2.2.2.1 bt502.2.2.2.2.2.2.2.2.2.2.2.2.2.2.2.2.2.1 bt502.2.2.2.2.2.2.2.2.2.2.2.2.2.2.2.2.2.2.1 bt502.2.2.2.2.2.2.2.2.2.2.2.2.2.2.2.2.2.2.2.1 bt502.2.2.2.2.2.2.2.2.2.2.2.2.2.2.2.2.2.2.2.2.1).bind fun t561 => (if t561 = true then (if bt502.2.2.2.2.2.2.2.2.2.2.2.2.2.2.2.2.2.1 > 9999999999999 then ((bursarlaw22_awake.f k).bind fun t562 => (some t562)) else (none)) else (if bt502.2.2.2.2.2.2.2.2.2.2.2.2.2.2.2.2.2.1 > 9999999999999 then (none) else ((bursarlaw22_awake.f k).bind fun t563 => (some t563))))) else (none)))) else (none)))) else (none))))
theorem bursarlaw22_AuthDecides.mono : ∀ a0 a1 a2 a3 a4 a5 a6 a7 a8 a9 a10 a11 a12 a13 a14 a15 a16 a17 a18 a19 a20 a21 a22 a23 a24 k, LeO (bursarlaw22_AuthDecides.f k a0 a1 a2 a3 a4 a5 a6 a7 a8 a9 a10 a11 a12 a13 a14 a15 a16 a17 a18 a19 a20 a21 a22 a23 a24) (bursarlaw22_AuthDecides.f (k + 1) a0 a1 a2 a3 a4 a5 a6 a7 a8 a9 a10 a11 a12 a13 a14 a15 a16 a17 a18 a19 a20 a21 a22 a23 a24) := by
  intro a0 a1 a2 a3 a4 a5 a6 a7 a8 a9 a10 a11 a12 a13 a14 a15 a16 a17 a18 a19 a20 a21 a22 a23 a24 k
  unfold bursarlaw22_AuthDecides.f
  repeat' first
      | (with_reducible exact auth_Auth.mono _ _ _ _ _ _ _ _ _ _ _ _ _ _ _ _ _ _ _ _ _ _ _ _ _ _)
      | (with_reducible exact auth_May.mono _ _ _ _ _ _ _ _ _ _ _ _ _ _ _ _ _ _ _ _ _ _ _ _ _ _)
      | (with_reducible exact bursarlaw22_awake.mono _)
      | (with_reducible exact bursarref22_Auth.mono _ _ _ _ _ _ _ _ _ _ _ _ _ _ _ _ _ _ _ _ _ _ _ _ _ _)
      | (with_reducible exact bursarref22_May.mono _ _ _ _ _ _ _ _ _ _ _ _ _ _ _ _ _ _ _ _ _ _ _ _ _ _)
      | (with_reducible exact LeO.refl _)
      | (with_reducible exact LeO.none _)
      | (with_reducible refine LeO.ite ?_ ?_)
      | (with_reducible refine LeO.bind ?_ (fun _ => ?_))
      | exact auth_Auth.mono _ _ _ _ _ _ _ _ _ _ _ _ _ _ _ _ _ _ _ _ _ _ _ _ _ _
      | exact auth_May.mono _ _ _ _ _ _ _ _ _ _ _ _ _ _ _ _ _ _ _ _ _ _ _ _ _ _
      | exact bursarlaw22_awake.mono _
      | exact bursarref22_Auth.mono _ _ _ _ _ _ _ _ _ _ _ _ _ _ _ _ _ _ _ _ _ _ _ _ _ _
      | exact bursarref22_May.mono _ _ _ _ _ _ _ _ _ _ _ _ _ _ _ _ _ _ _ _ _ _ _ _ _ _
      | exact LeO.none _
      | refine LeO.ite ?_ ?_
      | refine LeO.bind ?_ (fun _ => ?_)
def bursarlaw22_AuthDecides.T2 : Bool × List (List Nat × List Nat) := (true, [([], []), ([0], [0]), ([], []), ([2, 1], [2]), ([1, 3], [1, 3]), ([4, 3], [4]), ([5], [5]), ([6, 5, 5], [5, 6]), ([5], [5]), ([8, 7, 5], [5, 8]), ([7, 9, 5], [5, 7, 9]), ([5, 10], [5, 10]), ([11, 9], [11]), ([12], [12]), ([13, 12], [12, 13]), ([14, 12, 12], [12, 14]), ([12], [12]), ([16, 12], [12, 16]), ([17, 15, 12], [12, 17]), ([15, 18, 12], [12, 15, 18]), ([12, 19], [12, 19]), ([20, 18], [20]), ([21], [21]), ([22, 21], [21, 22]), ([23, 21, 21], [21, 23]), ([21], [21]), ([25, 21], [21, 25]), ([26, 21], [21, 26]), ([27, 21], [21, 27]), ([24, 28, 21], [21, 24, 28]), ([21, 29], [21, 29]), ([30, 24], [30]), ([31, 31], [31]), ([31, 32], [31, 32]), ([33, 32, 0, 1, 2, 3, 4, 5, 6, 7, 8, 9, 10, 11, 12, 13, 14, 15, 16, 17, 18, 19, 20, 21, 22, 23, 24, 25, 26, 27, 28, 29, 30, 31, 32, 33], [33])])
def bursarlaw22_AuthDecides.B2 : List Nat := [0, 1, 0, 7, 15, 31, 63, 127, 63, 511, 1023, 2047, 4095, 8191, 16383, 32767, 8191, 73727, 262143, 524287, 1048575, 2097151, 4194303, 8388607, 16777215, 4194303, 37748735, 104857599, 239075327, 536870911, 1073741823, 2147483647, 4294967295, 8589934591, 17179869183]
theorem bursarlaw22_AuthDecides.tab2 : rtab .any (opsOf Try.f11 2) = bursarlaw22_AuthDecides.T2 := by kernel_rfl
theorem bursarlaw22_AuthDecides.bits2 : waitsOk bursarlaw22_AuthDecides.T2.2 bursarlaw22_AuthDecides.B2 = true := by kernel_rfl
set_option maxHeartbeats 8000000 in
set_option maxRecDepth 100000 in
theorem bursarlaw22_AuthDecides.calls (k : Nat) (a0_0 : ByteArray) (a0_1 : ByteArray) (a0_2 : ByteArray) (a0_3 : Int) (a0_4 : ByteArray) (a0_5 : ByteArray) (a0_6 : ByteArray) (a0_7 : ByteArray) (a0_8 : ByteArray) (a0_9 : Int) (a0_10 : Int) (a0_11 : ByteArray) (a0_12 : Bool) (a0_13 : Int) (a0_14 : ByteArray) (a0_15 : ByteArray) (a0_16 : ByteArray) (a0_17 : Int) (a0_18 : Int) (a0_19 : Int) (a0_20 : Bool) (a0_21 : Bool) (a0_22 : Int) (a0_23 : Int) (a0_24 : Bool) (r : Bool) (w : World) (h : bursarlaw22_AuthDecides.f k a0_0 a0_1 a0_2 a0_3 a0_4 a0_5 a0_6 a0_7 a0_8 a0_9 a0_10 a0_11 a0_12 a0_13 a0_14 a0_15 a0_16 a0_17 a0_18 a0_19 a0_20 a0_21 a0_22 a0_23 a0_24 = some r) :
    Calls Try.prog 11 #[.agg #[.string a0_0, .string a0_1, .string a0_2, .int .i64 a0_3, .string a0_4, .string a0_5, .string a0_6, .string a0_7, .string a0_8, .int .i64 a0_9, .int .i64 a0_10, .string a0_11, .bool a0_12, .int .i64 a0_13, .string a0_14, .string a0_15, .string a0_16, .int .i64 a0_17, .int .i64 a0_18, .int .i64 a0_19, .bool a0_20, .bool a0_21, .int .i64 a0_22, .int .i64 a0_23, .bool a0_24]] w fun e w' => e = .returned (.bool r) ∧ Below w.heap.size w w' := by
  have hu27 := Try.underlying27
  have hu23 := Try.underlying23
  have hu25 := Try.underlying25
  have HO := Aside0.mk (Ow.Own.nil w)
  have hmf : ∀ (fn : Fn) (first cap : Array Value) (w : World), (Instr.makeFunc fn first cap).run Try.prog w = .ok (.func fn first cap) w := fun _ _ _ _ => rfl
  have H : ((bursarlaw22_Few.f a0_0 a0_1 a0_2 a0_3 a0_4 a0_5 a0_6 a0_7 a0_8 a0_9 a0_10 a0_11 a0_12 a0_13 a0_14 a0_15 a0_16 a0_17 a0_18 a0_19 a0_20 a0_21 a0_22 a0_23 a0_24).bind fun bt502 => ((auth_Auth.f k bt502.1 bt502.2.1 bt502.2.2.1 bt502.2.2.2.1 bt502.2.2.2.2.1 bt502.2.2.2.2.2.1 bt502.2.2.2.2.2.2.1 bt502.2.2.2.2.2.2.2.1 bt502.2.2.2.2.2.2.2.2.1 bt502.2.2.2.2.2.2.2.2.2.1 bt502.2.2.2.2.2.2.2.2.2.2.1 bt502.2.2.2.2.2.2.2.2.2.2.2.1 bt502.2.2.2.2.2.2.2.2.2.2.2.2.1 bt502.2.2.2.2.2.2.2.2.2.2.2.2.2.1 bt502.2.2.2.2.2.2.2.2.2.2.2.2.2.2.1 bt502.2.2.2.2.2.2.2.2.2.2.2.2.2.2.2.1 bt502.2.2.2.2.2.2.2.2.2.2.2.2.2.2.2.2.1 bt502.2.2.2.2.2.2.2.2.2.2.2.2.2.2.2.2.2.1 bt502.2.2.2.2.2.2.2.2.2.2.2.2.2.2.2.2.2.2.1 bt502.2.2.2.2.2.2.2.2.2.2.2.2.2.2.2.2.2.2.2.1 bt502.2.2.2.2.2.2.2.2.2.2.2.2.2.2.2.2.2.2.2.2.1 bt502.2.2.2.2.2.2.2.2.2.2.2.2.2.2.2.2.2.2.2.2.2.1 bt502.2.2.2.2.2.2.2.2.2.2.2.2.2.2.2.2.2.2.2.2.2.2.1 bt502.2.2.2.2.2.2.2.2.2.2.2.2.2.2.2.2.2.2.2.2.2.2.2.1 bt502.2.2.2.2.2.2.2.2.2.2.2.2.2.2.2.2.2.2.2.2.2.2.2.2).bind fun bt527 => ((bursarref22_Auth.f k bt502.1 bt502.2.1 bt502.2.2.1 bt502.2.2.2.1 bt502.2.2.2.2.1 bt502.2.2.2.2.2.1 bt502.2.2.2.2.2.2.1 bt502.2.2.2.2.2.2.2.1 bt502.2.2.2.2.2.2.2.2.1 bt502.2.2.2.2.2.2.2.2.2.1 bt502.2.2.2.2.2.2.2.2.2.2.1 bt502.2.2.2.2.2.2.2.2.2.2.2.1 bt502.2.2.2.2.2.2.2.2.2.2.2.2.1 bt502.2.2.2.2.2.2.2.2.2.2.2.2.2.1 bt502.2.2.2.2.2.2.2.2.2.2.2.2.2.2.1 bt502.2.2.2.2.2.2.2.2.2.2.2.2.2.2.2.1 bt502.2.2.2.2.2.2.2.2.2.2.2.2.2.2.2.2.1 bt502.2.2.2.2.2.2.2.2.2.2.2.2.2.2.2.2.2.1 bt502.2.2.2.2.2.2.2.2.2.2.2.2.2.2.2.2.2.2.1 bt502.2.2.2.2.2.2.2.2.2.2.2.2.2.2.2.2.2.2.2.1 bt502.2.2.2.2.2.2.2.2.2.2.2.2.2.2.2.2.2.2.2.2.1 bt502.2.2.2.2.2.2.2.2.2.2.2.2.2.2.2.2.2.2.2.2.2.1 bt502.2.2.2.2.2.2.2.2.2.2.2.2.2.2.2.2.2.2.2.2.2.2.1 bt502.2.2.2.2.2.2.2.2.2.2.2.2.2.2.2.2.2.2.2.2.2.2.2.1 bt502.2.2.2.2.2.2.2.2.2.2.2.2.2.2.2.2.2.2.2.2.2.2.2.2).bind fun bt542 => (if (bt527.1.toList == bt542.1.toList && ((bt527.2.1.toList == bt542.2.1.toList && (bt527.2.2.1.toList == bt542.2.2.1.toList && (bt527.2.2.2.1.toList == bt542.2.2.2.1.toList && (bt527.2.2.2.2.1 == bt542.2.2.2.2.1 && (bt527.2.2.2.2.2.1 == bt542.2.2.2.2.2.1 && (bt527.2.2.2.2.2.2.1 == bt542.2.2.2.2.2.2.1 && (bt527.2.2.2.2.2.2.2.1 == bt542.2.2.2.2.2.2.2.1))))))) && (bt527.2.2.2.2.2.2.2.2.1 == bt542.2.2.2.2.2.2.2.2.1 && ((bt527.2.2.2.2.2.2.2.2.2.1 == bt542.2.2.2.2.2.2.2.2.2.1 && (bt527.2.2.2.2.2.2.2.2.2.2.1 == bt542.2.2.2.2.2.2.2.2.2.2.1 && (bt527.2.2.2.2.2.2.2.2.2.2.2.1.toList == bt542.2.2.2.2.2.2.2.2.2.2.2.1.toList && (bt527.2.2.2.2.2.2.2.2.2.2.2.2.1.toList == bt542.2.2.2.2.2.2.2.2.2.2.2.2.1.toList && (bt527.2.2.2.2.2.2.2.2.2.2.2.2.2.1.toList == bt542.2.2.2.2.2.2.2.2.2.2.2.2.2.1.toList && (bt527.2.2.2.2.2.2.2.2.2.2.2.2.2.2 == bt542.2.2.2.2.2.2.2.2.2.2.2.2.2.2)))))))))) = true then ((auth_May.f k bt502.1 bt502.2.1 bt502.2.2.1 bt502.2.2.2.1 bt502.2.2.2.2.1 bt502.2.2.2.2.2.1 bt502.2.2.2.2.2.2.1 bt502.2.2.2.2.2.2.2.1 bt502.2.2.2.2.2.2.2.2.1 bt502.2.2.2.2.2.2.2.2.2.1 bt502.2.2.2.2.2.2.2.2.2.2.1 bt502.2.2.2.2.2.2.2.2.2.2.2.1 bt502.2.2.2.2.2.2.2.2.2.2.2.2.1 bt502.2.2.2.2.2.2.2.2.2.2.2.2.2.1 bt502.2.2.2.2.2.2.2.2.2.2.2.2.2.2.1 bt502.2.2.2.2.2.2.2.2.2.2.2.2.2.2.2.1 bt502.2.2.2.2.2.2.2.2.2.2.2.2.2.2.2.2.1 bt502.2.2.2.2.2.2.2.2.2.2.2.2.2.2.2.2.2.1 bt502.2.2.2.2.2.2.2.2.2.2.2.2.2.2.2.2.2.2.1 bt502.2.2.2.2.2.2.2.2.2.2.2.2.2.2.2.2.2.2.2.1 bt502.2.2.2.2.2.2.2.2.2.2.2.2.2.2.2.2.2.2.2.2.1 bt502.2.2.2.2.2.2.2.2.2.2.2.2.2.2.2.2.2.2.2.2.2.1 bt502.2.2.2.2.2.2.2.2.2.2.2.2.2.2.2.2.2.2.2.2.2.2.1 bt502.2.2.2.2.2.2.2.2.2.2.2.2.2.2.2.2.2.2.2.2.2.2.2.1 bt502.2.2.2.2.2.2.2.2.2.2.2.2.2.2.2.2.2.2.2.2.2.2.2.2).bind fun t557 => ((bursarref22_May.f k bt502.1 bt502.2.1 bt502.2.2.1 bt502.2.2.2.1 bt502.2.2.2.2.1 bt502.2.2.2.2.2.1 bt502.2.2.2.2.2.2.1 bt502.2.2.2.2.2.2.2.1 bt502.2.2.2.2.2.2.2.2.1 bt502.2.2.2.2.2.2.2.2.2.1 bt502.2.2.2.2.2.2.2.2.2.2.1 bt502.2.2.2.2.2.2.2.2.2.2.2.1 bt502.2.2.2.2.2.2.2.2.2.2.2.2.1 bt502.2.2.2.2.2.2.2.2.2.2.2.2.2.1 bt502.2.2.2.2.2.2.2.2.2.2.2.2.2.2.1 bt502.2.2.2.2.2.2.2.2.2.2.2.2.2.2.2.1 bt502.2.2.2.2.2.2.2.2.2.2.2.2.2.2.2.2.1 bt502.2.2.2.2.2.2.2.2.2.2.2.2.2.2.2.2.2.1 bt502.2.2.2.2.2.2.2.2.2.2.2.2.2.2.2.2.2.2.1 bt502.2.2.2.2.2.2.2.2.2.2.2.2.2.2.2.2.2.2.2.1 bt502.2.2.2.2.2.2.2.2.2.2.2.2.2.2.2.2.2.2.2.2.1 bt502.2.2.2.2.2.2.2.2.2.2.2.2.2.2.2.2.2.2.2.2.2.1 bt502.2.2.2.2.2.2.2.2.2.2.2.2.2.2.2.2.2.2.2.2.2.2.1 bt502.2.2.2.2.2.2.2.2.2.2.2.2.2.2.2.2.2.2.2.2.2.2.2.1 bt502.2.2.2.2.2.2.2.2.2.2.2.2.2.2.2.2.2.2.2.2.2.2.2.2).bind fun t558 => (if (t557 == t558) = true then ((auth_Advice.f bt502.1 bt502.2.1 bt502.2.2.1 bt502.2.2.2.1 bt502.2.2.2.2.1 bt502.2.2.2.2.2.1 bt502.2.2.2.2.2.2.1 bt502.2.2.2.2.2.2.2.1 bt502.2.2.2.2.2.2.2.2.1 bt502.2.2.2.2.2.2.2.2.2.1 bt502.2.2.2.2.2.2.2.2.2.2.1 bt502.2.2.2.2.2.2.2.2.2.2.2.1).bind fun t559 => ((bursarref22_Advice.f bt502.1 bt502.2.1 bt502.2.2.1 bt502.2.2.2.1 bt502.2.2.2.2.1 bt502.2.2.2.2.2.1 bt502.2.2.2.2.2.2.1 bt502.2.2.2.2.2.2.2.1 bt502.2.2.2.2.2.2.2.2.1 bt502.2.2.2.2.2.2.2.2.2.1 bt502.2.2.2.2.2.2.2.2.2.2.1 bt502.2.2.2.2.2.2.2.2.2.2.2.1).bind fun t560 => (if (t559 == t560) = true then ((auth_Over.f bt502.2.2.2.2.2.2.2.2.2.2.2.2.2.2.1 bt502.2.2.2.2.2.2.2.2.2.2.2.2.2.2.2.1 bt502.2.2.2.2.2.2.2.2.2.2.2.2.2.2.2.2.1 bt502.2.2.2.2.2.2.2.2.2.2.2.2.2.2.2.2.2.1 bt502.2.2.2.2.2.2.2.2.2.2.2.2.2.2.2.2.2.2.1 bt502.2.2.2.2.2.2.2.2.2.2.2.2.2.2.2.2.2.2.2.1 bt502.2.2.2.2.2.2.2.2.2.2.2.2.2.2.2.2.2.2.2.2.1).bind fun t561 => (if t561 = true then (if bt502.2.2.2.2.2.2.2.2.2.2.2.2.2.2.2.2.2.1 > 9999999999999 then ((bursarlaw22_awake.f k).bind fun t562 => (some t562)) else (none)) else (if bt502.2.2.2.2.2.2.2.2.2.2.2.2.2.2.2.2.2.1 > 9999999999999 then (none) else ((bursarlaw22_awake.f k).bind fun t563 => (some t563))))) else (none)))) else (none)))) else (none))))) = some r := h
  clear h
  replace H := Option.bind_eq_some_iff.mp H
  obtain ⟨⟨t502, t503, t504, t505, t506, t507, t508, t509, t510, t511, t512, t513, t514, t515, t516, t517, t518, t519, t520, t521, t522, t523, t524, t525, t526⟩, A20, H⟩ := H
  replace H : ((auth_Auth.f k t502 t503 t504 t505 t506 t507 t508 t509 t510 t511 t512 t513 t514 t515 t516 t517 t518 t519 t520 t521 t522 t523 t524 t525 t526).bind fun bt527 => ((bursarref22_Auth.f k t502 t503 t504 t505 t506 t507 t508 t509 t510 t511 t512 t513 t514 t515 t516 t517 t518 t519 t520 t521 t522 t523 t524 t525 t526).bind fun bt542 => (if (bt527.1.toList == bt542.1.toList && ((bt527.2.1.toList == bt542.2.1.toList && (bt527.2.2.1.toList == bt542.2.2.1.toList && (bt527.2.2.2.1.toList == bt542.2.2.2.1.toList && (bt527.2.2.2.2.1 == bt542.2.2.2.2.1 && (bt527.2.2.2.2.2.1 == bt542.2.2.2.2.2.1 && (bt527.2.2.2.2.2.2.1 == bt542.2.2.2.2.2.2.1 && (bt527.2.2.2.2.2.2.2.1 == bt542.2.2.2.2.2.2.2.1))))))) && (bt527.2.2.2.2.2.2.2.2.1 == bt542.2.2.2.2.2.2.2.2.1 && ((bt527.2.2.2.2.2.2.2.2.2.1 == bt542.2.2.2.2.2.2.2.2.2.1 && (bt527.2.2.2.2.2.2.2.2.2.2.1 == bt542.2.2.2.2.2.2.2.2.2.2.1 && (bt527.2.2.2.2.2.2.2.2.2.2.2.1.toList == bt542.2.2.2.2.2.2.2.2.2.2.2.1.toList && (bt527.2.2.2.2.2.2.2.2.2.2.2.2.1.toList == bt542.2.2.2.2.2.2.2.2.2.2.2.2.1.toList && (bt527.2.2.2.2.2.2.2.2.2.2.2.2.2.1.toList == bt542.2.2.2.2.2.2.2.2.2.2.2.2.2.1.toList && (bt527.2.2.2.2.2.2.2.2.2.2.2.2.2.2 == bt542.2.2.2.2.2.2.2.2.2.2.2.2.2.2)))))))))) = true then ((auth_May.f k t502 t503 t504 t505 t506 t507 t508 t509 t510 t511 t512 t513 t514 t515 t516 t517 t518 t519 t520 t521 t522 t523 t524 t525 t526).bind fun t557 => ((bursarref22_May.f k t502 t503 t504 t505 t506 t507 t508 t509 t510 t511 t512 t513 t514 t515 t516 t517 t518 t519 t520 t521 t522 t523 t524 t525 t526).bind fun t558 => (if (t557 == t558) = true then ((auth_Advice.f t502 t503 t504 t505 t506 t507 t508 t509 t510 t511 t512 t513).bind fun t559 => ((bursarref22_Advice.f t502 t503 t504 t505 t506 t507 t508 t509 t510 t511 t512 t513).bind fun t560 => (if (t559 == t560) = true then ((auth_Over.f t516 t517 t518 t519 t520 t521 t522).bind fun t561 => (if t561 = true then (if t519 > 9999999999999 then ((bursarlaw22_awake.f k).bind fun t562 => (some t562)) else (none)) else (if t519 > 9999999999999 then (none) else ((bursarlaw22_awake.f k).bind fun t563 => (some t563))))) else (none)))) else (none)))) else (none)))) = some r := H
  have A2 := Aside0.mk A20
  clear A20
  replace H := Option.bind_eq_some_iff.mp H
  obtain ⟨⟨t527, t528, t529, t530, t531, t532, t533, t534, t535, t536, t537, t538, t539, t540, t541⟩, A30, H⟩ := H
  replace H : ((bursarref22_Auth.f k t502 t503 t504 t505 t506 t507 t508 t509 t510 t511 t512 t513 t514 t515 t516 t517 t518 t519 t520 t521 t522 t523 t524 t525 t526).bind fun bt542 => (if (t527.toList == bt542.1.toList && ((t528.toList == bt542.2.1.toList && (t529.toList == bt542.2.2.1.toList && (t530.toList == bt542.2.2.2.1.toList && (t531 == bt542.2.2.2.2.1 && (t532 == bt542.2.2.2.2.2.1 && (t533 == bt542.2.2.2.2.2.2.1 && (t534 == bt542.2.2.2.2.2.2.2.1))))))) && (t535 == bt542.2.2.2.2.2.2.2.2.1 && ((t536 == bt542.2.2.2.2.2.2.2.2.2.1 && (t537 == bt542.2.2.2.2.2.2.2.2.2.2.1 && (t538.toList == bt542.2.2.2.2.2.2.2.2.2.2.2.1.toList && (t539.toList == bt542.2.2.2.2.2.2.2.2.2.2.2.2.1.toList && (t540.toList == bt542.2.2.2.2.2.2.2.2.2.2.2.2.2.1.toList && (t541 == bt542.2.2.2.2.2.2.2.2.2.2.2.2.2.2)))))))))) = true then ((auth_May.f k t502 t503 t504 t505 t506 t507 t508 t509 t510 t511 t512 t513 t514 t515 t516 t517 t518 t519 t520 t521 t522 t523 t524 t525 t526).bind fun t557 => ((bursarref22_May.f k t502 t503 t504 t505 t506 t507 t508 t509 t510 t511 t512 t513 t514 t515 t516 t517 t518 t519 t520 t521 t522 t523 t524 t525 t526).bind fun t558 => (if (t557 == t558) = true then ((auth_Advice.f t502 t503 t504 t505 t506 t507 t508 t509 t510 t511 t512 t513).bind fun t559 => ((bursarref22_Advice.f t502 t503 t504 t505 t506 t507 t508 t509 t510 t511 t512 t513).bind fun t560 => (if (t559 == t560) = true then ((auth_Over.f t516 t517 t518 t519 t520 t521 t522).bind fun t561 => (if t561 = true then (if t519 > 9999999999999 then ((bursarlaw22_awake.f k).bind fun t562 => (some t562)) else (none)) else (if t519 > 9999999999999 then (none) else ((bursarlaw22_awake.f k).bind fun t563 => (some t563))))) else (none)))) else (none)))) else (none))) = some r := H
  have A3 := Aside0.mk A30
  clear A30
  replace H := Option.bind_eq_some_iff.mp H
  obtain ⟨⟨t542, t543, t544, t545, t546, t547, t548, t549, t550, t551, t552, t553, t554, t555, t556⟩, A40, H⟩ := H
  replace H : (if (t527.toList == t542.toList && ((t528.toList == t543.toList && (t529.toList == t544.toList && (t530.toList == t545.toList && (t531 == t546 && (t532 == t547 && (t533 == t548 && (t534 == t549))))))) && (t535 == t550 && ((t536 == t551 && (t537 == t552 && (t538.toList == t553.toList && (t539.toList == t554.toList && (t540.toList == t555.toList && (t541 == t556)))))))))) = true then ((auth_May.f k t502 t503 t504 t505 t506 t507 t508 t509 t510 t511 t512 t513 t514 t515 t516 t517 t518 t519 t520 t521 t522 t523 t524 t525 t526).bind fun t557 => ((bursarref22_May.f k t502 t503 t504 t505 t506 t507 t508 t509 t510 t511 t512 t513 t514 t515 t516 t517 t518 t519 t520 t521 t522 t523 t524 t525 t526).bind fun t558 => (if (t557 == t558) = true then ((auth_Advice.f t502 t503 t504 t505 t506 t507 t508 t509 t510 t511 t512 t513).bind fun t559 => ((bursarref22_Advice.f t502 t503 t504 t505 t506 t507 t508 t509 t510 t511 t512 t513).bind fun t560 => (if (t559 == t560) = true then ((auth_Over.f t516 t517 t518 t519 t520 t521 t522).bind fun t561 => (if t561 = true then (if t519 > 9999999999999 then ((bursarlaw22_awake.f k).bind fun t562 => (some t562)) else (none)) else (if t519 > 9999999999999 then (none) else ((bursarlaw22_awake.f k).bind fun t563 => (some t563))))) else (none)))) else (none)))) else (none)) = some r := H
  have A4 := Aside0.mk A40
  clear A40
  by_cases c5 : (t527.toList == t542.toList && ((t528.toList == t543.toList && (t529.toList == t544.toList && (t530.toList == t545.toList && (t531 == t546 && (t532 == t547 && (t533 == t548 && (t534 == t549))))))) && (t535 == t550 && ((t536 == t551 && (t537 == t552 && (t538.toList == t553.toList && (t539.toList == t554.toList && (t540.toList == t555.toList && (t541 == t556)))))))))) = true
  · rw [if_pos c5] at H
    have c5b0 : (t527.toList == t542.toList && ((t528.toList == t543.toList && (t529.toList == t544.toList && (t530.toList == t545.toList && (t531 == t546 && (t532 == t547 && (t533 == t548 && (t534 == t549))))))) && (t535 == t550 && ((t536 == t551 && (t537 == t552 && (t538.toList == t553.toList && (t539.toList == t554.toList && (t540.toList == t555.toList && (t541 == t556)))))))))) = true := c5
    (try (have c5b1 : decide (t527.toList = t542.toList && ((t528.toList == t543.toList && (t529.toList == t544.toList && (t530.toList == t545.toList && (t531 == t546 && (t532 == t547 && (t533 == t548 && (t534 == t549))))))) && (t535 == t550 && ((t536 == t551 && (t537 == t552 && (t538.toList == t553.toList && (t539.toList == t554.toList && (t540.toList == t555.toList && (t541 == t556)))))))))) = true := by simpa using c5))
    (try (have c5b2 : (t527.toList == t542.toList && ((t528.toList == t543.toList && (t529.toList == t544.toList && (t530.toList == t545.toList && (t531 == t546 && (t532 == t547 && (t533 == t548 && (t534 == t549))))))) && (t535 == t550 && ((t536 == t551 && (t537 == t552 && (t538.toList == t553.toList && (t539.toList == t554.toList && (t540.toList == t555.toList && (t541 == t556)))))))))) = true := by simpa using c5))
    (try (have c5b3 : ((t527.toList = t542.toList ∧ ((t528.toList = t543.toList ∧ (t529.toList = t544.toList ∧ (t530.toList = t545.toList ∧ (t531 = t546 ∧ (t532 = t547 ∧ (t533 = t548 ∧ (t534 = t549))))))) ∧ (t535 = t550 ∧ ((t536 = t551 ∧ (t537 = t552 ∧ (t538.toList = t553.toList ∧ (t539.toList = t554.toList ∧ (t540.toList = t555.toList ∧ (t541 = t556)))))))))) = True) := eq_true (by first | (simpa using c5; done) | (intro h_; have g_ := c5; simp [h_] at g_; done) | (have g_ := c5; simp at g_; exact g_))))
    (try (have c5b4 : ((t527.toList == t542.toList)) = true := (by first | (have g_ := c5; simp at g_; simp [g_]; done) | (have g_ := c5; simp [Pu.beq_nil] at g_ ⊢; simp [g_]; done) | (have g_ := c5; simp [Pu.beq_nil] at g_ ⊢; exact g_))))
    (try (have c5b5 : ((t528.toList == t543.toList)) = true := (by first | (have g_ := c5; simp at g_; simp [g_]; done) | (have g_ := c5; simp [Pu.beq_nil] at g_ ⊢; simp [g_]; done) | (have g_ := c5; simp [Pu.beq_nil] at g_ ⊢; exact g_))))
    (try (have c5b6 : ((t529.toList == t544.toList)) = true := (by first | (have g_ := c5; simp at g_; simp [g_]; done) | (have g_ := c5; simp [Pu.beq_nil] at g_ ⊢; simp [g_]; done) | (have g_ := c5; simp [Pu.beq_nil] at g_ ⊢; exact g_))))
    (try (have c5b7 : ((t530.toList == t545.toList)) = true := (by first | (have g_ := c5; simp at g_; simp [g_]; done) | (have g_ := c5; simp [Pu.beq_nil] at g_ ⊢; simp [g_]; done) | (have g_ := c5; simp [Pu.beq_nil] at g_ ⊢; exact g_))))
    (try (have c5b8 : ((t531 == t546)) = true := (by first | (have g_ := c5; simp at g_; simp [g_]; done) | (have g_ := c5; simp [Pu.beq_nil] at g_ ⊢; simp [g_]; done) | (have g_ := c5; simp [Pu.beq_nil] at g_ ⊢; exact g_))))
    (try (have c5b9 : ((t532 == t547)) = true := (by first | (have g_ := c5; simp at g_; simp [g_]; done) | (have g_ := c5; simp [Pu.beq_nil] at g_ ⊢; simp [g_]; done) | (have g_ := c5; simp [Pu.beq_nil] at g_ ⊢; exact g_))))
    (try (have c5b10 : ((t533 == t548)) = true := (by first | (have g_ := c5; simp at g_; simp [g_]; done) | (have g_ := c5; simp [Pu.beq_nil] at g_ ⊢; simp [g_]; done) | (have g_ := c5; simp [Pu.beq_nil] at g_ ⊢; exact g_))))
    (try (have c5b11 : ((t534 == t549)) = true := (by first | (have g_ := c5; simp at g_; simp [g_]; done) | (have g_ := c5; simp [Pu.beq_nil] at g_ ⊢; simp [g_]; done) | (have g_ := c5; simp [Pu.beq_nil] at g_ ⊢; exact g_))))
    (try (have c5b12 : ((t535 == t550)) = true := (by first | (have g_ := c5; simp at g_; simp [g_]; done) | (have g_ := c5; simp [Pu.beq_nil] at g_ ⊢; simp [g_]; done) | (have g_ := c5; simp [Pu.beq_nil] at g_ ⊢; exact g_))))
    (try (have c5b13 : ((t536 == t551)) = true := (by first | (have g_ := c5; simp at g_; simp [g_]; done) | (have g_ := c5; simp [Pu.beq_nil] at g_ ⊢; simp [g_]; done) | (have g_ := c5; simp [Pu.beq_nil] at g_ ⊢; exact g_))))
    (try (have c5b14 : ((t537 == t552)) = true := (by first | (have g_ := c5; simp at g_; simp [g_]; done) | (have g_ := c5; simp [Pu.beq_nil] at g_ ⊢; simp [g_]; done) | (have g_ := c5; simp [Pu.beq_nil] at g_ ⊢; exact g_))))
    (try (have c5b15 : ((t538.toList == t553.toList)) = true := (by first | (have g_ := c5; simp at g_; simp [g_]; done) | (have g_ := c5; simp [Pu.beq_nil] at g_ ⊢; simp [g_]; done) | (have g_ := c5; simp [Pu.beq_nil] at g_ ⊢; exact g_))))
    (try (have c5b16 : ((t539.toList == t554.toList)) = true := (by first | (have g_ := c5; simp at g_; simp [g_]; done) | (have g_ := c5; simp [Pu.beq_nil] at g_ ⊢; simp [g_]; done) | (have g_ := c5; simp [Pu.beq_nil] at g_ ⊢; exact g_))))
    (try (have c5b17 : ((t540.toList == t555.toList)) = true := (by first | (have g_ := c5; simp at g_; simp [g_]; done) | (have g_ := c5; simp [Pu.beq_nil] at g_ ⊢; simp [g_]; done) | (have g_ := c5; simp [Pu.beq_nil] at g_ ⊢; exact g_))))
    (try (have c5b18 : ((t541 == t556)) = true := (by first | (have g_ := c5; simp at g_; simp [g_]; done) | (have g_ := c5; simp [Pu.beq_nil] at g_ ⊢; simp [g_]; done) | (have g_ := c5; simp [Pu.beq_nil] at g_ ⊢; exact g_))))
    clear c5
    replace H := Option.bind_eq_some_iff.mp H
    obtain ⟨t557, A60, H⟩ := H
    replace H : ((bursarref22_May.f k t502 t503 t504 t505 t506 t507 t508 t509 t510 t511 t512 t513 t514 t515 t516 t517 t518 t519 t520 t521 t522 t523 t524 t525 t526).bind fun t558 => (if (t557 == t558) = true then ((auth_Advice.f t502 t503 t504 t505 t506 t507 t508 t509 t510 t511 t512 t513).bind fun t559 => ((bursarref22_Advice.f t502 t503 t504 t505 t506 t507 t508 t509 t510 t511 t512 t513).bind fun t560 => (if (t559 == t560) = true then ((auth_Over.f t516 t517 t518 t519 t520 t521 t522).bind fun t561 => (if t561 = true then (if t519 > 9999999999999 then ((bursarlaw22_awake.f k).bind fun t562 => (some t562)) else (none)) else (if t519 > 9999999999999 then (none) else ((bursarlaw22_awake.f k).bind fun t563 => (some t563))))) else (none)))) else (none))) = some r := H
    have A6 := Aside0.mk A60
    clear A60
    replace H := Option.bind_eq_some_iff.mp H
    obtain ⟨t558, A70, H⟩ := H
    replace H : (if (t557 == t558) = true then ((auth_Advice.f t502 t503 t504 t505 t506 t507 t508 t509 t510 t511 t512 t513).bind fun t559 => ((bursarref22_Advice.f t502 t503 t504 t505 t506 t507 t508 t509 t510 t511 t512 t513).bind fun t560 => (if (t559 == t560) = true then ((auth_Over.f t516 t517 t518 t519 t520 t521 t522).bind fun t561 => (if t561 = true then (if t519 > 9999999999999 then ((bursarlaw22_awake.f k).bind fun t562 => (some t562)) else (none)) else (if t519 > 9999999999999 then (none) else ((bursarlaw22_awake.f k).bind fun t563 => (some t563))))) else (none)))) else (none)) = some r := H
    have A7 := Aside0.mk A70
    clear A70
    by_cases c8 : (t557 == t558) = true
    · rw [if_pos c8] at H
      have c8b0 : (t557 == t558) = true := c8
      (try (have c8b1 : decide (t557 = t558) = true := by simpa using c8))
      (try (have c8b2 : (t557 == t558) = true := by simpa using c8))
      clear c8
      replace H := Option.bind_eq_some_iff.mp H
      obtain ⟨t559, A90, H⟩ := H
      replace H : ((bursarref22_Advice.f t502 t503 t504 t505 t506 t507 t508 t509 t510 t511 t512 t513).bind fun t560 => (if (t559 == t560) = true then ((auth_Over.f t516 t517 t518 t519 t520 t521 t522).bind fun t561 => (if t561 = true then (if t519 > 9999999999999 then ((bursarlaw22_awake.f k).bind fun t562 => (some t562)) else (none)) else (if t519 > 9999999999999 then (none) else ((bursarlaw22_awake.f k).bind fun t563 => (some t563))))) else (none))) = some r := H
      have A9 := Aside0.mk A90
      clear A90
      replace H := Option.bind_eq_some_iff.mp H
      obtain ⟨t560, A100, H⟩ := H
      replace H : (if (t559 == t560) = true then ((auth_Over.f t516 t517 t518 t519 t520 t521 t522).bind fun t561 => (if t561 = true then (if t519 > 9999999999999 then ((bursarlaw22_awake.f k).bind fun t562 => (some t562)) else (none)) else (if t519 > 9999999999999 then (none) else ((bursarlaw22_awake.f k).bind fun t563 => (some t563))))) else (none)) = some r := H
      have A10 := Aside0.mk A100
      clear A100
      by_cases c11 : (t559 == t560) = true
      · rw [if_pos c11] at H
        have c11b0 : (t559 == t560) = true := c11
        (try (have c11b1 : decide (t559 = t560) = true := by simpa using c11))
        (try (have c11b2 : (t559 == t560) = true := by simpa using c11))
        clear c11
        replace H := Option.bind_eq_some_iff.mp H
        obtain ⟨t561, A120, H⟩ := H
        replace H : (if t561 = true then (if t519 > 9999999999999 then ((bursarlaw22_awake.f k).bind fun t562 => (some t562)) else (none)) else (if t519 > 9999999999999 then (none) else ((bursarlaw22_awake.f k).bind fun t563 => (some t563)))) = some r := H
        have A12 := Aside0.mk A120
        clear A120
        by_cases c13 : t561 = true
        · subst c13
          have H1 : (if t519 > 9999999999999 then ((bursarlaw22_awake.f k).bind fun t562 => (some t562)) else (none)) = some r := by rw [if_pos rfl] at H; exact H
          clear H
          have H := H1
          clear H1
          by_cases c14 : t519 > 9999999999999
          · rw [if_pos c14] at H
            have c14b0 : decide (9999999999999 < t519) = true := decide_eq_true c14
            clear c14
            replace H := Option.bind_eq_some_iff.mp H
            obtain ⟨t562, A150, H⟩ := H
            replace H : (some t562) = some r := H
            have A15 := Aside0.mk A150
            clear A150
            obtain rfl := Option.some.inj H
            obtain ⟨Q0, hQ0_⟩ : ∃ q_ : Array Value, q_ = (#[.string a0_0, .string a0_1, .string a0_2, .int .i64 a0_3, .string a0_4, .string a0_5, .string a0_6, .string a0_7, .string a0_8, .int .i64 a0_9, .int .i64 a0_10, .string a0_11, .bool a0_12, .int .i64 a0_13, .string a0_14, .string a0_15, .string a0_16, .int .i64 a0_17, .int .i64 a0_18, .int .i64 a0_19, .bool a0_20, .bool a0_21, .int .i64 a0_22, .int .i64 a0_23, .bool a0_24] : Array Value) := ⟨_, rfl⟩
            try rw [← hQ0_]
            have hQ0 := Aside0.mk hQ0_; have hq := Aside0.mk hQ0_; clear hQ0_
            go_enter Try.func11, Try.ntmps11
            obtain ⟨Q1, hQ1_⟩ : ∃ q_ : Array Value, q_ = (#[.string t502, .string t503, .string t504, .int .i64 t505, .string t506, .string t507, .string t508, .string t509, .string t510, .int .i64 t511, .int .i64 t512, .string t513, .bool t514, .int .i64 t515, .string t516, .string t517, .string t518, .int .i64 t519, .int .i64 t520, .int .i64 t521, .bool t522, .bool t523, .int .i64 t524, .int .i64 t525, .bool t526] : Array Value) := ⟨_, rfl⟩
            try rw [← hQ1_]
            have hQ1 := Aside0.mk hQ1_; replace hq := Aside0.mk (And.intro hQ1_ hq.1); clear hQ1_
            try go_wp2_with (first | ((with_reducible refine gate_dst (N := 1) rfl ?_); refine Ow.box rfl (N := 1) rfl (cs := Q0) (t := 27) HO.out (by first | (go_simp; done) | (go_simp; rfl)) ?_; clear HO; intro gb501 w16 HO; simp only [List.cons_append, List.nil_append] at HO) | ((with_reducible refine gate_callee (f := 15) rfl ?_); refine goesL_ (some 4) rfl rfl Try.func15 (by kernel_rfl) rfl #[.agg Q0] rfl (by (try simp only [List.map_toArray, List.map_cons, List.map_nil]); first | done | rfl | (simp only [hq.1]; done) | (simp only [hq.1]; rfl)) ?_; refine Calls.mono (calls_of_args (by first | ((try simp only [hq.1]) <;> rfl) | fail) (bursarlaw22_Few.calls a0_0 a0_1 a0_2 a0_3 a0_4 a0_5 a0_6 a0_7 a0_8 a0_9 a0_10 a0_11 a0_12 a0_13 a0_14 a0_15 a0_16 a0_17 a0_18 a0_19 a0_20 a0_21 a0_22 a0_23 a0_24 t502 t503 t504 t505 t506 t507 t508 t509 t510 t511 t512 t513 t514 t515 t516 t517 t518 t519 t520 t521 t522 t523 t524 t525 t526 _ A2.out)) ?_; rintro e w18 ⟨he_, hb⟩; (try rw [← hQ1.out] at he_); subst he_; refine ⟨_, rfl, ?_⟩; replace HO := Aside0.mk (Ow.Own.call HO.out hb); clear hb) | ((with_reducible refine Ow.gate_eqs (t := 53) (by first | exact Or.inl rfl | exact Or.inr rfl) rfl ?_); simp only [hq.1, Ow.part, Ot.sz, Ot.zero, Ow.over, Ow.overL, List.drop_succ_cons, List.drop_zero, List.take_succ_cons, List.take_zero]) | ((with_reducible refine Ow.gate_load rfl ?_); (try (refine gate_guard (by rfl) ?_; dsimp only)); (first | refine Ow.l1 Ot.ty HO.out rfl rfl rfl rfl (by first | ((try simp only [hq.1]) <;> rfl) | fail) ?_ | refine Ow.l0 Ot.ty HO.out rfl rfl rfl rfl (by first | ((try simp only [hq.1]) <;> rfl) | fail) ?_ | refine Ow.lp Ot.ty HO.out rfl rfl rfl rfl (by first | ((try simp only [hq.1]) <;> rfl) | fail) ?_)) | ((with_reducible refine gate_store rfl ?_); (try (refine gate_guard (by rfl) ?_; dsimp only)); (first | refine Ow.s0 Ot.ty HO.out rfl rfl rfl rfl rfl (by first | exact Ow.ev_tmp rfl | rfl) (by first | (refine ⟨?_, ?_, ?_⟩ <;> (first | ((try simp only [hq.1]) <;> rfl) | fail)) | fail) ?_ | refine Ow.sp Ot.ty HO.out rfl rfl rfl rfl rfl (by first | exact Ow.ev_tmp rfl | rfl) (by first | (refine ⟨?_, ?_, ?_⟩ <;> (first | ((try simp only [hq.1]) <;> rfl) | fail)) | fail) ?_); clear HO; intro wz_ HO; simp only [List.set_cons_zero, List.set_cons_succ] at HO))
            refine Ow.ostart (n := 35) (ds := []) (Ow.B 35 0) HO.out (by kernel_rfl) rfl (by kernel_rfl) ?_
            intro hHeld; replace HO := Aside0.mk hHeld; refine with_tabW bursarlaw22_AuthDecides.tab2 bursarlaw22_AuthDecides.bits2 (fun HT_ HW_ => ?_)
            refine take_ (i := 0) (N := some 5) (v := ?_) (a' := ?_) (Ow.B 35 1) rfl rfl (take_ofW HT_.out HW_.out (by kernel_rfl)) (fun _ _ _ h => h) (Or.inl ⟨by rfl, ?_⟩) hHeld ?_ ?_
            rotate_left
            · intro w' s_
              first | refine Ow.r1 Ot.ty s_ rfl rfl rfl (by first | ((try simp only [hq.1]) <;> rfl) | fail) | (refine' Ow.r0 Ot.ty s_ rfl rfl rfl ?h; (case h => first | ((try simp only [hq.1]) <;> rfl) | fail)) | (refine' Ow.rp Ot.ty s_ rfl rfl rfl ?h; (case h => first | ((try simp only [hq.1]) <;> rfl) | fail)) | (go_simp; with_reducible rfl)
            rotate_left
            · simp only [Act.put, List.setIfInBounds_toArray, List.set_cons_zero, List.set_cons_succ, i64_w, i32_w]
              rfl
            refine take_ (i := 2) (N := some 7) (v := ?_) (a' := ?_) (Ow.B 35 5) rfl rfl (take_ofW HT_.out HW_.out (by kernel_rfl)) (fun _ _ _ h => h) (Or.inl ⟨by rfl, ?_⟩) hHeld ?_ ?_
            rotate_left
            · intro w' s_
              first | refine Ow.r1 Ot.ty s_ rfl rfl rfl (by first | ((try simp only [hq.1]) <;> rfl) | fail) | (refine' Ow.r0 Ot.ty s_ rfl rfl rfl ?h; (case h => first | ((try simp only [hq.1]) <;> rfl) | fail)) | (refine' Ow.rp Ot.ty s_ rfl rfl rfl ?h; (case h => first | ((try simp only [hq.1]) <;> rfl) | fail)) | (go_simp; with_reducible rfl)
            rotate_left
            · simp only [Act.put, List.setIfInBounds_toArray, List.set_cons_zero, List.set_cons_succ, i64_w, i32_w]
              rfl
            refine one_ (i := 1) (N := some 6) (Ow.B 35 7) rfl rfl (one_of HT_.out (by kernel_rfl)) (by decide) (fun K hK => ?_)
            refine goes_ Try.func32 (by kernel_rfl) rfl #[.agg Q1] (by rfl) rfl rfl (by (try simp only [List.map_toArray, List.map_cons, List.map_nil]); first | done | rfl | (simp only [hq.1]; done) | (simp only [hq.1]; rfl) | (simp only [List.length_drop, List.length_take]; rfl)) ?_
            obtain ⟨Q2, hQ2_⟩ : ∃ q_ : Array Value, q_ = (#[.string t527, .string t528, .string t529, .string t530, .int .i64 t531, .int .i64 t532, .int .i64 t533, .bool t534, .bool t535, .int .i64 t536, .int .i64 t537, .string t538, .string t539, .string t540, .int .i64 t541] : Array Value) := ⟨_, rfl⟩
            try rw [← hQ2_]
            have hQ2 := Aside0.mk hQ2_; replace hq := Aside0.mk (And.intro hQ2_ hq.1); clear hQ2_
            refine Calls.mono (calls_of_args (by first | ((try simp only [hq.1]) <;> rfl) | fail) (auth_Auth.calls k t502 t503 t504 t505 t506 t507 t508 t509 t510 t511 t512 t513 t514 t515 t516 t517 t518 t519 t520 t521 t522 t523 t524 t525 t526 t527 t528 t529 t530 t531 t532 t533 t534 t535 t536 t537 t538 t539 t540 t541 _ A3.out)) ?_
            rintro e w22 ⟨he_, hb⟩
            (try rw [← hQ2.out] at he_)
            subst he_
            replace HO := Aside0.mk (Ow.Own.call HO.out hb)
            clear hb
            refine ⟨_, rfl, ?_⟩
            refine hK.out _ _ HO.out (fun hHeld => ?_)
            clear hK K
            refine norm_ (a' := ?_) ?_ ?_
            rotate_left
            · show Act.put _ (some 6) _ = _
              simp only [Act.put, List.setIfInBounds_toArray, List.set_cons_zero, List.set_cons_succ, i64_w, i32_w]
              rfl
            refine one_ (i := 3) (N := some 8) (Ow.B 35 15) rfl rfl (one_of HT_.out (by kernel_rfl)) (by decide) (fun K hK => ?_)
            refine goes_ Try.func33 (by kernel_rfl) rfl #[.agg Q1] (by rfl) rfl rfl (by (try simp only [List.map_toArray, List.map_cons, List.map_nil]); first | done | rfl | (simp only [hq.1]; done) | (simp only [hq.1]; rfl) | (simp only [List.length_drop, List.length_take]; rfl)) ?_
            obtain ⟨Q3, hQ3_⟩ : ∃ q_ : Array Value, q_ = (#[.string t542, .string t543, .string t544, .string t545, .int .i64 t546, .int .i64 t547, .int .i64 t548, .bool t549, .bool t550, .int .i64 t551, .int .i64 t552, .string t553, .string t554, .string t555, .int .i64 t556] : Array Value) := ⟨_, rfl⟩
            try rw [← hQ3_]
            have hQ3 := Aside0.mk hQ3_; replace hq := Aside0.mk (And.intro hQ3_ hq.1); clear hQ3_
            refine Calls.mono (calls_of_args (by first | ((try simp only [hq.1]) <;> rfl) | fail) (bursarref22_Auth.calls k t502 t503 t504 t505 t506 t507 t508 t509 t510 t511 t512 t513 t514 t515 t516 t517 t518 t519 t520 t521 t522 t523 t524 t525 t526 t542 t543 t544 t545 t546 t547 t548 t549 t550 t551 t552 t553 t554 t555 t556 _ A4.out)) ?_
            rintro e w23 ⟨he_, hb⟩
            (try rw [← hQ3.out] at he_)
            subst he_
            replace HO := Aside0.mk (Ow.Own.call HO.out hb)
            clear hb
            refine ⟨_, rfl, ?_⟩
            refine hK.out _ _ HO.out (fun hHeld => ?_)
            clear hK K
            refine norm_ (a' := ?_) ?_ ?_
            rotate_left
            · show Act.put _ (some 8) _ = _
              simp only [Act.put, List.setIfInBounds_toArray, List.set_cons_zero, List.set_cons_succ, i64_w, i32_w]
              rfl
            refine' Ow.pu (i := 4) (N := some 9) (Ow.B 35 31) HT_.out ?hv_ ?ha_ ?_; (case hv_ => intro w'; (try (with_reducible refine Ow.gate_eql (by first | exact Or.inl rfl | exact Or.inr rfl) rfl ?_; simp only [hq.1, Ow.part, Ot.sz, Ot.zero, Ow.over, Ow.overL, List.drop_succ_cons, List.drop_zero, List.take_succ_cons, List.take_zero])); go_simp; with_reducible rfl); (case ha_ => simp only [Ow.Sl, i64_w, i32_w]; rfl)
            refine' Ow.pu (i := 5) (N := some 10) (Ow.B 35 63) HT_.out ?hv_ ?ha_ ?_; (case hv_ => intro w'; go_simp; with_reducible rfl); (case ha_ => simp only [Ow.Sl, i64_w, i32_w]; rfl)
            refine take_ (i := 6) (N := some 11) (v := ?_) (a' := ?_) (Ow.B 35 127) rfl rfl (take_ofW HT_.out HW_.out (by kernel_rfl)) (fun _ _ _ h => h) (Or.inl ⟨by rfl, ?_⟩) hHeld ?_ ?_
            rotate_left
            · intro w' s_
              first | refine Ow.r1 Ot.ty s_ rfl rfl rfl (by first | ((try simp only [hq.1]) <;> rfl) | fail) | (refine' Ow.r0 Ot.ty s_ rfl rfl rfl ?h; (case h => first | ((try simp only [hq.1]) <;> rfl) | fail)) | (refine' Ow.rp Ot.ty s_ rfl rfl rfl ?h; (case h => first | ((try simp only [hq.1]) <;> rfl) | fail)) | (go_simp; with_reducible rfl)
            rotate_left
            · simp only [Act.put, List.setIfInBounds_toArray, List.set_cons_zero, List.set_cons_succ, i64_w, i32_w]
              rfl
            refine take_ (i := 8) (N := some 13) (v := ?_) (a' := ?_) (Ow.B 35 383) rfl rfl (take_ofW HT_.out HW_.out (by kernel_rfl)) (fun _ _ _ h => h) (Or.inl ⟨by rfl, ?_⟩) hHeld ?_ ?_
            rotate_left
            · intro w' s_
              first | refine Ow.r1 Ot.ty s_ rfl rfl rfl (by first | ((try simp only [hq.1]) <;> rfl) | fail) | (refine' Ow.r0 Ot.ty s_ rfl rfl rfl ?h; (case h => first | ((try simp only [hq.1]) <;> rfl) | fail)) | (refine' Ow.rp Ot.ty s_ rfl rfl rfl ?h; (case h => first | ((try simp only [hq.1]) <;> rfl) | fail)) | (go_simp; with_reducible rfl)
            rotate_left
            · simp only [Act.put, List.setIfInBounds_toArray, List.set_cons_zero, List.set_cons_succ, i64_w, i32_w]
              rfl
            refine one_ (i := 7) (N := some 12) (Ow.B 35 511) rfl rfl (one_of HT_.out (by kernel_rfl)) (by decide) (fun K hK => ?_)
            refine goes_ Try.func34 (by kernel_rfl) rfl #[.agg Q1] (by rfl) rfl rfl (by (try simp only [List.map_toArray, List.map_cons, List.map_nil]); first | done | rfl | (simp only [hq.1]; done) | (simp only [hq.1]; rfl) | (simp only [List.length_drop, List.length_take]; rfl)) ?_
            refine Calls.mono (calls_of_args (by first | ((try simp only [hq.1]) <;> rfl) | fail) (auth_May.calls k t502 t503 t504 t505 t506 t507 t508 t509 t510 t511 t512 t513 t514 t515 t516 t517 t518 t519 t520 t521 t522 t523 t524 t525 t526 t557 _ A6.out)) ?_
            rintro e w24 ⟨he_, hb⟩
            subst he_
            replace HO := Aside0.mk (Ow.Own.call HO.out hb)
            clear hb
            refine ⟨_, rfl, ?_⟩
            refine hK.out _ _ HO.out (fun hHeld => ?_)
            clear hK K
            refine norm_ (a' := ?_) ?_ ?_
            rotate_left
            · show Act.put _ (some 12) _ = _
              simp only [Act.put, List.setIfInBounds_toArray, List.set_cons_zero, List.set_cons_succ, i64_w, i32_w]
              rfl
            refine one_ (i := 9) (N := some 14) (Ow.B 35 1023) rfl rfl (one_of HT_.out (by kernel_rfl)) (by decide) (fun K hK => ?_)
            refine goes_ Try.func35 (by kernel_rfl) rfl #[.agg Q1] (by rfl) rfl rfl (by (try simp only [List.map_toArray, List.map_cons, List.map_nil]); first | done | rfl | (simp only [hq.1]; done) | (simp only [hq.1]; rfl) | (simp only [List.length_drop, List.length_take]; rfl)) ?_
            refine Calls.mono (calls_of_args (by first | ((try simp only [hq.1]) <;> rfl) | fail) (bursarref22_May.calls k t502 t503 t504 t505 t506 t507 t508 t509 t510 t511 t512 t513 t514 t515 t516 t517 t518 t519 t520 t521 t522 t523 t524 t525 t526 t558 _ A7.out)) ?_
            rintro e w25 ⟨he_, hb⟩
            subst he_
            replace HO := Aside0.mk (Ow.Own.call HO.out hb)
            clear hb
            refine ⟨_, rfl, ?_⟩
            refine hK.out _ _ HO.out (fun hHeld => ?_)
            clear hK K
            refine norm_ (a' := ?_) ?_ ?_
            rotate_left
            · show Act.put _ (some 14) _ = _
              simp only [Act.put, List.setIfInBounds_toArray, List.set_cons_zero, List.set_cons_succ, i64_w, i32_w]
              rfl
            refine' Ow.pu (i := 10) (N := some 15) (Ow.B 35 2047) HT_.out ?hv_ ?ha_ ?_; (case hv_ => intro w'; go_simp; with_reducible rfl); (case ha_ => simp only [Ow.Sl, i64_w, i32_w]; rfl)
            refine' Ow.pu (i := 11) (N := some 16) (Ow.B 35 4095) HT_.out ?hv_ ?ha_ ?_; (case hv_ => intro w'; go_simp; with_reducible rfl); (case ha_ => simp only [Ow.Sl, i64_w, i32_w]; rfl)
            refine' Ow.pu (i := 12) (N := some 17) (Ow.B 35 8191) HT_.out ?hv_ ?ha_ ?_; (case hv_ => intro w'; go_simp; with_reducible rfl); (case ha_ => simp only [Ow.Sl, i64_w, i32_w]; rfl)
            refine' Ow.pu (i := 13) (N := some 18) (Ow.B 35 16383) HT_.out ?hv_ ?ha_ ?_; (case hv_ => intro w'; go_simp; with_reducible rfl); (case ha_ => simp only [Ow.Sl, i64_w, i32_w]; rfl)
            refine' Ow.pu (i := 16) (N := some 21) (Ow.B 35 81919) HT_.out ?hv_ ?ha_ ?_; (case hv_ => intro w'; go_simp; with_reducible rfl); (case ha_ => simp only [Ow.Sl, i64_w, i32_w]; rfl)
            refine take_ (i := 14) (N := some 19) (v := ?_) (a' := ?_) (Ow.B 35 98303) rfl rfl (take_ofW HT_.out HW_.out (by kernel_rfl)) (fun _ _ _ h => h) (Or.inl ⟨by rfl, ?_⟩) hHeld ?_ ?_
            rotate_left
            · intro w' s_
              first | refine Ow.r1 Ot.ty s_ rfl rfl rfl (by first | ((try simp only [hq.1]) <;> rfl) | fail) | (refine' Ow.r0 Ot.ty s_ rfl rfl rfl ?h; (case h => first | ((try simp only [hq.1]) <;> rfl) | fail)) | (refine' Ow.rp Ot.ty s_ rfl rfl rfl ?h; (case h => first | ((try simp only [hq.1]) <;> rfl) | fail)) | (go_simp; with_reducible rfl)
            rotate_left
            · simp only [Act.put, List.setIfInBounds_toArray, List.set_cons_zero, List.set_cons_succ, i64_w, i32_w]
              rfl
            refine take_ (i := 17) (N := some 22) (v := ?_) (a' := ?_) (Ow.B 35 229375) rfl rfl (take_ofW HT_.out HW_.out (by kernel_rfl)) (fun _ _ _ h => h) (Or.inl ⟨by rfl, ?_⟩) hHeld ?_ ?_
            rotate_left
            · intro w' s_
              first | refine Ow.r1 Ot.ty s_ rfl rfl rfl (by first | ((try simp only [hq.1]) <;> rfl) | fail) | (refine' Ow.r0 Ot.ty s_ rfl rfl rfl ?h; (case h => first | ((try simp only [hq.1]) <;> rfl) | fail)) | (refine' Ow.rp Ot.ty s_ rfl rfl rfl ?h; (case h => first | ((try simp only [hq.1]) <;> rfl) | fail)) | (go_simp; with_reducible rfl)
            rotate_left
            · simp only [Act.put, List.setIfInBounds_toArray, List.set_cons_zero, List.set_cons_succ, i64_w, i32_w]
              rfl
            refine one_ (i := 15) (N := some 20) (Ow.B 35 262143) rfl rfl (one_of HT_.out (by kernel_rfl)) (by decide) (fun K hK => ?_)
            obtain ⟨Q4, hQ4_⟩ : ∃ q_ : Array Value, q_ = (#[.string t502, .string t503, .string t504, .int .i64 t505, .string t506, .string t507, .string t508, .string t509, .string t510, .int .i64 t511, .int .i64 t512, .string t513] : Array Value) := ⟨_, rfl⟩
            try rw [← hQ4_]
            have hQ4 := Aside0.mk hQ4_; replace hq := Aside0.mk (And.intro hQ4_ hq.1); clear hQ4_
            refine goes_ Try.func36 (by kernel_rfl) rfl #[.agg Q4] (by rfl) rfl rfl (by (try simp only [List.map_toArray, List.map_cons, List.map_nil]); first | done | rfl | (simp only [hq.1]; done) | (simp only [hq.1]; rfl) | (simp only [List.length_drop, List.length_take]; rfl)) ?_
            refine Calls.mono (calls_of_args (by first | ((try simp only [hq.1]) <;> rfl) | fail) (auth_Advice.calls t502 t503 t504 t505 t506 t507 t508 t509 t510 t511 t512 t513 t559 _ A9.out)) ?_
            rintro e w26 ⟨he_, hb⟩
            subst he_
            replace HO := Aside0.mk (Ow.Own.call HO.out hb)
            clear hb
            refine ⟨_, rfl, ?_⟩
            refine hK.out _ _ HO.out (fun hHeld => ?_)
            clear hK K
            refine norm_ (a' := ?_) ?_ ?_
            rotate_left
            · show Act.put _ (some 20) _ = _
              simp only [Act.put, List.setIfInBounds_toArray, List.set_cons_zero, List.set_cons_succ, i64_w, i32_w]
              rfl
            refine one_ (i := 18) (N := some 23) (Ow.B 35 524287) rfl rfl (one_of HT_.out (by kernel_rfl)) (by decide) (fun K hK => ?_)
            refine goes_ Try.func37 (by kernel_rfl) rfl #[.agg Q4] (by rfl) rfl rfl (by (try simp only [List.map_toArray, List.map_cons, List.map_nil]); first | done | rfl | (simp only [hq.1]; done) | (simp only [hq.1]; rfl) | (simp only [List.length_drop, List.length_take]; rfl)) ?_
            refine Calls.mono (calls_of_args (by first | ((try simp only [hq.1]) <;> rfl) | fail) (bursarref22_Advice.calls t502 t503 t504 t505 t506 t507 t508 t509 t510 t511 t512 t513 t560 _ A10.out)) ?_
            rintro e w27 ⟨he_, hb⟩
            subst he_
            replace HO := Aside0.mk (Ow.Own.call HO.out hb)
            clear hb
            refine ⟨_, rfl, ?_⟩
            refine hK.out _ _ HO.out (fun hHeld => ?_)
            clear hK K
            refine norm_ (a' := ?_) ?_ ?_
            rotate_left
            · show Act.put _ (some 23) _ = _
              simp only [Act.put, List.setIfInBounds_toArray, List.set_cons_zero, List.set_cons_succ, i64_w, i32_w]
              rfl
            refine' Ow.pu (i := 19) (N := some 24) (Ow.B 35 1048575) HT_.out ?hv_ ?ha_ ?_; (case hv_ => intro w'; go_simp; with_reducible rfl); (case ha_ => simp only [Ow.Sl, i64_w, i32_w]; rfl)
            refine' Ow.pu (i := 20) (N := some 25) (Ow.B 35 2097151) HT_.out ?hv_ ?ha_ ?_; (case hv_ => intro w'; go_simp; with_reducible rfl); (case ha_ => simp only [Ow.Sl, i64_w, i32_w]; rfl)
            refine' Ow.pu (i := 21) (N := some 26) (Ow.B 35 4194303) HT_.out ?hv_ ?ha_ ?_; (case hv_ => intro w'; go_simp; with_reducible rfl); (case ha_ => simp only [Ow.Sl, i64_w, i32_w]; rfl)
            refine' Ow.pu (i := 22) (N := some 27) (Ow.B 35 8388607) HT_.out ?hv_ ?ha_ ?_; (case hv_ => intro w'; go_simp; with_reducible rfl); (case ha_ => simp only [Ow.Sl, i64_w, i32_w]; rfl)
            refine' Ow.pu (i := 25) (N := some 30) (Ow.B 35 41943039) HT_.out ?hv_ ?ha_ ?_; (case hv_ => intro w'; go_simp; with_reducible rfl); (case ha_ => simp only [Ow.Sl, i64_w, i32_w]; rfl)
            refine' Ow.pu (i := 26) (N := some 31) (Ow.B 35 109051903) HT_.out ?hv_ ?ha_ ?_; (case hv_ => intro w'; go_simp; with_reducible rfl); (case ha_ => simp only [Ow.Sl, i64_w, i32_w]; rfl)
            refine take_ (i := 23) (N := some 28) (v := ?_) (a' := ?_) (Ow.B 35 117440511) rfl rfl (take_ofW HT_.out HW_.out (by kernel_rfl)) (fun _ _ _ h => h) (Or.inl ⟨by rfl, ?_⟩) hHeld ?_ ?_
            rotate_left
            · intro w' s_
              first | refine Ow.r1 Ot.ty s_ rfl rfl rfl (by first | ((try simp only [hq.1]) <;> rfl) | fail) | (refine' Ow.r0 Ot.ty s_ rfl rfl rfl ?h; (case h => first | ((try simp only [hq.1]) <;> rfl) | fail)) | (refine' Ow.rp Ot.ty s_ rfl rfl rfl ?h; (case h => first | ((try simp only [hq.1]) <;> rfl) | fail)) | (go_simp; with_reducible rfl)
            rotate_left
            · simp only [Act.put, List.setIfInBounds_toArray, List.set_cons_zero, List.set_cons_succ, i64_w, i32_w]
              rfl
            refine take_ (i := 27) (N := some 32) (v := ?_) (a' := ?_) (Ow.B 35 251658239) rfl rfl (take_ofW HT_.out HW_.out (by kernel_rfl)) (fun _ _ _ h => h) (Or.inl ⟨by rfl, ?_⟩) hHeld ?_ ?_
            rotate_left
            · intro w' s_
              first | refine Ow.r1 Ot.ty s_ rfl rfl rfl (by first | ((try simp only [hq.1]) <;> rfl) | fail) | (refine' Ow.r0 Ot.ty s_ rfl rfl rfl ?h; (case h => first | ((try simp only [hq.1]) <;> rfl) | fail)) | (refine' Ow.rp Ot.ty s_ rfl rfl rfl ?h; (case h => first | ((try simp only [hq.1]) <;> rfl) | fail)) | (go_simp; with_reducible rfl)
            rotate_left
            · simp only [Act.put, List.setIfInBounds_toArray, List.set_cons_zero, List.set_cons_succ, i64_w, i32_w]
              rfl
            refine' Ow.pu (i := 28) (N := some 33) (Ow.B 35 520093695) HT_.out ?hv_ ?ha_ ?_; (case hv_ => intro w'; go_simp; with_reducible rfl); (case ha_ => simp only [Ow.Sl, i64_w, i32_w]; rfl)
            refine one_ (i := 24) (N := some 29) (Ow.B 35 536870911) rfl rfl (one_of HT_.out (by kernel_rfl)) (by decide) (fun K hK => ?_)
            refine goes_ Try.func38 (by kernel_rfl) rfl #[.agg #[.string t516, .string t517, .string t518, .int .i64 t519, .int .i64 t520, .int .i64 t521, .bool t522]] (by rfl) rfl rfl (by (try simp only [List.map_toArray, List.map_cons, List.map_nil]); first | done | rfl | (simp only [hq.1]; done) | (simp only [hq.1]; rfl) | (simp only [List.length_drop, List.length_take]; rfl)) ?_
            refine Calls.mono (calls_of_args (by first | ((try simp only [hq.1]) <;> rfl) | fail) (auth_Over.calls t516 t517 t518 t519 t520 t521 t522 true _ A12.out)) ?_
            rintro e w28 ⟨he_, hb⟩
            subst he_
            replace HO := Aside0.mk (Ow.Own.call HO.out hb)
            clear hb
            refine ⟨_, rfl, ?_⟩
            refine hK.out _ _ HO.out (fun hHeld => ?_)
            clear hK K
            refine norm_ (a' := ?_) ?_ ?_
            rotate_left
            · show Act.put _ (some 29) _ = _
              simp only [Act.put, List.setIfInBounds_toArray, List.set_cons_zero, List.set_cons_succ, i64_w, i32_w]
              rfl
            refine' Ow.pu (i := 29) (N := some 34) (Ow.B 35 1073741823) HT_.out ?hv_ ?ha_ ?_; (case hv_ => intro w'; go_simp; with_reducible rfl); (case ha_ => simp only [Ow.Sl, i64_w, i32_w]; rfl)
            refine' Ow.pu (i := 30) (N := some 35) (Ow.B 35 2147483647) HT_.out ?hv_ ?ha_ ?_; (case hv_ => intro w'; go_simp; with_reducible rfl); (case ha_ => simp only [Ow.Sl, i64_w, i32_w]; rfl)
            refine' Ow.pu (i := 31) (N := some 36) (Ow.B 35 4294967295) HT_.out ?hv_ ?ha_ ?_; (case hv_ => intro w'; go_simp; with_reducible rfl); (case ha_ => simp only [Ow.Sl, i64_w, i32_w]; rfl)
            refine one_ (i := 32) (N := some 37) (Ow.B 35 8589934591) rfl rfl (one_of HT_.out (by kernel_rfl)) (by decide) (fun K hK => ?_)
            refine goes_ Try.func39 (by kernel_rfl) rfl #[] (by rfl) rfl rfl (by (try simp only [List.map_toArray, List.map_cons, List.map_nil]); first | done | rfl | (simp only [hq.1]; done) | (simp only [hq.1]; rfl) | (simp only [List.length_drop, List.length_take]; rfl)) ?_
            refine Calls.mono (calls_of_args (by first | ((try simp only [hq.1]) <;> rfl) | fail) (bursarlaw22_awake.calls k  t562 _ A15.out)) ?_
            rintro e w29 ⟨he_, hb⟩
            subst he_
            replace HO := Aside0.mk (Ow.Own.call HO.out hb)
            clear hb
            refine ⟨_, rfl, ?_⟩
            refine hK.out _ _ HO.out (fun hHeld => ?_)
            clear hK K
            refine norm_ (a' := ?_) ?_ ?_
            rotate_left
            · show Act.put _ (some 37) _ = _
              simp only [Act.put, List.setIfInBounds_toArray, List.set_cons_zero, List.set_cons_succ, i64_w, i32_w]
              rfl
            refine' Ow.pu (i := 33) (N := some 38) (Ow.B 35 17179869183) HT_.out ?hv_ ?ha_ ?_; (case hv_ => intro w'; go_simp; with_reducible rfl); (case ha_ => simp only [Ow.Sl, i64_w, i32_w]; rfl)
            refine' Ow.pu (i := 34) (N := some 2) (Ow.B 35 34359738367) HT_.out ?hv_ ?ha_ ?_; (case hv_ => intro w'; go_simp; with_reducible rfl); (case ha_ => simp only [Ow.Sl, i64_w, i32_w]; rfl)
            refine done_ (done_of HT_.out (by kernel_rfl)) ?_
            try go_wp2_with (first | ((with_reducible refine Ow.gate_eqs (t := 53) (by first | exact Or.inl rfl | exact Or.inr rfl) rfl ?_); simp only [hq.1, Ow.part, Ot.sz, Ot.zero, Ow.over, Ow.overL, List.drop_succ_cons, List.drop_zero, List.take_succ_cons, List.take_zero]) | ((with_reducible refine Ow.gate_load rfl ?_); (try (refine gate_guard (by rfl) ?_; dsimp only)); (first | refine Ow.l1 Ot.ty HO.out rfl rfl rfl rfl (by first | ((try simp only [hq.1]) <;> rfl) | fail) ?_ | refine Ow.l0 Ot.ty HO.out rfl rfl rfl rfl (by first | ((try simp only [hq.1]) <;> rfl) | fail) ?_ | refine Ow.lp Ot.ty HO.out rfl rfl rfl rfl (by first | ((try simp only [hq.1]) <;> rfl) | fail) ?_)) | ((with_reducible refine gate_store rfl ?_); (try (refine gate_guard (by rfl) ?_; dsimp only)); (first | refine Ow.s0 Ot.ty HO.out rfl rfl rfl rfl rfl (by first | exact Ow.ev_tmp rfl | rfl) (by first | (refine ⟨?_, ?_, ?_⟩ <;> (first | ((try simp only [hq.1]) <;> rfl) | fail)) | fail) ?_ | refine Ow.sp Ot.ty HO.out rfl rfl rfl rfl rfl (by first | exact Ow.ev_tmp rfl | rfl) (by first | (refine ⟨?_, ?_, ?_⟩ <;> (first | ((try simp only [hq.1]) <;> rfl) | fail)) | fail) ?_); clear HO; intro wz_ HO; simp only [List.set_cons_zero, List.set_cons_succ] at HO))
            all_goals go_ret
            all_goals exact ⟨by first | rfl | (simp only [hq.1]; done) | (simp only [hq.1]; rfl) | (simp [errW_none, errW_some] <;> rfl) | (simp [*, errW_none, errW_some] <;> rfl), Ow.Own.below HO.out⟩
          · rw [if_neg c14] at H
            have c14b0 : decide (9999999999999 < t519) = false := decide_eq_false c14
            clear c14
            exact absurd H (by simp)
        · replace c13 := Bool.eq_false_iff.mpr c13
          subst c13
          have H1 : (if t519 > 9999999999999 then (none) else ((bursarlaw22_awake.f k).bind fun t563 => (some t563))) = some r := by rw [if_neg (show ¬ (false = true) by decide)] at H; exact H
          clear H
          have H := H1
          clear H1
          by_cases c30 : t519 > 9999999999999
          · rw [if_pos c30] at H
            have c30b0 : decide (9999999999999 < t519) = true := decide_eq_true c30
            clear c30
            exact absurd H (by simp)
          · rw [if_neg c30] at H
            have c30b0 : decide (9999999999999 < t519) = false := decide_eq_false c30
            clear c30
            replace H := Option.bind_eq_some_iff.mp H
            obtain ⟨t563, A310, H⟩ := H
            replace H : (some t563) = some r := H
            have A31 := Aside0.mk A310
            clear A310
            obtain rfl := Option.some.inj H
            obtain ⟨Q5, hQ5_⟩ : ∃ q_ : Array Value, q_ = (#[.string a0_0, .string a0_1, .string a0_2, .int .i64 a0_3, .string a0_4, .string a0_5, .string a0_6, .string a0_7, .string a0_8, .int .i64 a0_9, .int .i64 a0_10, .string a0_11, .bool a0_12, .int .i64 a0_13, .string a0_14, .string a0_15, .string a0_16, .int .i64 a0_17, .int .i64 a0_18, .int .i64 a0_19, .bool a0_20, .bool a0_21, .int .i64 a0_22, .int .i64 a0_23, .bool a0_24] : Array Value) := ⟨_, rfl⟩
            try rw [← hQ5_]
            have hQ5 := Aside0.mk hQ5_; have hq := Aside0.mk hQ5_; clear hQ5_
            go_enter Try.func11, Try.ntmps11
            obtain ⟨Q6, hQ6_⟩ : ∃ q_ : Array Value, q_ = (#[.string t502, .string t503, .string t504, .int .i64 t505, .string t506, .string t507, .string t508, .string t509, .string t510, .int .i64 t511, .int .i64 t512, .string t513, .bool t514, .int .i64 t515, .string t516, .string t517, .string t518, .int .i64 t519, .int .i64 t520, .int .i64 t521, .bool t522, .bool t523, .int .i64 t524, .int .i64 t525, .bool t526] : Array Value) := ⟨_, rfl⟩
            try rw [← hQ6_]
            have hQ6 := Aside0.mk hQ6_; replace hq := Aside0.mk (And.intro hQ6_ hq.1); clear hQ6_
            try go_wp2_with (first | ((with_reducible refine gate_dst (N := 1) rfl ?_); refine Ow.box rfl (N := 1) rfl (cs := Q5) (t := 27) HO.out (by first | (go_simp; done) | (go_simp; rfl)) ?_; clear HO; intro gb501 w32 HO; simp only [List.cons_append, List.nil_append] at HO) | ((with_reducible refine gate_callee (f := 15) rfl ?_); refine goesL_ (some 4) rfl rfl Try.func15 (by kernel_rfl) rfl #[.agg Q5] rfl (by (try simp only [List.map_toArray, List.map_cons, List.map_nil]); first | done | rfl | (simp only [hq.1]; done) | (simp only [hq.1]; rfl)) ?_; refine Calls.mono (calls_of_args (by first | ((try simp only [hq.1]) <;> rfl) | fail) (bursarlaw22_Few.calls a0_0 a0_1 a0_2 a0_3 a0_4 a0_5 a0_6 a0_7 a0_8 a0_9 a0_10 a0_11 a0_12 a0_13 a0_14 a0_15 a0_16 a0_17 a0_18 a0_19 a0_20 a0_21 a0_22 a0_23 a0_24 t502 t503 t504 t505 t506 t507 t508 t509 t510 t511 t512 t513 t514 t515 t516 t517 t518 t519 t520 t521 t522 t523 t524 t525 t526 _ A2.out)) ?_; rintro e w34 ⟨he_, hb⟩; (try rw [← hQ6.out] at he_); subst he_; refine ⟨_, rfl, ?_⟩; replace HO := Aside0.mk (Ow.Own.call HO.out hb); clear hb) | ((with_reducible refine Ow.gate_eqs (t := 53) (by first | exact Or.inl rfl | exact Or.inr rfl) rfl ?_); simp only [hq.1, Ow.part, Ot.sz, Ot.zero, Ow.over, Ow.overL, List.drop_succ_cons, List.drop_zero, List.take_succ_cons, List.take_zero]) | ((with_reducible refine Ow.gate_load rfl ?_); (try (refine gate_guard (by rfl) ?_; dsimp only)); (first | refine Ow.l1 Ot.ty HO.out rfl rfl rfl rfl (by first | ((try simp only [hq.1]) <;> rfl) | fail) ?_ | refine Ow.l0 Ot.ty HO.out rfl rfl rfl rfl (by first | ((try simp only [hq.1]) <;> rfl) | fail) ?_ | refine Ow.lp Ot.ty HO.out rfl rfl rfl rfl (by first | ((try simp only [hq.1]) <;> rfl) | fail) ?_)) | ((with_reducible refine gate_store rfl ?_); (try (refine gate_guard (by rfl) ?_; dsimp only)); (first | refine Ow.s0 Ot.ty HO.out rfl rfl rfl rfl rfl (by first | exact Ow.ev_tmp rfl | rfl) (by first | (refine ⟨?_, ?_, ?_⟩ <;> (first | ((try simp only [hq.1]) <;> rfl) | fail)) | fail) ?_ | refine Ow.sp Ot.ty HO.out rfl rfl rfl rfl rfl (by first | exact Ow.ev_tmp rfl | rfl) (by first | (refine ⟨?_, ?_, ?_⟩ <;> (first | ((try simp only [hq.1]) <;> rfl) | fail)) | fail) ?_); clear HO; intro wz_ HO; simp only [List.set_cons_zero, List.set_cons_succ] at HO))
            refine Ow.ostart (n := 35) (ds := []) (Ow.B 35 0) HO.out (by kernel_rfl) rfl (by kernel_rfl) ?_
            intro hHeld; replace HO := Aside0.mk hHeld; refine with_tabW bursarlaw22_AuthDecides.tab2 bursarlaw22_AuthDecides.bits2 (fun HT_ HW_ => ?_)
            refine take_ (i := 0) (N := some 5) (v := ?_) (a' := ?_) (Ow.B 35 1) rfl rfl (take_ofW HT_.out HW_.out (by kernel_rfl)) (fun _ _ _ h => h) (Or.inl ⟨by rfl, ?_⟩) hHeld ?_ ?_
            rotate_left
            · intro w' s_
              first | refine Ow.r1 Ot.ty s_ rfl rfl rfl (by first | ((try simp only [hq.1]) <;> rfl) | fail) | (refine' Ow.r0 Ot.ty s_ rfl rfl rfl ?h; (case h => first | ((try simp only [hq.1]) <;> rfl) | fail)) | (refine' Ow.rp Ot.ty s_ rfl rfl rfl ?h; (case h => first | ((try simp only [hq.1]) <;> rfl) | fail)) | (go_simp; with_reducible rfl)
            rotate_left
            · simp only [Act.put, List.setIfInBounds_toArray, List.set_cons_zero, List.set_cons_succ, i64_w, i32_w]
              rfl
            refine take_ (i := 2) (N := some 7) (v := ?_) (a' := ?_) (Ow.B 35 5) rfl rfl (take_ofW HT_.out HW_.out (by kernel_rfl)) (fun _ _ _ h => h) (Or.inl ⟨by rfl, ?_⟩) hHeld ?_ ?_
            rotate_left
            · intro w' s_
              first | refine Ow.r1 Ot.ty s_ rfl rfl rfl (by first | ((try simp only [hq.1]) <;> rfl) | fail) | (refine' Ow.r0 Ot.ty s_ rfl rfl rfl ?h; (case h => first | ((try simp only [hq.1]) <;> rfl) | fail)) | (refine' Ow.rp Ot.ty s_ rfl rfl rfl ?h; (case h => first | ((try simp only [hq.1]) <;> rfl) | fail)) | (go_simp; with_reducible rfl)
            rotate_left
            · simp only [Act.put, List.setIfInBounds_toArray, List.set_cons_zero, List.set_cons_succ, i64_w, i32_w]
              rfl
            refine one_ (i := 1) (N := some 6) (Ow.B 35 7) rfl rfl (one_of HT_.out (by kernel_rfl)) (by decide) (fun K hK => ?_)
            refine goes_ Try.func32 (by kernel_rfl) rfl #[.agg Q6] (by rfl) rfl rfl (by (try simp only [List.map_toArray, List.map_cons, List.map_nil]); first | done | rfl | (simp only [hq.1]; done) | (simp only [hq.1]; rfl) | (simp only [List.length_drop, List.length_take]; rfl)) ?_
            obtain ⟨Q7, hQ7_⟩ : ∃ q_ : Array Value, q_ = (#[.string t527, .string t528, .string t529, .string t530, .int .i64 t531, .int .i64 t532, .int .i64 t533, .bool t534, .bool t535, .int .i64 t536, .int .i64 t537, .string t538, .string t539, .string t540, .int .i64 t541] : Array Value) := ⟨_, rfl⟩
            try rw [← hQ7_]
            have hQ7 := Aside0.mk hQ7_; replace hq := Aside0.mk (And.intro hQ7_ hq.1); clear hQ7_
            refine Calls.mono (calls_of_args (by first | ((try simp only [hq.1]) <;> rfl) | fail) (auth_Auth.calls k t502 t503 t504 t505 t506 t507 t508 t509 t510 t511 t512 t513 t514 t515 t516 t517 t518 t519 t520 t521 t522 t523 t524 t525 t526 t527 t528 t529 t530 t531 t532 t533 t534 t535 t536 t537 t538 t539 t540 t541 _ A3.out)) ?_
            rintro e w38 ⟨he_, hb⟩
            (try rw [← hQ7.out] at he_)
            subst he_
            replace HO := Aside0.mk (Ow.Own.call HO.out hb)
            clear hb
            refine ⟨_, rfl, ?_⟩
            refine hK.out _ _ HO.out (fun hHeld => ?_)
            clear hK K
            refine norm_ (a' := ?_) ?_ ?_
            rotate_left
            · show Act.put _ (some 6) _ = _
              simp only [Act.put, List.setIfInBounds_toArray, List.set_cons_zero, List.set_cons_succ, i64_w, i32_w]
              rfl
            refine one_ (i := 3) (N := some 8) (Ow.B 35 15) rfl rfl (one_of HT_.out (by kernel_rfl)) (by decide) (fun K hK => ?_)
            refine goes_ Try.func33 (by kernel_rfl) rfl #[.agg Q6] (by rfl) rfl rfl (by (try simp only [List.map_toArray, List.map_cons, List.map_nil]); first | done | rfl | (simp only [hq.1]; done) | (simp only [hq.1]; rfl) | (simp only [List.length_drop, List.length_take]; rfl)) ?_
            obtain ⟨Q8, hQ8_⟩ : ∃ q_ : Array Value, q_ = (#[.string t542, .string t543, .string t544, .string t545, .int .i64 t546, .int .i64 t547, .int .i64 t548, .bool t549, .bool t550, .int .i64 t551, .int .i64 t552, .string t553, .string t554, .string t555, .int .i64 t556] : Array Value) := ⟨_, rfl⟩
            try rw [← hQ8_]
            have hQ8 := Aside0.mk hQ8_; replace hq := Aside0.mk (And.intro hQ8_ hq.1); clear hQ8_
            refine Calls.mono (calls_of_args (by first | ((try simp only [hq.1]) <;> rfl) | fail) (bursarref22_Auth.calls k t502 t503 t504 t505 t506 t507 t508 t509 t510 t511 t512 t513 t514 t515 t516 t517 t518 t519 t520 t521 t522 t523 t524 t525 t526 t542 t543 t544 t545 t546 t547 t548 t549 t550 t551 t552 t553 t554 t555 t556 _ A4.out)) ?_
            rintro e w39 ⟨he_, hb⟩
            (try rw [← hQ8.out] at he_)
            subst he_
            replace HO := Aside0.mk (Ow.Own.call HO.out hb)
            clear hb
            refine ⟨_, rfl, ?_⟩
            refine hK.out _ _ HO.out (fun hHeld => ?_)
            clear hK K
            refine norm_ (a' := ?_) ?_ ?_
            rotate_left
            · show Act.put _ (some 8) _ = _
              simp only [Act.put, List.setIfInBounds_toArray, List.set_cons_zero, List.set_cons_succ, i64_w, i32_w]
              rfl
            refine' Ow.pu (i := 4) (N := some 9) (Ow.B 35 31) HT_.out ?hv_ ?ha_ ?_; (case hv_ => intro w'; (try (with_reducible refine Ow.gate_eql (by first | exact Or.inl rfl | exact Or.inr rfl) rfl ?_; simp only [hq.1, Ow.part, Ot.sz, Ot.zero, Ow.over, Ow.overL, List.drop_succ_cons, List.drop_zero, List.take_succ_cons, List.take_zero])); go_simp; with_reducible rfl); (case ha_ => simp only [Ow.Sl, i64_w, i32_w]; rfl)
            refine' Ow.pu (i := 5) (N := some 10) (Ow.B 35 63) HT_.out ?hv_ ?ha_ ?_; (case hv_ => intro w'; go_simp; with_reducible rfl); (case ha_ => simp only [Ow.Sl, i64_w, i32_w]; rfl)
            refine take_ (i := 6) (N := some 11) (v := ?_) (a' := ?_) (Ow.B 35 127) rfl rfl (take_ofW HT_.out HW_.out (by kernel_rfl)) (fun _ _ _ h => h) (Or.inl ⟨by rfl, ?_⟩) hHeld ?_ ?_
            rotate_left
            · intro w' s_
              first | refine Ow.r1 Ot.ty s_ rfl rfl rfl (by first | ((try simp only [hq.1]) <;> rfl) | fail) | (refine' Ow.r0 Ot.ty s_ rfl rfl rfl ?h; (case h => first | ((try simp only [hq.1]) <;> rfl) | fail)) | (refine' Ow.rp Ot.ty s_ rfl rfl rfl ?h; (case h => first | ((try simp only [hq.1]) <;> rfl) | fail)) | (go_simp; with_reducible rfl)
            rotate_left
            · simp only [Act.put, List.setIfInBounds_toArray, List.set_cons_zero, List.set_cons_succ, i64_w, i32_w]
              rfl
            refine take_ (i := 8) (N := some 13) (v := ?_) (a' := ?_) (Ow.B 35 383) rfl rfl (take_ofW HT_.out HW_.out (by kernel_rfl)) (fun _ _ _ h => h) (Or.inl ⟨by rfl, ?_⟩) hHeld ?_ ?_
            rotate_left
            · intro w' s_
              first | refine Ow.r1 Ot.ty s_ rfl rfl rfl (by first | ((try simp only [hq.1]) <;> rfl) | fail) | (refine' Ow.r0 Ot.ty s_ rfl rfl rfl ?h; (case h => first | ((try simp only [hq.1]) <;> rfl) | fail)) | (refine' Ow.rp Ot.ty s_ rfl rfl rfl ?h; (case h => first | ((try simp only [hq.1]) <;> rfl) | fail)) | (go_simp; with_reducible rfl)
            rotate_left
            · simp only [Act.put, List.setIfInBounds_toArray, List.set_cons_zero, List.set_cons_succ, i64_w, i32_w]
              rfl
            refine one_ (i := 7) (N := some 12) (Ow.B 35 511) rfl rfl (one_of HT_.out (by kernel_rfl)) (by decide) (fun K hK => ?_)
            refine goes_ Try.func34 (by kernel_rfl) rfl #[.agg Q6] (by rfl) rfl rfl (by (try simp only [List.map_toArray, List.map_cons, List.map_nil]); first | done | rfl | (simp only [hq.1]; done) | (simp only [hq.1]; rfl) | (simp only [List.length_drop, List.length_take]; rfl)) ?_
            refine Calls.mono (calls_of_args (by first | ((try simp only [hq.1]) <;> rfl) | fail) (auth_May.calls k t502 t503 t504 t505 t506 t507 t508 t509 t510 t511 t512 t513 t514 t515 t516 t517 t518 t519 t520 t521 t522 t523 t524 t525 t526 t557 _ A6.out)) ?_
            rintro e w40 ⟨he_, hb⟩
            subst he_
            replace HO := Aside0.mk (Ow.Own.call HO.out hb)
            clear hb
            refine ⟨_, rfl, ?_⟩
            refine hK.out _ _ HO.out (fun hHeld => ?_)
            clear hK K
            refine norm_ (a' := ?_) ?_ ?_
            rotate_left
            · show Act.put _ (some 12) _ = _
              simp only [Act.put, List.setIfInBounds_toArray, List.set_cons_zero, List.set_cons_succ, i64_w, i32_w]
              rfl
            refine one_ (i := 9) (N := some 14) (Ow.B 35 1023) rfl rfl (one_of HT_.out (by kernel_rfl)) (by decide) (fun K hK => ?_)
            refine goes_ Try.func35 (by kernel_rfl) rfl #[.agg Q6] (by rfl) rfl rfl (by (try simp only [List.map_toArray, List.map_cons, List.map_nil]); first | done | rfl | (simp only [hq.1]; done) | (simp only [hq.1]; rfl) | (simp only [List.length_drop, List.length_take]; rfl)) ?_
            refine Calls.mono (calls_of_args (by first | ((try simp only [hq.1]) <;> rfl) | fail) (bursarref22_May.calls k t502 t503 t504 t505 t506 t507 t508 t509 t510 t511 t512 t513 t514 t515 t516 t517 t518 t519 t520 t521 t522 t523 t524 t525 t526 t558 _ A7.out)) ?_
            rintro e w41 ⟨he_, hb⟩
            subst he_
            replace HO := Aside0.mk (Ow.Own.call HO.out hb)
            clear hb
            refine ⟨_, rfl, ?_⟩
            refine hK.out _ _ HO.out (fun hHeld => ?_)
            clear hK K
            refine norm_ (a' := ?_) ?_ ?_
            rotate_left
            · show Act.put _ (some 14) _ = _
              simp only [Act.put, List.setIfInBounds_toArray, List.set_cons_zero, List.set_cons_succ, i64_w, i32_w]
              rfl
            refine' Ow.pu (i := 10) (N := some 15) (Ow.B 35 2047) HT_.out ?hv_ ?ha_ ?_; (case hv_ => intro w'; go_simp; with_reducible rfl); (case ha_ => simp only [Ow.Sl, i64_w, i32_w]; rfl)
            refine' Ow.pu (i := 11) (N := some 16) (Ow.B 35 4095) HT_.out ?hv_ ?ha_ ?_; (case hv_ => intro w'; go_simp; with_reducible rfl); (case ha_ => simp only [Ow.Sl, i64_w, i32_w]; rfl)
            refine' Ow.pu (i := 12) (N := some 17) (Ow.B 35 8191) HT_.out ?hv_ ?ha_ ?_; (case hv_ => intro w'; go_simp; with_reducible rfl); (case ha_ => simp only [Ow.Sl, i64_w, i32_w]; rfl)
            refine' Ow.pu (i := 13) (N := some 18) (Ow.B 35 16383) HT_.out ?hv_ ?ha_ ?_; (case hv_ => intro w'; go_simp; with_reducible rfl); (case ha_ => simp only [Ow.Sl, i64_w, i32_w]; rfl)
            refine' Ow.pu (i := 16) (N := some 21) (Ow.B 35 81919) HT_.out ?hv_ ?ha_ ?_; (case hv_ => intro w'; go_simp; with_reducible rfl); (case ha_ => simp only [Ow.Sl, i64_w, i32_w]; rfl)
            refine take_ (i := 14) (N := some 19) (v := ?_) (a' := ?_) (Ow.B 35 98303) rfl rfl (take_ofW HT_.out HW_.out (by kernel_rfl)) (fun _ _ _ h => h) (Or.inl ⟨by rfl, ?_⟩) hHeld ?_ ?_
            rotate_left
            · intro w' s_
              first | refine Ow.r1 Ot.ty s_ rfl rfl rfl (by first | ((try simp only [hq.1]) <;> rfl) | fail) | (refine' Ow.r0 Ot.ty s_ rfl rfl rfl ?h; (case h => first | ((try simp only [hq.1]) <;> rfl) | fail)) | (refine' Ow.rp Ot.ty s_ rfl rfl rfl ?h; (case h => first | ((try simp only [hq.1]) <;> rfl) | fail)) | (go_simp; with_reducible rfl)
            rotate_left
            · simp only [Act.put, List.setIfInBounds_toArray, List.set_cons_zero, List.set_cons_succ, i64_w, i32_w]
              rfl
            refine take_ (i := 17) (N := some 22) (v := ?_) (a' := ?_) (Ow.B 35 229375) rfl rfl (take_ofW HT_.out HW_.out (by kernel_rfl)) (fun _ _ _ h => h) (Or.inl ⟨by rfl, ?_⟩) hHeld ?_ ?_
            rotate_left
            · intro w' s_
              first | refine Ow.r1 Ot.ty s_ rfl rfl rfl (by first | ((try simp only [hq.1]) <;> rfl) | fail) | (refine' Ow.r0 Ot.ty s_ rfl rfl rfl ?h; (case h => first | ((try simp only [hq.1]) <;> rfl) | fail)) | (refine' Ow.rp Ot.ty s_ rfl rfl rfl ?h; (case h => first | ((try simp only [hq.1]) <;> rfl) | fail)) | (go_simp; with_reducible rfl)
            rotate_left
            · simp only [Act.put, List.setIfInBounds_toArray, List.set_cons_zero, List.set_cons_succ, i64_w, i32_w]
              rfl
            refine one_ (i := 15) (N := some 20) (Ow.B 35 262143) rfl rfl (one_of HT_.out (by kernel_rfl)) (by decide) (fun K hK => ?_)
            obtain ⟨Q9, hQ9_⟩ : ∃ q_ : Array Value, q_ = (#[.string t502, .string t503, .string t504, .int .i64 t505, .string t506, .string t507, .string t508, .string t509, .string t510, .int .i64 t511, .int .i64 t512, .string t513] : Array Value) := ⟨_, rfl⟩
            try rw [← hQ9_]
            have hQ9 := Aside0.mk hQ9_; replace hq := Aside0.mk (And.intro hQ9_ hq.1); clear hQ9_
            refine goes_ Try.func36 (by kernel_rfl) rfl #[.agg Q9] (by rfl) rfl rfl (by (try simp only [List.map_toArray, List.map_cons, List.map_nil]); first | done | rfl | (simp only [hq.1]; done) | (simp only [hq.1]; rfl) | (simp only [List.length_drop, List.length_take]; rfl)) ?_
            refine Calls.mono (calls_of_args (by first | ((try simp only [hq.1]) <;> rfl) | fail) (auth_Advice.calls t502 t503 t504 t505 t506 t507 t508 t509 t510 t511 t512 t513 t559 _ A9.out)) ?_
            rintro e w42 ⟨he_, hb⟩
            subst he_
            replace HO := Aside0.mk (Ow.Own.call HO.out hb)
            clear hb
            refine ⟨_, rfl, ?_⟩
            refine hK.out _ _ HO.out (fun hHeld => ?_)
            clear hK K
            refine norm_ (a' := ?_) ?_ ?_
            rotate_left
            · show Act.put _ (some 20) _ = _
              simp only [Act.put, List.setIfInBounds_toArray, List.set_cons_zero, List.set_cons_succ, i64_w, i32_w]
              rfl
            refine one_ (i := 18) (N := some 23) (Ow.B 35 524287) rfl rfl (one_of HT_.out (by kernel_rfl)) (by decide) (fun K hK => ?_)
            refine goes_ Try.func37 (by kernel_rfl) rfl #[.agg Q9] (by rfl) rfl rfl (by (try simp only [List.map_toArray, List.map_cons, List.map_nil]); first | done | rfl | (simp only [hq.1]; done) | (simp only [hq.1]; rfl) | (simp only [List.length_drop, List.length_take]; rfl)) ?_
            refine Calls.mono (calls_of_args (by first | ((try simp only [hq.1]) <;> rfl) | fail) (bursarref22_Advice.calls t502 t503 t504 t505 t506 t507 t508 t509 t510 t511 t512 t513 t560 _ A10.out)) ?_
            rintro e w43 ⟨he_, hb⟩
            subst he_
            replace HO := Aside0.mk (Ow.Own.call HO.out hb)
            clear hb
            refine ⟨_, rfl, ?_⟩
            refine hK.out _ _ HO.out (fun hHeld => ?_)
            clear hK K
            refine norm_ (a' := ?_) ?_ ?_
            rotate_left
            · show Act.put _ (some 23) _ = _
              simp only [Act.put, List.setIfInBounds_toArray, List.set_cons_zero, List.set_cons_succ, i64_w, i32_w]
              rfl
            refine' Ow.pu (i := 19) (N := some 24) (Ow.B 35 1048575) HT_.out ?hv_ ?ha_ ?_; (case hv_ => intro w'; go_simp; with_reducible rfl); (case ha_ => simp only [Ow.Sl, i64_w, i32_w]; rfl)
            refine' Ow.pu (i := 20) (N := some 25) (Ow.B 35 2097151) HT_.out ?hv_ ?ha_ ?_; (case hv_ => intro w'; go_simp; with_reducible rfl); (case ha_ => simp only [Ow.Sl, i64_w, i32_w]; rfl)
            refine' Ow.pu (i := 21) (N := some 26) (Ow.B 35 4194303) HT_.out ?hv_ ?ha_ ?_; (case hv_ => intro w'; go_simp; with_reducible rfl); (case ha_ => simp only [Ow.Sl, i64_w, i32_w]; rfl)
            refine' Ow.pu (i := 22) (N := some 27) (Ow.B 35 8388607) HT_.out ?hv_ ?ha_ ?_; (case hv_ => intro w'; go_simp; with_reducible rfl); (case ha_ => simp only [Ow.Sl, i64_w, i32_w]; rfl)
            refine' Ow.pu (i := 25) (N := some 30) (Ow.B 35 41943039) HT_.out ?hv_ ?ha_ ?_; (case hv_ => intro w'; go_simp; with_reducible rfl); (case ha_ => simp only [Ow.Sl, i64_w, i32_w]; rfl)
            refine' Ow.pu (i := 26) (N := some 31) (Ow.B 35 109051903) HT_.out ?hv_ ?ha_ ?_; (case hv_ => intro w'; go_simp; with_reducible rfl); (case ha_ => simp only [Ow.Sl, i64_w, i32_w]; rfl)
            refine take_ (i := 23) (N := some 28) (v := ?_) (a' := ?_) (Ow.B 35 117440511) rfl rfl (take_ofW HT_.out HW_.out (by kernel_rfl)) (fun _ _ _ h => h) (Or.inl ⟨by rfl, ?_⟩) hHeld ?_ ?_
            rotate_left
            · intro w' s_
              first | refine Ow.r1 Ot.ty s_ rfl rfl rfl (by first | ((try simp only [hq.1]) <;> rfl) | fail) | (refine' Ow.r0 Ot.ty s_ rfl rfl rfl ?h; (case h => first | ((try simp only [hq.1]) <;> rfl) | fail)) | (refine' Ow.rp Ot.ty s_ rfl rfl rfl ?h; (case h => first | ((try simp only [hq.1]) <;> rfl) | fail)) | (go_simp; with_reducible rfl)
            rotate_left
            · simp only [Act.put, List.setIfInBounds_toArray, List.set_cons_zero, List.set_cons_succ, i64_w, i32_w]
              rfl
            refine take_ (i := 27) (N := some 32) (v := ?_) (a' := ?_) (Ow.B 35 251658239) rfl rfl (take_ofW HT_.out HW_.out (by kernel_rfl)) (fun _ _ _ h => h) (Or.inl ⟨by rfl, ?_⟩) hHeld ?_ ?_
            rotate_left
            · intro w' s_
              first | refine Ow.r1 Ot.ty s_ rfl rfl rfl (by first | ((try simp only [hq.1]) <;> rfl) | fail) | (refine' Ow.r0 Ot.ty s_ rfl rfl rfl ?h; (case h => first | ((try simp only [hq.1]) <;> rfl) | fail)) | (refine' Ow.rp Ot.ty s_ rfl rfl rfl ?h; (case h => first | ((try simp only [hq.1]) <;> rfl) | fail)) | (go_simp; with_reducible rfl)
            rotate_left
            · simp only [Act.put, List.setIfInBounds_toArray, List.set_cons_zero, List.set_cons_succ, i64_w, i32_w]
              rfl
            refine' Ow.pu (i := 28) (N := some 33) (Ow.B 35 520093695) HT_.out ?hv_ ?ha_ ?_; (case hv_ => intro w'; go_simp; with_reducible rfl); (case ha_ => simp only [Ow.Sl, i64_w, i32_w]; rfl)
            refine one_ (i := 24) (N := some 29) (Ow.B 35 536870911) rfl rfl (one_of HT_.out (by kernel_rfl)) (by decide) (fun K hK => ?_)
            refine goes_ Try.func38 (by kernel_rfl) rfl #[.agg #[.string t516, .string t517, .string t518, .int .i64 t519, .int .i64 t520, .int .i64 t521, .bool t522]] (by rfl) rfl rfl (by (try simp only [List.map_toArray, List.map_cons, List.map_nil]); first | done | rfl | (simp only [hq.1]; done) | (simp only [hq.1]; rfl) | (simp only [List.length_drop, List.length_take]; rfl)) ?_
            refine Calls.mono (calls_of_args (by first | ((try simp only [hq.1]) <;> rfl) | fail) (auth_Over.calls t516 t517 t518 t519 t520 t521 t522 false _ A12.out)) ?_
            rintro e w44 ⟨he_, hb⟩
            subst he_
            replace HO := Aside0.mk (Ow.Own.call HO.out hb)
            clear hb
            refine ⟨_, rfl, ?_⟩
            refine hK.out _ _ HO.out (fun hHeld => ?_)
            clear hK K
            refine norm_ (a' := ?_) ?_ ?_
            rotate_left
            · show Act.put _ (some 29) _ = _
              simp only [Act.put, List.setIfInBounds_toArray, List.set_cons_zero, List.set_cons_succ, i64_w, i32_w]
              rfl
            refine' Ow.pu (i := 29) (N := some 34) (Ow.B 35 1073741823) HT_.out ?hv_ ?ha_ ?_; (case hv_ => intro w'; go_simp; with_reducible rfl); (case ha_ => simp only [Ow.Sl, i64_w, i32_w]; rfl)
            refine' Ow.pu (i := 30) (N := some 35) (Ow.B 35 2147483647) HT_.out ?hv_ ?ha_ ?_; (case hv_ => intro w'; go_simp; with_reducible rfl); (case ha_ => simp only [Ow.Sl, i64_w, i32_w]; rfl)
            refine' Ow.pu (i := 31) (N := some 36) (Ow.B 35 4294967295) HT_.out ?hv_ ?ha_ ?_; (case hv_ => intro w'; go_simp; with_reducible rfl); (case ha_ => simp only [Ow.Sl, i64_w, i32_w]; rfl)
            refine one_ (i := 32) (N := some 37) (Ow.B 35 8589934591) rfl rfl (one_of HT_.out (by kernel_rfl)) (by decide) (fun K hK => ?_)
            refine goes_ Try.func39 (by kernel_rfl) rfl #[] (by rfl) rfl rfl (by (try simp only [List.map_toArray, List.map_cons, List.map_nil]); first | done | rfl | (simp only [hq.1]; done) | (simp only [hq.1]; rfl) | (simp only [List.length_drop, List.length_take]; rfl)) ?_
            refine Calls.mono (calls_of_args (by first | ((try simp only [hq.1]) <;> rfl) | fail) (bursarlaw22_awake.calls k  t563 _ A31.out)) ?_
            rintro e w45 ⟨he_, hb⟩
            subst he_
            replace HO := Aside0.mk (Ow.Own.call HO.out hb)
            clear hb
            refine ⟨_, rfl, ?_⟩
            refine hK.out _ _ HO.out (fun hHeld => ?_)
            clear hK K
            refine norm_ (a' := ?_) ?_ ?_
            rotate_left
            · show Act.put _ (some 37) _ = _
              simp only [Act.put, List.setIfInBounds_toArray, List.set_cons_zero, List.set_cons_succ, i64_w, i32_w]
              rfl
            refine' Ow.pu (i := 33) (N := some 38) (Ow.B 35 17179869183) HT_.out ?hv_ ?ha_ ?_; (case hv_ => intro w'; go_simp; with_reducible rfl); (case ha_ => simp only [Ow.Sl, i64_w, i32_w]; rfl)
            refine' Ow.pu (i := 34) (N := some 2) (Ow.B 35 34359738367) HT_.out ?hv_ ?ha_ ?_; (case hv_ => intro w'; go_simp; with_reducible rfl); (case ha_ => simp only [Ow.Sl, i64_w, i32_w]; rfl)
            refine done_ (done_of HT_.out (by kernel_rfl)) ?_
            try go_wp2_with (first | ((with_reducible refine Ow.gate_eqs (t := 53) (by first | exact Or.inl rfl | exact Or.inr rfl) rfl ?_); simp only [hq.1, Ow.part, Ot.sz, Ot.zero, Ow.over, Ow.overL, List.drop_succ_cons, List.drop_zero, List.take_succ_cons, List.take_zero]) | ((with_reducible refine Ow.gate_load rfl ?_); (try (refine gate_guard (by rfl) ?_; dsimp only)); (first | refine Ow.l1 Ot.ty HO.out rfl rfl rfl rfl (by first | ((try simp only [hq.1]) <;> rfl) | fail) ?_ | refine Ow.l0 Ot.ty HO.out rfl rfl rfl rfl (by first | ((try simp only [hq.1]) <;> rfl) | fail) ?_ | refine Ow.lp Ot.ty HO.out rfl rfl rfl rfl (by first | ((try simp only [hq.1]) <;> rfl) | fail) ?_)) | ((with_reducible refine gate_store rfl ?_); (try (refine gate_guard (by rfl) ?_; dsimp only)); (first | refine Ow.s0 Ot.ty HO.out rfl rfl rfl rfl rfl (by first | exact Ow.ev_tmp rfl | rfl) (by first | (refine ⟨?_, ?_, ?_⟩ <;> (first | ((try simp only [hq.1]) <;> rfl) | fail)) | fail) ?_ | refine Ow.sp Ot.ty HO.out rfl rfl rfl rfl rfl (by first | exact Ow.ev_tmp rfl | rfl) (by first | (refine ⟨?_, ?_, ?_⟩ <;> (first | ((try simp only [hq.1]) <;> rfl) | fail)) | fail) ?_); clear HO; intro wz_ HO; simp only [List.set_cons_zero, List.set_cons_succ] at HO))
            all_goals go_ret
            all_goals exact ⟨by first | rfl | (simp only [hq.1]; done) | (simp only [hq.1]; rfl) | (simp [errW_none, errW_some] <;> rfl) | (simp [*, errW_none, errW_some] <;> rfl), Ow.Own.below HO.out⟩
      · rw [if_neg c11] at H
        have c11b0 : (t559 == t560) = false := by simpa using c11
        (try (have c11b1 : decide (t559 = t560) = false := by simpa using c11))
        (try (have c11b2 : (t559 == t560) = false := by simpa using c11))
        (try (have c11b3 : ¬ (t559 = t560) := by simpa using c11))
        clear c11
        exact absurd H (by simp)
    · rw [if_neg c8] at H
      have c8b0 : (t557 == t558) = false := by simpa using c8
      (try (have c8b1 : decide (t557 = t558) = false := by simpa using c8))
      (try (have c8b2 : (t557 == t558) = false := by simpa using c8))
      (try (have c8b3 : ¬ (t557 = t558) := by simpa using c8))
      clear c8
      exact absurd H (by simp)
  · rw [if_neg c5] at H
    have c5b0 : (t527.toList == t542.toList && ((t528.toList == t543.toList && (t529.toList == t544.toList && (t530.toList == t545.toList && (t531 == t546 && (t532 == t547 && (t533 == t548 && (t534 == t549))))))) && (t535 == t550 && ((t536 == t551 && (t537 == t552 && (t538.toList == t553.toList && (t539.toList == t554.toList && (t540.toList == t555.toList && (t541 == t556)))))))))) = false := by simpa using c5
    (try (have c5b1 : decide (t527.toList = t542.toList && ((t528.toList == t543.toList && (t529.toList == t544.toList && (t530.toList == t545.toList && (t531 == t546 && (t532 == t547 && (t533 == t548 && (t534 == t549))))))) && (t535 == t550 && ((t536 == t551 && (t537 == t552 && (t538.toList == t553.toList && (t539.toList == t554.toList && (t540.toList == t555.toList && (t541 == t556)))))))))) = false := by simpa using c5))
    (try (have c5b2 : (t527.toList == t542.toList && ((t528.toList == t543.toList && (t529.toList == t544.toList && (t530.toList == t545.toList && (t531 == t546 && (t532 == t547 && (t533 == t548 && (t534 == t549))))))) && (t535 == t550 && ((t536 == t551 && (t537 == t552 && (t538.toList == t553.toList && (t539.toList == t554.toList && (t540.toList == t555.toList && (t541 == t556)))))))))) = false := by simpa using c5))
    (try (have c5b3 : ¬ (t527.toList = t542.toList && ((t528.toList == t543.toList && (t529.toList == t544.toList && (t530.toList == t545.toList && (t531 == t546 && (t532 == t547 && (t533 == t548 && (t534 == t549))))))) && (t535 == t550 && ((t536 == t551 && (t537 == t552 && (t538.toList == t553.toList && (t539.toList == t554.toList && (t540.toList == t555.toList && (t541 == t556)))))))))) := by simpa using c5))
    (try (have c5b4 : ((t527.toList = t542.toList ∧ ((t528.toList = t543.toList ∧ (t529.toList = t544.toList ∧ (t530.toList = t545.toList ∧ (t531 = t546 ∧ (t532 = t547 ∧ (t533 = t548 ∧ (t534 = t549))))))) ∧ (t535 = t550 ∧ ((t536 = t551 ∧ (t537 = t552 ∧ (t538.toList = t553.toList ∧ (t539.toList = t554.toList ∧ (t540.toList = t555.toList ∧ (t541 = t556)))))))))) = False) := eq_false (by first | (simpa using c5; done) | (intro h_; have g_ := c5; simp [h_] at g_; done) | (have g_ := c5; simp at g_; exact g_))))
    clear c5
    exact absurd H (by simp)

end Go.Proofs.Ytddlmcaclbkopaa.XAU
