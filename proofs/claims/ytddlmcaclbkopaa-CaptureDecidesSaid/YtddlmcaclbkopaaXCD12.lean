-- Written by wip/xprint.py, a session's program: printed out of the translation, with hand-written functions. Lean checks it.
import Derived.Test.YtddlmcaclbkopaaXCD0
import Derived.Test.YtddlmcaclbkopaaXCD1
import Derived.Test.YtddlmcaclbkopaaXCD2
import Derived.Test.YtddlmcaclbkopaaXCD8
import Derived.Test.YtddlmcaclbkopaaXCD11
namespace Go.Proofs.Ytddlmcaclbkopaa.XCD
open Go.RowKit Go.Proofs.YtddlmcaclbkopaaW.PrintWords Go.Proofs.YtddlmcaclbkopaaW.PrintLast Go.Proofs.YtddlmcaclbkopaaW.PrintMore
attribute [local go_sem] max2_int min2_int max_two min_two max_three min_three max_four min_four   -- for this text's walks alone
set_option linter.unusedVariables false
set_option linter.unusedSimpArgs false

attribute [local go_sem high] eqA53
/-! ### bursarlaw23_awake: function 29 -/
def bursarlaw23_awake.f (k : Nat)  : Option (Bool) := (bursarlaw23_some.f 30 (⟨#[48, 49, 48, 48, 48, 48]⟩ : ByteArray)).bind fun bt394 => ((capture_Capture.f k bt394.1 bt394.2.1 bt394.2.2.1 bt394.2.2.2.1 bt394.2.2.2.2.1 bt394.2.2.2.2.2.1 bt394.2.2.2.2.2.2.1 bt394.2.2.2.2.2.2.2.1 bt394.2.2.2.2.2.2.2.2.1 bt394.2.2.2.2.2.2.2.2.2.1 bt394.2.2.2.2.2.2.2.2.2.2.1 bt394.2.2.2.2.2.2.2.2.2.2.2.1 bt394.2.2.2.2.2.2.2.2.2.2.2.2.1 bt394.2.2.2.2.2.2.2.2.2.2.2.2.2.1 bt394.2.2.2.2.2.2.2.2.2.2.2.2.2.2.1 bt394.2.2.2.2.2.2.2.2.2.2.2.2.2.2.2.1 bt394.2.2.2.2.2.2.2.2.2.2.2.2.2.2.2.2.1 bt394.2.2.2.2.2.2.2.2.2.2.2.2.2.2.2.2.2.1 bt394.2.2.2.2.2.2.2.2.2.2.2.2.2.2.2.2.2.2.1 bt394.2.2.2.2.2.2.2.2.2.2.2.2.2.2.2.2.2.2.2.1 bt394.2.2.2.2.2.2.2.2.2.2.2.2.2.2.2.2.2.2.2.2.1 bt394.2.2.2.2.2.2.2.2.2.2.2.2.2.2.2.2.2.2.2.2.2.1 bt394.2.2.2.2.2.2.2.2.2.2.2.2.2.2.2.2.2.2.2.2.2.2.1 bt394.2.2.2.2.2.2.2.2.2.2.2.2.2.2.2.2.2.2.2.2.2.2.2.1 bt394.2.2.2.2.2.2.2.2.2.2.2.2.2.2.2.2.2.2.2.2.2.2.2.2).bind fun bt419 => ((bursarlaw23_some.f 101 (⟨#[48, 48, 48, 48, 48, 48]⟩ : ByteArray)).bind fun bt435 => ((capture_Capture.f k bt435.1 bt435.2.1 bt435.2.2.1 bt435.2.2.2.1 bt435.2.2.2.2.1 bt435.2.2.2.2.2.1 bt435.2.2.2.2.2.2.1 bt435.2.2.2.2.2.2.2.1 bt435.2.2.2.2.2.2.2.2.1 bt435.2.2.2.2.2.2.2.2.2.1 bt435.2.2.2.2.2.2.2.2.2.2.1 bt435.2.2.2.2.2.2.2.2.2.2.2.1 bt435.2.2.2.2.2.2.2.2.2.2.2.2.1 bt435.2.2.2.2.2.2.2.2.2.2.2.2.2.1 bt435.2.2.2.2.2.2.2.2.2.2.2.2.2.2.1 bt435.2.2.2.2.2.2.2.2.2.2.2.2.2.2.2.1 bt435.2.2.2.2.2.2.2.2.2.2.2.2.2.2.2.2.1 bt435.2.2.2.2.2.2.2.2.2.2.2.2.2.2.2.2.2.1 bt435.2.2.2.2.2.2.2.2.2.2.2.2.2.2.2.2.2.2.1 bt435.2.2.2.2.2.2.2.2.2.2.2.2.2.2.2.2.2.2.2.1 bt435.2.2.2.2.2.2.2.2.2.2.2.2.2.2.2.2.2.2.2.2.1 bt435.2.2.2.2.2.2.2.2.2.2.2.2.2.2.2.2.2.2.2.2.2.1 bt435.2.2.2.2.2.2.2.2.2.2.2.2.2.2.2.2.2.2.2.2.2.2.1 bt435.2.2.2.2.2.2.2.2.2.2.2.2.2.2.2.2.2.2.2.2.2.2.2.1 bt435.2.2.2.2.2.2.2.2.2.2.2.2.2.2.2.2.2.2.2.2.2.2.2.2).bind fun bt460 => ((bursarlaw23_some.f 30 (⟨#[48, 48, 48, 48, 48, 48]⟩ : ByteArray)).bind fun bt476 => ((capture_Capture.f k bt476.1 bt476.2.1 bt476.2.2.1 bt476.2.2.2.1 bt476.2.2.2.2.1 bt476.2.2.2.2.2.1 bt476.2.2.2.2.2.2.1 bt476.2.2.2.2.2.2.2.1 bt476.2.2.2.2.2.2.2.2.1 bt476.2.2.2.2.2.2.2.2.2.1 bt476.2.2.2.2.2.2.2.2.2.2.1 bt476.2.2.2.2.2.2.2.2.2.2.2.1 bt476.2.2.2.2.2.2.2.2.2.2.2.2.1 50 bt476.2.2.2.2.2.2.2.2.2.2.2.2.2.2.1 bt476.2.2.2.2.2.2.2.2.2.2.2.2.2.2.2.1 bt476.2.2.2.2.2.2.2.2.2.2.2.2.2.2.2.2.1 bt476.2.2.2.2.2.2.2.2.2.2.2.2.2.2.2.2.2.1 bt476.2.2.2.2.2.2.2.2.2.2.2.2.2.2.2.2.2.2.1 bt476.2.2.2.2.2.2.2.2.2.2.2.2.2.2.2.2.2.2.2.1 bt476.2.2.2.2.2.2.2.2.2.2.2.2.2.2.2.2.2.2.2.2.1 false bt476.2.2.2.2.2.2.2.2.2.2.2.2.2.2.2.2.2.2.2.2.2.2.1 bt476.2.2.2.2.2.2.2.2.2.2.2.2.2.2.2.2.2.2.2.2.2.2.2.1 bt476.2.2.2.2.2.2.2.2.2.2.2.2.2.2.2.2.2.2.2.2.2.2.2.2).bind fun bt502 => (if bt419.1.toList = ([48, 48] : List UInt8) then (if bt419.2.2.2.2.2.2.2.2.1 = true then (if bt419.2.2.2.2.2.1 = 30 then (if bt419.2.2.2.2.2.2.2.1 = true then (if bt419.2.2.2.2.2.2.2.2.2.2.2.2.2.2 = 30 then (if bt460.1.toList = ([54, 49] : List UInt8) then (if bt502.1.toList = ([48, 48] : List UInt8) then (if bt502.2.2.2.2.2.2.2.2.1 = true then (none) else (some (bt502.2.2.2.2.2.2.2.2.2.1 == 2))) else (none)) else (none)) else (none)) else (none)) else (none)) else (none)) else (none)))))))
theorem bursarlaw23_awake.mono : ∀ k, LeO (bursarlaw23_awake.f k ) (bursarlaw23_awake.f (k + 1) ) := by
  intro  k
  unfold bursarlaw23_awake.f
  repeat' first
      | (with_reducible exact capture_Capture.mono _ _ _ _ _ _ _ _ _ _ _ _ _ _ _ _ _ _ _ _ _ _ _ _ _ _)
      | (with_reducible exact LeO.refl _)
      | (with_reducible exact LeO.none _)
      | (with_reducible refine LeO.ite ?_ ?_)
      | (with_reducible refine LeO.bind ?_ (fun _ => ?_))
      | exact capture_Capture.mono _ _ _ _ _ _ _ _ _ _ _ _ _ _ _ _ _ _ _ _ _ _ _ _ _ _
      | exact LeO.none _
      | refine LeO.ite ?_ ?_
      | refine LeO.bind ?_ (fun _ => ?_)
def bursarlaw23_awake.Z15 : Array Value := #[.string (⟨#[]⟩ : ByteArray), .string (⟨#[]⟩ : ByteArray), .string (⟨#[]⟩ : ByteArray), .string (⟨#[]⟩ : ByteArray), .int .i64 0, .int .i64 0, .int .i64 0, .bool false, .bool false, .int .i64 0, .int .i64 0, .string (⟨#[]⟩ : ByteArray), .string (⟨#[]⟩ : ByteArray), .string (⟨#[]⟩ : ByteArray), .int .i64 0]
def bursarlaw23_awake.Z25 : Array Value := #[.string (⟨#[]⟩ : ByteArray), .string (⟨#[]⟩ : ByteArray), .string (⟨#[]⟩ : ByteArray), .int .i64 0, .string (⟨#[]⟩ : ByteArray), .string (⟨#[]⟩ : ByteArray), .string (⟨#[]⟩ : ByteArray), .string (⟨#[]⟩ : ByteArray), .string (⟨#[]⟩ : ByteArray), .int .i64 0, .int .i64 0, .string (⟨#[]⟩ : ByteArray), .bool false, .int .i64 0, .string (⟨#[]⟩ : ByteArray), .string (⟨#[]⟩ : ByteArray), .string (⟨#[]⟩ : ByteArray), .int .i64 0, .int .i64 0, .int .i64 0, .bool false, .bool false, .int .i64 0, .int .i64 0, .bool false]
set_option maxHeartbeats 8000000 in
set_option maxRecDepth 100000 in
theorem bursarlaw23_awake.calls (k : Nat)  (r : Bool) (w : World) (h : bursarlaw23_awake.f k  = some r) :
    Calls Try.prog 29 #[] w fun e w' => e = .returned (.bool r) ∧ Below w.heap.size w w' := by
  have hu53 := Try.underlying53
  have hu27 := Try.underlying27
  have HO := Aside0.mk (Ow.Own.nil w)
  have hmf : ∀ (fn : Fn) (first cap : Array Value) (w : World), (Instr.makeFunc fn first cap).run Try.prog w = .ok (.func fn first cap) w := fun _ _ _ _ => rfl
  have H : ((bursarlaw23_some.f 30 (⟨#[48, 49, 48, 48, 48, 48]⟩ : ByteArray)).bind fun bt394 => ((capture_Capture.f k bt394.1 bt394.2.1 bt394.2.2.1 bt394.2.2.2.1 bt394.2.2.2.2.1 bt394.2.2.2.2.2.1 bt394.2.2.2.2.2.2.1 bt394.2.2.2.2.2.2.2.1 bt394.2.2.2.2.2.2.2.2.1 bt394.2.2.2.2.2.2.2.2.2.1 bt394.2.2.2.2.2.2.2.2.2.2.1 bt394.2.2.2.2.2.2.2.2.2.2.2.1 bt394.2.2.2.2.2.2.2.2.2.2.2.2.1 bt394.2.2.2.2.2.2.2.2.2.2.2.2.2.1 bt394.2.2.2.2.2.2.2.2.2.2.2.2.2.2.1 bt394.2.2.2.2.2.2.2.2.2.2.2.2.2.2.2.1 bt394.2.2.2.2.2.2.2.2.2.2.2.2.2.2.2.2.1 bt394.2.2.2.2.2.2.2.2.2.2.2.2.2.2.2.2.2.1 bt394.2.2.2.2.2.2.2.2.2.2.2.2.2.2.2.2.2.2.1 bt394.2.2.2.2.2.2.2.2.2.2.2.2.2.2.2.2.2.2.2.1 bt394.2.2.2.2.2.2.2.2.2.2.2.2.2.2.2.2.2.2.2.2.1 bt394.2.2.2.2.2.2.2.2.2.2.2.2.2.2.2.2.2.2.2.2.2.1 bt394.2.2.2.2.2.2.2.2.2.2.2.2.2.2.2.2.2.2.2.2.2.2.1 bt394.2.2.2.2.2.2.2.2.2.2.2.2.2.2.2.2.2.2.2.2.2.2.2.1 bt394.2.2.2.2.2.2.2.2.2.2.2.2.2.2.2.2.2.2.2.2.2.2.2.2).bind fun bt419 => ((bursarlaw23_some.f 101 (⟨#[48, 48, 48, 48, 48, 48]⟩ : ByteArray)).bind fun bt435 => ((capture_Capture.f k bt435.1 bt435.2.1 bt435.2.2.1 bt435.2.2.2.1 bt435.2.2.2.2.1 bt435.2.2.2.2.2.1 bt435.2.2.2.2.2.2.1 bt435.2.2.2.2.2.2.2.1 bt435.2.2.2.2.2.2.2.2.1 bt435.2.2.2.2.2.2.2.2.2.1 bt435.2.2.2.2.2.2.2.2.2.2.1 bt435.2.2.2.2.2.2.2.2.2.2.2.1 bt435.2.2.2.2.2.2.2.2.2.2.2.2.1 bt435.2.2.2.2.2.2.2.2.2.2.2.2.2.1 bt435.2.2.2.2.2.2.2.2.2.2.2.2.2.2.1 bt435.2.2.2.2.2.2.2.2.2.2.2.2.2.2.2.1 bt435.2.2.2.2.2.2.2.2.2.2.2.2.2.2.2.2.1 bt435.2.2.2.2.2.2.2.2.2.2.2.2.2.2.2.2.2.1 bt435.2.2.2.2.2.2.2.2.2.2.2.2.2.2.2.2.2.2.1 bt435.2.2.2.2.2.2.2.2.2.2.2.2.2.2.2.2.2.2.2.1 bt435.2.2.2.2.2.2.2.2.2.2.2.2.2.2.2.2.2.2.2.2.1 bt435.2.2.2.2.2.2.2.2.2.2.2.2.2.2.2.2.2.2.2.2.2.1 bt435.2.2.2.2.2.2.2.2.2.2.2.2.2.2.2.2.2.2.2.2.2.2.1 bt435.2.2.2.2.2.2.2.2.2.2.2.2.2.2.2.2.2.2.2.2.2.2.2.1 bt435.2.2.2.2.2.2.2.2.2.2.2.2.2.2.2.2.2.2.2.2.2.2.2.2).bind fun bt460 => ((bursarlaw23_some.f 30 (⟨#[48, 48, 48, 48, 48, 48]⟩ : ByteArray)).bind fun bt476 => ((capture_Capture.f k bt476.1 bt476.2.1 bt476.2.2.1 bt476.2.2.2.1 bt476.2.2.2.2.1 bt476.2.2.2.2.2.1 bt476.2.2.2.2.2.2.1 bt476.2.2.2.2.2.2.2.1 bt476.2.2.2.2.2.2.2.2.1 bt476.2.2.2.2.2.2.2.2.2.1 bt476.2.2.2.2.2.2.2.2.2.2.1 bt476.2.2.2.2.2.2.2.2.2.2.2.1 bt476.2.2.2.2.2.2.2.2.2.2.2.2.1 50 bt476.2.2.2.2.2.2.2.2.2.2.2.2.2.2.1 bt476.2.2.2.2.2.2.2.2.2.2.2.2.2.2.2.1 bt476.2.2.2.2.2.2.2.2.2.2.2.2.2.2.2.2.1 bt476.2.2.2.2.2.2.2.2.2.2.2.2.2.2.2.2.2.1 bt476.2.2.2.2.2.2.2.2.2.2.2.2.2.2.2.2.2.2.1 bt476.2.2.2.2.2.2.2.2.2.2.2.2.2.2.2.2.2.2.2.1 bt476.2.2.2.2.2.2.2.2.2.2.2.2.2.2.2.2.2.2.2.2.1 false bt476.2.2.2.2.2.2.2.2.2.2.2.2.2.2.2.2.2.2.2.2.2.2.1 bt476.2.2.2.2.2.2.2.2.2.2.2.2.2.2.2.2.2.2.2.2.2.2.2.1 bt476.2.2.2.2.2.2.2.2.2.2.2.2.2.2.2.2.2.2.2.2.2.2.2.2).bind fun bt502 => (if bt419.1.toList = ([48, 48] : List UInt8) then (if bt419.2.2.2.2.2.2.2.2.1 = true then (if bt419.2.2.2.2.2.1 = 30 then (if bt419.2.2.2.2.2.2.2.1 = true then (if bt419.2.2.2.2.2.2.2.2.2.2.2.2.2.2 = 30 then (if bt460.1.toList = ([54, 49] : List UInt8) then (if bt502.1.toList = ([48, 48] : List UInt8) then (if bt502.2.2.2.2.2.2.2.2.1 = true then (none) else (some (bt502.2.2.2.2.2.2.2.2.2.1 == 2))) else (none)) else (none)) else (none)) else (none)) else (none)) else (none)) else (none)))))))) = some r := h
  clear h
  replace H := Option.bind_eq_some_iff.mp H
  obtain ⟨⟨t394, t395, t396, t397, t398, t399, t400, t401, t402, t403, t404, t405, t406, t407, t408, t409, t410, t411, t412, t413, t414, t415, t416, t417, t418⟩, A10, H⟩ := H
  replace H : ((capture_Capture.f k t394 t395 t396 t397 t398 t399 t400 t401 t402 t403 t404 t405 t406 t407 t408 t409 t410 t411 t412 t413 t414 t415 t416 t417 t418).bind fun bt419 => ((bursarlaw23_some.f 101 (⟨#[48, 48, 48, 48, 48, 48]⟩ : ByteArray)).bind fun bt435 => ((capture_Capture.f k bt435.1 bt435.2.1 bt435.2.2.1 bt435.2.2.2.1 bt435.2.2.2.2.1 bt435.2.2.2.2.2.1 bt435.2.2.2.2.2.2.1 bt435.2.2.2.2.2.2.2.1 bt435.2.2.2.2.2.2.2.2.1 bt435.2.2.2.2.2.2.2.2.2.1 bt435.2.2.2.2.2.2.2.2.2.2.1 bt435.2.2.2.2.2.2.2.2.2.2.2.1 bt435.2.2.2.2.2.2.2.2.2.2.2.2.1 bt435.2.2.2.2.2.2.2.2.2.2.2.2.2.1 bt435.2.2.2.2.2.2.2.2.2.2.2.2.2.2.1 bt435.2.2.2.2.2.2.2.2.2.2.2.2.2.2.2.1 bt435.2.2.2.2.2.2.2.2.2.2.2.2.2.2.2.2.1 bt435.2.2.2.2.2.2.2.2.2.2.2.2.2.2.2.2.2.1 bt435.2.2.2.2.2.2.2.2.2.2.2.2.2.2.2.2.2.2.1 bt435.2.2.2.2.2.2.2.2.2.2.2.2.2.2.2.2.2.2.2.1 bt435.2.2.2.2.2.2.2.2.2.2.2.2.2.2.2.2.2.2.2.2.1 bt435.2.2.2.2.2.2.2.2.2.2.2.2.2.2.2.2.2.2.2.2.2.1 bt435.2.2.2.2.2.2.2.2.2.2.2.2.2.2.2.2.2.2.2.2.2.2.1 bt435.2.2.2.2.2.2.2.2.2.2.2.2.2.2.2.2.2.2.2.2.2.2.2.1 bt435.2.2.2.2.2.2.2.2.2.2.2.2.2.2.2.2.2.2.2.2.2.2.2.2).bind fun bt460 => ((bursarlaw23_some.f 30 (⟨#[48, 48, 48, 48, 48, 48]⟩ : ByteArray)).bind fun bt476 => ((capture_Capture.f k bt476.1 bt476.2.1 bt476.2.2.1 bt476.2.2.2.1 bt476.2.2.2.2.1 bt476.2.2.2.2.2.1 bt476.2.2.2.2.2.2.1 bt476.2.2.2.2.2.2.2.1 bt476.2.2.2.2.2.2.2.2.1 bt476.2.2.2.2.2.2.2.2.2.1 bt476.2.2.2.2.2.2.2.2.2.2.1 bt476.2.2.2.2.2.2.2.2.2.2.2.1 bt476.2.2.2.2.2.2.2.2.2.2.2.2.1 50 bt476.2.2.2.2.2.2.2.2.2.2.2.2.2.2.1 bt476.2.2.2.2.2.2.2.2.2.2.2.2.2.2.2.1 bt476.2.2.2.2.2.2.2.2.2.2.2.2.2.2.2.2.1 bt476.2.2.2.2.2.2.2.2.2.2.2.2.2.2.2.2.2.1 bt476.2.2.2.2.2.2.2.2.2.2.2.2.2.2.2.2.2.2.1 bt476.2.2.2.2.2.2.2.2.2.2.2.2.2.2.2.2.2.2.2.1 bt476.2.2.2.2.2.2.2.2.2.2.2.2.2.2.2.2.2.2.2.2.1 false bt476.2.2.2.2.2.2.2.2.2.2.2.2.2.2.2.2.2.2.2.2.2.2.1 bt476.2.2.2.2.2.2.2.2.2.2.2.2.2.2.2.2.2.2.2.2.2.2.2.1 bt476.2.2.2.2.2.2.2.2.2.2.2.2.2.2.2.2.2.2.2.2.2.2.2.2).bind fun bt502 => (if bt419.1.toList = ([48, 48] : List UInt8) then (if bt419.2.2.2.2.2.2.2.2.1 = true then (if bt419.2.2.2.2.2.1 = 30 then (if bt419.2.2.2.2.2.2.2.1 = true then (if bt419.2.2.2.2.2.2.2.2.2.2.2.2.2.2 = 30 then (if bt460.1.toList = ([54, 49] : List UInt8) then (if bt502.1.toList = ([48, 48] : List UInt8) then (if bt502.2.2.2.2.2.2.2.2.1 = true then (none) else (some (bt502.2.2.2.2.2.2.2.2.2.1 == 2))) else (none)) else (none)) else (none)) else (none)) else (none)) else (none)) else (none))))))) = some r := H
  have A1 := Aside0.mk A10
  clear A10
  replace H := Option.bind_eq_some_iff.mp H
  obtain ⟨⟨t419, t420, t421, t422, t423, t424, t425, t426, t427, t428, t429, t430, t431, t432, t433⟩, A20, H⟩ := H
  replace H : ((bursarlaw23_some.f 101 (⟨#[48, 48, 48, 48, 48, 48]⟩ : ByteArray)).bind fun bt435 => ((capture_Capture.f k bt435.1 bt435.2.1 bt435.2.2.1 bt435.2.2.2.1 bt435.2.2.2.2.1 bt435.2.2.2.2.2.1 bt435.2.2.2.2.2.2.1 bt435.2.2.2.2.2.2.2.1 bt435.2.2.2.2.2.2.2.2.1 bt435.2.2.2.2.2.2.2.2.2.1 bt435.2.2.2.2.2.2.2.2.2.2.1 bt435.2.2.2.2.2.2.2.2.2.2.2.1 bt435.2.2.2.2.2.2.2.2.2.2.2.2.1 bt435.2.2.2.2.2.2.2.2.2.2.2.2.2.1 bt435.2.2.2.2.2.2.2.2.2.2.2.2.2.2.1 bt435.2.2.2.2.2.2.2.2.2.2.2.2.2.2.2.1 bt435.2.2.2.2.2.2.2.2.2.2.2.2.2.2.2.2.1 bt435.2.2.2.2.2.2.2.2.2.2.2.2.2.2.2.2.2.1 bt435.2.2.2.2.2.2.2.2.2.2.2.2.2.2.2.2.2.2.1 bt435.2.2.2.2.2.2.2.2.2.2.2.2.2.2.2.2.2.2.2.1 bt435.2.2.2.2.2.2.2.2.2.2.2.2.2.2.2.2.2.2.2.2.1 bt435.2.2.2.2.2.2.2.2.2.2.2.2.2.2.2.2.2.2.2.2.2.1 bt435.2.2.2.2.2.2.2.2.2.2.2.2.2.2.2.2.2.2.2.2.2.2.1 bt435.2.2.2.2.2.2.2.2.2.2.2.2.2.2.2.2.2.2.2.2.2.2.2.1 bt435.2.2.2.2.2.2.2.2.2.2.2.2.2.2.2.2.2.2.2.2.2.2.2.2).bind fun bt460 => ((bursarlaw23_some.f 30 (⟨#[48, 48, 48, 48, 48, 48]⟩ : ByteArray)).bind fun bt476 => ((capture_Capture.f k bt476.1 bt476.2.1 bt476.2.2.1 bt476.2.2.2.1 bt476.2.2.2.2.1 bt476.2.2.2.2.2.1 bt476.2.2.2.2.2.2.1 bt476.2.2.2.2.2.2.2.1 bt476.2.2.2.2.2.2.2.2.1 bt476.2.2.2.2.2.2.2.2.2.1 bt476.2.2.2.2.2.2.2.2.2.2.1 bt476.2.2.2.2.2.2.2.2.2.2.2.1 bt476.2.2.2.2.2.2.2.2.2.2.2.2.1 50 bt476.2.2.2.2.2.2.2.2.2.2.2.2.2.2.1 bt476.2.2.2.2.2.2.2.2.2.2.2.2.2.2.2.1 bt476.2.2.2.2.2.2.2.2.2.2.2.2.2.2.2.2.1 bt476.2.2.2.2.2.2.2.2.2.2.2.2.2.2.2.2.2.1 bt476.2.2.2.2.2.2.2.2.2.2.2.2.2.2.2.2.2.2.1 bt476.2.2.2.2.2.2.2.2.2.2.2.2.2.2.2.2.2.2.2.1 bt476.2.2.2.2.2.2.2.2.2.2.2.2.2.2.2.2.2.2.2.2.1 false bt476.2.2.2.2.2.2.2.2.2.2.2.2.2.2.2.2.2.2.2.2.2.2.1 bt476.2.2.2.2.2.2.2.2.2.2.2.2.2.2.2.2.2.2.2.2.2.2.2.1 bt476.2.2.2.2.2.2.2.2.2.2.2.2.2.2.2.2.2.2.2.2.2.2.2.2).bind fun bt502 => (if t419.toList = ([48, 48] : List UInt8) then (if t427 = true then (if t424 = 30 then (if t426 = true then (if t433 = 30 then (if bt460.1.toList = ([54, 49] : List UInt8) then (if bt502.1.toList = ([48, 48] : List UInt8) then (if bt502.2.2.2.2.2.2.2.2.1 = true then (none) else (some (bt502.2.2.2.2.2.2.2.2.2.1 == 2))) else (none)) else (none)) else (none)) else (none)) else (none)) else (none)) else (none)))))) = some r := H
  have A2 := Aside0.mk A20
  clear A20
  replace H := Option.bind_eq_some_iff.mp H
  obtain ⟨⟨t435, t436, t437, t438, t439, t440, t441, t442, t443, t444, t445, t446, t447, t448, t449, t450, t451, t452, t453, t454, t455, t456, t457, t458, t459⟩, A30, H⟩ := H
  replace H : ((capture_Capture.f k t435 t436 t437 t438 t439 t440 t441 t442 t443 t444 t445 t446 t447 t448 t449 t450 t451 t452 t453 t454 t455 t456 t457 t458 t459).bind fun bt460 => ((bursarlaw23_some.f 30 (⟨#[48, 48, 48, 48, 48, 48]⟩ : ByteArray)).bind fun bt476 => ((capture_Capture.f k bt476.1 bt476.2.1 bt476.2.2.1 bt476.2.2.2.1 bt476.2.2.2.2.1 bt476.2.2.2.2.2.1 bt476.2.2.2.2.2.2.1 bt476.2.2.2.2.2.2.2.1 bt476.2.2.2.2.2.2.2.2.1 bt476.2.2.2.2.2.2.2.2.2.1 bt476.2.2.2.2.2.2.2.2.2.2.1 bt476.2.2.2.2.2.2.2.2.2.2.2.1 bt476.2.2.2.2.2.2.2.2.2.2.2.2.1 50 bt476.2.2.2.2.2.2.2.2.2.2.2.2.2.2.1 bt476.2.2.2.2.2.2.2.2.2.2.2.2.2.2.2.1 bt476.2.2.2.2.2.2.2.2.2.2.2.2.2.2.2.2.1 bt476.2.2.2.2.2.2.2.2.2.2.2.2.2.2.2.2.2.1 bt476.2.2.2.2.2.2.2.2.2.2.2.2.2.2.2.2.2.2.1 bt476.2.2.2.2.2.2.2.2.2.2.2.2.2.2.2.2.2.2.2.1 bt476.2.2.2.2.2.2.2.2.2.2.2.2.2.2.2.2.2.2.2.2.1 false bt476.2.2.2.2.2.2.2.2.2.2.2.2.2.2.2.2.2.2.2.2.2.2.1 bt476.2.2.2.2.2.2.2.2.2.2.2.2.2.2.2.2.2.2.2.2.2.2.2.1 bt476.2.2.2.2.2.2.2.2.2.2.2.2.2.2.2.2.2.2.2.2.2.2.2.2).bind fun bt502 => (if t419.toList = ([48, 48] : List UInt8) then (if t427 = true then (if t424 = 30 then (if t426 = true then (if t433 = 30 then (if bt460.1.toList = ([54, 49] : List UInt8) then (if bt502.1.toList = ([48, 48] : List UInt8) then (if bt502.2.2.2.2.2.2.2.2.1 = true then (none) else (some (bt502.2.2.2.2.2.2.2.2.2.1 == 2))) else (none)) else (none)) else (none)) else (none)) else (none)) else (none)) else (none))))) = some r := H
  have A3 := Aside0.mk A30
  clear A30
  replace H := Option.bind_eq_some_iff.mp H
  obtain ⟨⟨t460, t461, t462, t463, t464, t465, t466, t467, t468, t469, t470, t471, t472, t473, t474⟩, A40, H⟩ := H
  replace H : ((bursarlaw23_some.f 30 (⟨#[48, 48, 48, 48, 48, 48]⟩ : ByteArray)).bind fun bt476 => ((capture_Capture.f k bt476.1 bt476.2.1 bt476.2.2.1 bt476.2.2.2.1 bt476.2.2.2.2.1 bt476.2.2.2.2.2.1 bt476.2.2.2.2.2.2.1 bt476.2.2.2.2.2.2.2.1 bt476.2.2.2.2.2.2.2.2.1 bt476.2.2.2.2.2.2.2.2.2.1 bt476.2.2.2.2.2.2.2.2.2.2.1 bt476.2.2.2.2.2.2.2.2.2.2.2.1 bt476.2.2.2.2.2.2.2.2.2.2.2.2.1 50 bt476.2.2.2.2.2.2.2.2.2.2.2.2.2.2.1 bt476.2.2.2.2.2.2.2.2.2.2.2.2.2.2.2.1 bt476.2.2.2.2.2.2.2.2.2.2.2.2.2.2.2.2.1 bt476.2.2.2.2.2.2.2.2.2.2.2.2.2.2.2.2.2.1 bt476.2.2.2.2.2.2.2.2.2.2.2.2.2.2.2.2.2.2.1 bt476.2.2.2.2.2.2.2.2.2.2.2.2.2.2.2.2.2.2.2.1 bt476.2.2.2.2.2.2.2.2.2.2.2.2.2.2.2.2.2.2.2.2.1 false bt476.2.2.2.2.2.2.2.2.2.2.2.2.2.2.2.2.2.2.2.2.2.2.1 bt476.2.2.2.2.2.2.2.2.2.2.2.2.2.2.2.2.2.2.2.2.2.2.2.1 bt476.2.2.2.2.2.2.2.2.2.2.2.2.2.2.2.2.2.2.2.2.2.2.2.2).bind fun bt502 => (if t419.toList = ([48, 48] : List UInt8) then (if t427 = true then (if t424 = 30 then (if t426 = true then (if t433 = 30 then (if t460.toList = ([54, 49] : List UInt8) then (if bt502.1.toList = ([48, 48] : List UInt8) then (if bt502.2.2.2.2.2.2.2.2.1 = true then (none) else (some (bt502.2.2.2.2.2.2.2.2.2.1 == 2))) else (none)) else (none)) else (none)) else (none)) else (none)) else (none)) else (none)))) = some r := H
  have A4 := Aside0.mk A40
  clear A40
  replace H := Option.bind_eq_some_iff.mp H
  obtain ⟨⟨t476, t477, t478, t479, t480, t481, t482, t483, t484, t485, t486, t487, t488, t489, t490, t491, t492, t493, t494, t495, t496, t497, t498, t499, t500⟩, A50, H⟩ := H
  replace H : ((capture_Capture.f k t476 t477 t478 t479 t480 t481 t482 t483 t484 t485 t486 t487 t488 50 t490 t491 t492 t493 t494 t495 t496 false t498 t499 t500).bind fun bt502 => (if t419.toList = ([48, 48] : List UInt8) then (if t427 = true then (if t424 = 30 then (if t426 = true then (if t433 = 30 then (if t460.toList = ([54, 49] : List UInt8) then (if bt502.1.toList = ([48, 48] : List UInt8) then (if bt502.2.2.2.2.2.2.2.2.1 = true then (none) else (some (bt502.2.2.2.2.2.2.2.2.2.1 == 2))) else (none)) else (none)) else (none)) else (none)) else (none)) else (none)) else (none))) = some r := H
  have A5 := Aside0.mk A50
  clear A50
  replace H := Option.bind_eq_some_iff.mp H
  obtain ⟨⟨t502, t503, t504, t505, t506, t507, t508, t509, t510, t511, t512, t513, t514, t515, t516⟩, A60, H⟩ := H
  replace H : (if t419.toList = ([48, 48] : List UInt8) then (if t427 = true then (if t424 = 30 then (if t426 = true then (if t433 = 30 then (if t460.toList = ([54, 49] : List UInt8) then (if t502.toList = ([48, 48] : List UInt8) then (if t510 = true then (none) else (some (t511 == 2))) else (none)) else (none)) else (none)) else (none)) else (none)) else (none)) else (none)) = some r := H
  have A6 := Aside0.mk A60
  clear A60
  by_cases c7 : t419.toList = ([48, 48] : List UInt8)
  · rw [if_pos c7] at H
    have c7b0 : (t419.toList == ([48, 48] : List UInt8)) = true := beq_iff_eq.mpr c7
    have c7b1 : (t419.toList != ([48, 48] : List UInt8)) = false := bne_eq_false_iff_eq.mpr c7
    clear c7
    by_cases c8 : t427 = true
    · subst c8
      have H1 : (if t424 = 30 then (if t426 = true then (if t433 = 30 then (if t460.toList = ([54, 49] : List UInt8) then (if t502.toList = ([48, 48] : List UInt8) then (if t510 = true then (none) else (some (t511 == 2))) else (none)) else (none)) else (none)) else (none)) else (none)) = some r := by rw [if_pos rfl] at H; exact H
      clear H
      have H := H1
      clear H1
      by_cases c9 : t424 = 30
      · rw [if_pos c9] at H
        have c9b0 : (t424 == 30) = true := beq_iff_eq.mpr c9
        have c9b1 : (t424 != 30) = false := bne_eq_false_iff_eq.mpr c9
        clear c9
        by_cases c10 : t426 = true
        · subst c10
          have H1 : (if t433 = 30 then (if t460.toList = ([54, 49] : List UInt8) then (if t502.toList = ([48, 48] : List UInt8) then (if t510 = true then (none) else (some (t511 == 2))) else (none)) else (none)) else (none)) = some r := by rw [if_pos rfl] at H; exact H
          clear H
          have H := H1
          clear H1
          by_cases c11 : t433 = 30
          · rw [if_pos c11] at H
            have c11b0 : (t433 == 30) = true := beq_iff_eq.mpr c11
            have c11b1 : (t433 != 30) = false := bne_eq_false_iff_eq.mpr c11
            clear c11
            by_cases c12 : t460.toList = ([54, 49] : List UInt8)
            · rw [if_pos c12] at H
              have c12b0 : (t460.toList == ([54, 49] : List UInt8)) = true := beq_iff_eq.mpr c12
              have c12b1 : (t460.toList != ([54, 49] : List UInt8)) = false := bne_eq_false_iff_eq.mpr c12
              clear c12
              by_cases c13 : t502.toList = ([48, 48] : List UInt8)
              · rw [if_pos c13] at H
                have c13b0 : (t502.toList == ([48, 48] : List UInt8)) = true := beq_iff_eq.mpr c13
                have c13b1 : (t502.toList != ([48, 48] : List UInt8)) = false := bne_eq_false_iff_eq.mpr c13
                clear c13
                by_cases c14 : t510 = true
                · subst c14
                  have H1 : (none) = some r := by rw [if_pos rfl] at H; exact H
                  clear H
                  have H := H1
                  clear H1
                  exact absurd H (by simp)
                · replace c14 := Bool.eq_false_iff.mpr c14
                  subst c14
                  have H1 : (some (t511 == 2)) = some r := by rw [if_neg (show ¬ (false = true) by decide)] at H; exact H
                  clear H
                  have H := H1
                  clear H1
                  obtain rfl := Option.some.inj H
                  go_enter Try.func29, Try.ntmps29
                  obtain ⟨Q0, hQ0_⟩ : ∃ q_ : Array Value, q_ = (#[.string t394, .string t395, .string t396, .int .i64 t397, .string t398, .string t399, .string t400, .string t401, .string t402, .int .i64 t403, .int .i64 t404, .string t405, .bool t406, .int .i64 t407, .string t408, .string t409, .string t410, .int .i64 t411, .int .i64 t412, .int .i64 t413, .bool t414, .bool t415, .int .i64 t416, .int .i64 t417, .bool t418] : Array Value) := ⟨_, rfl⟩
                  try rw [← hQ0_]
                  have hQ0 := Aside0.mk hQ0_; have hq := Aside0.mk hQ0_; clear hQ0_
                  obtain ⟨Q1, hQ1_⟩ : ∃ q_ : Array Value, q_ = (#[.string t419, .string t420, .string t421, .string t422, .int .i64 t423, .int .i64 t424, .int .i64 t425, .bool true, .bool true, .int .i64 t428, .int .i64 t429, .string t430, .string t431, .string t432, .int .i64 t433] : Array Value) := ⟨_, rfl⟩
                  try rw [← hQ1_]
                  have hQ1 := Aside0.mk hQ1_; replace hq := Aside0.mk (And.intro hQ1_ hq.1); clear hQ1_
                  obtain ⟨Q2, hQ2_⟩ : ∃ q_ : Array Value, q_ = (#[.string t435, .string t436, .string t437, .int .i64 t438, .string t439, .string t440, .string t441, .string t442, .string t443, .int .i64 t444, .int .i64 t445, .string t446, .bool t447, .int .i64 t448, .string t449, .string t450, .string t451, .int .i64 t452, .int .i64 t453, .int .i64 t454, .bool t455, .bool t456, .int .i64 t457, .int .i64 t458, .bool t459] : Array Value) := ⟨_, rfl⟩
                  try rw [← hQ2_]
                  have hQ2 := Aside0.mk hQ2_; replace hq := Aside0.mk (And.intro hQ2_ hq.1); clear hQ2_
                  obtain ⟨Q3, hQ3_⟩ : ∃ q_ : Array Value, q_ = (#[.string t460, .string t461, .string t462, .string t463, .int .i64 t464, .int .i64 t465, .int .i64 t466, .bool t467, .bool t468, .int .i64 t469, .int .i64 t470, .string t471, .string t472, .string t473, .int .i64 t474] : Array Value) := ⟨_, rfl⟩
                  try rw [← hQ3_]
                  have hQ3 := Aside0.mk hQ3_; replace hq := Aside0.mk (And.intro hQ3_ hq.1); clear hQ3_
                  obtain ⟨Q4, hQ4_⟩ : ∃ q_ : Array Value, q_ = (#[.string t476, .string t477, .string t478, .int .i64 t479, .string t480, .string t481, .string t482, .string t483, .string t484, .int .i64 t485, .int .i64 t486, .string t487, .bool t488, .int .i64 t489, .string t490, .string t491, .string t492, .int .i64 t493, .int .i64 t494, .int .i64 t495, .bool t496, .bool t497, .int .i64 t498, .int .i64 t499, .bool t500] : Array Value) := ⟨_, rfl⟩
                  try rw [← hQ4_]
                  have hQ4 := Aside0.mk hQ4_; replace hq := Aside0.mk (And.intro hQ4_ hq.1); clear hQ4_
                  obtain ⟨Q5, hQ5_⟩ : ∃ q_ : Array Value, q_ = (#[.string t502, .string t503, .string t504, .string t505, .int .i64 t506, .int .i64 t507, .int .i64 t508, .bool t509, .bool false, .int .i64 t511, .int .i64 t512, .string t513, .string t514, .string t515, .int .i64 t516] : Array Value) := ⟨_, rfl⟩
                  try rw [← hQ5_]
                  have hQ5 := Aside0.mk hQ5_; replace hq := Aside0.mk (And.intro hQ5_ hq.1); clear hQ5_
                  obtain ⟨Q6, hQ6_⟩ : ∃ q_ : Array Value, q_ = (#[.string t476, .string t477, .string t478, .int .i64 t479, .string t480, .string t481, .string t482, .string t483, .string t484, .int .i64 t485, .int .i64 t486, .string t487, .bool t488, .int .i64 50, .string t490, .string t491, .string t492, .int .i64 t493, .int .i64 t494, .int .i64 t495, .bool t496, .bool false, .int .i64 t498, .int .i64 t499, .bool t500] : Array Value) := ⟨_, rfl⟩
                  try rw [← hQ6_]
                  have hQ6 := Aside0.mk hQ6_; replace hq := Aside0.mk (And.intro hQ6_ hq.1); clear hQ6_
                  go_wp2_with (first | ((with_reducible refine gate_callee (f := 58) rfl ?_); refine goesL_ (some 5) rfl rfl Try.func58 (by kernel_rfl) rfl #[.int .i64 30, .string (⟨#[48, 49, 48, 48, 48, 48]⟩ : ByteArray)] rfl (by (try simp only [List.map_toArray, List.map_cons, List.map_nil]); first | done | rfl | (simp only [hq.1]; done) | (simp only [hq.1]; rfl)) ?_; refine Calls.mono (calls_of_args (by first | ((try simp only [hq.1]) <;> rfl) | fail) (bursarlaw23_some.calls 30 (⟨#[48, 49, 48, 48, 48, 48]⟩ : ByteArray) t394 t395 t396 t397 t398 t399 t400 t401 t402 t403 t404 t405 t406 t407 t408 t409 t410 t411 t412 t413 t414 t415 t416 t417 t418 _ A1.out)) ?_; rintro e w15 ⟨he_, hb⟩; (try rw [← hQ0.out] at he_); subst he_; refine ⟨_, rfl, ?_⟩; replace HO := Aside0.mk (Ow.Own.call HO.out hb); clear hb) | ((with_reducible refine gate_callee (f := 27) rfl ?_); refine goesL_ (some 6) rfl rfl Try.func27 (by kernel_rfl) rfl #[.agg Q0] rfl (by (try simp only [List.map_toArray, List.map_cons, List.map_nil]); first | done | rfl | (simp only [hq.1]; done) | (simp only [hq.1]; rfl)) ?_; refine Calls.mono (calls_of_args (by first | ((try simp only [hq.1]) <;> rfl) | fail) (capture_Capture.calls k t394 t395 t396 t397 t398 t399 t400 t401 t402 t403 t404 t405 t406 t407 t408 t409 t410 t411 t412 t413 t414 t415 t416 t417 t418 t419 t420 t421 t422 t423 t424 t425 true true t428 t429 t430 t431 t432 t433 _ A2.out)) ?_; rintro e w16 ⟨he_, hb⟩; (try rw [← hQ1.out] at he_); subst he_; refine ⟨_, rfl, ?_⟩; replace HO := Aside0.mk (Ow.Own.call HO.out hb); clear hb) | ((with_reducible refine gate_dst (N := 1) rfl ?_); refine Ow.box rfl (N := 1) rfl (cs := bursarlaw23_awake.Z15) (t := 53) HO.out (by first | (go_simp; done) | (go_simp; rfl)) ?_; clear HO; intro gb434 w17 HO; simp only [List.cons_append, List.nil_append] at HO) | ((with_reducible refine gate_callee (f := 58) rfl ?_); refine goesL_ (some 7) rfl rfl Try.func58 (by kernel_rfl) rfl #[.int .i64 101, .string (⟨#[48, 48, 48, 48, 48, 48]⟩ : ByteArray)] rfl (by (try simp only [List.map_toArray, List.map_cons, List.map_nil]); first | done | rfl | (simp only [hq.1]; done) | (simp only [hq.1]; rfl)) ?_; refine Calls.mono (calls_of_args (by first | ((try simp only [hq.1]) <;> rfl) | fail) (bursarlaw23_some.calls 101 (⟨#[48, 48, 48, 48, 48, 48]⟩ : ByteArray) t435 t436 t437 t438 t439 t440 t441 t442 t443 t444 t445 t446 t447 t448 t449 t450 t451 t452 t453 t454 t455 t456 t457 t458 t459 _ A3.out)) ?_; rintro e w20 ⟨he_, hb⟩; (try rw [← hQ2.out] at he_); subst he_; refine ⟨_, rfl, ?_⟩; replace HO := Aside0.mk (Ow.Own.call HO.out hb); clear hb) | ((with_reducible refine gate_callee (f := 27) rfl ?_); refine goesL_ (some 8) rfl rfl Try.func27 (by kernel_rfl) rfl #[.agg Q2] rfl (by (try simp only [List.map_toArray, List.map_cons, List.map_nil]); first | done | rfl | (simp only [hq.1]; done) | (simp only [hq.1]; rfl)) ?_; refine Calls.mono (calls_of_args (by first | ((try simp only [hq.1]) <;> rfl) | fail) (capture_Capture.calls k t435 t436 t437 t438 t439 t440 t441 t442 t443 t444 t445 t446 t447 t448 t449 t450 t451 t452 t453 t454 t455 t456 t457 t458 t459 t460 t461 t462 t463 t464 t465 t466 t467 t468 t469 t470 t471 t472 t473 t474 _ A4.out)) ?_; rintro e w21 ⟨he_, hb⟩; (try rw [← hQ3.out] at he_); subst he_; refine ⟨_, rfl, ?_⟩; replace HO := Aside0.mk (Ow.Own.call HO.out hb); clear hb) | ((with_reducible refine gate_dst (N := 2) rfl ?_); refine Ow.box rfl (N := 2) rfl (cs := bursarlaw23_awake.Z15) (t := 53) HO.out (by first | (go_simp; done) | (go_simp; rfl)) ?_; clear HO; intro gb475 w22 HO; simp only [List.cons_append, List.nil_append] at HO) | ((with_reducible refine gate_callee (f := 58) rfl ?_); refine goesL_ (some 9) rfl rfl Try.func58 (by kernel_rfl) rfl #[.int .i64 30, .string (⟨#[48, 48, 48, 48, 48, 48]⟩ : ByteArray)] rfl (by (try simp only [List.map_toArray, List.map_cons, List.map_nil]); first | done | rfl | (simp only [hq.1]; done) | (simp only [hq.1]; rfl)) ?_; refine Calls.mono (calls_of_args (by first | ((try simp only [hq.1]) <;> rfl) | fail) (bursarlaw23_some.calls 30 (⟨#[48, 48, 48, 48, 48, 48]⟩ : ByteArray) t476 t477 t478 t479 t480 t481 t482 t483 t484 t485 t486 t487 t488 t489 t490 t491 t492 t493 t494 t495 t496 t497 t498 t499 t500 _ A5.out)) ?_; rintro e w26 ⟨he_, hb⟩; (try rw [← hQ4.out] at he_); subst he_; refine ⟨_, rfl, ?_⟩; replace HO := Aside0.mk (Ow.Own.call HO.out hb); clear hb) | ((with_reducible refine gate_dst (N := 3) rfl ?_); refine Ow.box rfl (N := 3) rfl (cs := bursarlaw23_awake.Z25) (t := 27) HO.out (by first | (go_simp; done) | (go_simp; rfl)) ?_; clear HO; intro gb501 w27 HO; simp only [List.cons_append, List.nil_append] at HO) | ((with_reducible refine gate_callee (f := 27) rfl ?_); refine goesL_ (some 13) rfl rfl Try.func27 (by kernel_rfl) rfl #[.agg Q6] rfl (by (try simp only [List.map_toArray, List.map_cons, List.map_nil]); first | done | rfl | (simp only [hq.1]; done) | (simp only [hq.1]; rfl)) ?_; refine Calls.mono (calls_of_args (by first | ((try simp only [hq.1]) <;> rfl) | fail) (capture_Capture.calls k t476 t477 t478 t479 t480 t481 t482 t483 t484 t485 t486 t487 t488 50 t490 t491 t492 t493 t494 t495 t496 false t498 t499 t500 t502 t503 t504 t505 t506 t507 t508 t509 false t511 t512 t513 t514 t515 t516 _ A6.out)) ?_; rintro e w33 ⟨he_, hb⟩; (try rw [← hQ5.out] at he_); subst he_; refine ⟨_, rfl, ?_⟩; replace HO := Aside0.mk (Ow.Own.call HO.out hb); clear hb) | ((with_reducible refine gate_dst (N := 4) rfl ?_); refine Ow.box rfl (N := 4) rfl (cs := bursarlaw23_awake.Z15) (t := 53) HO.out (by first | (go_simp; done) | (go_simp; rfl)) ?_; clear HO; intro gb517 w34 HO; simp only [List.cons_append, List.nil_append] at HO) | ((with_reducible refine Ow.gate_load rfl ?_); (try (refine gate_guard (by rfl) ?_; dsimp only)); (first | refine Ow.l1 Ot.ty HO.out rfl rfl rfl rfl (by first | ((try simp only [hq.1]) <;> rfl) | fail) ?_ | refine Ow.l0 Ot.ty HO.out rfl rfl rfl rfl (by first | ((try simp only [hq.1]) <;> rfl) | fail) ?_ | refine Ow.lp Ot.ty HO.out rfl rfl rfl rfl (by first | ((try simp only [hq.1]) <;> rfl) | fail) ?_)) | ((with_reducible refine gate_store rfl ?_); (try (refine gate_guard (by rfl) ?_; dsimp only)); (first | refine Ow.s0 Ot.ty HO.out rfl rfl rfl rfl rfl (by first | exact Ow.ev_tmp rfl | rfl) (by first | (refine ⟨?_, ?_, ?_⟩ <;> (first | ((try simp only [hq.1]) <;> rfl) | fail)) | fail) ?_ | refine Ow.sp Ot.ty HO.out rfl rfl rfl rfl rfl (by first | exact Ow.ev_tmp rfl | rfl) (by first | (refine ⟨?_, ?_, ?_⟩ <;> (first | ((try simp only [hq.1]) <;> rfl) | fail)) | fail) ?_); clear HO; intro wz_ HO; simp only [List.set_cons_zero, List.set_cons_succ] at HO))
                  all_goals go_ret
                  all_goals exact ⟨by first | rfl | (simp only [hq.1]; done) | (simp only [hq.1]; rfl) | (simp [errW_none, errW_some] <;> rfl) | (simp [*, errW_none, errW_some] <;> rfl), Ow.Own.below HO.out⟩
              · rw [if_neg c13] at H
                exact absurd H (by simp)
            · rw [if_neg c12] at H
              exact absurd H (by simp)
          · rw [if_neg c11] at H
            exact absurd H (by simp)
        · replace c10 := Bool.eq_false_iff.mpr c10
          subst c10
          have H1 : (none) = some r := by rw [if_neg (show ¬ (false = true) by decide)] at H; exact H
          clear H
          have H := H1
          clear H1
          exact absurd H (by simp)
      · rw [if_neg c9] at H
        exact absurd H (by simp)
    · replace c8 := Bool.eq_false_iff.mpr c8
      subst c8
      have H1 : (none) = some r := by rw [if_neg (show ¬ (false = true) by decide)] at H; exact H
      clear H
      have H := H1
      clear H1
      exact absurd H (by simp)
  · rw [if_neg c7] at H
    exact absurd H (by simp)

/-! ### bursarlaw23_CaptureDecides: function 7 -/
def bursarlaw23_CaptureDecides.f (k : Nat) (a0_0 : ByteArray) (a0_1 : ByteArray) (a0_2 : ByteArray) (a0_3 : Int) (a0_4 : ByteArray) (a0_5 : ByteArray) (a0_6 : ByteArray) (a0_7 : ByteArray) (a0_8 : ByteArray) (a0_9 : Int) (a0_10 : Int) (a0_11 : ByteArray) (a0_12 : Bool) (a0_13 : Int) (a0_14 : ByteArray) (a0_15 : ByteArray) (a0_16 : ByteArray) (a0_17 : Int) (a0_18 : Int) (a0_19 : Int) (a0_20 : Bool) (a0_21 : Bool) (a0_22 : Int) (a0_23 : Int) (a0_24 : Bool) : Option (Bool) := (bursarlaw22_Few.f a0_0 a0_1 a0_2 a0_3 a0_4 a0_5 a0_6 a0_7 a0_8 a0_9 a0_10 a0_11 a0_12 a0_13 a0_14 a0_15 a0_16 a0_17 a0_18 a0_19 a0_20 a0_21 a0_22 a0_23 a0_24).bind fun bt519 => ((capture_Capture.f k bt519.1 bt519.2.1 bt519.2.2.1 bt519.2.2.2.1 bt519.2.2.2.2.1 bt519.2.2.2.2.2.1 bt519.2.2.2.2.2.2.1 bt519.2.2.2.2.2.2.2.1 bt519.2.2.2.2.2.2.2.2.1 bt519.2.2.2.2.2.2.2.2.2.1 bt519.2.2.2.2.2.2.2.2.2.2.1 bt519.2.2.2.2.2.2.2.2.2.2.2.1 bt519.2.2.2.2.2.2.2.2.2.2.2.2.1 bt519.2.2.2.2.2.2.2.2.2.2.2.2.2.1 bt519.2.2.2.2.2.2.2.2.2.2.2.2.2.2.1 bt519.2.2.2.2.2.2.2.2.2.2.2.2.2.2.2.1 bt519.2.2.2.2.2.2.2.2.2.2.2.2.2.2.2.2.1 bt519.2.2.2.2.2.2.2.2.2.2.2.2.2.2.2.2.2.1 bt519.2.2.2.2.2.2.2.2.2.2.2.2.2.2.2.2.2.2.1 bt519.2.2.2.2.2.2.2.2.2.2.2.2.2.2.2.2.2.2.2.1 bt519.2.2.2.2.2.2.2.2.2.2.2.2.2.2.2.2.2.2.2.2.1 bt519.2.2.2.2.2.2.2.2.2.2.2.2.2.2.2.2.2.2.2.2.2.1 bt519.2.2.2.2.2.2.2.2.2.2.2.2.2.2.2.2.2.2.2.2.2.2.1 bt519.2.2.2.2.2.2.2.2.2.2.2.2.2.2.2.2.2.2.2.2.2.2.2.1 bt519.2.2.2.2.2.2.2.2.2.2.2.2.2.2.2.2.2.2.2.2.2.2.2.2).bind fun bt544 => ((bursarref23_Capture.f k bt519.1 bt519.2.1 bt519.2.2.1 bt519.2.2.2.1 bt519.2.2.2.2.1 bt519.2.2.2.2.2.1 bt519.2.2.2.2.2.2.1 bt519.2.2.2.2.2.2.2.1 bt519.2.2.2.2.2.2.2.2.1 bt519.2.2.2.2.2.2.2.2.2.1 bt519.2.2.2.2.2.2.2.2.2.2.1 bt519.2.2.2.2.2.2.2.2.2.2.2.1 bt519.2.2.2.2.2.2.2.2.2.2.2.2.1 bt519.2.2.2.2.2.2.2.2.2.2.2.2.2.1 bt519.2.2.2.2.2.2.2.2.2.2.2.2.2.2.1 bt519.2.2.2.2.2.2.2.2.2.2.2.2.2.2.2.1 bt519.2.2.2.2.2.2.2.2.2.2.2.2.2.2.2.2.1 bt519.2.2.2.2.2.2.2.2.2.2.2.2.2.2.2.2.2.1 bt519.2.2.2.2.2.2.2.2.2.2.2.2.2.2.2.2.2.2.1 bt519.2.2.2.2.2.2.2.2.2.2.2.2.2.2.2.2.2.2.2.1 bt519.2.2.2.2.2.2.2.2.2.2.2.2.2.2.2.2.2.2.2.2.1 bt519.2.2.2.2.2.2.2.2.2.2.2.2.2.2.2.2.2.2.2.2.2.1 bt519.2.2.2.2.2.2.2.2.2.2.2.2.2.2.2.2.2.2.2.2.2.2.1 bt519.2.2.2.2.2.2.2.2.2.2.2.2.2.2.2.2.2.2.2.2.2.2.2.1 bt519.2.2.2.2.2.2.2.2.2.2.2.2.2.2.2.2.2.2.2.2.2.2.2.2).bind fun bt559 => (if (bt544.1.toList == bt559.1.toList && ((bt544.2.1.toList == bt559.2.1.toList && (bt544.2.2.1.toList == bt559.2.2.1.toList && (bt544.2.2.2.1.toList == bt559.2.2.2.1.toList && (bt544.2.2.2.2.1 == bt559.2.2.2.2.1 && (bt544.2.2.2.2.2.1 == bt559.2.2.2.2.2.1 && (bt544.2.2.2.2.2.2.1 == bt559.2.2.2.2.2.2.1 && (bt544.2.2.2.2.2.2.2.1 == bt559.2.2.2.2.2.2.2.1))))))) && (bt544.2.2.2.2.2.2.2.2.1 == bt559.2.2.2.2.2.2.2.2.1 && ((bt544.2.2.2.2.2.2.2.2.2.1 == bt559.2.2.2.2.2.2.2.2.2.1 && (bt544.2.2.2.2.2.2.2.2.2.2.1 == bt559.2.2.2.2.2.2.2.2.2.2.1 && (bt544.2.2.2.2.2.2.2.2.2.2.2.1.toList == bt559.2.2.2.2.2.2.2.2.2.2.2.1.toList && (bt544.2.2.2.2.2.2.2.2.2.2.2.2.1.toList == bt559.2.2.2.2.2.2.2.2.2.2.2.2.1.toList && (bt544.2.2.2.2.2.2.2.2.2.2.2.2.2.1.toList == bt559.2.2.2.2.2.2.2.2.2.2.2.2.2.1.toList && (bt544.2.2.2.2.2.2.2.2.2.2.2.2.2.2 == bt559.2.2.2.2.2.2.2.2.2.2.2.2.2.2)))))))))) = true then ((bursarlaw23_awake.f k).bind fun t574 => (some t574)) else (none))))
theorem bursarlaw23_CaptureDecides.mono : ∀ a0 a1 a2 a3 a4 a5 a6 a7 a8 a9 a10 a11 a12 a13 a14 a15 a16 a17 a18 a19 a20 a21 a22 a23 a24 k, LeO (bursarlaw23_CaptureDecides.f k a0 a1 a2 a3 a4 a5 a6 a7 a8 a9 a10 a11 a12 a13 a14 a15 a16 a17 a18 a19 a20 a21 a22 a23 a24) (bursarlaw23_CaptureDecides.f (k + 1) a0 a1 a2 a3 a4 a5 a6 a7 a8 a9 a10 a11 a12 a13 a14 a15 a16 a17 a18 a19 a20 a21 a22 a23 a24) := by
  intro a0 a1 a2 a3 a4 a5 a6 a7 a8 a9 a10 a11 a12 a13 a14 a15 a16 a17 a18 a19 a20 a21 a22 a23 a24 k
  unfold bursarlaw23_CaptureDecides.f
  repeat' first
      | (with_reducible exact bursarlaw23_awake.mono _)
      | (with_reducible exact bursarref23_Capture.mono _ _ _ _ _ _ _ _ _ _ _ _ _ _ _ _ _ _ _ _ _ _ _ _ _ _)
      | (with_reducible exact capture_Capture.mono _ _ _ _ _ _ _ _ _ _ _ _ _ _ _ _ _ _ _ _ _ _ _ _ _ _)
      | (with_reducible exact LeO.refl _)
      | (with_reducible exact LeO.none _)
      | (with_reducible refine LeO.ite ?_ ?_)
      | (with_reducible refine LeO.bind ?_ (fun _ => ?_))
      | exact bursarlaw23_awake.mono _
      | exact bursarref23_Capture.mono _ _ _ _ _ _ _ _ _ _ _ _ _ _ _ _ _ _ _ _ _ _ _ _ _ _
      | exact capture_Capture.mono _ _ _ _ _ _ _ _ _ _ _ _ _ _ _ _ _ _ _ _ _ _ _ _ _ _
      | exact LeO.none _
      | refine LeO.ite ?_ ?_
      | refine LeO.bind ?_ (fun _ => ?_)
def bursarlaw23_CaptureDecides.T2 : Bool × List (List Nat × List Nat) := (true, [([], []), ([0], [0]), ([], []), ([2, 1], [2]), ([1, 3], [1, 3]), ([4, 3], [4]), ([5, 5], [5]), ([5, 6], [5, 6]), ([7, 6, 0, 1, 2, 3, 4, 5, 6, 7], [7])])
def bursarlaw23_CaptureDecides.B2 : List Nat := [0, 1, 0, 7, 15, 31, 63, 127, 255]
theorem bursarlaw23_CaptureDecides.tab2 : rtab .any (opsOf Try.f7 2) = bursarlaw23_CaptureDecides.T2 := by kernel_rfl
theorem bursarlaw23_CaptureDecides.bits2 : waitsOk bursarlaw23_CaptureDecides.T2.2 bursarlaw23_CaptureDecides.B2 = true := by kernel_rfl
set_option maxHeartbeats 8000000 in
set_option maxRecDepth 100000 in
theorem bursarlaw23_CaptureDecides.calls (k : Nat) (a0_0 : ByteArray) (a0_1 : ByteArray) (a0_2 : ByteArray) (a0_3 : Int) (a0_4 : ByteArray) (a0_5 : ByteArray) (a0_6 : ByteArray) (a0_7 : ByteArray) (a0_8 : ByteArray) (a0_9 : Int) (a0_10 : Int) (a0_11 : ByteArray) (a0_12 : Bool) (a0_13 : Int) (a0_14 : ByteArray) (a0_15 : ByteArray) (a0_16 : ByteArray) (a0_17 : Int) (a0_18 : Int) (a0_19 : Int) (a0_20 : Bool) (a0_21 : Bool) (a0_22 : Int) (a0_23 : Int) (a0_24 : Bool) (r : Bool) (w : World) (h : bursarlaw23_CaptureDecides.f k a0_0 a0_1 a0_2 a0_3 a0_4 a0_5 a0_6 a0_7 a0_8 a0_9 a0_10 a0_11 a0_12 a0_13 a0_14 a0_15 a0_16 a0_17 a0_18 a0_19 a0_20 a0_21 a0_22 a0_23 a0_24 = some r) :
    Calls Try.prog 7 #[.agg #[.string a0_0, .string a0_1, .string a0_2, .int .i64 a0_3, .string a0_4, .string a0_5, .string a0_6, .string a0_7, .string a0_8, .int .i64 a0_9, .int .i64 a0_10, .string a0_11, .bool a0_12, .int .i64 a0_13, .string a0_14, .string a0_15, .string a0_16, .int .i64 a0_17, .int .i64 a0_18, .int .i64 a0_19, .bool a0_20, .bool a0_21, .int .i64 a0_22, .int .i64 a0_23, .bool a0_24]] w fun e w' => e = .returned (.bool r) ∧ Below w.heap.size w w' := by
  have hu27 := Try.underlying27
  have HO := Aside0.mk (Ow.Own.nil w)
  have hmf : ∀ (fn : Fn) (first cap : Array Value) (w : World), (Instr.makeFunc fn first cap).run Try.prog w = .ok (.func fn first cap) w := fun _ _ _ _ => rfl
  have H : ((bursarlaw22_Few.f a0_0 a0_1 a0_2 a0_3 a0_4 a0_5 a0_6 a0_7 a0_8 a0_9 a0_10 a0_11 a0_12 a0_13 a0_14 a0_15 a0_16 a0_17 a0_18 a0_19 a0_20 a0_21 a0_22 a0_23 a0_24).bind fun bt519 => ((capture_Capture.f k bt519.1 bt519.2.1 bt519.2.2.1 bt519.2.2.2.1 bt519.2.2.2.2.1 bt519.2.2.2.2.2.1 bt519.2.2.2.2.2.2.1 bt519.2.2.2.2.2.2.2.1 bt519.2.2.2.2.2.2.2.2.1 bt519.2.2.2.2.2.2.2.2.2.1 bt519.2.2.2.2.2.2.2.2.2.2.1 bt519.2.2.2.2.2.2.2.2.2.2.2.1 bt519.2.2.2.2.2.2.2.2.2.2.2.2.1 bt519.2.2.2.2.2.2.2.2.2.2.2.2.2.1 bt519.2.2.2.2.2.2.2.2.2.2.2.2.2.2.1 bt519.2.2.2.2.2.2.2.2.2.2.2.2.2.2.2.1 bt519.2.2.2.2.2.2.2.2.2.2.2.2.2.2.2.2.1 bt519.2.2.2.2.2.2.2.2.2.2.2.2.2.2.2.2.2.1 bt519.2.2.2.2.2.2.2.2.2.2.2.2.2.2.2.2.2.2.1 bt519.2.2.2.2.2.2.2.2.2.2.2.2.2.2.2.2.2.2.2.1 bt519.2.2.2.2.2.2.2.2.2.2.2.2.2.2.2.2.2.2.2.2.1 bt519.2.2.2.2.2.2.2.2.2.2.2.2.2.2.2.2.2.2.2.2.2.1 bt519.2.2.2.2.2.2.2.2.2.2.2.2.2.2.2.2.2.2.2.2.2.2.1 bt519.2.2.2.2.2.2.2.2.2.2.2.2.2.2.2.2.2.2.2.2.2.2.2.1 bt519.2.2.2.2.2.2.2.2.2.2.2.2.2.2.2.2.2.2.2.2.2.2.2.2).bind fun bt544 => ((bursarref23_Capture.f k bt519.1 bt519.2.1 bt519.2.2.1 bt519.2.2.2.1 bt519.2.2.2.2.1 bt519.2.2.2.2.2.1 bt519.2.2.2.2.2.2.1 bt519.2.2.2.2.2.2.2.1 bt519.2.2.2.2.2.2.2.2.1 bt519.2.2.2.2.2.2.2.2.2.1 bt519.2.2.2.2.2.2.2.2.2.2.1 bt519.2.2.2.2.2.2.2.2.2.2.2.1 bt519.2.2.2.2.2.2.2.2.2.2.2.2.1 bt519.2.2.2.2.2.2.2.2.2.2.2.2.2.1 bt519.2.2.2.2.2.2.2.2.2.2.2.2.2.2.1 bt519.2.2.2.2.2.2.2.2.2.2.2.2.2.2.2.1 bt519.2.2.2.2.2.2.2.2.2.2.2.2.2.2.2.2.1 bt519.2.2.2.2.2.2.2.2.2.2.2.2.2.2.2.2.2.1 bt519.2.2.2.2.2.2.2.2.2.2.2.2.2.2.2.2.2.2.1 bt519.2.2.2.2.2.2.2.2.2.2.2.2.2.2.2.2.2.2.2.1 bt519.2.2.2.2.2.2.2.2.2.2.2.2.2.2.2.2.2.2.2.2.1 bt519.2.2.2.2.2.2.2.2.2.2.2.2.2.2.2.2.2.2.2.2.2.1 bt519.2.2.2.2.2.2.2.2.2.2.2.2.2.2.2.2.2.2.2.2.2.2.1 bt519.2.2.2.2.2.2.2.2.2.2.2.2.2.2.2.2.2.2.2.2.2.2.2.1 bt519.2.2.2.2.2.2.2.2.2.2.2.2.2.2.2.2.2.2.2.2.2.2.2.2).bind fun bt559 => (if (bt544.1.toList == bt559.1.toList && ((bt544.2.1.toList == bt559.2.1.toList && (bt544.2.2.1.toList == bt559.2.2.1.toList && (bt544.2.2.2.1.toList == bt559.2.2.2.1.toList && (bt544.2.2.2.2.1 == bt559.2.2.2.2.1 && (bt544.2.2.2.2.2.1 == bt559.2.2.2.2.2.1 && (bt544.2.2.2.2.2.2.1 == bt559.2.2.2.2.2.2.1 && (bt544.2.2.2.2.2.2.2.1 == bt559.2.2.2.2.2.2.2.1))))))) && (bt544.2.2.2.2.2.2.2.2.1 == bt559.2.2.2.2.2.2.2.2.1 && ((bt544.2.2.2.2.2.2.2.2.2.1 == bt559.2.2.2.2.2.2.2.2.2.1 && (bt544.2.2.2.2.2.2.2.2.2.2.1 == bt559.2.2.2.2.2.2.2.2.2.2.1 && (bt544.2.2.2.2.2.2.2.2.2.2.2.1.toList == bt559.2.2.2.2.2.2.2.2.2.2.2.1.toList && (bt544.2.2.2.2.2.2.2.2.2.2.2.2.1.toList == bt559.2.2.2.2.2.2.2.2.2.2.2.2.1.toList && (bt544.2.2.2.2.2.2.2.2.2.2.2.2.2.1.toList == bt559.2.2.2.2.2.2.2.2.2.2.2.2.2.1.toList && (bt544.2.2.2.2.2.2.2.2.2.2.2.2.2.2 == bt559.2.2.2.2.2.2.2.2.2.2.2.2.2.2)))))))))) = true then ((bursarlaw23_awake.f k).bind fun t574 => (some t574)) else (none))))) = some r := h
  clear h
  replace H := Option.bind_eq_some_iff.mp H
  obtain ⟨⟨t519, t520, t521, t522, t523, t524, t525, t526, t527, t528, t529, t530, t531, t532, t533, t534, t535, t536, t537, t538, t539, t540, t541, t542, t543⟩, A20, H⟩ := H
  replace H : ((capture_Capture.f k t519 t520 t521 t522 t523 t524 t525 t526 t527 t528 t529 t530 t531 t532 t533 t534 t535 t536 t537 t538 t539 t540 t541 t542 t543).bind fun bt544 => ((bursarref23_Capture.f k t519 t520 t521 t522 t523 t524 t525 t526 t527 t528 t529 t530 t531 t532 t533 t534 t535 t536 t537 t538 t539 t540 t541 t542 t543).bind fun bt559 => (if (bt544.1.toList == bt559.1.toList && ((bt544.2.1.toList == bt559.2.1.toList && (bt544.2.2.1.toList == bt559.2.2.1.toList && (bt544.2.2.2.1.toList == bt559.2.2.2.1.toList && (bt544.2.2.2.2.1 == bt559.2.2.2.2.1 && (bt544.2.2.2.2.2.1 == bt559.2.2.2.2.2.1 && (bt544.2.2.2.2.2.2.1 == bt559.2.2.2.2.2.2.1 && (bt544.2.2.2.2.2.2.2.1 == bt559.2.2.2.2.2.2.2.1))))))) && (bt544.2.2.2.2.2.2.2.2.1 == bt559.2.2.2.2.2.2.2.2.1 && ((bt544.2.2.2.2.2.2.2.2.2.1 == bt559.2.2.2.2.2.2.2.2.2.1 && (bt544.2.2.2.2.2.2.2.2.2.2.1 == bt559.2.2.2.2.2.2.2.2.2.2.1 && (bt544.2.2.2.2.2.2.2.2.2.2.2.1.toList == bt559.2.2.2.2.2.2.2.2.2.2.2.1.toList && (bt544.2.2.2.2.2.2.2.2.2.2.2.2.1.toList == bt559.2.2.2.2.2.2.2.2.2.2.2.2.1.toList && (bt544.2.2.2.2.2.2.2.2.2.2.2.2.2.1.toList == bt559.2.2.2.2.2.2.2.2.2.2.2.2.2.1.toList && (bt544.2.2.2.2.2.2.2.2.2.2.2.2.2.2 == bt559.2.2.2.2.2.2.2.2.2.2.2.2.2.2)))))))))) = true then ((bursarlaw23_awake.f k).bind fun t574 => (some t574)) else (none)))) = some r := H
  have A2 := Aside0.mk A20
  clear A20
  replace H := Option.bind_eq_some_iff.mp H
  obtain ⟨⟨t544, t545, t546, t547, t548, t549, t550, t551, t552, t553, t554, t555, t556, t557, t558⟩, A30, H⟩ := H
  replace H : ((bursarref23_Capture.f k t519 t520 t521 t522 t523 t524 t525 t526 t527 t528 t529 t530 t531 t532 t533 t534 t535 t536 t537 t538 t539 t540 t541 t542 t543).bind fun bt559 => (if (t544.toList == bt559.1.toList && ((t545.toList == bt559.2.1.toList && (t546.toList == bt559.2.2.1.toList && (t547.toList == bt559.2.2.2.1.toList && (t548 == bt559.2.2.2.2.1 && (t549 == bt559.2.2.2.2.2.1 && (t550 == bt559.2.2.2.2.2.2.1 && (t551 == bt559.2.2.2.2.2.2.2.1))))))) && (t552 == bt559.2.2.2.2.2.2.2.2.1 && ((t553 == bt559.2.2.2.2.2.2.2.2.2.1 && (t554 == bt559.2.2.2.2.2.2.2.2.2.2.1 && (t555.toList == bt559.2.2.2.2.2.2.2.2.2.2.2.1.toList && (t556.toList == bt559.2.2.2.2.2.2.2.2.2.2.2.2.1.toList && (t557.toList == bt559.2.2.2.2.2.2.2.2.2.2.2.2.2.1.toList && (t558 == bt559.2.2.2.2.2.2.2.2.2.2.2.2.2.2)))))))))) = true then ((bursarlaw23_awake.f k).bind fun t574 => (some t574)) else (none))) = some r := H
  have A3 := Aside0.mk A30
  clear A30
  replace H := Option.bind_eq_some_iff.mp H
  obtain ⟨⟨t559, t560, t561, t562, t563, t564, t565, t566, t567, t568, t569, t570, t571, t572, t573⟩, A40, H⟩ := H
  replace H : (if (t544.toList == t559.toList && ((t545.toList == t560.toList && (t546.toList == t561.toList && (t547.toList == t562.toList && (t548 == t563 && (t549 == t564 && (t550 == t565 && (t551 == t566))))))) && (t552 == t567 && ((t553 == t568 && (t554 == t569 && (t555.toList == t570.toList && (t556.toList == t571.toList && (t557.toList == t572.toList && (t558 == t573)))))))))) = true then ((bursarlaw23_awake.f k).bind fun t574 => (some t574)) else (none)) = some r := H
  have A4 := Aside0.mk A40
  clear A40
  by_cases c5 : (t544.toList == t559.toList && ((t545.toList == t560.toList && (t546.toList == t561.toList && (t547.toList == t562.toList && (t548 == t563 && (t549 == t564 && (t550 == t565 && (t551 == t566))))))) && (t552 == t567 && ((t553 == t568 && (t554 == t569 && (t555.toList == t570.toList && (t556.toList == t571.toList && (t557.toList == t572.toList && (t558 == t573)))))))))) = true
  · rw [if_pos c5] at H
    have c5b0 : (t544.toList == t559.toList && ((t545.toList == t560.toList && (t546.toList == t561.toList && (t547.toList == t562.toList && (t548 == t563 && (t549 == t564 && (t550 == t565 && (t551 == t566))))))) && (t552 == t567 && ((t553 == t568 && (t554 == t569 && (t555.toList == t570.toList && (t556.toList == t571.toList && (t557.toList == t572.toList && (t558 == t573)))))))))) = true := c5
    (try (have c5b1 : decide (t544.toList = t559.toList && ((t545.toList == t560.toList && (t546.toList == t561.toList && (t547.toList == t562.toList && (t548 == t563 && (t549 == t564 && (t550 == t565 && (t551 == t566))))))) && (t552 == t567 && ((t553 == t568 && (t554 == t569 && (t555.toList == t570.toList && (t556.toList == t571.toList && (t557.toList == t572.toList && (t558 == t573)))))))))) = true := by simpa using c5))
    (try (have c5b2 : (t544.toList == t559.toList && ((t545.toList == t560.toList && (t546.toList == t561.toList && (t547.toList == t562.toList && (t548 == t563 && (t549 == t564 && (t550 == t565 && (t551 == t566))))))) && (t552 == t567 && ((t553 == t568 && (t554 == t569 && (t555.toList == t570.toList && (t556.toList == t571.toList && (t557.toList == t572.toList && (t558 == t573)))))))))) = true := by simpa using c5))
    (try (have c5b3 : ((t544.toList = t559.toList ∧ ((t545.toList = t560.toList ∧ (t546.toList = t561.toList ∧ (t547.toList = t562.toList ∧ (t548 = t563 ∧ (t549 = t564 ∧ (t550 = t565 ∧ (t551 = t566))))))) ∧ (t552 = t567 ∧ ((t553 = t568 ∧ (t554 = t569 ∧ (t555.toList = t570.toList ∧ (t556.toList = t571.toList ∧ (t557.toList = t572.toList ∧ (t558 = t573)))))))))) = True) := eq_true (by first | (simpa using c5; done) | (intro h_; have g_ := c5; simp [h_] at g_; done) | (have g_ := c5; simp at g_; exact g_))))
    (try (have c5b4 : ((t544.toList == t559.toList)) = true := (by first | (have g_ := c5; simp at g_; simp [g_]; done) | (have g_ := c5; simp [Pu.beq_nil] at g_ ⊢; simp [g_]; done) | (have g_ := c5; simp [Pu.beq_nil] at g_ ⊢; exact g_))))
    (try (have c5b5 : ((t545.toList == t560.toList)) = true := (by first | (have g_ := c5; simp at g_; simp [g_]; done) | (have g_ := c5; simp [Pu.beq_nil] at g_ ⊢; simp [g_]; done) | (have g_ := c5; simp [Pu.beq_nil] at g_ ⊢; exact g_))))
    (try (have c5b6 : ((t546.toList == t561.toList)) = true := (by first | (have g_ := c5; simp at g_; simp [g_]; done) | (have g_ := c5; simp [Pu.beq_nil] at g_ ⊢; simp [g_]; done) | (have g_ := c5; simp [Pu.beq_nil] at g_ ⊢; exact g_))))
    (try (have c5b7 : ((t547.toList == t562.toList)) = true := (by first | (have g_ := c5; simp at g_; simp [g_]; done) | (have g_ := c5; simp [Pu.beq_nil] at g_ ⊢; simp [g_]; done) | (have g_ := c5; simp [Pu.beq_nil] at g_ ⊢; exact g_))))
    (try (have c5b8 : ((t548 == t563)) = true := (by first | (have g_ := c5; simp at g_; simp [g_]; done) | (have g_ := c5; simp [Pu.beq_nil] at g_ ⊢; simp [g_]; done) | (have g_ := c5; simp [Pu.beq_nil] at g_ ⊢; exact g_))))
    (try (have c5b9 : ((t549 == t564)) = true := (by first | (have g_ := c5; simp at g_; simp [g_]; done) | (have g_ := c5; simp [Pu.beq_nil] at g_ ⊢; simp [g_]; done) | (have g_ := c5; simp [Pu.beq_nil] at g_ ⊢; exact g_))))
    (try (have c5b10 : ((t550 == t565)) = true := (by first | (have g_ := c5; simp at g_; simp [g_]; done) | (have g_ := c5; simp [Pu.beq_nil] at g_ ⊢; simp [g_]; done) | (have g_ := c5; simp [Pu.beq_nil] at g_ ⊢; exact g_))))
    (try (have c5b11 : ((t551 == t566)) = true := (by first | (have g_ := c5; simp at g_; simp [g_]; done) | (have g_ := c5; simp [Pu.beq_nil] at g_ ⊢; simp [g_]; done) | (have g_ := c5; simp [Pu.beq_nil] at g_ ⊢; exact g_))))
    (try (have c5b12 : ((t552 == t567)) = true := (by first | (have g_ := c5; simp at g_; simp [g_]; done) | (have g_ := c5; simp [Pu.beq_nil] at g_ ⊢; simp [g_]; done) | (have g_ := c5; simp [Pu.beq_nil] at g_ ⊢; exact g_))))
    (try (have c5b13 : ((t553 == t568)) = true := (by first | (have g_ := c5; simp at g_; simp [g_]; done) | (have g_ := c5; simp [Pu.beq_nil] at g_ ⊢; simp [g_]; done) | (have g_ := c5; simp [Pu.beq_nil] at g_ ⊢; exact g_))))
    (try (have c5b14 : ((t554 == t569)) = true := (by first | (have g_ := c5; simp at g_; simp [g_]; done) | (have g_ := c5; simp [Pu.beq_nil] at g_ ⊢; simp [g_]; done) | (have g_ := c5; simp [Pu.beq_nil] at g_ ⊢; exact g_))))
    (try (have c5b15 : ((t555.toList == t570.toList)) = true := (by first | (have g_ := c5; simp at g_; simp [g_]; done) | (have g_ := c5; simp [Pu.beq_nil] at g_ ⊢; simp [g_]; done) | (have g_ := c5; simp [Pu.beq_nil] at g_ ⊢; exact g_))))
    (try (have c5b16 : ((t556.toList == t571.toList)) = true := (by first | (have g_ := c5; simp at g_; simp [g_]; done) | (have g_ := c5; simp [Pu.beq_nil] at g_ ⊢; simp [g_]; done) | (have g_ := c5; simp [Pu.beq_nil] at g_ ⊢; exact g_))))
    (try (have c5b17 : ((t557.toList == t572.toList)) = true := (by first | (have g_ := c5; simp at g_; simp [g_]; done) | (have g_ := c5; simp [Pu.beq_nil] at g_ ⊢; simp [g_]; done) | (have g_ := c5; simp [Pu.beq_nil] at g_ ⊢; exact g_))))
    (try (have c5b18 : ((t558 == t573)) = true := (by first | (have g_ := c5; simp at g_; simp [g_]; done) | (have g_ := c5; simp [Pu.beq_nil] at g_ ⊢; simp [g_]; done) | (have g_ := c5; simp [Pu.beq_nil] at g_ ⊢; exact g_))))
    clear c5
    replace H := Option.bind_eq_some_iff.mp H
    obtain ⟨t574, A60, H⟩ := H
    replace H : (some t574) = some r := H
    have A6 := Aside0.mk A60
    clear A60
    obtain rfl := Option.some.inj H
    obtain ⟨Q0, hQ0_⟩ : ∃ q_ : Array Value, q_ = (#[.string a0_0, .string a0_1, .string a0_2, .int .i64 a0_3, .string a0_4, .string a0_5, .string a0_6, .string a0_7, .string a0_8, .int .i64 a0_9, .int .i64 a0_10, .string a0_11, .bool a0_12, .int .i64 a0_13, .string a0_14, .string a0_15, .string a0_16, .int .i64 a0_17, .int .i64 a0_18, .int .i64 a0_19, .bool a0_20, .bool a0_21, .int .i64 a0_22, .int .i64 a0_23, .bool a0_24] : Array Value) := ⟨_, rfl⟩
    try rw [← hQ0_]
    have hQ0 := Aside0.mk hQ0_; have hq := Aside0.mk hQ0_; clear hQ0_
    go_enter Try.func7, Try.ntmps7
    obtain ⟨Q1, hQ1_⟩ : ∃ q_ : Array Value, q_ = (#[.string t519, .string t520, .string t521, .int .i64 t522, .string t523, .string t524, .string t525, .string t526, .string t527, .int .i64 t528, .int .i64 t529, .string t530, .bool t531, .int .i64 t532, .string t533, .string t534, .string t535, .int .i64 t536, .int .i64 t537, .int .i64 t538, .bool t539, .bool t540, .int .i64 t541, .int .i64 t542, .bool t543] : Array Value) := ⟨_, rfl⟩
    try rw [← hQ1_]
    have hQ1 := Aside0.mk hQ1_; replace hq := Aside0.mk (And.intro hQ1_ hq.1); clear hQ1_
    try go_wp2_with (first | ((with_reducible refine gate_dst (N := 1) rfl ?_); refine Ow.box rfl (N := 1) rfl (cs := Q0) (t := 27) HO.out (by first | (go_simp; done) | (go_simp; rfl)) ?_; clear HO; intro gb518 w7 HO; simp only [List.cons_append, List.nil_append] at HO) | ((with_reducible refine gate_callee (f := 15) rfl ?_); refine goesL_ (some 4) rfl rfl Try.func15 (by kernel_rfl) rfl #[.agg Q0] rfl (by (try simp only [List.map_toArray, List.map_cons, List.map_nil]); first | done | rfl | (simp only [hq.1]; done) | (simp only [hq.1]; rfl)) ?_; refine Calls.mono (calls_of_args (by first | ((try simp only [hq.1]) <;> rfl) | fail) (bursarlaw22_Few.calls a0_0 a0_1 a0_2 a0_3 a0_4 a0_5 a0_6 a0_7 a0_8 a0_9 a0_10 a0_11 a0_12 a0_13 a0_14 a0_15 a0_16 a0_17 a0_18 a0_19 a0_20 a0_21 a0_22 a0_23 a0_24 t519 t520 t521 t522 t523 t524 t525 t526 t527 t528 t529 t530 t531 t532 t533 t534 t535 t536 t537 t538 t539 t540 t541 t542 t543 _ A2.out)) ?_; rintro e w9 ⟨he_, hb⟩; (try rw [← hQ1.out] at he_); subst he_; refine ⟨_, rfl, ?_⟩; replace HO := Aside0.mk (Ow.Own.call HO.out hb); clear hb) | ((with_reducible refine Ow.gate_eqs (t := 53) (by first | exact Or.inl rfl | exact Or.inr rfl) rfl ?_); simp only [hq.1, Ow.part, Ot.sz, Ot.zero, Ow.over, Ow.overL, List.drop_succ_cons, List.drop_zero, List.take_succ_cons, List.take_zero]) | ((with_reducible refine Ow.gate_load rfl ?_); (try (refine gate_guard (by rfl) ?_; dsimp only)); (first | refine Ow.l0 Ot.ty HO.out rfl rfl rfl rfl (by first | ((try simp only [hq.1]) <;> rfl) | fail) ?_ | refine Ow.lp Ot.ty HO.out rfl rfl rfl rfl (by first | ((try simp only [hq.1]) <;> rfl) | fail) ?_)) | ((with_reducible refine gate_store rfl ?_); (try (refine gate_guard (by rfl) ?_; dsimp only)); (first | refine Ow.s0 Ot.ty HO.out rfl rfl rfl rfl rfl (by first | exact Ow.ev_tmp rfl | rfl) (by first | (refine ⟨?_, ?_, ?_⟩ <;> (first | ((try simp only [hq.1]) <;> rfl) | fail)) | fail) ?_ | refine Ow.sp Ot.ty HO.out rfl rfl rfl rfl rfl (by first | exact Ow.ev_tmp rfl | rfl) (by first | (refine ⟨?_, ?_, ?_⟩ <;> (first | ((try simp only [hq.1]) <;> rfl) | fail)) | fail) ?_); clear HO; intro wz_ HO; simp only [List.set_cons_zero, List.set_cons_succ] at HO))
    refine Ow.ostart (n := 9) (ds := []) #[false, false, false, false, false, false, false, false, false] HO.out (by kernel_rfl) rfl rfl ?_
    intro hHeld; replace HO := Aside0.mk hHeld; refine with_tabW bursarlaw23_CaptureDecides.tab2 bursarlaw23_CaptureDecides.bits2 (fun HT_ HW_ => ?_)
    refine take_ (i := 0) (N := some 5) (v := ?_) (a' := ?_) #[true, false, false, false, false, false, false, false, false] rfl rfl (take_ofW HT_.out HW_.out (by kernel_rfl)) (fun _ _ _ h => h) (Or.inl ⟨by rfl, ?_⟩) hHeld ?_ ?_
    rotate_left
    · intro w' s_
      first | (refine' Ow.rload1 Ot.ty s_ rfl rfl rfl ?hk_ ?hs_; (case hk_ => exact (by with_reducible first | exact Ow.at0)); (case hs_ => first | ((try simp only [hq.1]) <;> rfl) | fail)) | (refine' Ow.rload0 Ot.ty s_ rfl rfl rfl ?hk_ ?hs_; (case hk_ => exact (by with_reducible first | exact Ow.at0)); (case hs_ => first | ((try simp only [hq.1]) <;> rfl) | fail)) | (refine' Ow.rloadp Ot.ty s_ rfl rfl rfl ?hk_ ?hs_; (case hk_ => exact (by with_reducible first | exact Ow.at0)); (case hs_ => first | ((try simp only [hq.1]) <;> rfl) | fail)) | (go_simp; with_reducible rfl)
    rotate_left
    · simp only [Act.put, List.setIfInBounds_toArray, List.set_cons_zero, List.set_cons_succ, i64_w, i32_w]
      rfl
    refine take_ (i := 2) (N := some 7) (v := ?_) (a' := ?_) #[true, false, true, false, false, false, false, false, false] rfl rfl (take_ofW HT_.out HW_.out (by kernel_rfl)) (fun _ _ _ h => h) (Or.inl ⟨by rfl, ?_⟩) hHeld ?_ ?_
    rotate_left
    · intro w' s_
      first | (refine' Ow.rload1 Ot.ty s_ rfl rfl rfl ?hk_ ?hs_; (case hk_ => exact (by with_reducible first | exact Ow.at0)); (case hs_ => first | ((try simp only [hq.1]) <;> rfl) | fail)) | (refine' Ow.rload0 Ot.ty s_ rfl rfl rfl ?hk_ ?hs_; (case hk_ => exact (by with_reducible first | exact Ow.at0)); (case hs_ => first | ((try simp only [hq.1]) <;> rfl) | fail)) | (refine' Ow.rloadp Ot.ty s_ rfl rfl rfl ?hk_ ?hs_; (case hk_ => exact (by with_reducible first | exact Ow.at0)); (case hs_ => first | ((try simp only [hq.1]) <;> rfl) | fail)) | (go_simp; with_reducible rfl)
    rotate_left
    · simp only [Act.put, List.setIfInBounds_toArray, List.set_cons_zero, List.set_cons_succ, i64_w, i32_w]
      rfl
    refine one_ (i := 1) (N := some 6) #[true, true, true, false, false, false, false, false, false] rfl rfl (one_of HT_.out (by kernel_rfl)) (by decide) (fun K hK => ?_)
    refine goes_ Try.func27 (by kernel_rfl) rfl #[.agg Q1] (by rfl) rfl rfl (by (try simp only [List.map_toArray, List.map_cons, List.map_nil]); first | done | rfl | (simp only [hq.1]; done) | (simp only [hq.1]; rfl) | (simp only [List.length_drop, List.length_take]; rfl)) ?_
    obtain ⟨Q2, hQ2_⟩ : ∃ q_ : Array Value, q_ = (#[.string t544, .string t545, .string t546, .string t547, .int .i64 t548, .int .i64 t549, .int .i64 t550, .bool t551, .bool t552, .int .i64 t553, .int .i64 t554, .string t555, .string t556, .string t557, .int .i64 t558] : Array Value) := ⟨_, rfl⟩
    try rw [← hQ2_]
    have hQ2 := Aside0.mk hQ2_; replace hq := Aside0.mk (And.intro hQ2_ hq.1); clear hQ2_
    refine Calls.mono (calls_of_args (by first | ((try simp only [hq.1]) <;> rfl) | fail) (capture_Capture.calls k t519 t520 t521 t522 t523 t524 t525 t526 t527 t528 t529 t530 t531 t532 t533 t534 t535 t536 t537 t538 t539 t540 t541 t542 t543 t544 t545 t546 t547 t548 t549 t550 t551 t552 t553 t554 t555 t556 t557 t558 _ A3.out)) ?_
    rintro e w13 ⟨he_, hb⟩
    (try rw [← hQ2.out] at he_)
    subst he_
    replace HO := Aside0.mk (Ow.Own.call HO.out hb)
    clear hb
    refine ⟨_, rfl, ?_⟩
    refine hK.out _ _ HO.out (fun hHeld => ?_)
    clear hK K
    refine norm_ (a' := ?_) ?_ ?_
    rotate_left
    · show Act.put _ (some 6) _ = _
      simp only [Act.put, List.setIfInBounds_toArray, List.set_cons_zero, List.set_cons_succ, i64_w, i32_w]
      rfl
    refine one_ (i := 3) (N := some 8) #[true, true, true, true, false, false, false, false, false] rfl rfl (one_of HT_.out (by kernel_rfl)) (by decide) (fun K hK => ?_)
    refine goes_ Try.func28 (by kernel_rfl) rfl #[.agg Q1] (by rfl) rfl rfl (by (try simp only [List.map_toArray, List.map_cons, List.map_nil]); first | done | rfl | (simp only [hq.1]; done) | (simp only [hq.1]; rfl) | (simp only [List.length_drop, List.length_take]; rfl)) ?_
    obtain ⟨Q3, hQ3_⟩ : ∃ q_ : Array Value, q_ = (#[.string t559, .string t560, .string t561, .string t562, .int .i64 t563, .int .i64 t564, .int .i64 t565, .bool t566, .bool t567, .int .i64 t568, .int .i64 t569, .string t570, .string t571, .string t572, .int .i64 t573] : Array Value) := ⟨_, rfl⟩
    try rw [← hQ3_]
    have hQ3 := Aside0.mk hQ3_; replace hq := Aside0.mk (And.intro hQ3_ hq.1); clear hQ3_
    refine Calls.mono (calls_of_args (by first | ((try simp only [hq.1]) <;> rfl) | fail) (bursarref23_Capture.calls k t519 t520 t521 t522 t523 t524 t525 t526 t527 t528 t529 t530 t531 t532 t533 t534 t535 t536 t537 t538 t539 t540 t541 t542 t543 t559 t560 t561 t562 t563 t564 t565 t566 t567 t568 t569 t570 t571 t572 t573 _ A4.out)) ?_
    rintro e w14 ⟨he_, hb⟩
    (try rw [← hQ3.out] at he_)
    subst he_
    replace HO := Aside0.mk (Ow.Own.call HO.out hb)
    clear hb
    refine ⟨_, rfl, ?_⟩
    refine hK.out _ _ HO.out (fun hHeld => ?_)
    clear hK K
    refine norm_ (a' := ?_) ?_ ?_
    rotate_left
    · show Act.put _ (some 8) _ = _
      simp only [Act.put, List.setIfInBounds_toArray, List.set_cons_zero, List.set_cons_succ, i64_w, i32_w]
      rfl
    refine pure_ (i := 4) (N := some 9) (v := ?_) (a' := ?_) #[true, true, true, true, true, false, false, false, false] rfl rfl (any_of HT_.out (by kernel_rfl)) (fun _ _ _ h => h) (Or.inl ⟨by rfl, ?_⟩) ?_ ?_
    rotate_left
    · intro w'
      (try (with_reducible refine Ow.gate_eql (by first | exact Or.inl rfl | exact Or.inr rfl) rfl ?_; simp only [hq.1, Ow.part, Ot.sz, Ot.zero, Ow.over, Ow.overL, List.drop_succ_cons, List.drop_zero, List.take_succ_cons, List.take_zero]))
      go_simp
      with_reducible rfl
    rotate_left
    · simp only [Act.put, List.setIfInBounds_toArray, List.set_cons_zero, List.set_cons_succ, i64_w, i32_w]
      rfl
    refine pure_ (i := 5) (N := some 10) (v := ?_) (a' := ?_) #[true, true, true, true, true, true, false, false, false] rfl rfl (any_of HT_.out (by kernel_rfl)) (fun _ _ _ h => h) (Or.inl ⟨by rfl, ?_⟩) ?_ ?_
    rotate_left
    · intro w'
      (try (with_reducible refine Ow.gate_eql (by first | exact Or.inl rfl | exact Or.inr rfl) rfl ?_; simp only [hq.1, Ow.part, Ot.sz, Ot.zero, Ow.over, Ow.overL, List.drop_succ_cons, List.drop_zero, List.take_succ_cons, List.take_zero]))
      go_simp
      with_reducible rfl
    rotate_left
    · simp only [Act.put, List.setIfInBounds_toArray, List.set_cons_zero, List.set_cons_succ, i64_w, i32_w]
      rfl
    refine one_ (i := 6) (N := some 11) #[true, true, true, true, true, true, true, false, false] rfl rfl (one_of HT_.out (by kernel_rfl)) (by decide) (fun K hK => ?_)
    refine goes_ Try.func29 (by kernel_rfl) rfl #[] (by rfl) rfl rfl (by (try simp only [List.map_toArray, List.map_cons, List.map_nil]); first | done | rfl | (simp only [hq.1]; done) | (simp only [hq.1]; rfl) | (simp only [List.length_drop, List.length_take]; rfl)) ?_
    refine Calls.mono (calls_of_args (by first | ((try simp only [hq.1]) <;> rfl) | fail) (bursarlaw23_awake.calls k  t574 _ A6.out)) ?_
    rintro e w15 ⟨he_, hb⟩
    subst he_
    replace HO := Aside0.mk (Ow.Own.call HO.out hb)
    clear hb
    refine ⟨_, rfl, ?_⟩
    refine hK.out _ _ HO.out (fun hHeld => ?_)
    clear hK K
    refine norm_ (a' := ?_) ?_ ?_
    rotate_left
    · show Act.put _ (some 11) _ = _
      simp only [Act.put, List.setIfInBounds_toArray, List.set_cons_zero, List.set_cons_succ, i64_w, i32_w]
      rfl
    refine pure_ (i := 7) (N := some 12) (v := ?_) (a' := ?_) #[true, true, true, true, true, true, true, true, false] rfl rfl (any_of HT_.out (by kernel_rfl)) (fun _ _ _ h => h) (Or.inl ⟨by rfl, ?_⟩) ?_ ?_
    rotate_left
    · intro w'
      (try (with_reducible refine Ow.gate_eql (by first | exact Or.inl rfl | exact Or.inr rfl) rfl ?_; simp only [hq.1, Ow.part, Ot.sz, Ot.zero, Ow.over, Ow.overL, List.drop_succ_cons, List.drop_zero, List.take_succ_cons, List.take_zero]))
      go_simp
      with_reducible rfl
    rotate_left
    · simp only [Act.put, List.setIfInBounds_toArray, List.set_cons_zero, List.set_cons_succ, i64_w, i32_w]
      rfl
    refine pure_ (i := 8) (N := some 2) (v := ?_) (a' := ?_) #[true, true, true, true, true, true, true, true, true] rfl rfl (any_of HT_.out (by kernel_rfl)) (fun _ _ _ h => h) (Or.inl ⟨by rfl, ?_⟩) ?_ ?_
    rotate_left
    · intro w'
      (try (with_reducible refine Ow.gate_eql (by first | exact Or.inl rfl | exact Or.inr rfl) rfl ?_; simp only [hq.1, Ow.part, Ot.sz, Ot.zero, Ow.over, Ow.overL, List.drop_succ_cons, List.drop_zero, List.take_succ_cons, List.take_zero]))
      go_simp
      with_reducible rfl
    rotate_left
    · simp only [Act.put, List.setIfInBounds_toArray, List.set_cons_zero, List.set_cons_succ, i64_w, i32_w]
      rfl
    refine done_ (done_of HT_.out (by kernel_rfl)) ?_
    try go_wp2_with (first | ((with_reducible refine Ow.gate_eqs (t := 53) (by first | exact Or.inl rfl | exact Or.inr rfl) rfl ?_); simp only [hq.1, Ow.part, Ot.sz, Ot.zero, Ow.over, Ow.overL, List.drop_succ_cons, List.drop_zero, List.take_succ_cons, List.take_zero]) | ((with_reducible refine Ow.gate_load rfl ?_); (try (refine gate_guard (by rfl) ?_; dsimp only)); (first | refine Ow.l0 Ot.ty HO.out rfl rfl rfl rfl (by first | ((try simp only [hq.1]) <;> rfl) | fail) ?_ | refine Ow.lp Ot.ty HO.out rfl rfl rfl rfl (by first | ((try simp only [hq.1]) <;> rfl) | fail) ?_)) | ((with_reducible refine gate_store rfl ?_); (try (refine gate_guard (by rfl) ?_; dsimp only)); (first | refine Ow.s0 Ot.ty HO.out rfl rfl rfl rfl rfl (by first | exact Ow.ev_tmp rfl | rfl) (by first | (refine ⟨?_, ?_, ?_⟩ <;> (first | ((try simp only [hq.1]) <;> rfl) | fail)) | fail) ?_ | refine Ow.sp Ot.ty HO.out rfl rfl rfl rfl rfl (by first | exact Ow.ev_tmp rfl | rfl) (by first | (refine ⟨?_, ?_, ?_⟩ <;> (first | ((try simp only [hq.1]) <;> rfl) | fail)) | fail) ?_); clear HO; intro wz_ HO; simp only [List.set_cons_zero, List.set_cons_succ] at HO))
    all_goals go_ret
    all_goals exact ⟨by first | rfl | (simp only [hq.1]; done) | (simp only [hq.1]; rfl) | (simp [errW_none, errW_some] <;> rfl) | (simp [*, errW_none, errW_some] <;> rfl), Ow.Own.below HO.out⟩
  · rw [if_neg c5] at H
    have c5b0 : (t544.toList == t559.toList && ((t545.toList == t560.toList && (t546.toList == t561.toList && (t547.toList == t562.toList && (t548 == t563 && (t549 == t564 && (t550 == t565 && (t551 == t566))))))) && (t552 == t567 && ((t553 == t568 && (t554 == t569 && (t555.toList == t570.toList && (t556.toList == t571.toList && (t557.toList == t572.toList && (t558 == t573)))))))))) = false := by simpa using c5
    (try (have c5b1 : decide (t544.toList = t559.toList && ((t545.toList == t560.toList && (t546.toList == t561.toList && (t547.toList == t562.toList && (t548 == t563 && (t549 == t564 && (t550 == t565 && (t551 == t566))))))) && (t552 == t567 && ((t553 == t568 && (t554 == t569 && (t555.toList == t570.toList && (t556.toList == t571.toList && (t557.toList == t572.toList && (t558 == t573)))))))))) = false := by simpa using c5))
    (try (have c5b2 : (t544.toList == t559.toList && ((t545.toList == t560.toList && (t546.toList == t561.toList && (t547.toList == t562.toList && (t548 == t563 && (t549 == t564 && (t550 == t565 && (t551 == t566))))))) && (t552 == t567 && ((t553 == t568 && (t554 == t569 && (t555.toList == t570.toList && (t556.toList == t571.toList && (t557.toList == t572.toList && (t558 == t573)))))))))) = false := by simpa using c5))
    (try (have c5b3 : ¬ (t544.toList = t559.toList && ((t545.toList == t560.toList && (t546.toList == t561.toList && (t547.toList == t562.toList && (t548 == t563 && (t549 == t564 && (t550 == t565 && (t551 == t566))))))) && (t552 == t567 && ((t553 == t568 && (t554 == t569 && (t555.toList == t570.toList && (t556.toList == t571.toList && (t557.toList == t572.toList && (t558 == t573)))))))))) := by simpa using c5))
    (try (have c5b4 : ((t544.toList = t559.toList ∧ ((t545.toList = t560.toList ∧ (t546.toList = t561.toList ∧ (t547.toList = t562.toList ∧ (t548 = t563 ∧ (t549 = t564 ∧ (t550 = t565 ∧ (t551 = t566))))))) ∧ (t552 = t567 ∧ ((t553 = t568 ∧ (t554 = t569 ∧ (t555.toList = t570.toList ∧ (t556.toList = t571.toList ∧ (t557.toList = t572.toList ∧ (t558 = t573)))))))))) = False) := eq_false (by first | (simpa using c5; done) | (intro h_; have g_ := c5; simp [h_] at g_; done) | (have g_ := c5; simp at g_; exact g_))))
    clear c5
    exact absurd H (by simp)

end Go.Proofs.Ytddlmcaclbkopaa.XCD
