-- Written by wip/xprint.py, a session's program: printed out of the translation, with hand-written functions. Lean checks it.
import Derived.Test.YtddlmcaclbkopaaXCO0
import Derived.Test.YtddlmcaclbkopaaXCO1
import Derived.Test.YtddlmcaclbkopaaXCO2
import Derived.Test.YtddlmcaclbkopaaXCO8
import Derived.Test.YtddlmcaclbkopaaXCO9
namespace Go.Proofs.Ytddlmcaclbkopaa.XCO
open Go.RowKit Go.Proofs.YtddlmcaclbkopaaW.PrintWords Go.Proofs.YtddlmcaclbkopaaW.PrintLast Go.Proofs.YtddlmcaclbkopaaW.PrintMore
attribute [local go_sem] max2_int min2_int max_two min_two max_three min_three max_four min_four   -- for this text's walks alone
set_option linter.unusedVariables false
set_option linter.unusedSimpArgs false

attribute [local go_sem high] eqA36
/-! ### bursarlaw23_CaptureOnce: function 10 -/
def bursarlaw23_CaptureOnce.j0 : Nat → Int → Bool → ByteArray → ByteArray → ByteArray → Int → ByteArray → ByteArray → ByteArray → ByteArray → ByteArray → Int → Int → ByteArray → Bool → Int → ByteArray → ByteArray → ByteArray → Int → Int → Int → Bool → Bool → Int → Int → Bool → Option (Bool)
  | 0, _, _, _, _, _, _, _, _, _, _, _, _, _, _, _, _, _, _, _, _, _, _, _, _, _, _, _ => none
  | k + 1, x1, x25, x359000, x359001, x359002, x359003, x359004, x359005, x359006, x359007, x359008, x359009, x359010, x359011, x359012, x359013, x359014, x359015, x359016, x359017, x359018, x359019, x359020, x359021, x359022, x359023, x359024 => if x25 = true then (none) else ((capture_Capture.f k x359000 x359001 (⟨#[48, 48, 48, 48, 48, 48]⟩ : ByteArray) x359003 x359004 x359005 x359006 x359007 x359008 x359009 x359010 x359011 x359012 x359013 x359014 x359015 x359016 x359017 x359018 x359019 x359020 x359021 x359022 x359023 x359024).bind fun bt416 => (if bt416.2.2.2.2.2.2.2.2.1 = true then ((capture_Capture.f k x359000 x359001 (⟨#[48, 48, 48, 48, 48, 48]⟩ : ByteArray) (wrap64 ((wrap64 (x1)) + 1)) x359004 x359005 x359006 x359007 x359008 x359009 x359010 x359011 x359012 x359013 bt416.2.1 bt416.2.2.1 bt416.2.2.2.1 bt416.2.2.2.2.1 bt416.2.2.2.2.2.1 bt416.2.2.2.2.2.2.1 bt416.2.2.2.2.2.2.2.1 x359021 x359022 x359023 x359024).bind fun bt432 => ((capture_Capture.f k (⟨#[48, 50, 50, 48]⟩ : ByteArray) x359001 (⟨#[48, 48, 48, 48, 48, 48]⟩ : ByteArray) (wrap64 ((wrap64 (x1)) + 1)) x359004 x359005 x359006 x359007 x359008 x359009 x359010 x359011 x359012 x359013 bt416.2.1 bt416.2.2.1 bt416.2.2.2.1 bt416.2.2.2.2.1 bt416.2.2.2.2.2.1 bt416.2.2.2.2.2.2.1 bt416.2.2.2.2.2.2.2.1 x359021 x359022 x359023 x359024).bind fun bt448 => (if bt416.2.2.2.2.2.2.2.1 = true then (none) else (if bt432.1.toList = ([53, 52] : List UInt8) then (if bt448.1.toList = ([53, 52] : List UInt8) then (if (bt432.2.2.2.2.2.2.2.2.2.1 == 0 && (bt432.2.2.2.2.2.2.2.2.2.2.1 == 0 && (bt432.2.2.2.2.2.2.2.2.2.2.2.1.toList == ([] : List UInt8) && (bt432.2.2.2.2.2.2.2.2.2.2.2.2.1.toList == ([] : List UInt8) && (bt432.2.2.2.2.2.2.2.2.2.2.2.2.2.1.toList == ([] : List UInt8) && (bt432.2.2.2.2.2.2.2.2.2.2.2.2.2.2 == 0)))))) = true then ((bursarlaw23_awake.f k).bind fun t464 => (some t464)) else (none)) else (none)) else (none))))) else (if bt416.1.toList = ([48, 48] : List UInt8) then (if x359021 = true then (none) else ((bursarlaw23_awake.f k).bind fun t465 => (some t465))) else ((bursarlaw23_awake.f k).bind fun t466 => (some t466)))))
def bursarlaw23_CaptureOnce.f (k : Nat) (a0_0 : ByteArray) (a0_1 : ByteArray) (a0_2 : ByteArray) (a0_3 : Int) (a0_4 : ByteArray) (a0_5 : ByteArray) (a0_6 : ByteArray) (a0_7 : ByteArray) (a0_8 : ByteArray) (a0_9 : Int) (a0_10 : Int) (a0_11 : ByteArray) (a0_12 : Bool) (a0_13 : Int) (a0_14 : ByteArray) (a0_15 : ByteArray) (a0_16 : ByteArray) (a0_17 : Int) (a0_18 : Int) (a0_19 : Int) (a0_20 : Bool) (a0_21 : Bool) (a0_22 : Int) (a0_23 : Int) (a0_24 : Bool) (a1 : Int) : Option (Bool) := (bursarlaw22_Few.f a0_0 a0_1 a0_2 a0_3 a0_4 a0_5 a0_6 a0_7 a0_8 a0_9 a0_10 a0_11 a0_12 a0_13 a0_14 a0_15 a0_16 a0_17 a0_18 a0_19 a0_20 a0_21 a0_22 a0_23 a0_24).bind fun bt359 => ((capture_Capture.f k bt359.1 bt359.2.1 bt359.2.2.1 bt359.2.2.2.1 bt359.2.2.2.2.1 bt359.2.2.2.2.2.1 bt359.2.2.2.2.2.2.1 bt359.2.2.2.2.2.2.2.1 bt359.2.2.2.2.2.2.2.2.1 bt359.2.2.2.2.2.2.2.2.2.1 bt359.2.2.2.2.2.2.2.2.2.2.1 bt359.2.2.2.2.2.2.2.2.2.2.2.1 bt359.2.2.2.2.2.2.2.2.2.2.2.2.1 bt359.2.2.2.2.2.2.2.2.2.2.2.2.2.1 bt359.2.2.2.2.2.2.2.2.2.2.2.2.2.2.1 bt359.2.2.2.2.2.2.2.2.2.2.2.2.2.2.2.1 bt359.2.2.2.2.2.2.2.2.2.2.2.2.2.2.2.2.1 bt359.2.2.2.2.2.2.2.2.2.2.2.2.2.2.2.2.2.1 bt359.2.2.2.2.2.2.2.2.2.2.2.2.2.2.2.2.2.2.1 bt359.2.2.2.2.2.2.2.2.2.2.2.2.2.2.2.2.2.2.2.1 bt359.2.2.2.2.2.2.2.2.2.2.2.2.2.2.2.2.2.2.2.2.1 bt359.2.2.2.2.2.2.2.2.2.2.2.2.2.2.2.2.2.2.2.2.2.1 bt359.2.2.2.2.2.2.2.2.2.2.2.2.2.2.2.2.2.2.2.2.2.2.1 bt359.2.2.2.2.2.2.2.2.2.2.2.2.2.2.2.2.2.2.2.2.2.2.2.1 true).bind fun bt386 => (if bt386.1.toList = ([48, 48] : List UInt8) then (bursarlaw23_CaptureOnce.j0 k a1 true bt359.1 bt359.2.1 bt359.2.2.1 bt359.2.2.2.1 bt359.2.2.2.2.1 bt359.2.2.2.2.2.1 bt359.2.2.2.2.2.2.1 bt359.2.2.2.2.2.2.2.1 bt359.2.2.2.2.2.2.2.2.1 bt359.2.2.2.2.2.2.2.2.2.1 bt359.2.2.2.2.2.2.2.2.2.2.1 bt359.2.2.2.2.2.2.2.2.2.2.2.1 bt359.2.2.2.2.2.2.2.2.2.2.2.2.1 bt359.2.2.2.2.2.2.2.2.2.2.2.2.2.1 bt359.2.2.2.2.2.2.2.2.2.2.2.2.2.2.1 bt359.2.2.2.2.2.2.2.2.2.2.2.2.2.2.2.1 bt359.2.2.2.2.2.2.2.2.2.2.2.2.2.2.2.2.1 bt359.2.2.2.2.2.2.2.2.2.2.2.2.2.2.2.2.2.1 bt359.2.2.2.2.2.2.2.2.2.2.2.2.2.2.2.2.2.2.1 bt359.2.2.2.2.2.2.2.2.2.2.2.2.2.2.2.2.2.2.2.1 bt359.2.2.2.2.2.2.2.2.2.2.2.2.2.2.2.2.2.2.2.2.1 bt359.2.2.2.2.2.2.2.2.2.2.2.2.2.2.2.2.2.2.2.2.2.1 bt359.2.2.2.2.2.2.2.2.2.2.2.2.2.2.2.2.2.2.2.2.2.2.1 bt359.2.2.2.2.2.2.2.2.2.2.2.2.2.2.2.2.2.2.2.2.2.2.2.1 bt359.2.2.2.2.2.2.2.2.2.2.2.2.2.2.2.2.2.2.2.2.2.2.2.2) else ((capture_Capture.f k bt359.1 bt359.2.1 bt359.2.2.1 bt359.2.2.2.1 bt359.2.2.2.2.1 bt359.2.2.2.2.2.1 bt359.2.2.2.2.2.2.1 bt359.2.2.2.2.2.2.2.1 bt359.2.2.2.2.2.2.2.2.1 bt359.2.2.2.2.2.2.2.2.2.1 bt359.2.2.2.2.2.2.2.2.2.2.1 bt359.2.2.2.2.2.2.2.2.2.2.2.1 false bt359.2.2.2.2.2.2.2.2.2.2.2.2.2.1 bt359.2.2.2.2.2.2.2.2.2.2.2.2.2.2.1 bt359.2.2.2.2.2.2.2.2.2.2.2.2.2.2.2.1 bt359.2.2.2.2.2.2.2.2.2.2.2.2.2.2.2.2.1 bt359.2.2.2.2.2.2.2.2.2.2.2.2.2.2.2.2.2.1 bt359.2.2.2.2.2.2.2.2.2.2.2.2.2.2.2.2.2.2.1 bt359.2.2.2.2.2.2.2.2.2.2.2.2.2.2.2.2.2.2.2.1 bt359.2.2.2.2.2.2.2.2.2.2.2.2.2.2.2.2.2.2.2.2.1 bt359.2.2.2.2.2.2.2.2.2.2.2.2.2.2.2.2.2.2.2.2.2.1 bt359.2.2.2.2.2.2.2.2.2.2.2.2.2.2.2.2.2.2.2.2.2.2.1 bt359.2.2.2.2.2.2.2.2.2.2.2.2.2.2.2.2.2.2.2.2.2.2.2.1 bt359.2.2.2.2.2.2.2.2.2.2.2.2.2.2.2.2.2.2.2.2.2.2.2.2).bind fun bt401 => (bursarlaw23_CaptureOnce.j0 k a1 (bt401.1.toList == ([48, 48] : List UInt8)) bt359.1 bt359.2.1 bt359.2.2.1 bt359.2.2.2.1 bt359.2.2.2.2.1 bt359.2.2.2.2.2.1 bt359.2.2.2.2.2.2.1 bt359.2.2.2.2.2.2.2.1 bt359.2.2.2.2.2.2.2.2.1 bt359.2.2.2.2.2.2.2.2.2.1 bt359.2.2.2.2.2.2.2.2.2.2.1 bt359.2.2.2.2.2.2.2.2.2.2.2.1 bt359.2.2.2.2.2.2.2.2.2.2.2.2.1 bt359.2.2.2.2.2.2.2.2.2.2.2.2.2.1 bt359.2.2.2.2.2.2.2.2.2.2.2.2.2.2.1 bt359.2.2.2.2.2.2.2.2.2.2.2.2.2.2.2.1 bt359.2.2.2.2.2.2.2.2.2.2.2.2.2.2.2.2.1 bt359.2.2.2.2.2.2.2.2.2.2.2.2.2.2.2.2.2.1 bt359.2.2.2.2.2.2.2.2.2.2.2.2.2.2.2.2.2.2.1 bt359.2.2.2.2.2.2.2.2.2.2.2.2.2.2.2.2.2.2.2.1 bt359.2.2.2.2.2.2.2.2.2.2.2.2.2.2.2.2.2.2.2.2.1 bt359.2.2.2.2.2.2.2.2.2.2.2.2.2.2.2.2.2.2.2.2.2.1 bt359.2.2.2.2.2.2.2.2.2.2.2.2.2.2.2.2.2.2.2.2.2.2.1 bt359.2.2.2.2.2.2.2.2.2.2.2.2.2.2.2.2.2.2.2.2.2.2.2.1 bt359.2.2.2.2.2.2.2.2.2.2.2.2.2.2.2.2.2.2.2.2.2.2.2.2))))
theorem bursarlaw23_CaptureOnce.mono_l : ∀ k, (∀ y0 y1 y2 y3 y4 y5 y6 y7 y8 y9 y10 y11 y12 y13 y14 y15 y16 y17 y18 y19 y20 y21 y22 y23 y24 y25 y26, LeO (bursarlaw23_CaptureOnce.j0 k y0 y1 y2 y3 y4 y5 y6 y7 y8 y9 y10 y11 y12 y13 y14 y15 y16 y17 y18 y19 y20 y21 y22 y23 y24 y25 y26) (bursarlaw23_CaptureOnce.j0 (k + 1) y0 y1 y2 y3 y4 y5 y6 y7 y8 y9 y10 y11 y12 y13 y14 y15 y16 y17 y18 y19 y20 y21 y22 y23 y24 y25 y26))
  | 0 => fun _ _ _ _ _ _ _ _ _ _ _ _ _ _ _ _ _ _ _ _ _ _ _ _ _ _ _ r h => by simp [bursarlaw23_CaptureOnce.j0] at h
  | k + 1 => by
    have ih0 := bursarlaw23_CaptureOnce.mono_l k
    · intro y0 y1 y2 y3 y4 y5 y6 y7 y8 y9 y10 y11 y12 y13 y14 y15 y16 y17 y18 y19 y20 y21 y22 y23 y24 y25 y26
      unfold bursarlaw23_CaptureOnce.j0
      repeat' first
      | (with_reducible exact ih0 _ _ _ _ _ _ _ _ _ _ _ _ _ _ _ _ _ _ _ _ _ _ _ _ _ _ _)
      | (with_reducible exact bursarlaw23_awake.mono _)
      | (with_reducible exact capture_Capture.mono _ _ _ _ _ _ _ _ _ _ _ _ _ _ _ _ _ _ _ _ _ _ _ _ _ _)
      | (with_reducible exact LeO.refl _)
      | (with_reducible exact LeO.none _)
      | (with_reducible refine LeO.ite ?_ ?_)
      | (with_reducible refine LeO.bind ?_ (fun _ => ?_))
      | exact ih0 _ _ _ _ _ _ _ _ _ _ _ _ _ _ _ _ _ _ _ _ _ _ _ _ _ _ _
      | exact bursarlaw23_awake.mono _
      | exact capture_Capture.mono _ _ _ _ _ _ _ _ _ _ _ _ _ _ _ _ _ _ _ _ _ _ _ _ _ _
      | exact LeO.none _
      | refine LeO.ite ?_ ?_
      | refine LeO.bind ?_ (fun _ => ?_)
theorem bursarlaw23_CaptureOnce.mono : ∀ a0 a1 a2 a3 a4 a5 a6 a7 a8 a9 a10 a11 a12 a13 a14 a15 a16 a17 a18 a19 a20 a21 a22 a23 a24 a25 k, LeO (bursarlaw23_CaptureOnce.f k a0 a1 a2 a3 a4 a5 a6 a7 a8 a9 a10 a11 a12 a13 a14 a15 a16 a17 a18 a19 a20 a21 a22 a23 a24 a25) (bursarlaw23_CaptureOnce.f (k + 1) a0 a1 a2 a3 a4 a5 a6 a7 a8 a9 a10 a11 a12 a13 a14 a15 a16 a17 a18 a19 a20 a21 a22 a23 a24 a25) := by
  intro a0 a1 a2 a3 a4 a5 a6 a7 a8 a9 a10 a11 a12 a13 a14 a15 a16 a17 a18 a19 a20 a21 a22 a23 a24 a25 k
  have ih0 := bursarlaw23_CaptureOnce.mono_l k
  unfold bursarlaw23_CaptureOnce.f
  repeat' first
      | (with_reducible exact ih0 _ _ _ _ _ _ _ _ _ _ _ _ _ _ _ _ _ _ _ _ _ _ _ _ _ _ _)
      | (with_reducible exact bursarlaw23_awake.mono _)
      | (with_reducible exact capture_Capture.mono _ _ _ _ _ _ _ _ _ _ _ _ _ _ _ _ _ _ _ _ _ _ _ _ _ _)
      | (with_reducible exact LeO.refl _)
      | (with_reducible exact LeO.none _)
      | (with_reducible refine LeO.ite ?_ ?_)
      | (with_reducible refine LeO.bind ?_ (fun _ => ?_))
      | exact ih0 _ _ _ _ _ _ _ _ _ _ _ _ _ _ _ _ _ _ _ _ _ _ _ _ _ _ _
      | exact bursarlaw23_awake.mono _
      | exact capture_Capture.mono _ _ _ _ _ _ _ _ _ _ _ _ _ _ _ _ _ _ _ _ _ _ _ _ _ _
      | exact LeO.none _
      | refine LeO.ite ?_ ?_
      | refine LeO.bind ?_ (fun _ => ?_)
def bursarlaw23_CaptureOnce.Z25 : Array Value := #[.string (⟨#[]⟩ : ByteArray), .string (⟨#[]⟩ : ByteArray), .string (⟨#[]⟩ : ByteArray), .int .i64 0, .string (⟨#[]⟩ : ByteArray), .string (⟨#[]⟩ : ByteArray), .string (⟨#[]⟩ : ByteArray), .string (⟨#[]⟩ : ByteArray), .string (⟨#[]⟩ : ByteArray), .int .i64 0, .int .i64 0, .string (⟨#[]⟩ : ByteArray), .bool false, .int .i64 0, .string (⟨#[]⟩ : ByteArray), .string (⟨#[]⟩ : ByteArray), .string (⟨#[]⟩ : ByteArray), .int .i64 0, .int .i64 0, .int .i64 0, .bool false, .bool false, .int .i64 0, .int .i64 0, .bool false]
def bursarlaw23_CaptureOnce.Z15 : Array Value := #[.string (⟨#[]⟩ : ByteArray), .string (⟨#[]⟩ : ByteArray), .string (⟨#[]⟩ : ByteArray), .string (⟨#[]⟩ : ByteArray), .int .i64 0, .int .i64 0, .int .i64 0, .bool false, .bool false, .int .i64 0, .int .i64 0, .string (⟨#[]⟩ : ByteArray), .string (⟨#[]⟩ : ByteArray), .string (⟨#[]⟩ : ByteArray), .int .i64 0]
set_option maxHeartbeats 8000000 in
set_option maxRecDepth 100000 in
theorem bursarlaw23_CaptureOnce.calls (k : Nat) (a0_0 : ByteArray) (a0_1 : ByteArray) (a0_2 : ByteArray) (a0_3 : Int) (a0_4 : ByteArray) (a0_5 : ByteArray) (a0_6 : ByteArray) (a0_7 : ByteArray) (a0_8 : ByteArray) (a0_9 : Int) (a0_10 : Int) (a0_11 : ByteArray) (a0_12 : Bool) (a0_13 : Int) (a0_14 : ByteArray) (a0_15 : ByteArray) (a0_16 : ByteArray) (a0_17 : Int) (a0_18 : Int) (a0_19 : Int) (a0_20 : Bool) (a0_21 : Bool) (a0_22 : Int) (a0_23 : Int) (a0_24 : Bool) (a1 : Int) (r : Bool) (w : World) (h : bursarlaw23_CaptureOnce.f k a0_0 a0_1 a0_2 a0_3 a0_4 a0_5 a0_6 a0_7 a0_8 a0_9 a0_10 a0_11 a0_12 a0_13 a0_14 a0_15 a0_16 a0_17 a0_18 a0_19 a0_20 a0_21 a0_22 a0_23 a0_24 a1 = some r) :
    Calls Try.prog 10 #[.agg #[.string a0_0, .string a0_1, .string a0_2, .int .i64 a0_3, .string a0_4, .string a0_5, .string a0_6, .string a0_7, .string a0_8, .int .i64 a0_9, .int .i64 a0_10, .string a0_11, .bool a0_12, .int .i64 a0_13, .string a0_14, .string a0_15, .string a0_16, .int .i64 a0_17, .int .i64 a0_18, .int .i64 a0_19, .bool a0_20, .bool a0_21, .int .i64 a0_22, .int .i64 a0_23, .bool a0_24], .int .u16 a1] w fun e w' => e = .returned (.bool r) ∧ Below w.heap.size w w' := by
  have hu27 := Try.underlying27
  have hu53 := Try.underlying53
  have hu25 := Try.underlying25
  have hu36 := Try.underlying36
  have HO := Aside0.mk (Ow.Own.nil w)
  have hmf : ∀ (fn : Fn) (first cap : Array Value) (w : World), (Instr.makeFunc fn first cap).run Try.prog w = .ok (.func fn first cap) w := fun _ _ _ _ => rfl
  have H : ((bursarlaw22_Few.f a0_0 a0_1 a0_2 a0_3 a0_4 a0_5 a0_6 a0_7 a0_8 a0_9 a0_10 a0_11 a0_12 a0_13 a0_14 a0_15 a0_16 a0_17 a0_18 a0_19 a0_20 a0_21 a0_22 a0_23 a0_24).bind fun bt359 => ((capture_Capture.f k bt359.1 bt359.2.1 bt359.2.2.1 bt359.2.2.2.1 bt359.2.2.2.2.1 bt359.2.2.2.2.2.1 bt359.2.2.2.2.2.2.1 bt359.2.2.2.2.2.2.2.1 bt359.2.2.2.2.2.2.2.2.1 bt359.2.2.2.2.2.2.2.2.2.1 bt359.2.2.2.2.2.2.2.2.2.2.1 bt359.2.2.2.2.2.2.2.2.2.2.2.1 bt359.2.2.2.2.2.2.2.2.2.2.2.2.1 bt359.2.2.2.2.2.2.2.2.2.2.2.2.2.1 bt359.2.2.2.2.2.2.2.2.2.2.2.2.2.2.1 bt359.2.2.2.2.2.2.2.2.2.2.2.2.2.2.2.1 bt359.2.2.2.2.2.2.2.2.2.2.2.2.2.2.2.2.1 bt359.2.2.2.2.2.2.2.2.2.2.2.2.2.2.2.2.2.1 bt359.2.2.2.2.2.2.2.2.2.2.2.2.2.2.2.2.2.2.1 bt359.2.2.2.2.2.2.2.2.2.2.2.2.2.2.2.2.2.2.2.1 bt359.2.2.2.2.2.2.2.2.2.2.2.2.2.2.2.2.2.2.2.2.1 bt359.2.2.2.2.2.2.2.2.2.2.2.2.2.2.2.2.2.2.2.2.2.1 bt359.2.2.2.2.2.2.2.2.2.2.2.2.2.2.2.2.2.2.2.2.2.2.1 bt359.2.2.2.2.2.2.2.2.2.2.2.2.2.2.2.2.2.2.2.2.2.2.2.1 true).bind fun bt386 => (if bt386.1.toList = ([48, 48] : List UInt8) then (bursarlaw23_CaptureOnce.j0 k a1 true bt359.1 bt359.2.1 bt359.2.2.1 bt359.2.2.2.1 bt359.2.2.2.2.1 bt359.2.2.2.2.2.1 bt359.2.2.2.2.2.2.1 bt359.2.2.2.2.2.2.2.1 bt359.2.2.2.2.2.2.2.2.1 bt359.2.2.2.2.2.2.2.2.2.1 bt359.2.2.2.2.2.2.2.2.2.2.1 bt359.2.2.2.2.2.2.2.2.2.2.2.1 bt359.2.2.2.2.2.2.2.2.2.2.2.2.1 bt359.2.2.2.2.2.2.2.2.2.2.2.2.2.1 bt359.2.2.2.2.2.2.2.2.2.2.2.2.2.2.1 bt359.2.2.2.2.2.2.2.2.2.2.2.2.2.2.2.1 bt359.2.2.2.2.2.2.2.2.2.2.2.2.2.2.2.2.1 bt359.2.2.2.2.2.2.2.2.2.2.2.2.2.2.2.2.2.1 bt359.2.2.2.2.2.2.2.2.2.2.2.2.2.2.2.2.2.2.1 bt359.2.2.2.2.2.2.2.2.2.2.2.2.2.2.2.2.2.2.2.1 bt359.2.2.2.2.2.2.2.2.2.2.2.2.2.2.2.2.2.2.2.2.1 bt359.2.2.2.2.2.2.2.2.2.2.2.2.2.2.2.2.2.2.2.2.2.1 bt359.2.2.2.2.2.2.2.2.2.2.2.2.2.2.2.2.2.2.2.2.2.2.1 bt359.2.2.2.2.2.2.2.2.2.2.2.2.2.2.2.2.2.2.2.2.2.2.2.1 bt359.2.2.2.2.2.2.2.2.2.2.2.2.2.2.2.2.2.2.2.2.2.2.2.2) else ((capture_Capture.f k bt359.1 bt359.2.1 bt359.2.2.1 bt359.2.2.2.1 bt359.2.2.2.2.1 bt359.2.2.2.2.2.1 bt359.2.2.2.2.2.2.1 bt359.2.2.2.2.2.2.2.1 bt359.2.2.2.2.2.2.2.2.1 bt359.2.2.2.2.2.2.2.2.2.1 bt359.2.2.2.2.2.2.2.2.2.2.1 bt359.2.2.2.2.2.2.2.2.2.2.2.1 false bt359.2.2.2.2.2.2.2.2.2.2.2.2.2.1 bt359.2.2.2.2.2.2.2.2.2.2.2.2.2.2.1 bt359.2.2.2.2.2.2.2.2.2.2.2.2.2.2.2.1 bt359.2.2.2.2.2.2.2.2.2.2.2.2.2.2.2.2.1 bt359.2.2.2.2.2.2.2.2.2.2.2.2.2.2.2.2.2.1 bt359.2.2.2.2.2.2.2.2.2.2.2.2.2.2.2.2.2.2.1 bt359.2.2.2.2.2.2.2.2.2.2.2.2.2.2.2.2.2.2.2.1 bt359.2.2.2.2.2.2.2.2.2.2.2.2.2.2.2.2.2.2.2.2.1 bt359.2.2.2.2.2.2.2.2.2.2.2.2.2.2.2.2.2.2.2.2.2.1 bt359.2.2.2.2.2.2.2.2.2.2.2.2.2.2.2.2.2.2.2.2.2.2.1 bt359.2.2.2.2.2.2.2.2.2.2.2.2.2.2.2.2.2.2.2.2.2.2.2.1 bt359.2.2.2.2.2.2.2.2.2.2.2.2.2.2.2.2.2.2.2.2.2.2.2.2).bind fun bt401 => (bursarlaw23_CaptureOnce.j0 k a1 (bt401.1.toList == ([48, 48] : List UInt8)) bt359.1 bt359.2.1 bt359.2.2.1 bt359.2.2.2.1 bt359.2.2.2.2.1 bt359.2.2.2.2.2.1 bt359.2.2.2.2.2.2.1 bt359.2.2.2.2.2.2.2.1 bt359.2.2.2.2.2.2.2.2.1 bt359.2.2.2.2.2.2.2.2.2.1 bt359.2.2.2.2.2.2.2.2.2.2.1 bt359.2.2.2.2.2.2.2.2.2.2.2.1 bt359.2.2.2.2.2.2.2.2.2.2.2.2.1 bt359.2.2.2.2.2.2.2.2.2.2.2.2.2.1 bt359.2.2.2.2.2.2.2.2.2.2.2.2.2.2.1 bt359.2.2.2.2.2.2.2.2.2.2.2.2.2.2.2.1 bt359.2.2.2.2.2.2.2.2.2.2.2.2.2.2.2.2.1 bt359.2.2.2.2.2.2.2.2.2.2.2.2.2.2.2.2.2.1 bt359.2.2.2.2.2.2.2.2.2.2.2.2.2.2.2.2.2.2.1 bt359.2.2.2.2.2.2.2.2.2.2.2.2.2.2.2.2.2.2.2.1 bt359.2.2.2.2.2.2.2.2.2.2.2.2.2.2.2.2.2.2.2.2.1 bt359.2.2.2.2.2.2.2.2.2.2.2.2.2.2.2.2.2.2.2.2.2.1 bt359.2.2.2.2.2.2.2.2.2.2.2.2.2.2.2.2.2.2.2.2.2.2.1 bt359.2.2.2.2.2.2.2.2.2.2.2.2.2.2.2.2.2.2.2.2.2.2.2.1 bt359.2.2.2.2.2.2.2.2.2.2.2.2.2.2.2.2.2.2.2.2.2.2.2.2))))) = some r := h
  clear h
  replace H := Option.bind_eq_some_iff.mp H
  obtain ⟨⟨t359, t360, t361, t362, t363, t364, t365, t366, t367, t368, t369, t370, t371, t372, t373, t374, t375, t376, t377, t378, t379, t380, t381, t382, t383⟩, A30, H⟩ := H
  replace H : ((capture_Capture.f k t359 t360 t361 t362 t363 t364 t365 t366 t367 t368 t369 t370 t371 t372 t373 t374 t375 t376 t377 t378 t379 t380 t381 t382 true).bind fun bt386 => (if bt386.1.toList = ([48, 48] : List UInt8) then (bursarlaw23_CaptureOnce.j0 k a1 true t359 t360 t361 t362 t363 t364 t365 t366 t367 t368 t369 t370 t371 t372 t373 t374 t375 t376 t377 t378 t379 t380 t381 t382 t383) else ((capture_Capture.f k t359 t360 t361 t362 t363 t364 t365 t366 t367 t368 t369 t370 false t372 t373 t374 t375 t376 t377 t378 t379 t380 t381 t382 t383).bind fun bt401 => (bursarlaw23_CaptureOnce.j0 k a1 (bt401.1.toList == ([48, 48] : List UInt8)) t359 t360 t361 t362 t363 t364 t365 t366 t367 t368 t369 t370 t371 t372 t373 t374 t375 t376 t377 t378 t379 t380 t381 t382 t383)))) = some r := H
  have A3 := Aside0.mk A30
  clear A30
  have HC4 := Aside0.mk H
  clear H
  obtain ⟨Q0, hQ0_⟩ : ∃ q_ : Array Value, q_ = (#[.string a0_0, .string a0_1, .string a0_2, .int .i64 a0_3, .string a0_4, .string a0_5, .string a0_6, .string a0_7, .string a0_8, .int .i64 a0_9, .int .i64 a0_10, .string a0_11, .bool a0_12, .int .i64 a0_13, .string a0_14, .string a0_15, .string a0_16, .int .i64 a0_17, .int .i64 a0_18, .int .i64 a0_19, .bool a0_20, .bool a0_21, .int .i64 a0_22, .int .i64 a0_23, .bool a0_24] : Array Value) := ⟨_, rfl⟩
  try rw [← hQ0_]
  have hQ0 := Aside0.mk hQ0_; have hq := Aside0.mk hQ0_; clear hQ0_
  go_enter Try.func10, Try.ntmps10
  obtain ⟨Q1, hQ1_⟩ : ∃ q_ : Array Value, q_ = (#[.string t359, .string t360, .string t361, .int .i64 t362, .string t363, .string t364, .string t365, .string t366, .string t367, .int .i64 t368, .int .i64 t369, .string t370, .bool t371, .int .i64 t372, .string t373, .string t374, .string t375, .int .i64 t376, .int .i64 t377, .int .i64 t378, .bool t379, .bool t380, .int .i64 t381, .int .i64 t382, .bool t383] : Array Value) := ⟨_, rfl⟩
  try rw [← hQ1_]
  have hQ1 := Aside0.mk hQ1_; replace hq := Aside0.mk (And.intro hQ1_ hq.1); clear hQ1_
  try go_wp2_with (first | ((with_reducible refine gate_dst (N := 2) rfl ?_); refine Ow.box rfl (N := 2) rfl (cs := Q0) (t := 27) HO.out (by first | (go_simp; done) | (go_simp; rfl)) ?_; clear HO; intro gb358 w5 HO; simp only [List.cons_append, List.nil_append] at HO) | ((with_reducible refine gate_callee (f := 15) rfl ?_); refine goesL_ (some 11) rfl rfl Try.func15 (by kernel_rfl) rfl #[.agg Q0] rfl (by (try simp only [List.map_toArray, List.map_cons, List.map_nil]); first | done | rfl | (simp only [hq.1]; done) | (simp only [hq.1]; rfl)) ?_; refine Calls.mono (calls_of_args (by first | ((try simp only [hq.1]) <;> rfl) | fail) (bursarlaw22_Few.calls a0_0 a0_1 a0_2 a0_3 a0_4 a0_5 a0_6 a0_7 a0_8 a0_9 a0_10 a0_11 a0_12 a0_13 a0_14 a0_15 a0_16 a0_17 a0_18 a0_19 a0_20 a0_21 a0_22 a0_23 a0_24 t359 t360 t361 t362 t363 t364 t365 t366 t367 t368 t369 t370 t371 t372 t373 t374 t375 t376 t377 t378 t379 t380 t381 t382 t383 _ A3.out)) ?_; rintro e w7 ⟨he_, hb⟩; (try rw [← hQ1.out] at he_); subst he_; refine ⟨_, rfl, ?_⟩; replace HO := Aside0.mk (Ow.Own.call HO.out hb); clear hb) | ((with_reducible refine Ow.gate_field rfl ?_); (try (refine gate_guard (by rfl) ?_; dsimp only)); (first | refine Ow.f1 Ot.fl Ot.ty rfl rfl rfl rfl rfl (by first | ((try simp only [hq.1]) <;> rfl) | fail) ?_ | refine Ow.fS Ot.fl Ot.ty rfl rfl rfl rfl rfl ?_)) | ((with_reducible refine Ow.gate_eqs (t := 36) (by first | exact Or.inl rfl | exact Or.inr rfl) rfl ?_); simp only [hq.1, Ow.part, Ot.sz, Ot.zero, Ow.over, Ow.overL, List.drop_succ_cons, List.drop_zero, List.take_succ_cons, List.take_zero]) | ((with_reducible refine Ow.gate_build rfl ?_); (try (refine gate_guard (by rfl) ?_; dsimp only)); refine' Ow.tbuild Ot.bd rfl rfl rfl ?hf_ ?_; (case hf_ => repeat (any_goals (first | exact Ow.Fills.nil | (refine' Ow.Fills.c ?hv_ rfl ?hz_ ?_; (case hv_ => first | exact Ow.ev_tmp rfl | rfl); (case hz_ => first | (refine ⟨?_, ?_⟩ <;> (first | ((try simp only [hq.1]) <;> rfl) | fail)) | fail)))))) | ((with_reducible refine Ow.gate_load rfl ?_); (try (refine gate_guard (by rfl) ?_; dsimp only)); (first | refine Ow.l1 Ot.ty HO.out rfl rfl rfl rfl (by first | ((try simp only [hq.1]) <;> rfl) | fail) ?_ | refine Ow.l0 Ot.ty HO.out rfl rfl rfl rfl (by first | ((try simp only [hq.1]) <;> rfl) | fail) ?_ | refine Ow.lp Ot.ty HO.out rfl rfl rfl rfl (by first | ((try simp only [hq.1]) <;> rfl) | fail) ?_)) | ((with_reducible refine gate_store rfl ?_); (try (refine gate_guard (by rfl) ?_; dsimp only)); (first | refine Ow.s0 Ot.ty HO.out rfl rfl rfl rfl rfl (by first | exact Ow.ev_tmp rfl | rfl) (by first | (refine ⟨?_, ?_, ?_⟩ <;> (first | ((try simp only [hq.1]) <;> rfl) | fail)) | fail) ?_ | refine Ow.sp Ot.ty HO.out rfl rfl rfl rfl rfl (by first | exact Ow.ev_tmp rfl | rfl) (by first | (refine ⟨?_, ?_, ?_⟩ <;> (first | ((try simp only [hq.1]) <;> rfl) | fail)) | fail) ?_); clear HO; intro wz_ HO; simp only [List.set_cons_zero, List.set_cons_succ] at HO))
  refine Ow.ostart (n := 6) (ds := []) #[false, false, false, false, false, false] HO.out (by kernel_rfl) rfl (by kernel_rfl) ?_
  intro hHeld; replace HO := Aside0.mk hHeld
  refine take_ (i := 0) (N := some 12) (v := ?_) (a' := ?_) #[true, false, false, false, false, false] rfl rfl (by kernel_rfl) (fun _ _ _ h => h) (Or.inl ⟨by rfl, ?_⟩) hHeld ?_ ?_
  rotate_left
  · intro w' s_
    first | (refine' Ow.rload1 Ot.ty s_ rfl rfl rfl ?hk_ ?hs_; (case hk_ => exact (by with_reducible first | exact Ow.at0)); (case hs_ => first | ((try simp only [hq.1]) <;> rfl) | fail)) | (refine' Ow.rload0 Ot.ty s_ rfl rfl rfl ?hk_ ?hs_; (case hk_ => exact (by with_reducible first | exact Ow.at0)); (case hs_ => first | ((try simp only [hq.1]) <;> rfl) | fail)) | (refine' Ow.rloadp Ot.ty s_ rfl rfl rfl ?hk_ ?hs_; (case hk_ => exact (by with_reducible first | exact Ow.at0)); (case hs_ => first | ((try simp only [hq.1]) <;> rfl) | fail)) | (go_simp; with_reducible rfl)
  rotate_left
  · simp only [Act.put, List.setIfInBounds_toArray, List.set_cons_zero, List.set_cons_succ, i64_w, i32_w]
    rfl
  refine take_ (i := 1) (N := some 13) (v := ?_) (a' := ?_) #[true, true, false, false, false, false] rfl rfl (by kernel_rfl) (fun _ _ _ h => h) (Or.inl ⟨by rfl, ?_⟩) hHeld ?_ ?_
  rotate_left
  · intro w' s_
    first | (refine' Ow.rload1 Ot.ty s_ rfl rfl rfl ?hk_ ?hs_; (case hk_ => exact (by with_reducible first | exact Ow.at0)); (case hs_ => first | ((try simp only [hq.1]) <;> rfl) | fail)) | (refine' Ow.rload0 Ot.ty s_ rfl rfl rfl ?hk_ ?hs_; (case hk_ => exact (by with_reducible first | exact Ow.at0)); (case hs_ => first | ((try simp only [hq.1]) <;> rfl) | fail)) | (refine' Ow.rloadp Ot.ty s_ rfl rfl rfl ?hk_ ?hs_; (case hk_ => exact (by with_reducible first | exact Ow.at0)); (case hs_ => first | ((try simp only [hq.1]) <;> rfl) | fail)) | (go_simp; with_reducible rfl)
  rotate_left
  · simp only [Act.put, List.setIfInBounds_toArray, List.set_cons_zero, List.set_cons_succ, i64_w, i32_w]
    rfl
  refine join_ (σ := Nat × Nat) 2 #[true, true, true, true, false, false] (fun s_ => [(5, .pointer (some ⟨s_.1, 0, none⟩)), (6, .pointer (some ⟨s_.2, 0, none⟩))]) (fun s_ w' => Ow.Own w w' [(gb358, Q1, 27), (s_.1, bursarlaw23_CaptureOnce.Z25, 27), (s_.2, bursarlaw23_CaptureOnce.Z25, 27)]) ?_ ?_
  rotate_left
  · intro hCont
    refine two_ (i := 2) (j := 3) (Ni := some 5) (Nj := some 6) #[true, true, true, false, false, false] #[true, true, false, true, false, false] rfl rfl rfl rfl (by kernel_rfl) (by decide) (by decide) (fun K hK => ?_) (fun K hK => ?_)
    · skip
      refine box_step ?hg (N := 5) ?hd (cs := bursarlaw23_CaptureOnce.Z25) (t := 27) ?hr ?_; (case hd => rfl); (case hg => rfl); (case hr => first | (go_simp; done) | (go_simp; rfl))
      intro gb384 hg w11 hbox hb
      replace HO := Aside0.mk (Ow.Own.add HO.out hg hbox hb)
      clear hb hbox hg
      simp only [List.cons_append, List.nil_append] at HO
      refine hK.out _ _ (by have h_ := Ow.Own.pick [0] HO.out (by decide); exact h_) (fun hHeld => ?_)
      clear hK K
      refine norm_ (a' := ?_) ?_ ?_
      rotate_left
      · show Act.put _ (some 5) _ = _
        simp only [Act.put, List.setIfInBounds_toArray, List.set_cons_zero, List.set_cons_succ, i64_w, i32_w]
        rfl
      refine one_ (i := 3) (N := some 6) #[true, true, true, true, false, false] rfl rfl (by kernel_rfl) (by decide) (fun K hK => ?_)
      refine box_step ?hg (N := 6) ?hd (cs := bursarlaw23_CaptureOnce.Z25) (t := 27) ?hr ?_; (case hd => rfl); (case hg => rfl); (case hr => first | (go_simp; done) | (go_simp; rfl))
      intro gb385 hg w12 hbox hb
      replace HO := Aside0.mk (Ow.Own.add HO.out hg hbox hb)
      clear hb hbox hg
      simp only [List.cons_append, List.nil_append] at HO
      refine hK.out _ _ (by have h_ := Ow.Own.pick [0] HO.out (by decide); exact h_) (fun hHeld => ?_)
      clear hK K
      refine norm_ (a' := ?_) ?_ ?_
      rotate_left
      · show Act.put _ (some 6) _ = _
        simp only [Act.put, List.setIfInBounds_toArray, List.set_cons_zero, List.set_cons_succ, i64_w, i32_w]
        rfl
      exact norm_ (by simp only [putAll, Act.put, List.setIfInBounds_toArray, List.set_cons_zero, List.set_cons_succ]) (hCont (gb384, gb385) _ (Ow.Own.cong (Ow.Own.pick [0, 1, 2] HO.out (by decide)) (by first | ((try simp only [hq.1]) <;> rfl) | fail)))
    · skip
      refine box_step ?hg (N := 6) ?hd (cs := bursarlaw23_CaptureOnce.Z25) (t := 27) ?hr ?_; (case hd => rfl); (case hg => rfl); (case hr => first | (go_simp; done) | (go_simp; rfl))
      intro gb385 hg w11 hbox hb
      replace HO := Aside0.mk (Ow.Own.add HO.out hg hbox hb)
      clear hb hbox hg
      simp only [List.cons_append, List.nil_append] at HO
      refine hK.out _ _ (by have h_ := Ow.Own.pick [0] HO.out (by decide); exact h_) (fun hHeld => ?_)
      clear hK K
      refine norm_ (a' := ?_) ?_ ?_
      rotate_left
      · show Act.put _ (some 6) _ = _
        simp only [Act.put, List.setIfInBounds_toArray, List.set_cons_zero, List.set_cons_succ, i64_w, i32_w]
        rfl
      refine one_ (i := 2) (N := some 5) #[true, true, true, true, false, false] rfl rfl (by kernel_rfl) (by decide) (fun K hK => ?_)
      refine box_step ?hg (N := 5) ?hd (cs := bursarlaw23_CaptureOnce.Z25) (t := 27) ?hr ?_; (case hd => rfl); (case hg => rfl); (case hr => first | (go_simp; done) | (go_simp; rfl))
      intro gb384 hg w12 hbox hb
      replace HO := Aside0.mk (Ow.Own.add HO.out hg hbox hb)
      clear hb hbox hg
      simp only [List.cons_append, List.nil_append] at HO
      refine hK.out _ _ (by have h_ := Ow.Own.pick [0] HO.out (by decide); exact h_) (fun hHeld => ?_)
      clear hK K
      refine norm_ (a' := ?_) ?_ ?_
      rotate_left
      · show Act.put _ (some 5) _ = _
        simp only [Act.put, List.setIfInBounds_toArray, List.set_cons_zero, List.set_cons_succ, i64_w, i32_w]
        rfl
      exact norm_ (by simp only [putAll, Act.put, List.setIfInBounds_toArray, List.set_cons_zero, List.set_cons_succ]) (hCont (gb384, gb385) _ (Ow.Own.cong (Ow.Own.pick [0, 2, 1] HO.out (by decide)) (by first | ((try simp only [hq.1]) <;> rfl) | fail)))
  rintro ⟨gb384, gb385⟩ w13 HO7_
  clear HO
  have HO := Aside0.mk HO7_
  clear HO7_
  have hHeld := Ow.Own.pick [0] HO.out (by decide)
  refine norm_ (a' := ?_) ?_ ?_
  rotate_left
  · simp only [putAll, Act.put, List.setIfInBounds_toArray, List.set_cons_zero, List.set_cons_succ]
    rfl
  refine one_ (i := 4) (N := none) #[true, true, true, true, true, false] rfl rfl (by kernel_rfl) (by decide) (fun K hK => ?_)
  refine Ow.oskip Ot.ty HO.out (by rfl) rfl rfl rfl rfl (by with_reducible first | exact Ow.at0 | exact Ow.at1 | exact Ow.at2) (by first | exact Ow.ev_tmp rfl | rfl) (by first | ((try simp only [hq.1]) <;> rfl) | fail) (by first | ((try simp only [hq.1]) <;> rfl) | fail) (by first | ((try simp only [hq.1]) <;> rfl) | fail) ?_
  clear HO; intro wz_ HO; simp only [List.set_cons_zero, List.set_cons_succ] at HO
  refine hK.out _ _ (by have h_ := Ow.Own.pick [0] HO.out (by decide); exact h_) (fun hHeld => ?_)
  clear hK K
  refine one_ (i := 5) (N := none) #[true, true, true, true, true, true] rfl rfl (by kernel_rfl) (by decide) (fun K hK => ?_)
  refine Ow.oskip Ot.ty HO.out (by rfl) rfl rfl rfl rfl (by with_reducible first | exact Ow.at0 | exact Ow.at1 | exact Ow.at2) (by first | exact Ow.ev_tmp rfl | rfl) (by first | ((try simp only [hq.1]) <;> rfl) | fail) (by first | ((try simp only [hq.1]) <;> rfl) | fail) (by first | ((try simp only [hq.1]) <;> rfl) | fail) ?_
  clear HO; intro wz_ HO; simp only [List.set_cons_zero, List.set_cons_succ] at HO
  refine hK.out _ _ (by have h_ := Ow.Own.pick [0] HO.out (by decide); exact h_) (fun hHeld => ?_)
  clear hK K
  refine done_ (by kernel_rfl) ?_
  go_upto_region 4 with (first | ((with_reducible refine Ow.gate_field rfl ?_); (try (refine gate_guard (by rfl) ?_; dsimp only)); (first | refine Ow.f1 Ot.fl Ot.ty rfl rfl rfl rfl rfl (by first | ((try simp only [hq.1]) <;> rfl) | fail) ?_ | refine Ow.fS Ot.fl Ot.ty rfl rfl rfl rfl rfl ?_)) | ((with_reducible refine Ow.gate_eqs (t := 36) (by first | exact Or.inl rfl | exact Or.inr rfl) rfl ?_); simp only [hq.1, Ow.part, Ot.sz, Ot.zero, Ow.over, Ow.overL, List.drop_succ_cons, List.drop_zero, List.take_succ_cons, List.take_zero]) | ((with_reducible refine Ow.gate_build rfl ?_); (try (refine gate_guard (by rfl) ?_; dsimp only)); refine' Ow.tbuild Ot.bd rfl rfl rfl ?hf_ ?_; (case hf_ => repeat (any_goals (first | exact Ow.Fills.nil | (refine' Ow.Fills.c ?hv_ rfl ?hz_ ?_; (case hv_ => first | exact Ow.ev_tmp rfl | rfl); (case hz_ => first | (refine ⟨?_, ?_⟩ <;> (first | ((try simp only [hq.1]) <;> rfl) | fail)) | fail)))))) | ((with_reducible refine Ow.gate_load rfl ?_); (try (refine gate_guard (by rfl) ?_; dsimp only)); (first | refine Ow.l1 Ot.ty HO.out rfl rfl rfl rfl (by first | ((try simp only [hq.1]) <;> rfl) | fail) ?_ | refine Ow.l0 Ot.ty HO.out rfl rfl rfl rfl (by first | ((try simp only [hq.1]) <;> rfl) | fail) ?_ | refine Ow.lp Ot.ty HO.out rfl rfl rfl rfl (by first | ((try simp only [hq.1]) <;> rfl) | fail) ?_)) | ((with_reducible refine gate_store rfl ?_); (try (refine gate_guard (by rfl) ?_; dsimp only)); (first | refine Ow.s0 Ot.ty HO.out rfl rfl rfl rfl rfl (by first | exact Ow.ev_tmp rfl | rfl) (by first | (refine ⟨?_, ?_, ?_⟩ <;> (first | ((try simp only [hq.1]) <;> rfl) | fail)) | fail) ?_ | refine Ow.sp Ot.ty HO.out rfl rfl rfl rfl rfl (by first | exact Ow.ev_tmp rfl | rfl) (by first | (refine ⟨?_, ?_, ?_⟩ <;> (first | ((try simp only [hq.1]) <;> rfl) | fail)) | fail) ?_); clear HO; intro wz_ HO; simp only [List.set_cons_zero, List.set_cons_succ] at HO))
  obtain ⟨Q2, hQ2_⟩ : ∃ q_ : Array Value, q_ = (#[.string t359, .string t360, .string t361, .int .i64 t362, .string t363, .string t364, .string t365, .string t366, .string t367, .int .i64 t368, .int .i64 t369, .string t370, .bool t371, .int .i64 t372, .string t373, .string t374, .string t375, .int .i64 t376, .int .i64 t377, .int .i64 t378, .bool t379, .bool t380, .int .i64 t381, .int .i64 t382, .bool true] : Array Value) := ⟨_, rfl⟩
  try rw [← hQ2_]
  have hQ2 := Aside0.mk hQ2_; replace hq := Aside0.mk (And.intro hQ2_ hq.1); clear hQ2_
  obtain ⟨Q3, hQ3_⟩ : ∃ q_ : Array Value, q_ = (#[.string t359, .string t360, .string t361, .int .i64 t362, .string t363, .string t364, .string t365, .string t366, .string t367, .int .i64 t368, .int .i64 t369, .string t370, .bool false, .int .i64 t372, .string t373, .string t374, .string t375, .int .i64 t376, .int .i64 t377, .int .i64 t378, .bool t379, .bool t380, .int .i64 t381, .int .i64 t382, .bool t383] : Array Value) := ⟨_, rfl⟩
  try rw [← hQ3_]
  have hQ3 := Aside0.mk hQ3_; replace hq := Aside0.mk (And.intro hQ3_ hq.1); clear hQ3_
  (try simp only [Act.put, List.setIfInBounds_toArray, List.set_cons_zero, List.set_cons_succ])
  go_cut [25] (fun v25 wc => ∃ (kq : Nat) (x25_3 : Bool), v25 = .bool x25_3 ∧ Aside0 (bursarlaw23_CaptureOnce.j0 kq a1 x25_3 t359 t360 t361 t362 t363 t364 t365 t366 t367 t368 t369 t370 t371 t372 t373 t374 t375 t376 t377 t378 t379 t380 t381 t382 t383 = some r) ∧ Aside0 (kq ≤ k) ∧ Aside0 (Ow.Own w wc [(gb358, Q1, 27), (gb384, Q2, 27), (gb385, Q3, 27)]))
  case first =>
    have H := HC4.out
    clear HC4
    replace H := Option.bind_eq_some_iff.mp H
    obtain ⟨⟨t386, t387, t388, t389, t390, t391, t392, t393, t394, t395, t396, t397, t398, t399, t400⟩, A690, H⟩ := H
    replace H : (if t386.toList = ([48, 48] : List UInt8) then (bursarlaw23_CaptureOnce.j0 k a1 true t359 t360 t361 t362 t363 t364 t365 t366 t367 t368 t369 t370 t371 t372 t373 t374 t375 t376 t377 t378 t379 t380 t381 t382 t383) else ((capture_Capture.f k t359 t360 t361 t362 t363 t364 t365 t366 t367 t368 t369 t370 false t372 t373 t374 t375 t376 t377 t378 t379 t380 t381 t382 t383).bind fun bt401 => (bursarlaw23_CaptureOnce.j0 k a1 (bt401.1.toList == ([48, 48] : List UInt8)) t359 t360 t361 t362 t363 t364 t365 t366 t367 t368 t369 t370 t371 t372 t373 t374 t375 t376 t377 t378 t379 t380 t381 t382 t383))) = some r := H
    have A69 := Aside0.mk A690
    clear A690
    by_cases c70 : t386.toList = ([48, 48] : List UInt8)
    · rw [if_pos c70] at H
      have c70b0 : (t386.toList == ([48, 48] : List UInt8)) = true := beq_iff_eq.mpr c70
      have c70b1 : (t386.toList != ([48, 48] : List UInt8)) = false := bne_eq_false_iff_eq.mpr c70
      clear c70
      (first | rw [c70b0] | (simp only [i64_w, i32_w]; rw [c70b0]) | skip)
      have H' := Aside0.mk H
      clear H
      obtain ⟨Q4, hQ4_⟩ : ∃ q_ : Array Value, q_ = (#[.string t386, .string t387, .string t388, .string t389, .int .i64 t390, .int .i64 t391, .int .i64 t392, .bool t393, .bool t394, .int .i64 t395, .int .i64 t396, .string t397, .string t398, .string t399, .int .i64 t400] : Array Value) := ⟨_, rfl⟩
      try rw [← hQ4_]
      have hQ4 := Aside0.mk hQ4_; replace hq := Aside0.mk (And.intro hQ4_ hq.1); clear hQ4_
      go_wp2_with (first | ((with_reducible refine gate_callee (f := 27) rfl ?_); refine goesL_ (some 17) rfl rfl Try.func27 (by kernel_rfl) rfl #[.agg Q2] rfl (by (try simp only [List.map_toArray, List.map_cons, List.map_nil]); first | done | rfl | (simp only [hq.1]; done) | (simp only [hq.1]; rfl)) ?_; refine Calls.mono (calls_of_args (by first | ((try simp only [hq.1]) <;> rfl) | fail) (capture_Capture.calls k t359 t360 t361 t362 t363 t364 t365 t366 t367 t368 t369 t370 t371 t372 t373 t374 t375 t376 t377 t378 t379 t380 t381 t382 true t386 t387 t388 t389 t390 t391 t392 t393 t394 t395 t396 t397 t398 t399 t400 _ A69.out)) ?_; rintro e w74 ⟨he_, hb⟩; (try rw [← hQ4.out] at he_); subst he_; refine ⟨_, rfl, ?_⟩; replace HO := Aside0.mk (Ow.Own.call HO.out hb); clear hb) | ((with_reducible refine Ow.gate_field rfl ?_); (try (refine gate_guard (by rfl) ?_; dsimp only)); (first | refine Ow.f1 Ot.fl Ot.ty rfl rfl rfl rfl rfl (by first | ((try simp only [hq.1]) <;> rfl) | fail) ?_ | refine Ow.fS Ot.fl Ot.ty rfl rfl rfl rfl rfl ?_)) | ((with_reducible refine Ow.gate_eqs (t := 36) (by first | exact Or.inl rfl | exact Or.inr rfl) rfl ?_); simp only [hq.1, Ow.part, Ot.sz, Ot.zero, Ow.over, Ow.overL, List.drop_succ_cons, List.drop_zero, List.take_succ_cons, List.take_zero]) | ((with_reducible refine Ow.gate_build rfl ?_); (try (refine gate_guard (by rfl) ?_; dsimp only)); refine' Ow.tbuild Ot.bd rfl rfl rfl ?hf_ ?_; (case hf_ => repeat (any_goals (first | exact Ow.Fills.nil | (refine' Ow.Fills.c ?hv_ rfl ?hz_ ?_; (case hv_ => first | exact Ow.ev_tmp rfl | rfl); (case hz_ => first | (refine ⟨?_, ?_⟩ <;> (first | ((try simp only [hq.1]) <;> rfl) | fail)) | fail)))))) | ((with_reducible refine Ow.gate_load rfl ?_); (try (refine gate_guard (by rfl) ?_; dsimp only)); (first | refine Ow.l1 Ot.ty HO.out rfl rfl rfl rfl (by first | ((try simp only [hq.1]) <;> rfl) | fail) ?_ | refine Ow.l0 Ot.ty HO.out rfl rfl rfl rfl (by first | ((try simp only [hq.1]) <;> rfl) | fail) ?_ | refine Ow.lp Ot.ty HO.out rfl rfl rfl rfl (by first | ((try simp only [hq.1]) <;> rfl) | fail) ?_)) | ((with_reducible refine gate_store rfl ?_); (try (refine gate_guard (by rfl) ?_; dsimp only)); (first | refine Ow.s0 Ot.ty HO.out rfl rfl rfl rfl rfl (by first | exact Ow.ev_tmp rfl | rfl) (by first | (refine ⟨?_, ?_, ?_⟩ <;> (first | ((try simp only [hq.1]) <;> rfl) | fail)) | fail) ?_ | refine Ow.sp Ot.ty HO.out rfl rfl rfl rfl rfl (by first | exact Ow.ev_tmp rfl | rfl) (by first | (refine ⟨?_, ?_, ?_⟩ <;> (first | ((try simp only [hq.1]) <;> rfl) | fail)) | fail) ?_); clear HO; intro wz_ HO; simp only [List.set_cons_zero, List.set_cons_succ] at HO))
      (try simp only [← hQ0.out, ← hQ1.out, ← hQ2.out, ← hQ3.out, ← hQ4.out])
      go_meet
      case rel => exact ⟨_, (true), (by first | rfl | (simp; done) | (simp [*]; done) | (simp [Pu.bne_nil, Pu.beq_nil]; done)), H', ⟨by first | omega | exact Nat.le_refl _⟩, ⟨Ow.Own.cong (by first | exact HO.out | (have h_ := HO.out; simp only [World.drewN_drewN] at h_; exact h_)) (by first | ((try simp only [hq.1]) <;> rfl) | fail)⟩⟩
    · rw [if_neg c70] at H
      have c70b0 : (t386.toList == ([48, 48] : List UInt8)) = false := beq_eq_false_iff_ne.mpr c70
      have c70b1 : (t386.toList != ([48, 48] : List UInt8)) = true := bne_iff_ne.mpr c70
      (first | rw [c70b0] | (simp only [i64_w, i32_w]; rw [c70b0]) | skip)
      replace H := Option.bind_eq_some_iff.mp H
      obtain ⟨⟨t401, t402, t403, t404, t405, t406, t407, t408, t409, t410, t411, t412, t413, t414, t415⟩, A750, H⟩ := H
      replace H : (bursarlaw23_CaptureOnce.j0 k a1 (t401.toList == ([48, 48] : List UInt8)) t359 t360 t361 t362 t363 t364 t365 t366 t367 t368 t369 t370 t371 t372 t373 t374 t375 t376 t377 t378 t379 t380 t381 t382 t383) = some r := H
      have A75 := Aside0.mk A750
      clear A750
      have H' := Aside0.mk H
      clear H
      obtain ⟨Q5, hQ5_⟩ : ∃ q_ : Array Value, q_ = (#[.string t386, .string t387, .string t388, .string t389, .int .i64 t390, .int .i64 t391, .int .i64 t392, .bool t393, .bool t394, .int .i64 t395, .int .i64 t396, .string t397, .string t398, .string t399, .int .i64 t400] : Array Value) := ⟨_, rfl⟩
      try rw [← hQ5_]
      have hQ5 := Aside0.mk hQ5_; replace hq := Aside0.mk (And.intro hQ5_ hq.1); clear hQ5_
      obtain ⟨Q6, hQ6_⟩ : ∃ q_ : Array Value, q_ = (#[.string t401, .string t402, .string t403, .string t404, .int .i64 t405, .int .i64 t406, .int .i64 t407, .bool t408, .bool t409, .int .i64 t410, .int .i64 t411, .string t412, .string t413, .string t414, .int .i64 t415] : Array Value) := ⟨_, rfl⟩
      try rw [← hQ6_]
      have hQ6 := Aside0.mk hQ6_; replace hq := Aside0.mk (And.intro hQ6_ hq.1); clear hQ6_
      go_wp2_with (first | ((with_reducible refine gate_callee (f := 27) rfl ?_); refine goesL_ (some 17) rfl rfl Try.func27 (by kernel_rfl) rfl #[.agg Q2] rfl (by (try simp only [List.map_toArray, List.map_cons, List.map_nil]); first | done | rfl | (simp only [hq.1]; done) | (simp only [hq.1]; rfl)) ?_; refine Calls.mono (calls_of_args (by first | ((try simp only [hq.1]) <;> rfl) | fail) (capture_Capture.calls k t359 t360 t361 t362 t363 t364 t365 t366 t367 t368 t369 t370 t371 t372 t373 t374 t375 t376 t377 t378 t379 t380 t381 t382 true t386 t387 t388 t389 t390 t391 t392 t393 t394 t395 t396 t397 t398 t399 t400 _ A69.out)) ?_; rintro e w79 ⟨he_, hb⟩; (try rw [← hQ5.out] at he_); subst he_; refine ⟨_, rfl, ?_⟩; replace HO := Aside0.mk (Ow.Own.call HO.out hb); clear hb) | (go_at_call 27; refine Calls.mono (calls_of_args (by first | ((try simp only [hq.1]) <;> rfl) | fail) (capture_Capture.calls k t359 t360 t361 t362 t363 t364 t365 t366 t367 t368 t369 t370 false t372 t373 t374 t375 t376 t377 t378 t379 t380 t381 t382 t383 t401 t402 t403 t404 t405 t406 t407 t408 t409 t410 t411 t412 t413 t414 t415 _ A75.out)) ?_; rintro e w82 ⟨he_, hb⟩; (try rw [← hQ6.out] at he_); subst he_; replace HO := Aside0.mk (Ow.Own.call HO.out hb); clear hb) | ((with_reducible refine Ow.gate_field rfl ?_); (try (refine gate_guard (by rfl) ?_; dsimp only)); (first | refine Ow.f1 Ot.fl Ot.ty rfl rfl rfl rfl rfl (by first | ((try simp only [hq.1]) <;> rfl) | fail) ?_ | refine Ow.fS Ot.fl Ot.ty rfl rfl rfl rfl rfl ?_)) | ((with_reducible refine Ow.gate_eqs (t := 36) (by first | exact Or.inl rfl | exact Or.inr rfl) rfl ?_); simp only [hq.1, Ow.part, Ot.sz, Ot.zero, Ow.over, Ow.overL, List.drop_succ_cons, List.drop_zero, List.take_succ_cons, List.take_zero]) | ((with_reducible refine Ow.gate_build rfl ?_); (try (refine gate_guard (by rfl) ?_; dsimp only)); refine' Ow.tbuild Ot.bd rfl rfl rfl ?hf_ ?_; (case hf_ => repeat (any_goals (first | exact Ow.Fills.nil | (refine' Ow.Fills.c ?hv_ rfl ?hz_ ?_; (case hv_ => first | exact Ow.ev_tmp rfl | rfl); (case hz_ => first | (refine ⟨?_, ?_⟩ <;> (first | ((try simp only [hq.1]) <;> rfl) | fail)) | fail)))))) | ((with_reducible refine Ow.gate_load rfl ?_); (try (refine gate_guard (by rfl) ?_; dsimp only)); (first | refine Ow.l1 Ot.ty HO.out rfl rfl rfl rfl (by first | ((try simp only [hq.1]) <;> rfl) | fail) ?_ | refine Ow.l0 Ot.ty HO.out rfl rfl rfl rfl (by first | ((try simp only [hq.1]) <;> rfl) | fail) ?_ | refine Ow.lp Ot.ty HO.out rfl rfl rfl rfl (by first | ((try simp only [hq.1]) <;> rfl) | fail) ?_)) | ((with_reducible refine gate_store rfl ?_); (try (refine gate_guard (by rfl) ?_; dsimp only)); (first | refine Ow.s0 Ot.ty HO.out rfl rfl rfl rfl rfl (by first | exact Ow.ev_tmp rfl | rfl) (by first | (refine ⟨?_, ?_, ?_⟩ <;> (first | ((try simp only [hq.1]) <;> rfl) | fail)) | fail) ?_ | refine Ow.sp Ot.ty HO.out rfl rfl rfl rfl rfl (by first | exact Ow.ev_tmp rfl | rfl) (by first | (refine ⟨?_, ?_, ?_⟩ <;> (first | ((try simp only [hq.1]) <;> rfl) | fail)) | fail) ?_); clear HO; intro wz_ HO; simp only [List.set_cons_zero, List.set_cons_succ] at HO))
      (try simp only [← hQ0.out, ← hQ1.out, ← hQ2.out, ← hQ3.out, ← hQ5.out, ← hQ6.out])
      go_meet
      case rel => exact ⟨_, ((t401.toList == ([48, 48] : List UInt8))), (by first | rfl | (simp; done) | (simp [*]; done) | (simp [Pu.bne_nil, Pu.beq_nil]; done)), H', ⟨by first | omega | exact Nat.le_refl _⟩, ⟨Ow.Own.cong (by first | exact HO.out | (have h_ := HO.out; simp only [World.drewN_drewN] at h_; exact h_)) (by first | ((try simp only [hq.1]) <;> rfl) | fail)⟩⟩
  case rest =>
    clear HC4
    try clear c1
    try clear c2
    try clear p2
    try clear c6
    try clear c7
    try clear c8
    try clear c10
    try clear c15
    try clear c27
    try clear c64
    try clear c65
    try clear c67
    try clear c70
    try clear c70b0
    try clear c70b1
    try clear c71
    try clear c72
    try clear c76
    try clear c77
    try clear c80
    try clear hcz66_0
    try clear hcz68_0
    try clear hcz6_0
    try clear hcz73_0
    try clear hcz78_0
    try clear hcz81_0
    try clear hcz8_0
    try clear hfz66_0
    try clear hfz68_0
    try clear hfz6_0
    try clear hfz73_0
    try clear hfz78_0
    try clear hfz81_0
    try clear hfz8_0
    clear HO
    obtain ⟨kq, x25_3, rfl, HA, HJ3, HO⟩ := hcut
    cases kq with
    | zero => exact absurd HA.out (by simp [bursarlaw23_CaptureOnce.j0])
    | succ kj3 =>
      have H := HA.out
      clear HA
      simp only [bursarlaw23_CaptureOnce.j0] at H
      by_cases c83 : x25_3 = true
      · subst c83
        have H1 : (none) = some r := by rw [if_pos rfl] at H; exact H
        clear H
        have H := H1
        clear H1
        exact absurd H (by simp)
      · replace c83 := Bool.eq_false_iff.mpr c83
        subst c83
        have H1 : ((capture_Capture.f kj3 t359 t360 (⟨#[48, 48, 48, 48, 48, 48]⟩ : ByteArray) t362 t363 t364 t365 t366 t367 t368 t369 t370 t371 t372 t373 t374 t375 t376 t377 t378 t379 t380 t381 t382 t383).bind fun bt416 => (if bt416.2.2.2.2.2.2.2.2.1 = true then ((capture_Capture.f kj3 t359 t360 (⟨#[48, 48, 48, 48, 48, 48]⟩ : ByteArray) (wrap64 ((wrap64 (a1)) + 1)) t363 t364 t365 t366 t367 t368 t369 t370 t371 t372 bt416.2.1 bt416.2.2.1 bt416.2.2.2.1 bt416.2.2.2.2.1 bt416.2.2.2.2.2.1 bt416.2.2.2.2.2.2.1 bt416.2.2.2.2.2.2.2.1 t380 t381 t382 t383).bind fun bt432 => ((capture_Capture.f kj3 (⟨#[48, 50, 50, 48]⟩ : ByteArray) t360 (⟨#[48, 48, 48, 48, 48, 48]⟩ : ByteArray) (wrap64 ((wrap64 (a1)) + 1)) t363 t364 t365 t366 t367 t368 t369 t370 t371 t372 bt416.2.1 bt416.2.2.1 bt416.2.2.2.1 bt416.2.2.2.2.1 bt416.2.2.2.2.2.1 bt416.2.2.2.2.2.2.1 bt416.2.2.2.2.2.2.2.1 t380 t381 t382 t383).bind fun bt448 => (if bt416.2.2.2.2.2.2.2.1 = true then (none) else (if bt432.1.toList = ([53, 52] : List UInt8) then (if bt448.1.toList = ([53, 52] : List UInt8) then (if (bt432.2.2.2.2.2.2.2.2.2.1 == 0 && (bt432.2.2.2.2.2.2.2.2.2.2.1 == 0 && (bt432.2.2.2.2.2.2.2.2.2.2.2.1.toList == ([] : List UInt8) && (bt432.2.2.2.2.2.2.2.2.2.2.2.2.1.toList == ([] : List UInt8) && (bt432.2.2.2.2.2.2.2.2.2.2.2.2.2.1.toList == ([] : List UInt8) && (bt432.2.2.2.2.2.2.2.2.2.2.2.2.2.2 == 0)))))) = true then ((bursarlaw23_awake.f kj3).bind fun t464 => (some t464)) else (none)) else (none)) else (none))))) else (if bt416.1.toList = ([48, 48] : List UInt8) then (if t380 = true then (none) else ((bursarlaw23_awake.f kj3).bind fun t465 => (some t465))) else ((bursarlaw23_awake.f kj3).bind fun t466 => (some t466))))) = some r := by rw [if_neg (show ¬ (false = true) by decide)] at H; exact H
        clear H
        have H := H1
        clear H1
        replace H := Option.bind_eq_some_iff.mp H
        obtain ⟨⟨t416, t417, t418, t419, t420, t421, t422, t423, t424, t425, t426, t427, t428, t429, t430⟩, A840, H⟩ := H
        replace H : (if t424 = true then ((capture_Capture.f kj3 t359 t360 (⟨#[48, 48, 48, 48, 48, 48]⟩ : ByteArray) (wrap64 ((wrap64 (a1)) + 1)) t363 t364 t365 t366 t367 t368 t369 t370 t371 t372 t417 t418 t419 t420 t421 t422 t423 t380 t381 t382 t383).bind fun bt432 => ((capture_Capture.f kj3 (⟨#[48, 50, 50, 48]⟩ : ByteArray) t360 (⟨#[48, 48, 48, 48, 48, 48]⟩ : ByteArray) (wrap64 ((wrap64 (a1)) + 1)) t363 t364 t365 t366 t367 t368 t369 t370 t371 t372 t417 t418 t419 t420 t421 t422 t423 t380 t381 t382 t383).bind fun bt448 => (if t423 = true then (none) else (if bt432.1.toList = ([53, 52] : List UInt8) then (if bt448.1.toList = ([53, 52] : List UInt8) then (if (bt432.2.2.2.2.2.2.2.2.2.1 == 0 && (bt432.2.2.2.2.2.2.2.2.2.2.1 == 0 && (bt432.2.2.2.2.2.2.2.2.2.2.2.1.toList == ([] : List UInt8) && (bt432.2.2.2.2.2.2.2.2.2.2.2.2.1.toList == ([] : List UInt8) && (bt432.2.2.2.2.2.2.2.2.2.2.2.2.2.1.toList == ([] : List UInt8) && (bt432.2.2.2.2.2.2.2.2.2.2.2.2.2.2 == 0)))))) = true then ((bursarlaw23_awake.f kj3).bind fun t464 => (some t464)) else (none)) else (none)) else (none))))) else (if t416.toList = ([48, 48] : List UInt8) then (if t380 = true then (none) else ((bursarlaw23_awake.f kj3).bind fun t465 => (some t465))) else ((bursarlaw23_awake.f kj3).bind fun t466 => (some t466)))) = some r := H
        have A84 := Aside0.mk A840
        clear A840
        by_cases c85 : t424 = true
        · subst c85
          have H1 : ((capture_Capture.f kj3 t359 t360 (⟨#[48, 48, 48, 48, 48, 48]⟩ : ByteArray) (wrap64 ((wrap64 (a1)) + 1)) t363 t364 t365 t366 t367 t368 t369 t370 t371 t372 t417 t418 t419 t420 t421 t422 t423 t380 t381 t382 t383).bind fun bt432 => ((capture_Capture.f kj3 (⟨#[48, 50, 50, 48]⟩ : ByteArray) t360 (⟨#[48, 48, 48, 48, 48, 48]⟩ : ByteArray) (wrap64 ((wrap64 (a1)) + 1)) t363 t364 t365 t366 t367 t368 t369 t370 t371 t372 t417 t418 t419 t420 t421 t422 t423 t380 t381 t382 t383).bind fun bt448 => (if t423 = true then (none) else (if bt432.1.toList = ([53, 52] : List UInt8) then (if bt448.1.toList = ([53, 52] : List UInt8) then (if (bt432.2.2.2.2.2.2.2.2.2.1 == 0 && (bt432.2.2.2.2.2.2.2.2.2.2.1 == 0 && (bt432.2.2.2.2.2.2.2.2.2.2.2.1.toList == ([] : List UInt8) && (bt432.2.2.2.2.2.2.2.2.2.2.2.2.1.toList == ([] : List UInt8) && (bt432.2.2.2.2.2.2.2.2.2.2.2.2.2.1.toList == ([] : List UInt8) && (bt432.2.2.2.2.2.2.2.2.2.2.2.2.2.2 == 0)))))) = true then ((bursarlaw23_awake.f kj3).bind fun t464 => (some t464)) else (none)) else (none)) else (none))))) = some r := by rw [if_pos rfl] at H; exact H
          clear H
          have H := H1
          clear H1
          replace H := Option.bind_eq_some_iff.mp H
          obtain ⟨⟨t432, t433, t434, t435, t436, t437, t438, t439, t440, t441, t442, t443, t444, t445, t446⟩, A860, H⟩ := H
          replace H : ((capture_Capture.f kj3 (⟨#[48, 50, 50, 48]⟩ : ByteArray) t360 (⟨#[48, 48, 48, 48, 48, 48]⟩ : ByteArray) (wrap64 ((wrap64 (a1)) + 1)) t363 t364 t365 t366 t367 t368 t369 t370 t371 t372 t417 t418 t419 t420 t421 t422 t423 t380 t381 t382 t383).bind fun bt448 => (if t423 = true then (none) else (if t432.toList = ([53, 52] : List UInt8) then (if bt448.1.toList = ([53, 52] : List UInt8) then (if (t441 == 0 && (t442 == 0 && (t443.toList == ([] : List UInt8) && (t444.toList == ([] : List UInt8) && (t445.toList == ([] : List UInt8) && (t446 == 0)))))) = true then ((bursarlaw23_awake.f kj3).bind fun t464 => (some t464)) else (none)) else (none)) else (none)))) = some r := H
          have A86 := Aside0.mk A860
          clear A860
          replace H := Option.bind_eq_some_iff.mp H
          obtain ⟨⟨t448, t449, t450, t451, t452, t453, t454, t455, t456, t457, t458, t459, t460, t461, t462⟩, A870, H⟩ := H
          replace H : (if t423 = true then (none) else (if t432.toList = ([53, 52] : List UInt8) then (if t448.toList = ([53, 52] : List UInt8) then (if (t441 == 0 && (t442 == 0 && (t443.toList == ([] : List UInt8) && (t444.toList == ([] : List UInt8) && (t445.toList == ([] : List UInt8) && (t446 == 0)))))) = true then ((bursarlaw23_awake.f kj3).bind fun t464 => (some t464)) else (none)) else (none)) else (none))) = some r := H
          have A87 := Aside0.mk A870
          clear A870
          by_cases c88 : t423 = true
          · subst c88
            have H1 : (none) = some r := by rw [if_pos rfl] at H; exact H
            clear H
            have H := H1
            clear H1
            exact absurd H (by simp)
          · replace c88 := Bool.eq_false_iff.mpr c88
            subst c88
            have H1 : (if t432.toList = ([53, 52] : List UInt8) then (if t448.toList = ([53, 52] : List UInt8) then (if (t441 == 0 && (t442 == 0 && (t443.toList == ([] : List UInt8) && (t444.toList == ([] : List UInt8) && (t445.toList == ([] : List UInt8) && (t446 == 0)))))) = true then ((bursarlaw23_awake.f kj3).bind fun t464 => (some t464)) else (none)) else (none)) else (none)) = some r := by rw [if_neg (show ¬ (false = true) by decide)] at H; exact H
            clear H
            have H := H1
            clear H1
            by_cases c89 : t432.toList = ([53, 52] : List UInt8)
            · rw [if_pos c89] at H
              have c89b0 : (t432.toList == ([53, 52] : List UInt8)) = true := beq_iff_eq.mpr c89
              have c89b1 : (t432.toList != ([53, 52] : List UInt8)) = false := bne_eq_false_iff_eq.mpr c89
              clear c89
              by_cases c90 : t448.toList = ([53, 52] : List UInt8)
              · rw [if_pos c90] at H
                have c90b0 : (t448.toList == ([53, 52] : List UInt8)) = true := beq_iff_eq.mpr c90
                have c90b1 : (t448.toList != ([53, 52] : List UInt8)) = false := bne_eq_false_iff_eq.mpr c90
                clear c90
                by_cases c91 : (t441 == 0 && (t442 == 0 && (t443.toList == ([] : List UInt8) && (t444.toList == ([] : List UInt8) && (t445.toList == ([] : List UInt8) && (t446 == 0)))))) = true
                · rw [if_pos c91] at H
                  have c91b0 : (t441 == 0 && (t442 == 0 && (t443.toList == ([] : List UInt8) && (t444.toList == ([] : List UInt8) && (t445.toList == ([] : List UInt8) && (t446 == 0)))))) = true := c91
                  (try (have c91b1 : decide (t441 = 0 && (t442 == 0 && (t443.toList == ([] : List UInt8) && (t444.toList == ([] : List UInt8) && (t445.toList == ([] : List UInt8) && (t446 == 0)))))) = true := by simpa using c91))
                  (try (have c91b2 : (t441 == 0 && (t442 == 0 && (t443.toList == ([] : List UInt8) && (t444.toList == ([] : List UInt8) && (t445.toList == ([] : List UInt8) && (t446 == 0)))))) = true := by simpa using c91))
                  (try (have c91b3 : ((t441 = 0 ∧ (t442 = 0 ∧ (t443.toList = ([] : List UInt8) ∧ (t444.toList = ([] : List UInt8) ∧ (t445.toList = ([] : List UInt8) ∧ (t446 = 0)))))) = True) := eq_true (by first | (simpa using c91; done) | (intro h_; have g_ := c91; simp [h_] at g_; done) | (have g_ := c91; simp at g_; exact g_))))
                  (try (have c91b4 : ((t441 == 0)) = true := (by first | (have g_ := c91; simp at g_; simp [g_]; done) | (have g_ := c91; simp [Pu.beq_nil] at g_ ⊢; simp [g_]; done) | (have g_ := c91; simp [Pu.beq_nil] at g_ ⊢; exact g_))))
                  (try (have c91b5 : ((t442 == 0)) = true := (by first | (have g_ := c91; simp at g_; simp [g_]; done) | (have g_ := c91; simp [Pu.beq_nil] at g_ ⊢; simp [g_]; done) | (have g_ := c91; simp [Pu.beq_nil] at g_ ⊢; exact g_))))
                  (try (have c91b6 : (t443.toList.isEmpty) = true := (by first | (have g_ := c91; simp at g_; simp [g_]; done) | (have g_ := c91; simp [Pu.beq_nil] at g_ ⊢; simp [g_]; done) | (have g_ := c91; simp [Pu.beq_nil] at g_ ⊢; exact g_))))
                  (try (have c91b7 : (t444.toList.isEmpty) = true := (by first | (have g_ := c91; simp at g_; simp [g_]; done) | (have g_ := c91; simp [Pu.beq_nil] at g_ ⊢; simp [g_]; done) | (have g_ := c91; simp [Pu.beq_nil] at g_ ⊢; exact g_))))
                  (try (have c91b8 : (t445.toList.isEmpty) = true := (by first | (have g_ := c91; simp at g_; simp [g_]; done) | (have g_ := c91; simp [Pu.beq_nil] at g_ ⊢; simp [g_]; done) | (have g_ := c91; simp [Pu.beq_nil] at g_ ⊢; exact g_))))
                  (try (have c91b9 : ((t446 == 0)) = true := (by first | (have g_ := c91; simp at g_; simp [g_]; done) | (have g_ := c91; simp [Pu.beq_nil] at g_ ⊢; simp [g_]; done) | (have g_ := c91; simp [Pu.beq_nil] at g_ ⊢; exact g_))))
                  (try (have c91b10 : (t443.toList == ([] : List UInt8)) = true := (by first | (have g_ := c91; simp at g_; simp [g_]; done) | (have g_ := c91; simp [Pu.beq_nil] at g_ ⊢; simp [g_]; done) | (have g_ := c91; simp [Pu.beq_nil] at g_ ⊢; exact g_))))
                  (try (have c91b11 : (t444.toList == ([] : List UInt8)) = true := (by first | (have g_ := c91; simp at g_; simp [g_]; done) | (have g_ := c91; simp [Pu.beq_nil] at g_ ⊢; simp [g_]; done) | (have g_ := c91; simp [Pu.beq_nil] at g_ ⊢; exact g_))))
                  (try (have c91b12 : (t445.toList == ([] : List UInt8)) = true := (by first | (have g_ := c91; simp at g_; simp [g_]; done) | (have g_ := c91; simp [Pu.beq_nil] at g_ ⊢; simp [g_]; done) | (have g_ := c91; simp [Pu.beq_nil] at g_ ⊢; exact g_))))
                  clear c91
                  replace H := Option.bind_eq_some_iff.mp H
                  obtain ⟨t464, A920, H⟩ := H
                  replace H : (some t464) = some r := H
                  have A92 := Aside0.mk A920
                  clear A920
                  obtain rfl := Option.some.inj H
                  obtain ⟨Q7, hQ7_⟩ : ∃ q_ : Array Value, q_ = (#[.string t416, .string t417, .string t418, .string t419, .int .i64 t420, .int .i64 t421, .int .i64 t422, .bool false, .bool true, .int .i64 t425, .int .i64 t426, .string t427, .string t428, .string t429, .int .i64 t430] : Array Value) := ⟨_, rfl⟩
                  try rw [← hQ7_]
                  have hQ7 := Aside0.mk hQ7_; replace hq := Aside0.mk (And.intro hQ7_ hq.1); clear hQ7_
                  obtain ⟨Q8, hQ8_⟩ : ∃ q_ : Array Value, q_ = (#[.string t359, .string t360, .string (⟨#[48, 48, 48, 48, 48, 48]⟩ : ByteArray), .int .i64 t362, .string t363, .string t364, .string t365, .string t366, .string t367, .int .i64 t368, .int .i64 t369, .string t370, .bool t371, .int .i64 t372, .string t373, .string t374, .string t375, .int .i64 t376, .int .i64 t377, .int .i64 t378, .bool t379, .bool t380, .int .i64 t381, .int .i64 t382, .bool t383] : Array Value) := ⟨_, rfl⟩
                  try rw [← hQ8_]
                  have hQ8 := Aside0.mk hQ8_; replace hq := Aside0.mk (And.intro hQ8_ hq.1); clear hQ8_
                  obtain ⟨Q9, hQ9_⟩ : ∃ q_ : Array Value, q_ = (#[.string t432, .string t433, .string t434, .string t435, .int .i64 t436, .int .i64 t437, .int .i64 t438, .bool t439, .bool t440, .int .i64 t441, .int .i64 t442, .string t443, .string t444, .string t445, .int .i64 t446] : Array Value) := ⟨_, rfl⟩
                  try rw [← hQ9_]
                  have hQ9 := Aside0.mk hQ9_; replace hq := Aside0.mk (And.intro hQ9_ hq.1); clear hQ9_
                  obtain ⟨Q10, hQ10_⟩ : ∃ q_ : Array Value, q_ = (#[.string t359, .string t360, .string (⟨#[48, 48, 48, 48, 48, 48]⟩ : ByteArray), .int .i64 (wrap64 ((wrap64 (a1)) + 1)), .string t363, .string t364, .string t365, .string t366, .string t367, .int .i64 t368, .int .i64 t369, .string t370, .bool t371, .int .i64 t372, .string t417, .string t418, .string t419, .int .i64 t420, .int .i64 t421, .int .i64 t422, .bool false, .bool t380, .int .i64 t381, .int .i64 t382, .bool t383] : Array Value) := ⟨_, rfl⟩
                  try rw [← hQ10_]
                  have hQ10 := Aside0.mk hQ10_; replace hq := Aside0.mk (And.intro hQ10_ hq.1); clear hQ10_
                  obtain ⟨Q11, hQ11_⟩ : ∃ q_ : Array Value, q_ = (#[.string t448, .string t449, .string t450, .string t451, .int .i64 t452, .int .i64 t453, .int .i64 t454, .bool t455, .bool t456, .int .i64 t457, .int .i64 t458, .string t459, .string t460, .string t461, .int .i64 t462] : Array Value) := ⟨_, rfl⟩
                  try rw [← hQ11_]
                  have hQ11 := Aside0.mk hQ11_; replace hq := Aside0.mk (And.intro hQ11_ hq.1); clear hQ11_
                  obtain ⟨Q12, hQ12_⟩ : ∃ q_ : Array Value, q_ = (#[.string (⟨#[48, 50, 50, 48]⟩ : ByteArray), .string t360, .string (⟨#[48, 48, 48, 48, 48, 48]⟩ : ByteArray), .int .i64 (wrap64 ((wrap64 (a1)) + 1)), .string t363, .string t364, .string t365, .string t366, .string t367, .int .i64 t368, .int .i64 t369, .string t370, .bool t371, .int .i64 t372, .string t417, .string t418, .string t419, .int .i64 t420, .int .i64 t421, .int .i64 t422, .bool false, .bool t380, .int .i64 t381, .int .i64 t382, .bool t383] : Array Value) := ⟨_, rfl⟩
                  try rw [← hQ12_]
                  have hQ12 := Aside0.mk hQ12_; replace hq := Aside0.mk (And.intro hQ12_ hq.1); clear hQ12_
                  go_wp2_with (first | ((with_reducible refine gate_callee (f := 27) rfl ?_); refine goesL_ (some 29) rfl rfl Try.func27 (by kernel_rfl) rfl #[.agg Q8] rfl (by (try simp only [List.map_toArray, List.map_cons, List.map_nil]); first | done | rfl | (simp only [hq.1]; done) | (simp only [hq.1]; rfl)) ?_; refine Calls.mono (calls_of_args (by first | ((try simp only [hq.1]) <;> rfl) | fail) (capture_Capture.calls kj3 t359 t360 (⟨#[48, 48, 48, 48, 48, 48]⟩ : ByteArray) t362 t363 t364 t365 t366 t367 t368 t369 t370 t371 t372 t373 t374 t375 t376 t377 t378 t379 t380 t381 t382 t383 t416 t417 t418 t419 t420 t421 t422 false true t425 t426 t427 t428 t429 t430 _ A84.out)) ?_; rintro e w96 ⟨he_, hb⟩; (try rw [← hQ7.out] at he_); subst he_; refine ⟨_, rfl, ?_⟩; replace HO := Aside0.mk (Ow.Own.call HO.out hb); clear hb) | ((with_reducible refine gate_dst (N := 7) rfl ?_); refine Ow.box rfl (N := 7) rfl (cs := bursarlaw23_CaptureOnce.Z15) (t := 53) HO.out (by first | (go_simp; done) | (go_simp; rfl)) ?_; clear HO; intro gb431 w97 HO; simp only [List.cons_append, List.nil_append] at HO) | ((with_reducible refine gate_callee (f := 27) rfl ?_); refine goesL_ (some 53) rfl rfl Try.func27 (by kernel_rfl) rfl #[.agg Q10] rfl (by (try simp only [List.map_toArray, List.map_cons, List.map_nil]); first | done | rfl | (simp only [hq.1]; done) | (simp only [hq.1]; rfl)) ?_; refine Calls.mono (calls_of_args (by first | ((try simp only [hq.1]) <;> rfl) | fail) (capture_Capture.calls kj3 t359 t360 (⟨#[48, 48, 48, 48, 48, 48]⟩ : ByteArray) (wrap64 ((wrap64 (a1)) + 1)) t363 t364 t365 t366 t367 t368 t369 t370 t371 t372 t417 t418 t419 t420 t421 t422 false t380 t381 t382 t383 t432 t433 t434 t435 t436 t437 t438 t439 t440 t441 t442 t443 t444 t445 t446 _ A86.out)) ?_; rintro e w105 ⟨he_, hb⟩; (try rw [← hQ9.out] at he_); subst he_; refine ⟨_, rfl, ?_⟩; replace HO := Aside0.mk (Ow.Own.call HO.out hb); clear hb) | ((with_reducible refine gate_dst (N := 8) rfl ?_); refine Ow.box rfl (N := 8) rfl (cs := bursarlaw23_CaptureOnce.Z15) (t := 53) HO.out (by first | (go_simp; done) | (go_simp; rfl)) ?_; clear HO; intro gb447 w106 HO; simp only [List.cons_append, List.nil_append] at HO) | ((with_reducible refine gate_callee (f := 27) rfl ?_); refine goesL_ (some 57) rfl rfl Try.func27 (by kernel_rfl) rfl #[.agg Q12] rfl (by (try simp only [List.map_toArray, List.map_cons, List.map_nil]); first | done | rfl | (simp only [hq.1]; done) | (simp only [hq.1]; rfl)) ?_; refine Calls.mono (calls_of_args (by first | ((try simp only [hq.1]) <;> rfl) | fail) (capture_Capture.calls kj3 (⟨#[48, 50, 50, 48]⟩ : ByteArray) t360 (⟨#[48, 48, 48, 48, 48, 48]⟩ : ByteArray) (wrap64 ((wrap64 (a1)) + 1)) t363 t364 t365 t366 t367 t368 t369 t370 t371 t372 t417 t418 t419 t420 t421 t422 false t380 t381 t382 t383 t448 t449 t450 t451 t452 t453 t454 t455 t456 t457 t458 t459 t460 t461 t462 _ A87.out)) ?_; rintro e w114 ⟨he_, hb⟩; (try rw [← hQ11.out] at he_); subst he_; refine ⟨_, rfl, ?_⟩; replace HO := Aside0.mk (Ow.Own.call HO.out hb); clear hb) | ((with_reducible refine gate_dst (N := 9) rfl ?_); refine Ow.box rfl (N := 9) rfl (cs := bursarlaw23_CaptureOnce.Z15) (t := 53) HO.out (by first | (go_simp; done) | (go_simp; rfl)) ?_; clear HO; intro gb463 w115 HO; simp only [List.cons_append, List.nil_append] at HO) | (go_at_call 29; refine Calls.mono (calls_of_args (by first | ((try simp only [hq.1]) <;> rfl) | fail) (bursarlaw23_awake.calls kj3  t464 _ A92.out)) ?_; rintro e w126 ⟨he_, hb⟩; subst he_; replace HO := Aside0.mk (Ow.Own.call HO.out hb); clear hb) | ((with_reducible refine Ow.gate_field rfl ?_); (try (refine gate_guard (by rfl) ?_; dsimp only)); (first | refine Ow.f1 Ot.fl Ot.ty rfl rfl rfl rfl rfl (by first | ((try simp only [hq.1]) <;> rfl) | fail) ?_ | refine Ow.fS Ot.fl Ot.ty rfl rfl rfl rfl rfl ?_)) | ((with_reducible refine Ow.gate_eqs (t := 36) (by first | exact Or.inl rfl | exact Or.inr rfl) rfl ?_); simp only [hq.1, Ow.part, Ot.sz, Ot.zero, Ow.over, Ow.overL, List.drop_succ_cons, List.drop_zero, List.take_succ_cons, List.take_zero]) | ((with_reducible refine Ow.gate_build rfl ?_); (try (refine gate_guard (by rfl) ?_; dsimp only)); refine' Ow.tbuild Ot.bd rfl rfl rfl ?hf_ ?_; (case hf_ => repeat (any_goals (first | exact Ow.Fills.nil | (refine' Ow.Fills.c ?hv_ rfl ?hz_ ?_; (case hv_ => first | exact Ow.ev_tmp rfl | rfl); (case hz_ => first | (refine ⟨?_, ?_⟩ <;> (first | ((try simp only [hq.1]) <;> rfl) | fail)) | fail)))))) | ((with_reducible refine Ow.gate_load rfl ?_); (try (refine gate_guard (by rfl) ?_; dsimp only)); (first | refine Ow.l1 Ot.ty HO.out rfl rfl rfl rfl (by first | ((try simp only [hq.1]) <;> rfl) | fail) ?_ | refine Ow.l0 Ot.ty HO.out rfl rfl rfl rfl (by first | ((try simp only [hq.1]) <;> rfl) | fail) ?_ | refine Ow.lp Ot.ty HO.out rfl rfl rfl rfl (by first | ((try simp only [hq.1]) <;> rfl) | fail) ?_)) | ((with_reducible refine gate_store rfl ?_); (try (refine gate_guard (by rfl) ?_; dsimp only)); (first | refine Ow.s0 Ot.ty HO.out rfl rfl rfl rfl rfl (by first | exact Ow.ev_tmp rfl | rfl) (by first | (refine ⟨?_, ?_, ?_⟩ <;> (first | ((try simp only [hq.1]) <;> rfl) | fail)) | fail) ?_ | refine Ow.sp Ot.ty HO.out rfl rfl rfl rfl rfl (by first | exact Ow.ev_tmp rfl | rfl) (by first | (refine ⟨?_, ?_, ?_⟩ <;> (first | ((try simp only [hq.1]) <;> rfl) | fail)) | fail) ?_); clear HO; intro wz_ HO; simp only [List.set_cons_zero, List.set_cons_succ] at HO))
                  all_goals go_ret
                  all_goals exact ⟨by first | rfl | (simp only [hq.1]; done) | (simp only [hq.1]; rfl) | (simp [errW_none, errW_some] <;> rfl) | (simp [*, errW_none, errW_some] <;> rfl), Ow.Own.below HO.out⟩
                · rw [if_neg c91] at H
                  exact absurd H (by simp)
              · rw [if_neg c90] at H
                exact absurd H (by simp)
            · rw [if_neg c89] at H
              exact absurd H (by simp)
        · replace c85 := Bool.eq_false_iff.mpr c85
          subst c85
          have H1 : (if t416.toList = ([48, 48] : List UInt8) then (if t380 = true then (none) else ((bursarlaw23_awake.f kj3).bind fun t465 => (some t465))) else ((bursarlaw23_awake.f kj3).bind fun t466 => (some t466))) = some r := by rw [if_neg (show ¬ (false = true) by decide)] at H; exact H
          clear H
          have H := H1
          clear H1
          by_cases c127 : t416.toList = ([48, 48] : List UInt8)
          · rw [if_pos c127] at H
            have c127b0 : (t416.toList == ([48, 48] : List UInt8)) = true := beq_iff_eq.mpr c127
            have c127b1 : (t416.toList != ([48, 48] : List UInt8)) = false := bne_eq_false_iff_eq.mpr c127
            clear c127
            by_cases c128 : t380 = true
            · subst c128
              have H1 : (none) = some r := by rw [if_pos rfl] at H; exact H
              clear H
              have H := H1
              clear H1
              exact absurd H (by simp)
            · replace c128 := Bool.eq_false_iff.mpr c128
              subst c128
              have H1 : ((bursarlaw23_awake.f kj3).bind fun t465 => (some t465)) = some r := by rw [if_neg (show ¬ (false = true) by decide)] at H; exact H
              clear H
              have H := H1
              clear H1
              replace H := Option.bind_eq_some_iff.mp H
              obtain ⟨t465, A1290, H⟩ := H
              replace H : (some t465) = some r := H
              have A129 := Aside0.mk A1290
              clear A1290
              obtain rfl := Option.some.inj H
              obtain ⟨Q13, hQ13_⟩ : ∃ q_ : Array Value, q_ = (#[.string t416, .string t417, .string t418, .string t419, .int .i64 t420, .int .i64 t421, .int .i64 t422, .bool t423, .bool false, .int .i64 t425, .int .i64 t426, .string t427, .string t428, .string t429, .int .i64 t430] : Array Value) := ⟨_, rfl⟩
              try rw [← hQ13_]
              have hQ13 := Aside0.mk hQ13_; replace hq := Aside0.mk (And.intro hQ13_ hq.1); clear hQ13_
              obtain ⟨Q14, hQ14_⟩ : ∃ q_ : Array Value, q_ = (#[.string t359, .string t360, .string (⟨#[48, 48, 48, 48, 48, 48]⟩ : ByteArray), .int .i64 t362, .string t363, .string t364, .string t365, .string t366, .string t367, .int .i64 t368, .int .i64 t369, .string t370, .bool t371, .int .i64 t372, .string t373, .string t374, .string t375, .int .i64 t376, .int .i64 t377, .int .i64 t378, .bool t379, .bool false, .int .i64 t381, .int .i64 t382, .bool t383] : Array Value) := ⟨_, rfl⟩
              try rw [← hQ14_]
              have hQ14 := Aside0.mk hQ14_; replace hq := Aside0.mk (And.intro hQ14_ hq.1); clear hQ14_
              go_wp2_with (first | ((with_reducible refine gate_callee (f := 27) rfl ?_); refine goesL_ (some 29) rfl rfl Try.func27 (by kernel_rfl) rfl #[.agg Q14] rfl (by (try simp only [List.map_toArray, List.map_cons, List.map_nil]); first | done | rfl | (simp only [hq.1]; done) | (simp only [hq.1]; rfl)) ?_; refine Calls.mono (calls_of_args (by first | ((try simp only [hq.1]) <;> rfl) | fail) (capture_Capture.calls kj3 t359 t360 (⟨#[48, 48, 48, 48, 48, 48]⟩ : ByteArray) t362 t363 t364 t365 t366 t367 t368 t369 t370 t371 t372 t373 t374 t375 t376 t377 t378 t379 false t381 t382 t383 t416 t417 t418 t419 t420 t421 t422 t423 false t425 t426 t427 t428 t429 t430 _ A84.out)) ?_; rintro e w133 ⟨he_, hb⟩; (try rw [← hQ13.out] at he_); subst he_; refine ⟨_, rfl, ?_⟩; replace HO := Aside0.mk (Ow.Own.call HO.out hb); clear hb) | ((with_reducible refine gate_dst (N := 7) rfl ?_); refine Ow.box rfl (N := 7) rfl (cs := bursarlaw23_CaptureOnce.Z15) (t := 53) HO.out (by first | (go_simp; done) | (go_simp; rfl)) ?_; clear HO; intro gb431 w134 HO; simp only [List.cons_append, List.nil_append] at HO) | (go_at_call 29; refine Calls.mono (calls_of_args (by first | ((try simp only [hq.1]) <;> rfl) | fail) (bursarlaw23_awake.calls kj3  t465 _ A129.out)) ?_; rintro e w142 ⟨he_, hb⟩; subst he_; replace HO := Aside0.mk (Ow.Own.call HO.out hb); clear hb) | ((with_reducible refine Ow.gate_field rfl ?_); (try (refine gate_guard (by rfl) ?_; dsimp only)); (first | refine Ow.f1 Ot.fl Ot.ty rfl rfl rfl rfl rfl (by first | ((try simp only [hq.1]) <;> rfl) | fail) ?_ | refine Ow.fS Ot.fl Ot.ty rfl rfl rfl rfl rfl ?_)) | ((with_reducible refine Ow.gate_eqs (t := 36) (by first | exact Or.inl rfl | exact Or.inr rfl) rfl ?_); simp only [hq.1, Ow.part, Ot.sz, Ot.zero, Ow.over, Ow.overL, List.drop_succ_cons, List.drop_zero, List.take_succ_cons, List.take_zero]) | ((with_reducible refine Ow.gate_build rfl ?_); (try (refine gate_guard (by rfl) ?_; dsimp only)); refine' Ow.tbuild Ot.bd rfl rfl rfl ?hf_ ?_; (case hf_ => repeat (any_goals (first | exact Ow.Fills.nil | (refine' Ow.Fills.c ?hv_ rfl ?hz_ ?_; (case hv_ => first | exact Ow.ev_tmp rfl | rfl); (case hz_ => first | (refine ⟨?_, ?_⟩ <;> (first | ((try simp only [hq.1]) <;> rfl) | fail)) | fail)))))) | ((with_reducible refine Ow.gate_load rfl ?_); (try (refine gate_guard (by rfl) ?_; dsimp only)); (first | refine Ow.l1 Ot.ty HO.out rfl rfl rfl rfl (by first | ((try simp only [hq.1]) <;> rfl) | fail) ?_ | refine Ow.l0 Ot.ty HO.out rfl rfl rfl rfl (by first | ((try simp only [hq.1]) <;> rfl) | fail) ?_ | refine Ow.lp Ot.ty HO.out rfl rfl rfl rfl (by first | ((try simp only [hq.1]) <;> rfl) | fail) ?_)) | ((with_reducible refine gate_store rfl ?_); (try (refine gate_guard (by rfl) ?_; dsimp only)); (first | refine Ow.s0 Ot.ty HO.out rfl rfl rfl rfl rfl (by first | exact Ow.ev_tmp rfl | rfl) (by first | (refine ⟨?_, ?_, ?_⟩ <;> (first | ((try simp only [hq.1]) <;> rfl) | fail)) | fail) ?_ | refine Ow.sp Ot.ty HO.out rfl rfl rfl rfl rfl (by first | exact Ow.ev_tmp rfl | rfl) (by first | (refine ⟨?_, ?_, ?_⟩ <;> (first | ((try simp only [hq.1]) <;> rfl) | fail)) | fail) ?_); clear HO; intro wz_ HO; simp only [List.set_cons_zero, List.set_cons_succ] at HO))
              all_goals go_ret
              all_goals exact ⟨by first | rfl | (simp only [hq.1]; done) | (simp only [hq.1]; rfl) | (simp [errW_none, errW_some] <;> rfl) | (simp [*, errW_none, errW_some] <;> rfl), Ow.Own.below HO.out⟩
          · rw [if_neg c127] at H
            have c127b0 : (t416.toList == ([48, 48] : List UInt8)) = false := beq_eq_false_iff_ne.mpr c127
            have c127b1 : (t416.toList != ([48, 48] : List UInt8)) = true := bne_iff_ne.mpr c127
            replace H := Option.bind_eq_some_iff.mp H
            obtain ⟨t466, A1430, H⟩ := H
            replace H : (some t466) = some r := H
            have A143 := Aside0.mk A1430
            clear A1430
            obtain rfl := Option.some.inj H
            obtain ⟨Q15, hQ15_⟩ : ∃ q_ : Array Value, q_ = (#[.string t416, .string t417, .string t418, .string t419, .int .i64 t420, .int .i64 t421, .int .i64 t422, .bool t423, .bool false, .int .i64 t425, .int .i64 t426, .string t427, .string t428, .string t429, .int .i64 t430] : Array Value) := ⟨_, rfl⟩
            try rw [← hQ15_]
            have hQ15 := Aside0.mk hQ15_; replace hq := Aside0.mk (And.intro hQ15_ hq.1); clear hQ15_
            obtain ⟨Q16, hQ16_⟩ : ∃ q_ : Array Value, q_ = (#[.string t359, .string t360, .string (⟨#[48, 48, 48, 48, 48, 48]⟩ : ByteArray), .int .i64 t362, .string t363, .string t364, .string t365, .string t366, .string t367, .int .i64 t368, .int .i64 t369, .string t370, .bool t371, .int .i64 t372, .string t373, .string t374, .string t375, .int .i64 t376, .int .i64 t377, .int .i64 t378, .bool t379, .bool t380, .int .i64 t381, .int .i64 t382, .bool t383] : Array Value) := ⟨_, rfl⟩
            try rw [← hQ16_]
            have hQ16 := Aside0.mk hQ16_; replace hq := Aside0.mk (And.intro hQ16_ hq.1); clear hQ16_
            go_wp2_with (first | ((with_reducible refine gate_callee (f := 27) rfl ?_); refine goesL_ (some 29) rfl rfl Try.func27 (by kernel_rfl) rfl #[.agg Q16] rfl (by (try simp only [List.map_toArray, List.map_cons, List.map_nil]); first | done | rfl | (simp only [hq.1]; done) | (simp only [hq.1]; rfl)) ?_; refine Calls.mono (calls_of_args (by first | ((try simp only [hq.1]) <;> rfl) | fail) (capture_Capture.calls kj3 t359 t360 (⟨#[48, 48, 48, 48, 48, 48]⟩ : ByteArray) t362 t363 t364 t365 t366 t367 t368 t369 t370 t371 t372 t373 t374 t375 t376 t377 t378 t379 t380 t381 t382 t383 t416 t417 t418 t419 t420 t421 t422 t423 false t425 t426 t427 t428 t429 t430 _ A84.out)) ?_; rintro e w147 ⟨he_, hb⟩; (try rw [← hQ15.out] at he_); subst he_; refine ⟨_, rfl, ?_⟩; replace HO := Aside0.mk (Ow.Own.call HO.out hb); clear hb) | ((with_reducible refine gate_dst (N := 7) rfl ?_); refine Ow.box rfl (N := 7) rfl (cs := bursarlaw23_CaptureOnce.Z15) (t := 53) HO.out (by first | (go_simp; done) | (go_simp; rfl)) ?_; clear HO; intro gb431 w148 HO; simp only [List.cons_append, List.nil_append] at HO) | (go_at_call 29; refine Calls.mono (calls_of_args (by first | ((try simp only [hq.1]) <;> rfl) | fail) (bursarlaw23_awake.calls kj3  t466 _ A143.out)) ?_; rintro e w155 ⟨he_, hb⟩; subst he_; replace HO := Aside0.mk (Ow.Own.call HO.out hb); clear hb) | ((with_reducible refine Ow.gate_field rfl ?_); (try (refine gate_guard (by rfl) ?_; dsimp only)); (first | refine Ow.f1 Ot.fl Ot.ty rfl rfl rfl rfl rfl (by first | ((try simp only [hq.1]) <;> rfl) | fail) ?_ | refine Ow.fS Ot.fl Ot.ty rfl rfl rfl rfl rfl ?_)) | ((with_reducible refine Ow.gate_eqs (t := 36) (by first | exact Or.inl rfl | exact Or.inr rfl) rfl ?_); simp only [hq.1, Ow.part, Ot.sz, Ot.zero, Ow.over, Ow.overL, List.drop_succ_cons, List.drop_zero, List.take_succ_cons, List.take_zero]) | ((with_reducible refine Ow.gate_build rfl ?_); (try (refine gate_guard (by rfl) ?_; dsimp only)); refine' Ow.tbuild Ot.bd rfl rfl rfl ?hf_ ?_; (case hf_ => repeat (any_goals (first | exact Ow.Fills.nil | (refine' Ow.Fills.c ?hv_ rfl ?hz_ ?_; (case hv_ => first | exact Ow.ev_tmp rfl | rfl); (case hz_ => first | (refine ⟨?_, ?_⟩ <;> (first | ((try simp only [hq.1]) <;> rfl) | fail)) | fail)))))) | ((with_reducible refine Ow.gate_load rfl ?_); (try (refine gate_guard (by rfl) ?_; dsimp only)); (first | refine Ow.l1 Ot.ty HO.out rfl rfl rfl rfl (by first | ((try simp only [hq.1]) <;> rfl) | fail) ?_ | refine Ow.l0 Ot.ty HO.out rfl rfl rfl rfl (by first | ((try simp only [hq.1]) <;> rfl) | fail) ?_ | refine Ow.lp Ot.ty HO.out rfl rfl rfl rfl (by first | ((try simp only [hq.1]) <;> rfl) | fail) ?_)) | ((with_reducible refine gate_store rfl ?_); (try (refine gate_guard (by rfl) ?_; dsimp only)); (first | refine Ow.s0 Ot.ty HO.out rfl rfl rfl rfl rfl (by first | exact Ow.ev_tmp rfl | rfl) (by first | (refine ⟨?_, ?_, ?_⟩ <;> (first | ((try simp only [hq.1]) <;> rfl) | fail)) | fail) ?_ | refine Ow.sp Ot.ty HO.out rfl rfl rfl rfl rfl (by first | exact Ow.ev_tmp rfl | rfl) (by first | (refine ⟨?_, ?_, ?_⟩ <;> (first | ((try simp only [hq.1]) <;> rfl) | fail)) | fail) ?_); clear HO; intro wz_ HO; simp only [List.set_cons_zero, List.set_cons_succ] at HO))
            all_goals go_ret
            all_goals exact ⟨by first | rfl | (simp only [hq.1]; done) | (simp only [hq.1]; rfl) | (simp [errW_none, errW_some] <;> rfl) | (simp [*, errW_none, errW_some] <;> rfl), Ow.Own.below HO.out⟩

end Go.Proofs.Ytddlmcaclbkopaa.XCO
