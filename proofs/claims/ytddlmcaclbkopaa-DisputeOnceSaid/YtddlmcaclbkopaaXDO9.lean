-- Written by wip/xprint.py, a session's program: printed out of the translation, with hand-written functions. Lean checks it.
import Derived.Test.YtddlmcaclbkopaaXDO0
import Derived.Test.YtddlmcaclbkopaaXDO1
import Derived.Test.YtddlmcaclbkopaaXDO2
import Derived.Test.YtddlmcaclbkopaaXDO3
import Derived.Test.YtddlmcaclbkopaaXDO7
import Derived.Test.YtddlmcaclbkopaaXDO8
namespace Go.Proofs.Ytddlmcaclbkopaa.XDO
open Go.RowKit Go.Proofs.YtddlmcaclbkopaaW.PrintWords Go.Proofs.YtddlmcaclbkopaaW.PrintLast Go.Proofs.YtddlmcaclbkopaaW.PrintMore
attribute [local go_sem] max2_int min2_int max_two min_two max_three min_three max_four min_four   -- for this text's walks alone
open List renaming setIfInBounds_toArray → u1, set_cons_zero → u2, set_cons_succ → u3
open List (cons_append nil_append map_toArray map_cons map_nil length_drop length_take)
set_option linter.unusedVariables false
set_option linter.unusedSimpArgs false

attribute [local go_sem high] eqA29
/-! ### bursarlaw26_DisputeOnce: function 3 -/
def bursarlaw26_DisputeOnce.f (k : Nat) (a0_0 : ByteArray) (a0_1 : ByteArray) (a0_2 : ByteArray) (a0_3 : Int) (a0_4 : ByteArray) (a0_5 : ByteArray) (a0_6 : ByteArray) (a0_7 : ByteArray) (a0_8 : ByteArray) (a0_9 : Int) (a0_10 : Int) (a0_11 : ByteArray) (a0_12 : Bool) (a0_13 : Int) (a0_14 : ByteArray) (a0_15 : ByteArray) (a0_16 : ByteArray) (a0_17 : Int) (a0_18 : Int) (a0_19 : Int) (a0_20 : Bool) (a0_21 : Bool) (a0_22 : Int) (a0_23 : Int) (a0_24 : Bool) (a0_25 : ByteArray) (a0_26 : ByteArray) (a0_27 : ByteArray) (a0_28 : Int) (a0_29 : Int) (a0_30 : Int) (a0_31 : Bool) (a0_32 : Int) : Option (Bool) := (bursarlaw22_Few.f a0_0 a0_1 a0_2 a0_3 a0_4 a0_5 a0_6 a0_7 a0_8 a0_9 a0_10 a0_11 a0_12 a0_13 a0_14 a0_15 a0_16 a0_17 a0_18 a0_19 a0_20 a0_21 a0_22 a0_23 a0_24).bind fun bt298 => ((bursarlaw26_few.f a0_25 a0_26 a0_27 a0_28 a0_29 a0_30).bind fun bt323 => ((dispute_Decide.f k bt298.1 bt298.2.1 bt298.2.2.1 bt298.2.2.2.1 bt298.2.2.2.2.1 bt298.2.2.2.2.2.1 bt298.2.2.2.2.2.2.1 bt298.2.2.2.2.2.2.2.1 bt298.2.2.2.2.2.2.2.2.1 bt298.2.2.2.2.2.2.2.2.2.1 bt298.2.2.2.2.2.2.2.2.2.2.1 bt298.2.2.2.2.2.2.2.2.2.2.2.1 bt298.2.2.2.2.2.2.2.2.2.2.2.2.1 bt298.2.2.2.2.2.2.2.2.2.2.2.2.2.1 bt298.2.2.2.2.2.2.2.2.2.2.2.2.2.2.1 bt298.2.2.2.2.2.2.2.2.2.2.2.2.2.2.2.1 bt298.2.2.2.2.2.2.2.2.2.2.2.2.2.2.2.2.1 bt298.2.2.2.2.2.2.2.2.2.2.2.2.2.2.2.2.2.1 bt298.2.2.2.2.2.2.2.2.2.2.2.2.2.2.2.2.2.2.1 bt298.2.2.2.2.2.2.2.2.2.2.2.2.2.2.2.2.2.2.2.1 bt298.2.2.2.2.2.2.2.2.2.2.2.2.2.2.2.2.2.2.2.2.1 bt298.2.2.2.2.2.2.2.2.2.2.2.2.2.2.2.2.2.2.2.2.2.1 bt298.2.2.2.2.2.2.2.2.2.2.2.2.2.2.2.2.2.2.2.2.2.2.1 bt298.2.2.2.2.2.2.2.2.2.2.2.2.2.2.2.2.2.2.2.2.2.2.2.1 bt298.2.2.2.2.2.2.2.2.2.2.2.2.2.2.2.2.2.2.2.2.2.2.2.2 bt323.1 bt323.2.1 bt323.2.2.1 bt323.2.2.2.1 bt323.2.2.2.2.1 bt323.2.2.2.2.2 a0_31).bind fun bt331 => (if bt331.2.2.2.2.2.2.2.2.2.2.2.2.toList = ([48, 48] : List UInt8) then ((dispute_Decide.f k bt298.1 bt298.2.1 bt298.2.2.1 bt298.2.2.2.1 bt298.2.2.2.2.1 bt298.2.2.2.2.2.1 bt298.2.2.2.2.2.2.1 bt298.2.2.2.2.2.2.2.1 bt298.2.2.2.2.2.2.2.2.1 bt298.2.2.2.2.2.2.2.2.2.1 bt298.2.2.2.2.2.2.2.2.2.2.1 bt298.2.2.2.2.2.2.2.2.2.2.2.1 bt298.2.2.2.2.2.2.2.2.2.2.2.2.1 bt298.2.2.2.2.2.2.2.2.2.2.2.2.2.1 bt298.2.2.2.2.2.2.2.2.2.2.2.2.2.2.1 bt298.2.2.2.2.2.2.2.2.2.2.2.2.2.2.2.1 bt298.2.2.2.2.2.2.2.2.2.2.2.2.2.2.2.2.1 bt298.2.2.2.2.2.2.2.2.2.2.2.2.2.2.2.2.2.1 bt298.2.2.2.2.2.2.2.2.2.2.2.2.2.2.2.2.2.2.1 bt298.2.2.2.2.2.2.2.2.2.2.2.2.2.2.2.2.2.2.2.1 bt298.2.2.2.2.2.2.2.2.2.2.2.2.2.2.2.2.2.2.2.2.1 bt298.2.2.2.2.2.2.2.2.2.2.2.2.2.2.2.2.2.2.2.2.2.1 bt298.2.2.2.2.2.2.2.2.2.2.2.2.2.2.2.2.2.2.2.2.2.2.1 bt298.2.2.2.2.2.2.2.2.2.2.2.2.2.2.2.2.2.2.2.2.2.2.2.1 bt298.2.2.2.2.2.2.2.2.2.2.2.2.2.2.2.2.2.2.2.2.2.2.2.2 bt331.1 bt331.2.1 bt331.2.2.1 bt331.2.2.2.1 bt331.2.2.2.2.1 bt331.2.2.2.2.2.1 true).bind fun bt347 => (if bt347.2.2.2.2.2.2.2.2.2.2.2.2.toList = ([48, 48] : List UInt8) then (none) else ((some (([(wrap64 (48 + (Int.tmod bt331.2.2.2.1 3))) % 256] : List Int) : List Int)).bind fun y363 => (if 1 + (strOfNums y363).size ≤ 9223372036854775807 then (if ((⟨#[48]⟩ : ByteArray) ++ (strOfNums y363)).size + 4 ≤ 9223372036854775807 then (if bt298.2.2.2.2.2.2.2.2.2.2.2.2.2.2.2.2.2.2.2.2.2.2.1 > 1073741824 then ((bursarlaw26_awake.f k).bind fun t366 => (some t366)) else ((dispute_Decide.f k bt298.1 bt298.2.1 (((⟨#[48]⟩ : ByteArray) ++ (strOfNums y363)) ++ (⟨#[48, 48, 48, 48]⟩ : ByteArray)) bt331.2.2.2.2.1 bt298.2.2.2.2.1 bt298.2.2.2.2.2.1 bt298.2.2.2.2.2.2.1 bt298.2.2.2.2.2.2.2.1 bt298.2.2.2.2.2.2.2.2.1 bt298.2.2.2.2.2.2.2.2.2.1 bt298.2.2.2.2.2.2.2.2.2.2.1 bt298.2.2.2.2.2.2.2.2.2.2.2.1 bt298.2.2.2.2.2.2.2.2.2.2.2.2.1 bt298.2.2.2.2.2.2.2.2.2.2.2.2.2.1 bt298.2.2.2.2.2.2.2.2.2.2.2.2.2.2.1 bt298.2.2.2.2.2.2.2.2.2.2.2.2.2.2.2.1 bt298.2.2.2.2.2.2.2.2.2.2.2.2.2.2.2.2.1 bt298.2.2.2.2.2.2.2.2.2.2.2.2.2.2.2.2.2.1 bt298.2.2.2.2.2.2.2.2.2.2.2.2.2.2.2.2.2.2.1 bt298.2.2.2.2.2.2.2.2.2.2.2.2.2.2.2.2.2.2.2.1 bt298.2.2.2.2.2.2.2.2.2.2.2.2.2.2.2.2.2.2.2.2.1 bt298.2.2.2.2.2.2.2.2.2.2.2.2.2.2.2.2.2.2.2.2.2.1 (wrap64 (bt298.2.2.2.2.2.2.2.2.2.2.2.2.2.2.2.2.2.2.2.2.2.2.1 + (wrap64 (a0_32)))) bt298.2.2.2.2.2.2.2.2.2.2.2.2.2.2.2.2.2.2.2.2.2.2.2.1 bt298.2.2.2.2.2.2.2.2.2.2.2.2.2.2.2.2.2.2.2.2.2.2.2.2 bt331.1 bt331.2.1 bt331.2.2.1 bt331.2.2.2.1 bt331.2.2.2.2.1 bt331.2.2.2.2.2.1 true).bind fun bt367 => (if bt331.2.2.2.1 = 3 then (if bt367.2.2.2.2.2.2.2.2.2.2.2.2.toList = ([48, 48] : List UInt8) then (none) else ((bursarlaw26_awake.f k).bind fun t382 => (some t382))) else (if bt367.2.2.2.2.2.2.2.2.2.2.2.2.toList = ([48, 48] : List UInt8) then (if a0_32 ≤ 200 then ((bursarlaw26_awake.f k).bind fun t383 => (some t383)) else (none)) else (if a0_32 ≤ 200 then (none) else ((bursarlaw26_awake.f k).bind fun t384 => (some t384))))))) else (none)) else (none))))) else (if (bt331.1.toList == ([] : List UInt8) && (bt331.2.1.toList == ([] : List UInt8) && (bt331.2.2.1.toList == ([] : List UInt8) && (bt331.2.2.2.1 == 0 && (bt331.2.2.2.2.1 == 0 && (bt331.2.2.2.2.2.1 == 0)))))) = true then ((bursarlaw26_awake.f k).bind fun t346 => (some t346)) else (none)))))
theorem bursarlaw26_DisputeOnce.mono : ∀ a0 a1 a2 a3 a4 a5 a6 a7 a8 a9 a10 a11 a12 a13 a14 a15 a16 a17 a18 a19 a20 a21 a22 a23 a24 a25 a26 a27 a28 a29 a30 a31 a32 k, LeO (bursarlaw26_DisputeOnce.f k a0 a1 a2 a3 a4 a5 a6 a7 a8 a9 a10 a11 a12 a13 a14 a15 a16 a17 a18 a19 a20 a21 a22 a23 a24 a25 a26 a27 a28 a29 a30 a31 a32) (bursarlaw26_DisputeOnce.f (k + 1) a0 a1 a2 a3 a4 a5 a6 a7 a8 a9 a10 a11 a12 a13 a14 a15 a16 a17 a18 a19 a20 a21 a22 a23 a24 a25 a26 a27 a28 a29 a30 a31 a32) := by
  intro a0 a1 a2 a3 a4 a5 a6 a7 a8 a9 a10 a11 a12 a13 a14 a15 a16 a17 a18 a19 a20 a21 a22 a23 a24 a25 a26 a27 a28 a29 a30 a31 a32 k
  unfold bursarlaw26_DisputeOnce.f
  repeat' first
      | (with_reducible exact bursarlaw26_awake.mono _)
      | (with_reducible exact dispute_Decide.mono _ _ _ _ _ _ _ _ _ _ _ _ _ _ _ _ _ _ _ _ _ _ _ _ _ _ _ _ _ _ _ _ _)
      | (with_reducible exact LeO.refl _)
      | (with_reducible exact LeO.none _)
      | (with_reducible refine LeO.ite ?_ ?_)
      | (with_reducible refine LeO.bind ?_ (fun _ => ?_))
      | exact bursarlaw26_awake.mono _
      | exact dispute_Decide.mono _ _ _ _ _ _ _ _ _ _ _ _ _ _ _ _ _ _ _ _ _ _ _ _ _ _ _ _ _ _ _ _ _
      | exact LeO.none _
      | refine LeO.ite ?_ ?_
      | refine LeO.bind ?_ (fun _ => ?_)
def bursarlaw26_DisputeOnce.T1 : Bool × List (List Nat × List Nat) := (true, [([], []), ([0], [0]), ([1], [1]), ([], []), ([3], [3]), ([4, 2], [4]), ([], []), ([6], [6]), ([], []), ([8], [8]), ([], []), ([], []), ([10, 2, 5, 0, 1, 2, 10, 11], [2, 10]), ([11, 5, 12, 0, 1, 2, 3, 4, 5, 10, 11, 12], [5, 11]), ([7, 13, 0, 1, 2, 3, 4, 5, 6, 7, 10, 11, 12, 13], [7]), ([9, 14, 0, 1, 2, 3, 4, 5, 6, 7, 8, 9, 10, 11, 12, 13, 14], [9])])
def bursarlaw26_DisputeOnce.B1 : List Nat := [0, 1, 3, 0, 8, 31, 0, 64, 0, 256, 0, 0, 3135, 7231, 15615, 32767]
theorem bursarlaw26_DisputeOnce.tab1 : rtab .any (opsOf Try.f3 1) = bursarlaw26_DisputeOnce.T1 := by kernel_rfl
theorem bursarlaw26_DisputeOnce.bits1 : waitsOk bursarlaw26_DisputeOnce.T1.2 bursarlaw26_DisputeOnce.B1 = true := by kernel_rfl
def bursarlaw26_DisputeOnce.Z25 : Array Value := #[.string (⟨#[]⟩ : ByteArray), .string (⟨#[]⟩ : ByteArray), .string (⟨#[]⟩ : ByteArray), .int .i64 0, .string (⟨#[]⟩ : ByteArray), .string (⟨#[]⟩ : ByteArray), .string (⟨#[]⟩ : ByteArray), .string (⟨#[]⟩ : ByteArray), .string (⟨#[]⟩ : ByteArray), .int .i64 0, .int .i64 0, .string (⟨#[]⟩ : ByteArray), .bool false, .int .i64 0, .string (⟨#[]⟩ : ByteArray), .string (⟨#[]⟩ : ByteArray), .string (⟨#[]⟩ : ByteArray), .int .i64 0, .int .i64 0, .int .i64 0, .bool false, .bool false, .int .i64 0, .int .i64 0, .bool false]
def bursarlaw26_DisputeOnce.Z6 : Array Value := #[.string (⟨#[]⟩ : ByteArray), .string (⟨#[]⟩ : ByteArray), .string (⟨#[]⟩ : ByteArray), .int .i64 0, .int .i64 0, .int .i64 0]
def bursarlaw26_DisputeOnce.Z6_2 : Array Value := #[.int .i64 0, .int .i64 0, .string (⟨#[]⟩ : ByteArray), .string (⟨#[]⟩ : ByteArray), .string (⟨#[]⟩ : ByteArray), .int .i64 0]
open bursarlaw26_DisputeOnce (Z25 Z6 Z6_2)
open Ow.Own (pick cong)
set_option maxHeartbeats 8000000 in
set_option maxRecDepth 100000 in
theorem bursarlaw26_DisputeOnce.calls (k : Nat) (a0_0 : ByteArray) (a0_1 : ByteArray) (a0_2 : ByteArray) (a0_3 : Int) (a0_4 : ByteArray) (a0_5 : ByteArray) (a0_6 : ByteArray) (a0_7 : ByteArray) (a0_8 : ByteArray) (a0_9 : Int) (a0_10 : Int) (a0_11 : ByteArray) (a0_12 : Bool) (a0_13 : Int) (a0_14 : ByteArray) (a0_15 : ByteArray) (a0_16 : ByteArray) (a0_17 : Int) (a0_18 : Int) (a0_19 : Int) (a0_20 : Bool) (a0_21 : Bool) (a0_22 : Int) (a0_23 : Int) (a0_24 : Bool) (a0_25 : ByteArray) (a0_26 : ByteArray) (a0_27 : ByteArray) (a0_28 : Int) (a0_29 : Int) (a0_30 : Int) (a0_31 : Bool) (a0_32 : Int) (r : Bool) (w : World) (h : bursarlaw26_DisputeOnce.f k a0_0 a0_1 a0_2 a0_3 a0_4 a0_5 a0_6 a0_7 a0_8 a0_9 a0_10 a0_11 a0_12 a0_13 a0_14 a0_15 a0_16 a0_17 a0_18 a0_19 a0_20 a0_21 a0_22 a0_23 a0_24 a0_25 a0_26 a0_27 a0_28 a0_29 a0_30 a0_31 a0_32 = some r) :
    Calls Try.prog 3 #[.agg #[.string a0_0, .string a0_1, .string a0_2, .int .i64 a0_3, .string a0_4, .string a0_5, .string a0_6, .string a0_7, .string a0_8, .int .i64 a0_9, .int .i64 a0_10, .string a0_11, .bool a0_12, .int .i64 a0_13, .string a0_14, .string a0_15, .string a0_16, .int .i64 a0_17, .int .i64 a0_18, .int .i64 a0_19, .bool a0_20, .bool a0_21, .int .i64 a0_22, .int .i64 a0_23, .bool a0_24, .string a0_25, .string a0_26, .string a0_27, .int .i64 a0_28, .int .i64 a0_29, .int .i64 a0_30, .bool a0_31, .int .u16 a0_32]] w fun e w' => e = .returned (.bool r) ∧ Below w.heap.size w w' := by
 have hu32 := Try.underlying32
 have hu27 := Try.underlying27
 have hu29 := Try.underlying29
 have hu36 := Try.underlying36
 have HO := Aside0.mk (Ow.Own.nil w)
 have hmf : ∀ (fn : Fn) (first cap : Array Value) (w : World), (Instr.makeFunc fn first cap).run Try.prog w = .ok (.func fn first cap) w := fun _ _ _ _ => rfl
 have H := h
 unfold bursarlaw26_DisputeOnce.f at H
 clear h
 replace H := Option.bind_eq_some_iff.mp H
 obtain ⟨⟨t298, t299, t300, t301, t302, t303, t304, t305, t306, t307, t308, t309, t310, t311, t312, t313, t314, t315, t316, t317, t318, t319, t320, t321, t322⟩, A20, H⟩ := H
 replace H : ((bursarlaw26_few.f a0_25 a0_26 a0_27 a0_28 a0_29 a0_30).bind fun bt323 => ((dispute_Decide.f k t298 t299 t300 t301 t302 t303 t304 t305 t306 t307 t308 t309 t310 t311 t312 t313 t314 t315 t316 t317 t318 t319 t320 t321 t322 bt323.1 bt323.2.1 bt323.2.2.1 bt323.2.2.2.1 bt323.2.2.2.2.1 bt323.2.2.2.2.2 a0_31).bind fun bt331 => (if bt331.2.2.2.2.2.2.2.2.2.2.2.2.toList = ([48, 48] : List UInt8) then ((dispute_Decide.f k t298 t299 t300 t301 t302 t303 t304 t305 t306 t307 t308 t309 t310 t311 t312 t313 t314 t315 t316 t317 t318 t319 t320 t321 t322 bt331.1 bt331.2.1 bt331.2.2.1 bt331.2.2.2.1 bt331.2.2.2.2.1 bt331.2.2.2.2.2.1 true).bind fun bt347 => (if bt347.2.2.2.2.2.2.2.2.2.2.2.2.toList = ([48, 48] : List UInt8) then (none) else ((some (([(wrap64 (48 + (Int.tmod bt331.2.2.2.1 3))) % 256] : List Int) : List Int)).bind fun y363 => (if 1 + (strOfNums y363).size ≤ 9223372036854775807 then (if ((⟨#[48]⟩ : ByteArray) ++ (strOfNums y363)).size + 4 ≤ 9223372036854775807 then (if t320 > 1073741824 then ((bursarlaw26_awake.f k).bind fun t366 => (some t366)) else ((dispute_Decide.f k t298 t299 (((⟨#[48]⟩ : ByteArray) ++ (strOfNums y363)) ++ (⟨#[48, 48, 48, 48]⟩ : ByteArray)) bt331.2.2.2.2.1 t302 t303 t304 t305 t306 t307 t308 t309 t310 t311 t312 t313 t314 t315 t316 t317 t318 t319 (wrap64 (t320 + (wrap64 (a0_32)))) t321 t322 bt331.1 bt331.2.1 bt331.2.2.1 bt331.2.2.2.1 bt331.2.2.2.2.1 bt331.2.2.2.2.2.1 true).bind fun bt367 => (if bt331.2.2.2.1 = 3 then (if bt367.2.2.2.2.2.2.2.2.2.2.2.2.toList = ([48, 48] : List UInt8) then (none) else ((bursarlaw26_awake.f k).bind fun t382 => (some t382))) else (if bt367.2.2.2.2.2.2.2.2.2.2.2.2.toList = ([48, 48] : List UInt8) then (if a0_32 ≤ 200 then ((bursarlaw26_awake.f k).bind fun t383 => (some t383)) else (none)) else (if a0_32 ≤ 200 then (none) else ((bursarlaw26_awake.f k).bind fun t384 => (some t384))))))) else (none)) else (none))))) else (if (bt331.1.toList == ([] : List UInt8) && (bt331.2.1.toList == ([] : List UInt8) && (bt331.2.2.1.toList == ([] : List UInt8) && (bt331.2.2.2.1 == 0 && (bt331.2.2.2.2.1 == 0 && (bt331.2.2.2.2.2.1 == 0)))))) = true then ((bursarlaw26_awake.f k).bind fun t346 => (some t346)) else (none))))) = some r := H
 have A2 := Aside0.mk A20
 clear A20
 replace H := Option.bind_eq_some_iff.mp H
 obtain ⟨⟨t323, t324, t325, t326, t327, t328⟩, A30, H⟩ := H
 replace H : ((dispute_Decide.f k t298 t299 t300 t301 t302 t303 t304 t305 t306 t307 t308 t309 t310 t311 t312 t313 t314 t315 t316 t317 t318 t319 t320 t321 t322 t323 t324 t325 t326 t327 t328 a0_31).bind fun bt331 => (if bt331.2.2.2.2.2.2.2.2.2.2.2.2.toList = ([48, 48] : List UInt8) then ((dispute_Decide.f k t298 t299 t300 t301 t302 t303 t304 t305 t306 t307 t308 t309 t310 t311 t312 t313 t314 t315 t316 t317 t318 t319 t320 t321 t322 bt331.1 bt331.2.1 bt331.2.2.1 bt331.2.2.2.1 bt331.2.2.2.2.1 bt331.2.2.2.2.2.1 true).bind fun bt347 => (if bt347.2.2.2.2.2.2.2.2.2.2.2.2.toList = ([48, 48] : List UInt8) then (none) else ((some (([(wrap64 (48 + (Int.tmod bt331.2.2.2.1 3))) % 256] : List Int) : List Int)).bind fun y363 => (if 1 + (strOfNums y363).size ≤ 9223372036854775807 then (if ((⟨#[48]⟩ : ByteArray) ++ (strOfNums y363)).size + 4 ≤ 9223372036854775807 then (if t320 > 1073741824 then ((bursarlaw26_awake.f k).bind fun t366 => (some t366)) else ((dispute_Decide.f k t298 t299 (((⟨#[48]⟩ : ByteArray) ++ (strOfNums y363)) ++ (⟨#[48, 48, 48, 48]⟩ : ByteArray)) bt331.2.2.2.2.1 t302 t303 t304 t305 t306 t307 t308 t309 t310 t311 t312 t313 t314 t315 t316 t317 t318 t319 (wrap64 (t320 + (wrap64 (a0_32)))) t321 t322 bt331.1 bt331.2.1 bt331.2.2.1 bt331.2.2.2.1 bt331.2.2.2.2.1 bt331.2.2.2.2.2.1 true).bind fun bt367 => (if bt331.2.2.2.1 = 3 then (if bt367.2.2.2.2.2.2.2.2.2.2.2.2.toList = ([48, 48] : List UInt8) then (none) else ((bursarlaw26_awake.f k).bind fun t382 => (some t382))) else (if bt367.2.2.2.2.2.2.2.2.2.2.2.2.toList = ([48, 48] : List UInt8) then (if a0_32 ≤ 200 then ((bursarlaw26_awake.f k).bind fun t383 => (some t383)) else (none)) else (if a0_32 ≤ 200 then (none) else ((bursarlaw26_awake.f k).bind fun t384 => (some t384))))))) else (none)) else (none))))) else (if (bt331.1.toList == ([] : List UInt8) && (bt331.2.1.toList == ([] : List UInt8) && (bt331.2.2.1.toList == ([] : List UInt8) && (bt331.2.2.2.1 == 0 && (bt331.2.2.2.2.1 == 0 && (bt331.2.2.2.2.2.1 == 0)))))) = true then ((bursarlaw26_awake.f k).bind fun t346 => (some t346)) else (none)))) = some r := H
 have A3 := Aside0.mk A30
 clear A30
 replace H := Option.bind_eq_some_iff.mp H
 obtain ⟨⟨t331, t332, t333, t334, t335, t336, t337, t338, t339, t340, t341, t342, t343⟩, A40, H⟩ := H
 replace H : (if t343.toList = ([48, 48] : List UInt8) then ((dispute_Decide.f k t298 t299 t300 t301 t302 t303 t304 t305 t306 t307 t308 t309 t310 t311 t312 t313 t314 t315 t316 t317 t318 t319 t320 t321 t322 t331 t332 t333 t334 t335 t336 true).bind fun bt347 => (if bt347.2.2.2.2.2.2.2.2.2.2.2.2.toList = ([48, 48] : List UInt8) then (none) else ((some (([(wrap64 (48 + (Int.tmod t334 3))) % 256] : List Int) : List Int)).bind fun y363 => (if 1 + (strOfNums y363).size ≤ 9223372036854775807 then (if ((⟨#[48]⟩ : ByteArray) ++ (strOfNums y363)).size + 4 ≤ 9223372036854775807 then (if t320 > 1073741824 then ((bursarlaw26_awake.f k).bind fun t366 => (some t366)) else ((dispute_Decide.f k t298 t299 (((⟨#[48]⟩ : ByteArray) ++ (strOfNums y363)) ++ (⟨#[48, 48, 48, 48]⟩ : ByteArray)) t335 t302 t303 t304 t305 t306 t307 t308 t309 t310 t311 t312 t313 t314 t315 t316 t317 t318 t319 (wrap64 (t320 + (wrap64 (a0_32)))) t321 t322 t331 t332 t333 t334 t335 t336 true).bind fun bt367 => (if t334 = 3 then (if bt367.2.2.2.2.2.2.2.2.2.2.2.2.toList = ([48, 48] : List UInt8) then (none) else ((bursarlaw26_awake.f k).bind fun t382 => (some t382))) else (if bt367.2.2.2.2.2.2.2.2.2.2.2.2.toList = ([48, 48] : List UInt8) then (if a0_32 ≤ 200 then ((bursarlaw26_awake.f k).bind fun t383 => (some t383)) else (none)) else (if a0_32 ≤ 200 then (none) else ((bursarlaw26_awake.f k).bind fun t384 => (some t384))))))) else (none)) else (none))))) else (if (t331.toList == ([] : List UInt8) && (t332.toList == ([] : List UInt8) && (t333.toList == ([] : List UInt8) && (t334 == 0 && (t335 == 0 && (t336 == 0)))))) = true then ((bursarlaw26_awake.f k).bind fun t346 => (some t346)) else (none))) = some r := H
 have A4 := Aside0.mk A40
 clear A40
 by_cases c5 : t343.toList = ([48, 48] : List UInt8)
 ·rw [if_pos c5] at H
  have c5b0 : (t343.toList == ([48, 48] : List UInt8)) = true := beq_iff_eq.mpr c5
  have c5b1 : (t343.toList != ([48, 48] : List UInt8)) = false := bne_eq_false_iff_eq.mpr c5
  clear c5
  replace H := Option.bind_eq_some_iff.mp H
  obtain ⟨⟨t347, t348, t349, t350, t351, t352, t353, t354, t355, t356, t357, t358, t359⟩, A60, H⟩ := H
  replace H : (if t359.toList = ([48, 48] : List UInt8) then (none) else ((some (([(wrap64 (48 + (Int.tmod t334 3))) % 256] : List Int) : List Int)).bind fun y363 => (if 1 + (strOfNums y363).size ≤ 9223372036854775807 then (if ((⟨#[48]⟩ : ByteArray) ++ (strOfNums y363)).size + 4 ≤ 9223372036854775807 then (if t320 > 1073741824 then ((bursarlaw26_awake.f k).bind fun t366 => (some t366)) else ((dispute_Decide.f k t298 t299 (((⟨#[48]⟩ : ByteArray) ++ (strOfNums y363)) ++ (⟨#[48, 48, 48, 48]⟩ : ByteArray)) t335 t302 t303 t304 t305 t306 t307 t308 t309 t310 t311 t312 t313 t314 t315 t316 t317 t318 t319 (wrap64 (t320 + (wrap64 (a0_32)))) t321 t322 t331 t332 t333 t334 t335 t336 true).bind fun bt367 => (if t334 = 3 then (if bt367.2.2.2.2.2.2.2.2.2.2.2.2.toList = ([48, 48] : List UInt8) then (none) else ((bursarlaw26_awake.f k).bind fun t382 => (some t382))) else (if bt367.2.2.2.2.2.2.2.2.2.2.2.2.toList = ([48, 48] : List UInt8) then (if a0_32 ≤ 200 then ((bursarlaw26_awake.f k).bind fun t383 => (some t383)) else (none)) else (if a0_32 ≤ 200 then (none) else ((bursarlaw26_awake.f k).bind fun t384 => (some t384))))))) else (none)) else (none)))) = some r := H
  have A6 := Aside0.mk A60
  clear A60
  by_cases c7 : t359.toList = ([48, 48] : List UInt8)
  ·rw [if_pos c7] at H
   exact absurd H (by simp)
  ·rw [if_neg c7] at H
   have c7b0 : (t359.toList == ([48, 48] : List UInt8)) = false := beq_eq_false_iff_ne.mpr c7
   have c7b1 : (t359.toList != ([48, 48] : List UInt8)) = true := bne_iff_ne.mpr c7
   obtain ⟨y363, hy363⟩ : ∃ y_ : List Int, y_ = (([(wrap64 (48 + (Int.tmod t334 3))) % 256] : List Int)) := ⟨_, rfl⟩
   replace H : (if 1 + (strOfNums y363).size ≤ 9223372036854775807 then (if ((⟨#[48]⟩ : ByteArray) ++ (strOfNums y363)).size + 4 ≤ 9223372036854775807 then (if t320 > 1073741824 then ((bursarlaw26_awake.f k).bind fun t366 => (some t366)) else ((dispute_Decide.f k t298 t299 (((⟨#[48]⟩ : ByteArray) ++ (strOfNums y363)) ++ (⟨#[48, 48, 48, 48]⟩ : ByteArray)) t335 t302 t303 t304 t305 t306 t307 t308 t309 t310 t311 t312 t313 t314 t315 t316 t317 t318 t319 (wrap64 (t320 + (wrap64 (a0_32)))) t321 t322 t331 t332 t333 t334 t335 t336 true).bind fun bt367 => (if t334 = 3 then (if bt367.2.2.2.2.2.2.2.2.2.2.2.2.toList = ([48, 48] : List UInt8) then (none) else ((bursarlaw26_awake.f k).bind fun t382 => (some t382))) else (if bt367.2.2.2.2.2.2.2.2.2.2.2.2.toList = ([48, 48] : List UInt8) then (if a0_32 ≤ 200 then ((bursarlaw26_awake.f k).bind fun t383 => (some t383)) else (none)) else (if a0_32 ≤ 200 then (none) else ((bursarlaw26_awake.f k).bind fun t384 => (some t384))))))) else (none)) else (none)) = some r := by first | (rw [hy363]; with_reducible exact H) | (have H2_ := (Option.bind_some _ _).symm.trans H; rw [hy363]; with_reducible exact H2_) | (have H2_ := (Option.bind_some _ _).symm.trans H; with_reducible exact H2_) | with_reducible exact H | (rw [hy363]; exact H) | exact H
   have Ny363 := Aside0.mk hy363
   clear hy363
   by_cases c8 : 1 + (strOfNums y363).size ≤ 9223372036854775807
   ·rw [if_pos c8] at H
    have c8b0 := eq_true c8
    have c8b1 : decide (1 + (strOfNums y363).size ≤ 9223372036854775807) = true := decide_eq_true c8
    try have c8b2 : (9223372036854775807 < 1 + (strOfNums y363).size) = False := eq_false (Nat.not_lt.2 c8)
    by_cases c9 : ((⟨#[48]⟩ : ByteArray) ++ (strOfNums y363)).size + 4 ≤ 9223372036854775807
    ·rw [if_pos c9] at H
     have c9b0 := eq_true c9
     have c9b1 : decide (((⟨#[48]⟩ : ByteArray) ++ (strOfNums y363)).size + 4 ≤ 9223372036854775807) = true := decide_eq_true c9
     try have c9b2 : (9223372036854775807 < ((⟨#[48]⟩ : ByteArray) ++ (strOfNums y363)).size + 4) = False := eq_false (Nat.not_lt.2 c9)
     have c9bn := c9b2
     try simp only [ByteArray.size_append, show (⟨#[48]⟩ : ByteArray).size = 1 from rfl] at c9bn
     by_cases c10 : t320 > 1073741824
     ·rw [if_pos c10] at H
      have c10b0 : decide (1073741824 < t320) = true := decide_eq_true c10
      clear c10
      replace H := Option.bind_eq_some_iff.mp H
      obtain ⟨t366, A110, H⟩ := H
      replace H : (some t366) = some r := H
      have A11 := Aside0.mk A110
      clear A110
      obtain rfl := Option.some.inj H
      obtain ⟨Q0, hQ0_⟩ : ∃ q_ : Array Value, q_ = (#[.string a0_0, .string a0_1, .string a0_2, .int .i64 a0_3, .string a0_4, .string a0_5, .string a0_6, .string a0_7, .string a0_8, .int .i64 a0_9, .int .i64 a0_10, .string a0_11, .bool a0_12, .int .i64 a0_13, .string a0_14, .string a0_15, .string a0_16, .int .i64 a0_17, .int .i64 a0_18, .int .i64 a0_19, .bool a0_20, .bool a0_21, .int .i64 a0_22, .int .i64 a0_23, .bool a0_24, .string a0_25, .string a0_26, .string a0_27, .int .i64 a0_28, .int .i64 a0_29, .int .i64 a0_30, .bool a0_31, .int .u16 a0_32] : Array Value) := ⟨_, rfl⟩
      try rw [← hQ0_]
      have hQ0 := Aside0.mk hQ0_; have hq := Aside0.mk hQ0_; clear hQ0_
      go_enter Try.func3, Try.ntmps3
      try go_wp2_with (first | ((with_reducible refine gate_dst (N := 1) rfl ?_); refine Ow.box rfl (N := 1) rfl (cs := Q0) (t := 32) HO.out (by first | (go_simp; done) | (go_simp; rfl)) ?_; clear HO; intro gb297 w12 HO; simp only [cons_append, nil_append] at HO) | ((with_reducible refine Ow.gate_build rfl ?_); (try (refine gate_guard (by rfl) ?_; dsimp only)); refine' Ow.tbuild Ot.bd rfl rfl rfl ?hf_ ?_; (case hf_ => repeat (any_goals (first | exact Ow.Fills.nil | (refine' Ow.Fills.c ?hv_ rfl ?hz_ ?_; (case hv_ => first | exact Ow.ev_tmp rfl | rfl); (case hz_ => first | (refine ⟨?_, ?_⟩ <;> ((try simp only [hq.1]) <;> rfl)) | fail)))))) | ((with_reducible refine Ow.gate_load rfl ?_); (try (refine gate_guard (by rfl) ?_; dsimp only)); (first | refine Ow.l1 Ot.ty HO.out rfl rfl rfl rfl (by (try simp only [hq.1]) <;> rfl) ?_ | refine Ow.l0 Ot.ty HO.out rfl rfl rfl rfl (by (try simp only [hq.1]) <;> rfl) ?_ | refine Ow.lp Ot.ty HO.out rfl rfl rfl rfl (by (try simp only [hq.1]) <;> rfl) ?_)) | ((with_reducible refine gate_store rfl ?_); (try (refine gate_guard (by rfl) ?_; dsimp only)); (first | refine Ow.s0 Ot.ty HO.out rfl rfl rfl rfl rfl (by first | exact Ow.ev_tmp rfl | rfl) (by first | (refine ⟨?_, ?_, ?_⟩ <;> ((try simp only [hq.1]) <;> rfl)) | fail) ?_ | refine Ow.sp Ot.ty HO.out rfl rfl rfl rfl rfl (by first | exact Ow.ev_tmp rfl | rfl) (by first | (refine ⟨?_, ?_, ?_⟩ <;> ((try simp only [hq.1]) <;> rfl)) | fail) ?_); clear HO; intro wz_ HO; simp only [u2, u3] at HO))
      refine Ow.ostart (n := 16) (ds := []) (Ow.B 16 0) HO.out (by kernel_rfl) rfl (by kernel_rfl) ?_
      intro hHeld; replace HO := Aside0.mk hHeld; refine with_tabW bursarlaw26_DisputeOnce.tab1 bursarlaw26_DisputeOnce.bits1 (fun HT_ HW_ => ?_)
      refine' Ow.pu (i := 0) (N := some 17) (Ow.B 16 1) HT_.out ?hv_ ?ha_ ?_; (case hv_ => intro w'; go_simp; with_reducible rfl); (case ha_ => simp only [Ow.Sl, i64_w, i32_w]; rfl)
      refine' Ow.pu (i := 3) (N := some 20) (Ow.B 16 9) HT_.out ?hv_ ?ha_ ?_; (case hv_ => intro w'; go_simp; with_reducible rfl); (case ha_ => simp only [Ow.Sl, i64_w, i32_w]; rfl)
      refine' Ow.pu (i := 6) (N := some 23) (Ow.B 16 73) HT_.out ?hv_ ?ha_ ?_; (case hv_ => intro w'; go_simp; with_reducible rfl); (case ha_ => simp only [Ow.Sl, i64_w, i32_w]; rfl)
      refine' Ow.pu (i := 8) (N := some 25) (Ow.B 16 329) HT_.out ?hv_ ?ha_ ?_; (case hv_ => intro w'; go_simp; with_reducible rfl); (case ha_ => simp only [Ow.Sl, i64_w, i32_w]; rfl)
      refine take_ (i := 1) (N := some 18) (v := ?_) (a' := ?_) (Ow.B 16 331) rfl rfl (take_ofW HT_.out HW_.out (by kernel_rfl)) (fun _ _ _ h => h) (Or.inl ⟨by rfl, ?_⟩) hHeld ?_ ?_
      rotate_left
      ·intro w' s_
       first | refine Ow.r1 Ot.ty s_ rfl rfl rfl (by (try simp only [hq.1]) <;> rfl) | (refine' Ow.r0 Ot.ty s_ rfl rfl rfl ?h; (case h => first | ((try simp only [hq.1]) <;> rfl) | fail)) | (refine' Ow.rp Ot.ty s_ rfl rfl rfl ?h; (case h => first | ((try simp only [hq.1]) <;> rfl) | fail)) | (go_simp; with_reducible rfl)
      rotate_left
      ·simp only [Act.put, u1, u2, u3, i64_w, i32_w]
       rfl
      refine take_ (i := 4) (N := some 21) (v := ?_) (a' := ?_) (Ow.B 16 347) rfl rfl (take_ofW HT_.out HW_.out (by kernel_rfl)) (fun _ _ _ h => h) (Or.inl ⟨by rfl, ?_⟩) hHeld ?_ ?_
      rotate_left
      ·intro w' s_
       first | refine Ow.r1 Ot.ty s_ rfl rfl rfl (by (try simp only [hq.1]) <;> rfl) | (refine' Ow.r0 Ot.ty s_ rfl rfl rfl ?h; (case h => first | ((try simp only [hq.1]) <;> rfl) | fail)) | (refine' Ow.rp Ot.ty s_ rfl rfl rfl ?h; (case h => first | ((try simp only [hq.1]) <;> rfl) | fail)) | (go_simp; with_reducible rfl)
      rotate_left
      ·simp only [Act.put, u1, u2, u3, i64_w, i32_w]
       rfl
      refine take_ (i := 7) (N := some 24) (v := ?_) (a' := ?_) (Ow.B 16 475) rfl rfl (take_ofW HT_.out HW_.out (by kernel_rfl)) (fun _ _ _ h => h) (Or.inl ⟨by rfl, ?_⟩) hHeld ?_ ?_
      rotate_left
      ·intro w' s_
       first | refine Ow.r1 Ot.ty s_ rfl rfl rfl (by (try simp only [hq.1]) <;> rfl) | (refine' Ow.r0 Ot.ty s_ rfl rfl rfl ?h; (case h => first | ((try simp only [hq.1]) <;> rfl) | fail)) | (refine' Ow.rp Ot.ty s_ rfl rfl rfl ?h; (case h => first | ((try simp only [hq.1]) <;> rfl) | fail)) | (go_simp; with_reducible rfl)
      rotate_left
      ·simp only [Act.put, u1, u2, u3, i64_w, i32_w]
       rfl
      refine take_ (i := 9) (N := some 26) (v := ?_) (a' := ?_) (Ow.B 16 987) rfl rfl (take_ofW HT_.out HW_.out (by kernel_rfl)) (fun _ _ _ h => h) (Or.inl ⟨by rfl, ?_⟩) hHeld ?_ ?_
      rotate_left
      ·intro w' s_
       first | refine Ow.r1 Ot.ty s_ rfl rfl rfl (by (try simp only [hq.1]) <;> rfl) | (refine' Ow.r0 Ot.ty s_ rfl rfl rfl ?h; (case h => first | ((try simp only [hq.1]) <;> rfl) | fail)) | (refine' Ow.rp Ot.ty s_ rfl rfl rfl ?h; (case h => first | ((try simp only [hq.1]) <;> rfl) | fail)) | (go_simp; with_reducible rfl)
      rotate_left
      ·simp only [Act.put, u1, u2, u3, i64_w, i32_w]
       rfl
      refine join_ (σ := Nat × Nat) 4 (Ow.B 16 4095) (fun s_ => [(19, .agg #[.string t298, .string t299, .string t300, .int .i64 t301, .string t302, .string t303, .string t304, .string t305, .string t306, .int .i64 t307, .int .i64 t308, .string t309, .bool t310, .int .i64 t311, .string t312, .string t313, .string t314, .int .i64 t315, .int .i64 t316, .int .i64 t317, .bool t318, .bool t319, .int .i64 t320, .int .i64 t321, .bool t322]), (22, .agg #[.string t323, .string t324, .string t325, .int .i64 t326, .int .i64 t327, .int .i64 t328]), (3, .pointer (some ⟨s_.1, 0, none⟩)), (4, .pointer (some ⟨s_.2, 0, none⟩))]) (fun s_ w' => Ow.Own w w' [(gb297, Q0, 32), (s_.1, Z25, 27), (s_.2, Z6, 29)]) ?_ ?_
      rotate_left
      ·intro hJ2_5_10_11
       refine join_ (σ := Nat) 5 (Ow.B 16 2047) (fun s_ => [(19, .agg #[.string t298, .string t299, .string t300, .int .i64 t301, .string t302, .string t303, .string t304, .string t305, .string t306, .int .i64 t307, .int .i64 t308, .string t309, .bool t310, .int .i64 t311, .string t312, .string t313, .string t314, .int .i64 t315, .int .i64 t316, .int .i64 t317, .bool t318, .bool t319, .int .i64 t320, .int .i64 t321, .bool t322]), (22, .agg #[.string t323, .string t324, .string t325, .int .i64 t326, .int .i64 t327, .int .i64 t328]), (3, .pointer (some ⟨s_, 0, none⟩))]) (fun s_ w' => Ow.Own w w' [(gb297, Q0, 32), (s_, Z25, 27)]) ?_ ?_
       rotate_left
       ·intro hJ2_5_10
        refine join_ (σ := Nat) 5 (Ow.B 16 3071) (fun s_ => [(19, .agg #[.string t298, .string t299, .string t300, .int .i64 t301, .string t302, .string t303, .string t304, .string t305, .string t306, .int .i64 t307, .int .i64 t308, .string t309, .bool t310, .int .i64 t311, .string t312, .string t313, .string t314, .int .i64 t315, .int .i64 t316, .int .i64 t317, .bool t318, .bool t319, .int .i64 t320, .int .i64 t321, .bool t322]), (22, .agg #[.string t323, .string t324, .string t325, .int .i64 t326, .int .i64 t327, .int .i64 t328]), (4, .pointer (some ⟨s_, 0, none⟩))]) (fun s_ w' => Ow.Own w w' [(gb297, Q0, 32), (s_, Z6, 29)]) ?_ ?_
        rotate_left
        ·intro hJ2_5_11
         refine join_ (σ := Nat × Nat) 5 (Ow.B 16 4063) (fun s_ => [(19, .agg #[.string t298, .string t299, .string t300, .int .i64 t301, .string t302, .string t303, .string t304, .string t305, .string t306, .int .i64 t307, .int .i64 t308, .string t309, .bool t310, .int .i64 t311, .string t312, .string t313, .string t314, .int .i64 t315, .int .i64 t316, .int .i64 t317, .bool t318, .bool t319, .int .i64 t320, .int .i64 t321, .bool t322]), (3, .pointer (some ⟨s_.1, 0, none⟩)), (4, .pointer (some ⟨s_.2, 0, none⟩))]) (fun s_ w' => Ow.Own w w' [(gb297, Q0, 32), (s_.1, Z25, 27), (s_.2, Z6, 29)]) ?_ ?_
         rotate_left
         ·intro hJ2_10_11
          refine join_ (σ := Unit) 6 (Ow.B 16 1023) (fun s_ => [(19, .agg #[.string t298, .string t299, .string t300, .int .i64 t301, .string t302, .string t303, .string t304, .string t305, .string t306, .int .i64 t307, .int .i64 t308, .string t309, .bool t310, .int .i64 t311, .string t312, .string t313, .string t314, .int .i64 t315, .int .i64 t316, .int .i64 t317, .bool t318, .bool t319, .int .i64 t320, .int .i64 t321, .bool t322]), (22, .agg #[.string t323, .string t324, .string t325, .int .i64 t326, .int .i64 t327, .int .i64 t328])]) (fun s_ w' => Ow.Own w w' [(gb297, Q0, 32)]) ?_ ?_
          rotate_left
          ·intro hJ2_5
           refine join_ (σ := Nat) 6 (Ow.B 16 2015) (fun s_ => [(19, .agg #[.string t298, .string t299, .string t300, .int .i64 t301, .string t302, .string t303, .string t304, .string t305, .string t306, .int .i64 t307, .int .i64 t308, .string t309, .bool t310, .int .i64 t311, .string t312, .string t313, .string t314, .int .i64 t315, .int .i64 t316, .int .i64 t317, .bool t318, .bool t319, .int .i64 t320, .int .i64 t321, .bool t322]), (3, .pointer (some ⟨s_, 0, none⟩))]) (fun s_ w' => Ow.Own w w' [(gb297, Q0, 32), (s_, Z25, 27)]) ?_ ?_
           rotate_left
           ·intro hJ2_10
            refine join_ (σ := Nat) 6 (Ow.B 16 3039) (fun s_ => [(19, .agg #[.string t298, .string t299, .string t300, .int .i64 t301, .string t302, .string t303, .string t304, .string t305, .string t306, .int .i64 t307, .int .i64 t308, .string t309, .bool t310, .int .i64 t311, .string t312, .string t313, .string t314, .int .i64 t315, .int .i64 t316, .int .i64 t317, .bool t318, .bool t319, .int .i64 t320, .int .i64 t321, .bool t322]), (4, .pointer (some ⟨s_, 0, none⟩))]) (fun s_ w' => Ow.Own w w' [(gb297, Q0, 32), (s_, Z6, 29)]) ?_ ?_
            rotate_left
            ·intro hJ2_11
             refine join_ (σ := Nat × Nat) 6 (Ow.B 16 4059) (fun s_ => [(3, .pointer (some ⟨s_.1, 0, none⟩)), (4, .pointer (some ⟨s_.2, 0, none⟩))]) (fun s_ w' => Ow.Own w w' [(gb297, Q0, 32), (s_.1, Z25, 27), (s_.2, Z6, 29)]) ?_ ?_
             rotate_left
             ·intro hJ10_11
              refine join_ (σ := Unit) 7 (Ow.B 16 991) (fun s_ => [(19, .agg #[.string t298, .string t299, .string t300, .int .i64 t301, .string t302, .string t303, .string t304, .string t305, .string t306, .int .i64 t307, .int .i64 t308, .string t309, .bool t310, .int .i64 t311, .string t312, .string t313, .string t314, .int .i64 t315, .int .i64 t316, .int .i64 t317, .bool t318, .bool t319, .int .i64 t320, .int .i64 t321, .bool t322])]) (fun s_ w' => Ow.Own w w' [(gb297, Q0, 32)]) ?_ ?_
              rotate_left
              ·intro hJ2
               refine join_ (σ := Nat) 7 (Ow.B 16 2011) (fun s_ => [(3, .pointer (some ⟨s_, 0, none⟩))]) (fun s_ w' => Ow.Own w w' [(gb297, Q0, 32), (s_, Z25, 27)]) ?_ ?_
               rotate_left
               ·intro hJ10
                refine join_ (σ := Nat) 7 (Ow.B 16 3035) (fun s_ => [(4, .pointer (some ⟨s_, 0, none⟩))]) (fun s_ w' => Ow.Own w w' [(gb297, Q0, 32), (s_, Z6, 29)]) ?_ ?_
                rotate_left
                ·intro hJ11
                 refine three_ (i := 2) (j := 10) (k := 11) (Ni := some 19) (Nj := some 3) (Nk := some 4) (Ow.B 16 991) (Ow.B 16 2011) (Ow.B 16 3035) rfl rfl rfl rfl rfl rfl (three_of HT_.out (by kernel_rfl)) (by decide) (by decide) (by decide) (fun K hK => ?_) (fun K hK => ?_) (fun K hK => ?_)
                 ·skip
                  obtain ⟨Q1, hQ1_⟩ : ∃ q_ : Array Value, q_ = (#[.string a0_0, .string a0_1, .string a0_2, .int .i64 a0_3, .string a0_4, .string a0_5, .string a0_6, .string a0_7, .string a0_8, .int .i64 a0_9, .int .i64 a0_10, .string a0_11, .bool a0_12, .int .i64 a0_13, .string a0_14, .string a0_15, .string a0_16, .int .i64 a0_17, .int .i64 a0_18, .int .i64 a0_19, .bool a0_20, .bool a0_21, .int .i64 a0_22, .int .i64 a0_23, .bool a0_24] : Array Value) := ⟨_, rfl⟩
                  try rw [← hQ1_]
                  have hQ1 := Aside0.mk hQ1_; replace hq := Aside0.mk (And.intro hQ1_ hq.1); clear hQ1_
                  refine goes_ Try.func15 (by kernel_rfl) rfl #[.agg Q1] (by rfl) rfl rfl (by (try simp only [map_toArray, map_cons, map_nil]); first | done | rfl | (simp only [hq.1] <;> rfl) | (simp only [length_drop, length_take]; rfl)) ?_
                  obtain ⟨Q2, hQ2_⟩ : ∃ q_ : Array Value, q_ = (#[.string t298, .string t299, .string t300, .int .i64 t301, .string t302, .string t303, .string t304, .string t305, .string t306, .int .i64 t307, .int .i64 t308, .string t309, .bool t310, .int .i64 t311, .string t312, .string t313, .string t314, .int .i64 t315, .int .i64 t316, .int .i64 t317, .bool t318, .bool t319, .int .i64 t320, .int .i64 t321, .bool t322] : Array Value) := ⟨_, rfl⟩
                  try rw [← hQ2_]
                  have hQ2 := Aside0.mk hQ2_; replace hq := Aside0.mk (And.intro hQ2_ hq.1); clear hQ2_
                  refine Calls.mono (calls_of_args (by (try simp only [hq.1]) <;> rfl) (bursarlaw22_Few.calls a0_0 a0_1 a0_2 a0_3 a0_4 a0_5 a0_6 a0_7 a0_8 a0_9 a0_10 a0_11 a0_12 a0_13 a0_14 a0_15 a0_16 a0_17 a0_18 a0_19 a0_20 a0_21 a0_22 a0_23 a0_24 t298 t299 t300 t301 t302 t303 t304 t305 t306 t307 t308 t309 t310 t311 t312 t313 t314 t315 t316 t317 t318 t319 t320 t321 t322 _ A2.out)) ?_
                  rintro e w14 ⟨he_, hb⟩
                  (try rw [← hQ2.out] at he_)
                  subst he_
                  replace HO := Aside0.mk (Ow.Own.call HO.out hb)
                  clear hb
                  refine ⟨_, rfl, ?_⟩
                  refine hK.out _ _ (by first | exact HO.out | exact cong HO.out (by (try simp only [hq.1]) <;> rfl)) (fun hHeld => ?_)
                  clear hK K
                  refine norm_ (a' := ?_) ?_ ?_
                  rotate_left
                  ·show Act.put _ (some 19) _ = _
                   simp only [Act.put, u1, u2, u3, i64_w, i32_w]
                   rfl
                  exact norm_ (by simp only [hq.1, putAll, Act.put, u1, u2, u3] <;> rfl) (hJ2 () _ (cong (pick [0] HO.out (by decide)) (by (try simp only [hq.1]) <;> rfl)))
                 ·skip
                  refine box_step ?hg (N := 3) ?hd (cs := Z25) (t := 27) ?hr ?_; (case hd => rfl); (case hg => rfl); (case hr => first | (go_simp; done) | (go_simp; rfl))
                  intro gb329 hg w14 hbox hb
                  replace HO := Aside0.mk (Ow.Own.add HO.out hg hbox hb)
                  clear hb hbox hg
                  simp only [cons_append, nil_append] at HO
                  refine hK.out _ _ (by have h_ := pick [0] HO.out (by decide); first | exact h_ | exact cong h_ (by (try simp only [hq.1]) <;> rfl)) (fun hHeld => ?_)
                  clear hK K
                  refine norm_ (a' := ?_) ?_ ?_
                  rotate_left
                  ·show Act.put _ (some 3) _ = _
                   simp only [Act.put, u1, u2, u3, i64_w, i32_w]
                   rfl
                  exact norm_ (by simp only [hq.1, putAll, Act.put, u1, u2, u3] <;> rfl) (hJ10 (gb329) _ (cong (pick [0, 1] HO.out (by decide)) (by (try simp only [hq.1]) <;> rfl)))
                 ·skip
                  refine box_step ?hg (N := 4) ?hd (cs := Z6) (t := 29) ?hr ?_; (case hd => rfl); (case hg => rfl); (case hr => first | (go_simp; done) | (go_simp; rfl))
                  intro gb330 hg w14 hbox hb
                  replace HO := Aside0.mk (Ow.Own.add HO.out hg hbox hb)
                  clear hb hbox hg
                  simp only [cons_append, nil_append] at HO
                  refine hK.out _ _ (by have h_ := pick [0] HO.out (by decide); first | exact h_ | exact cong h_ (by (try simp only [hq.1]) <;> rfl)) (fun hHeld => ?_)
                  clear hK K
                  refine norm_ (a' := ?_) ?_ ?_
                  rotate_left
                  ·show Act.put _ (some 4) _ = _
                   simp only [Act.put, u1, u2, u3, i64_w, i32_w]
                   rfl
                  exact norm_ (by simp only [hq.1, putAll, Act.put, u1, u2, u3] <;> rfl) (hJ11 (gb330) _ (cong (pick [0, 1] HO.out (by decide)) (by (try simp only [hq.1]) <;> rfl)))
                ·skip
                 rintro gb330 w15 HO7_
                 clear HO
                 have HO := Aside0.mk HO7_
                 clear HO7_
                 have hHeld := pick [0] HO.out (by decide)
                 refine norm_ (a' := ?_) ?_ ?_
                 rotate_left
                 ·simp only [putAll, Act.put, u1, u2, u3]
                  rfl
                 refine two_ (i := 2) (j := 10) (Ni := some 19) (Nj := some 3) (Ow.B 16 3039) (Ow.B 16 4059) rfl rfl rfl rfl (two_of HT_.out (by kernel_rfl)) (by decide) (by decide) (fun K hK => ?_) (fun K hK => ?_)
                 ·skip
                  obtain ⟨Q3, hQ3_⟩ : ∃ q_ : Array Value, q_ = (#[.string a0_0, .string a0_1, .string a0_2, .int .i64 a0_3, .string a0_4, .string a0_5, .string a0_6, .string a0_7, .string a0_8, .int .i64 a0_9, .int .i64 a0_10, .string a0_11, .bool a0_12, .int .i64 a0_13, .string a0_14, .string a0_15, .string a0_16, .int .i64 a0_17, .int .i64 a0_18, .int .i64 a0_19, .bool a0_20, .bool a0_21, .int .i64 a0_22, .int .i64 a0_23, .bool a0_24] : Array Value) := ⟨_, rfl⟩
                  try rw [← hQ3_]
                  have hQ3 := Aside0.mk hQ3_; replace hq := Aside0.mk (And.intro hQ3_ hq.1); clear hQ3_
                  refine goes_ Try.func15 (by kernel_rfl) rfl #[.agg Q3] (by rfl) rfl rfl (by (try simp only [map_toArray, map_cons, map_nil]); first | done | rfl | (simp only [hq.1] <;> rfl) | (simp only [length_drop, length_take]; rfl)) ?_
                  obtain ⟨Q4, hQ4_⟩ : ∃ q_ : Array Value, q_ = (#[.string t298, .string t299, .string t300, .int .i64 t301, .string t302, .string t303, .string t304, .string t305, .string t306, .int .i64 t307, .int .i64 t308, .string t309, .bool t310, .int .i64 t311, .string t312, .string t313, .string t314, .int .i64 t315, .int .i64 t316, .int .i64 t317, .bool t318, .bool t319, .int .i64 t320, .int .i64 t321, .bool t322] : Array Value) := ⟨_, rfl⟩
                  try rw [← hQ4_]
                  have hQ4 := Aside0.mk hQ4_; replace hq := Aside0.mk (And.intro hQ4_ hq.1); clear hQ4_
                  refine Calls.mono (calls_of_args (by (try simp only [hq.1]) <;> rfl) (bursarlaw22_Few.calls a0_0 a0_1 a0_2 a0_3 a0_4 a0_5 a0_6 a0_7 a0_8 a0_9 a0_10 a0_11 a0_12 a0_13 a0_14 a0_15 a0_16 a0_17 a0_18 a0_19 a0_20 a0_21 a0_22 a0_23 a0_24 t298 t299 t300 t301 t302 t303 t304 t305 t306 t307 t308 t309 t310 t311 t312 t313 t314 t315 t316 t317 t318 t319 t320 t321 t322 _ A2.out)) ?_
                  rintro e w16 ⟨he_, hb⟩
                  (try rw [← hQ4.out] at he_)
                  subst he_
                  replace HO := Aside0.mk (Ow.Own.call HO.out hb)
                  clear hb
                  refine ⟨_, rfl, ?_⟩
                  refine hK.out _ _ (by have h_ := pick [0] HO.out (by decide); first | exact h_ | exact cong h_ (by (try simp only [hq.1]) <;> rfl)) (fun hHeld => ?_)
                  clear hK K
                  refine norm_ (a' := ?_) ?_ ?_
                  rotate_left
                  ·show Act.put _ (some 19) _ = _
                   simp only [Act.put, u1, u2, u3, i64_w, i32_w]
                   rfl
                  exact norm_ (by simp only [hq.1, putAll, Act.put, u1, u2, u3] <;> rfl) (hJ2_11 (gb330) _ (cong (pick [0, 1] HO.out (by decide)) (by (try simp only [hq.1]) <;> rfl)))
                 ·skip
                  refine box_step ?hg (N := 3) ?hd (cs := Z25) (t := 27) ?hr ?_; (case hd => rfl); (case hg => rfl); (case hr => first | (go_simp; done) | (go_simp; rfl))
                  intro gb329 hg w16 hbox hb
                  replace HO := Aside0.mk (Ow.Own.add HO.out hg hbox hb)
                  clear hb hbox hg
                  simp only [cons_append, nil_append] at HO
                  refine hK.out _ _ (by have h_ := pick [0] HO.out (by decide); first | exact h_ | exact cong h_ (by (try simp only [hq.1]) <;> rfl)) (fun hHeld => ?_)
                  clear hK K
                  refine norm_ (a' := ?_) ?_ ?_
                  rotate_left
                  ·show Act.put _ (some 3) _ = _
                   simp only [Act.put, u1, u2, u3, i64_w, i32_w]
                   rfl
                  exact norm_ (by simp only [hq.1, putAll, Act.put, u1, u2, u3] <;> rfl) (hJ10_11 (gb329, gb330) _ (cong (pick [0, 2, 1] HO.out (by decide)) (by (try simp only [hq.1]) <;> rfl)))
               ·skip
                rintro gb329 w15 HO7_
                clear HO
                have HO := Aside0.mk HO7_
                clear HO7_
                have hHeld := pick [0] HO.out (by decide)
                refine norm_ (a' := ?_) ?_ ?_
                rotate_left
                ·simp only [putAll, Act.put, u1, u2, u3]
                 rfl
                refine two_ (i := 2) (j := 11) (Ni := some 19) (Nj := some 4) (Ow.B 16 2015) (Ow.B 16 4059) rfl rfl rfl rfl (two_of HT_.out (by kernel_rfl)) (by decide) (by decide) (fun K hK => ?_) (fun K hK => ?_)
                ·skip
                 obtain ⟨Q5, hQ5_⟩ : ∃ q_ : Array Value, q_ = (#[.string a0_0, .string a0_1, .string a0_2, .int .i64 a0_3, .string a0_4, .string a0_5, .string a0_6, .string a0_7, .string a0_8, .int .i64 a0_9, .int .i64 a0_10, .string a0_11, .bool a0_12, .int .i64 a0_13, .string a0_14, .string a0_15, .string a0_16, .int .i64 a0_17, .int .i64 a0_18, .int .i64 a0_19, .bool a0_20, .bool a0_21, .int .i64 a0_22, .int .i64 a0_23, .bool a0_24] : Array Value) := ⟨_, rfl⟩
                 try rw [← hQ5_]
                 have hQ5 := Aside0.mk hQ5_; replace hq := Aside0.mk (And.intro hQ5_ hq.1); clear hQ5_
                 refine goes_ Try.func15 (by kernel_rfl) rfl #[.agg Q5] (by rfl) rfl rfl (by (try simp only [map_toArray, map_cons, map_nil]); first | done | rfl | (simp only [hq.1] <;> rfl) | (simp only [length_drop, length_take]; rfl)) ?_
                 obtain ⟨Q6, hQ6_⟩ : ∃ q_ : Array Value, q_ = (#[.string t298, .string t299, .string t300, .int .i64 t301, .string t302, .string t303, .string t304, .string t305, .string t306, .int .i64 t307, .int .i64 t308, .string t309, .bool t310, .int .i64 t311, .string t312, .string t313, .string t314, .int .i64 t315, .int .i64 t316, .int .i64 t317, .bool t318, .bool t319, .int .i64 t320, .int .i64 t321, .bool t322] : Array Value) := ⟨_, rfl⟩
                 try rw [← hQ6_]
                 have hQ6 := Aside0.mk hQ6_; replace hq := Aside0.mk (And.intro hQ6_ hq.1); clear hQ6_
                 refine Calls.mono (calls_of_args (by (try simp only [hq.1]) <;> rfl) (bursarlaw22_Few.calls a0_0 a0_1 a0_2 a0_3 a0_4 a0_5 a0_6 a0_7 a0_8 a0_9 a0_10 a0_11 a0_12 a0_13 a0_14 a0_15 a0_16 a0_17 a0_18 a0_19 a0_20 a0_21 a0_22 a0_23 a0_24 t298 t299 t300 t301 t302 t303 t304 t305 t306 t307 t308 t309 t310 t311 t312 t313 t314 t315 t316 t317 t318 t319 t320 t321 t322 _ A2.out)) ?_
                 rintro e w16 ⟨he_, hb⟩
                 (try rw [← hQ6.out] at he_)
                 subst he_
                 replace HO := Aside0.mk (Ow.Own.call HO.out hb)
                 clear hb
                 refine ⟨_, rfl, ?_⟩
                 refine hK.out _ _ (by have h_ := pick [0] HO.out (by decide); first | exact h_ | exact cong h_ (by (try simp only [hq.1]) <;> rfl)) (fun hHeld => ?_)
                 clear hK K
                 refine norm_ (a' := ?_) ?_ ?_
                 rotate_left
                 ·show Act.put _ (some 19) _ = _
                  simp only [Act.put, u1, u2, u3, i64_w, i32_w]
                  rfl
                 exact norm_ (by simp only [hq.1, putAll, Act.put, u1, u2, u3] <;> rfl) (hJ2_10 (gb329) _ (cong (pick [0, 1] HO.out (by decide)) (by (try simp only [hq.1]) <;> rfl)))
                ·skip
                 refine box_step ?hg (N := 4) ?hd (cs := Z6) (t := 29) ?hr ?_; (case hd => rfl); (case hg => rfl); (case hr => first | (go_simp; done) | (go_simp; rfl))
                 intro gb330 hg w16 hbox hb
                 replace HO := Aside0.mk (Ow.Own.add HO.out hg hbox hb)
                 clear hb hbox hg
                 simp only [cons_append, nil_append] at HO
                 refine hK.out _ _ (by have h_ := pick [0] HO.out (by decide); first | exact h_ | exact cong h_ (by (try simp only [hq.1]) <;> rfl)) (fun hHeld => ?_)
                 clear hK K
                 refine norm_ (a' := ?_) ?_ ?_
                 rotate_left
                 ·show Act.put _ (some 4) _ = _
                  simp only [Act.put, u1, u2, u3, i64_w, i32_w]
                  rfl
                 exact norm_ (by simp only [hq.1, putAll, Act.put, u1, u2, u3] <;> rfl) (hJ10_11 (gb329, gb330) _ (cong (pick [0, 1, 2] HO.out (by decide)) (by (try simp only [hq.1]) <;> rfl)))
              ·skip
               rintro _ w15 HO7_
               clear HO
               have HO := Aside0.mk HO7_
               clear HO7_
               have hHeld := pick [0] HO.out (by decide)
               refine norm_ (a' := ?_) ?_ ?_
               rotate_left
               ·simp only [putAll, Act.put, u1, u2, u3]
                rfl
               refine three_ (i := 5) (j := 10) (k := 11) (Ni := some 22) (Nj := some 3) (Nk := some 4) (Ow.B 16 1023) (Ow.B 16 2015) (Ow.B 16 3039) rfl rfl rfl rfl rfl rfl (three_of HT_.out (by kernel_rfl)) (by decide) (by decide) (by decide) (fun K hK => ?_) (fun K hK => ?_) (fun K hK => ?_)
               ·skip
                refine goes_ Try.func16 (by kernel_rfl) rfl #[.agg #[.string a0_25, .string a0_26, .string a0_27, .int .i64 a0_28, .int .i64 a0_29, .int .i64 a0_30]] (by rfl) rfl rfl (by (try simp only [map_toArray, map_cons, map_nil]); first | done | rfl | (simp only [hq.1] <;> rfl) | (simp only [length_drop, length_take]; rfl)) ?_
                refine Calls.mono (calls_of_args (by (try simp only [hq.1]) <;> rfl) (bursarlaw26_few.calls a0_25 a0_26 a0_27 a0_28 a0_29 a0_30 t323 t324 t325 t326 t327 t328 _ A3.out)) ?_
                rintro e w16 ⟨he_, hb⟩
                subst he_
                replace HO := Aside0.mk (Ow.Own.call HO.out hb)
                clear hb
                refine ⟨_, rfl, ?_⟩
                refine hK.out _ _ (by first | exact HO.out | exact cong HO.out (by (try simp only [hq.1]) <;> rfl)) (fun hHeld => ?_)
                clear hK K
                refine norm_ (a' := ?_) ?_ ?_
                rotate_left
                ·show Act.put _ (some 22) _ = _
                 simp only [Act.put, u1, u2, u3, i64_w, i32_w]
                 rfl
                exact norm_ (by simp only [hq.1, putAll, Act.put, u1, u2, u3] <;> rfl) (hJ2_5 () _ (cong (pick [0] HO.out (by decide)) (by (try simp only [hq.1]) <;> rfl)))
               ·skip
                refine box_step ?hg (N := 3) ?hd (cs := Z25) (t := 27) ?hr ?_; (case hd => rfl); (case hg => rfl); (case hr => first | (go_simp; done) | (go_simp; rfl))
                intro gb329 hg w16 hbox hb
                replace HO := Aside0.mk (Ow.Own.add HO.out hg hbox hb)
                clear hb hbox hg
                simp only [cons_append, nil_append] at HO
                refine hK.out _ _ (by have h_ := pick [0] HO.out (by decide); first | exact h_ | exact cong h_ (by (try simp only [hq.1]) <;> rfl)) (fun hHeld => ?_)
                clear hK K
                refine norm_ (a' := ?_) ?_ ?_
                rotate_left
                ·show Act.put _ (some 3) _ = _
                 simp only [Act.put, u1, u2, u3, i64_w, i32_w]
                 rfl
                exact norm_ (by simp only [hq.1, putAll, Act.put, u1, u2, u3] <;> rfl) (hJ2_10 (gb329) _ (cong (pick [0, 1] HO.out (by decide)) (by (try simp only [hq.1]) <;> rfl)))
               ·skip
                refine box_step ?hg (N := 4) ?hd (cs := Z6) (t := 29) ?hr ?_; (case hd => rfl); (case hg => rfl); (case hr => first | (go_simp; done) | (go_simp; rfl))
                intro gb330 hg w16 hbox hb
                replace HO := Aside0.mk (Ow.Own.add HO.out hg hbox hb)
                clear hb hbox hg
                simp only [cons_append, nil_append] at HO
                refine hK.out _ _ (by have h_ := pick [0] HO.out (by decide); first | exact h_ | exact cong h_ (by (try simp only [hq.1]) <;> rfl)) (fun hHeld => ?_)
                clear hK K
                refine norm_ (a' := ?_) ?_ ?_
                rotate_left
                ·show Act.put _ (some 4) _ = _
                 simp only [Act.put, u1, u2, u3, i64_w, i32_w]
                 rfl
                exact norm_ (by simp only [hq.1, putAll, Act.put, u1, u2, u3] <;> rfl) (hJ2_11 (gb330) _ (cong (pick [0, 1] HO.out (by decide)) (by (try simp only [hq.1]) <;> rfl)))
             ·skip
              rintro ⟨gb329, gb330⟩ w16 HO7_
              clear HO
              have HO := Aside0.mk HO7_
              clear HO7_
              have hHeld := pick [0] HO.out (by decide)
              refine norm_ (a' := ?_) ?_ ?_
              rotate_left
              ·simp only [putAll, Act.put, u1, u2, u3]
               rfl
              refine one_ (i := 2) (N := some 19) (Ow.B 16 4063) rfl rfl (one_of HT_.out (by kernel_rfl)) (by decide) (fun K hK => ?_)
              obtain ⟨Q7, hQ7_⟩ : ∃ q_ : Array Value, q_ = (#[.string a0_0, .string a0_1, .string a0_2, .int .i64 a0_3, .string a0_4, .string a0_5, .string a0_6, .string a0_7, .string a0_8, .int .i64 a0_9, .int .i64 a0_10, .string a0_11, .bool a0_12, .int .i64 a0_13, .string a0_14, .string a0_15, .string a0_16, .int .i64 a0_17, .int .i64 a0_18, .int .i64 a0_19, .bool a0_20, .bool a0_21, .int .i64 a0_22, .int .i64 a0_23, .bool a0_24] : Array Value) := ⟨_, rfl⟩
              try rw [← hQ7_]
              have hQ7 := Aside0.mk hQ7_; replace hq := Aside0.mk (And.intro hQ7_ hq.1); clear hQ7_
              refine goes_ Try.func15 (by kernel_rfl) rfl #[.agg Q7] (by rfl) rfl rfl (by (try simp only [map_toArray, map_cons, map_nil]); first | done | rfl | (simp only [hq.1] <;> rfl) | (simp only [length_drop, length_take]; rfl)) ?_
              obtain ⟨Q8, hQ8_⟩ : ∃ q_ : Array Value, q_ = (#[.string t298, .string t299, .string t300, .int .i64 t301, .string t302, .string t303, .string t304, .string t305, .string t306, .int .i64 t307, .int .i64 t308, .string t309, .bool t310, .int .i64 t311, .string t312, .string t313, .string t314, .int .i64 t315, .int .i64 t316, .int .i64 t317, .bool t318, .bool t319, .int .i64 t320, .int .i64 t321, .bool t322] : Array Value) := ⟨_, rfl⟩
              try rw [← hQ8_]
              have hQ8 := Aside0.mk hQ8_; replace hq := Aside0.mk (And.intro hQ8_ hq.1); clear hQ8_
              refine Calls.mono (calls_of_args (by (try simp only [hq.1]) <;> rfl) (bursarlaw22_Few.calls a0_0 a0_1 a0_2 a0_3 a0_4 a0_5 a0_6 a0_7 a0_8 a0_9 a0_10 a0_11 a0_12 a0_13 a0_14 a0_15 a0_16 a0_17 a0_18 a0_19 a0_20 a0_21 a0_22 a0_23 a0_24 t298 t299 t300 t301 t302 t303 t304 t305 t306 t307 t308 t309 t310 t311 t312 t313 t314 t315 t316 t317 t318 t319 t320 t321 t322 _ A2.out)) ?_
              rintro e w17 ⟨he_, hb⟩
              (try rw [← hQ8.out] at he_)
              subst he_
              replace HO := Aside0.mk (Ow.Own.call HO.out hb)
              clear hb
              refine ⟨_, rfl, ?_⟩
              refine hK.out _ _ (by have h_ := pick [0] HO.out (by decide); first | exact h_ | exact cong h_ (by (try simp only [hq.1]) <;> rfl)) (fun hHeld => ?_)
              clear hK K
              refine norm_ (a' := ?_) ?_ ?_
              rotate_left
              ·show Act.put _ (some 19) _ = _
               simp only [Act.put, u1, u2, u3, i64_w, i32_w]
               rfl
              exact norm_ (by simp only [hq.1, putAll, Act.put, u1, u2, u3] <;> rfl) (hJ2_10_11 (gb329, gb330) _ (cong (pick [0, 1, 2] HO.out (by decide)) (by (try simp only [hq.1]) <;> rfl)))
            ·skip
             rintro gb330 w16 HO7_
             clear HO
             have HO := Aside0.mk HO7_
             clear HO7_
             have hHeld := pick [0] HO.out (by decide)
             refine norm_ (a' := ?_) ?_ ?_
             rotate_left
             ·simp only [putAll, Act.put, u1, u2, u3]
              rfl
             refine two_ (i := 5) (j := 10) (Ni := some 22) (Nj := some 3) (Ow.B 16 3071) (Ow.B 16 4063) rfl rfl rfl rfl (two_of HT_.out (by kernel_rfl)) (by decide) (by decide) (fun K hK => ?_) (fun K hK => ?_)
             ·skip
              refine goes_ Try.func16 (by kernel_rfl) rfl #[.agg #[.string a0_25, .string a0_26, .string a0_27, .int .i64 a0_28, .int .i64 a0_29, .int .i64 a0_30]] (by rfl) rfl rfl (by (try simp only [map_toArray, map_cons, map_nil]); first | done | rfl | (simp only [hq.1] <;> rfl) | (simp only [length_drop, length_take]; rfl)) ?_
              refine Calls.mono (calls_of_args (by (try simp only [hq.1]) <;> rfl) (bursarlaw26_few.calls a0_25 a0_26 a0_27 a0_28 a0_29 a0_30 t323 t324 t325 t326 t327 t328 _ A3.out)) ?_
              rintro e w17 ⟨he_, hb⟩
              subst he_
              replace HO := Aside0.mk (Ow.Own.call HO.out hb)
              clear hb
              refine ⟨_, rfl, ?_⟩
              refine hK.out _ _ (by have h_ := pick [0] HO.out (by decide); first | exact h_ | exact cong h_ (by (try simp only [hq.1]) <;> rfl)) (fun hHeld => ?_)
              clear hK K
              refine norm_ (a' := ?_) ?_ ?_
              rotate_left
              ·show Act.put _ (some 22) _ = _
               simp only [Act.put, u1, u2, u3, i64_w, i32_w]
               rfl
              exact norm_ (by simp only [hq.1, putAll, Act.put, u1, u2, u3] <;> rfl) (hJ2_5_11 (gb330) _ (cong (pick [0, 1] HO.out (by decide)) (by (try simp only [hq.1]) <;> rfl)))
             ·skip
              refine box_step ?hg (N := 3) ?hd (cs := Z25) (t := 27) ?hr ?_; (case hd => rfl); (case hg => rfl); (case hr => first | (go_simp; done) | (go_simp; rfl))
              intro gb329 hg w17 hbox hb
              replace HO := Aside0.mk (Ow.Own.add HO.out hg hbox hb)
              clear hb hbox hg
              simp only [cons_append, nil_append] at HO
              refine hK.out _ _ (by have h_ := pick [0] HO.out (by decide); first | exact h_ | exact cong h_ (by (try simp only [hq.1]) <;> rfl)) (fun hHeld => ?_)
              clear hK K
              refine norm_ (a' := ?_) ?_ ?_
              rotate_left
              ·show Act.put _ (some 3) _ = _
               simp only [Act.put, u1, u2, u3, i64_w, i32_w]
               rfl
              exact norm_ (by simp only [hq.1, putAll, Act.put, u1, u2, u3] <;> rfl) (hJ2_10_11 (gb329, gb330) _ (cong (pick [0, 2, 1] HO.out (by decide)) (by (try simp only [hq.1]) <;> rfl)))
           ·skip
            rintro gb329 w16 HO7_
            clear HO
            have HO := Aside0.mk HO7_
            clear HO7_
            have hHeld := pick [0] HO.out (by decide)
            refine norm_ (a' := ?_) ?_ ?_
            rotate_left
            ·simp only [putAll, Act.put, u1, u2, u3]
             rfl
            refine two_ (i := 5) (j := 11) (Ni := some 22) (Nj := some 4) (Ow.B 16 2047) (Ow.B 16 4063) rfl rfl rfl rfl (two_of HT_.out (by kernel_rfl)) (by decide) (by decide) (fun K hK => ?_) (fun K hK => ?_)
            ·skip
             refine goes_ Try.func16 (by kernel_rfl) rfl #[.agg #[.string a0_25, .string a0_26, .string a0_27, .int .i64 a0_28, .int .i64 a0_29, .int .i64 a0_30]] (by rfl) rfl rfl (by (try simp only [map_toArray, map_cons, map_nil]); first | done | rfl | (simp only [hq.1] <;> rfl) | (simp only [length_drop, length_take]; rfl)) ?_
             refine Calls.mono (calls_of_args (by (try simp only [hq.1]) <;> rfl) (bursarlaw26_few.calls a0_25 a0_26 a0_27 a0_28 a0_29 a0_30 t323 t324 t325 t326 t327 t328 _ A3.out)) ?_
             rintro e w17 ⟨he_, hb⟩
             subst he_
             replace HO := Aside0.mk (Ow.Own.call HO.out hb)
             clear hb
             refine ⟨_, rfl, ?_⟩
             refine hK.out _ _ (by have h_ := pick [0] HO.out (by decide); first | exact h_ | exact cong h_ (by (try simp only [hq.1]) <;> rfl)) (fun hHeld => ?_)
             clear hK K
             refine norm_ (a' := ?_) ?_ ?_
             rotate_left
             ·show Act.put _ (some 22) _ = _
              simp only [Act.put, u1, u2, u3, i64_w, i32_w]
              rfl
             exact norm_ (by simp only [hq.1, putAll, Act.put, u1, u2, u3] <;> rfl) (hJ2_5_10 (gb329) _ (cong (pick [0, 1] HO.out (by decide)) (by (try simp only [hq.1]) <;> rfl)))
            ·skip
             refine box_step ?hg (N := 4) ?hd (cs := Z6) (t := 29) ?hr ?_; (case hd => rfl); (case hg => rfl); (case hr => first | (go_simp; done) | (go_simp; rfl))
             intro gb330 hg w17 hbox hb
             replace HO := Aside0.mk (Ow.Own.add HO.out hg hbox hb)
             clear hb hbox hg
             simp only [cons_append, nil_append] at HO
             refine hK.out _ _ (by have h_ := pick [0] HO.out (by decide); first | exact h_ | exact cong h_ (by (try simp only [hq.1]) <;> rfl)) (fun hHeld => ?_)
             clear hK K
             refine norm_ (a' := ?_) ?_ ?_
             rotate_left
             ·show Act.put _ (some 4) _ = _
              simp only [Act.put, u1, u2, u3, i64_w, i32_w]
              rfl
             exact norm_ (by simp only [hq.1, putAll, Act.put, u1, u2, u3] <;> rfl) (hJ2_10_11 (gb329, gb330) _ (cong (pick [0, 1, 2] HO.out (by decide)) (by (try simp only [hq.1]) <;> rfl)))
          ·skip
           rintro _ w16 HO7_
           clear HO
           have HO := Aside0.mk HO7_
           clear HO7_
           have hHeld := pick [0] HO.out (by decide)
           refine norm_ (a' := ?_) ?_ ?_
           rotate_left
           ·simp only [putAll, Act.put, u1, u2, u3]
            rfl
           refine two_ (i := 10) (j := 11) (Ni := some 3) (Nj := some 4) (Ow.B 16 2047) (Ow.B 16 3071) rfl rfl rfl rfl (two_of HT_.out (by kernel_rfl)) (by decide) (by decide) (fun K hK => ?_) (fun K hK => ?_)
           ·skip
            refine box_step ?hg (N := 3) ?hd (cs := Z25) (t := 27) ?hr ?_; (case hd => rfl); (case hg => rfl); (case hr => first | (go_simp; done) | (go_simp; rfl))
            intro gb329 hg w17 hbox hb
            replace HO := Aside0.mk (Ow.Own.add HO.out hg hbox hb)
            clear hb hbox hg
            simp only [cons_append, nil_append] at HO
            refine hK.out _ _ (by have h_ := pick [0] HO.out (by decide); first | exact h_ | exact cong h_ (by (try simp only [hq.1]) <;> rfl)) (fun hHeld => ?_)
            clear hK K
            refine norm_ (a' := ?_) ?_ ?_
            rotate_left
            ·show Act.put _ (some 3) _ = _
             simp only [Act.put, u1, u2, u3, i64_w, i32_w]
             rfl
            exact norm_ (by simp only [hq.1, putAll, Act.put, u1, u2, u3] <;> rfl) (hJ2_5_10 (gb329) _ (cong (pick [0, 1] HO.out (by decide)) (by (try simp only [hq.1]) <;> rfl)))
           ·skip
            refine box_step ?hg (N := 4) ?hd (cs := Z6) (t := 29) ?hr ?_; (case hd => rfl); (case hg => rfl); (case hr => first | (go_simp; done) | (go_simp; rfl))
            intro gb330 hg w17 hbox hb
            replace HO := Aside0.mk (Ow.Own.add HO.out hg hbox hb)
            clear hb hbox hg
            simp only [cons_append, nil_append] at HO
            refine hK.out _ _ (by have h_ := pick [0] HO.out (by decide); first | exact h_ | exact cong h_ (by (try simp only [hq.1]) <;> rfl)) (fun hHeld => ?_)
            clear hK K
            refine norm_ (a' := ?_) ?_ ?_
            rotate_left
            ·show Act.put _ (some 4) _ = _
             simp only [Act.put, u1, u2, u3, i64_w, i32_w]
             rfl
            exact norm_ (by simp only [hq.1, putAll, Act.put, u1, u2, u3] <;> rfl) (hJ2_5_11 (gb330) _ (cong (pick [0, 1] HO.out (by decide)) (by (try simp only [hq.1]) <;> rfl)))
         ·skip
          rintro ⟨gb329, gb330⟩ w17 HO7_
          clear HO
          have HO := Aside0.mk HO7_
          clear HO7_
          have hHeld := pick [0] HO.out (by decide)
          refine norm_ (a' := ?_) ?_ ?_
          rotate_left
          ·simp only [putAll, Act.put, u1, u2, u3]
           rfl
          refine one_ (i := 5) (N := some 22) (Ow.B 16 4095) rfl rfl (one_of HT_.out (by kernel_rfl)) (by decide) (fun K hK => ?_)
          refine goes_ Try.func16 (by kernel_rfl) rfl #[.agg #[.string a0_25, .string a0_26, .string a0_27, .int .i64 a0_28, .int .i64 a0_29, .int .i64 a0_30]] (by rfl) rfl rfl (by (try simp only [map_toArray, map_cons, map_nil]); first | done | rfl | (simp only [hq.1] <;> rfl) | (simp only [length_drop, length_take]; rfl)) ?_
          refine Calls.mono (calls_of_args (by (try simp only [hq.1]) <;> rfl) (bursarlaw26_few.calls a0_25 a0_26 a0_27 a0_28 a0_29 a0_30 t323 t324 t325 t326 t327 t328 _ A3.out)) ?_
          rintro e w18 ⟨he_, hb⟩
          subst he_
          replace HO := Aside0.mk (Ow.Own.call HO.out hb)
          clear hb
          refine ⟨_, rfl, ?_⟩
          refine hK.out _ _ (by have h_ := pick [0] HO.out (by decide); first | exact h_ | exact cong h_ (by (try simp only [hq.1]) <;> rfl)) (fun hHeld => ?_)
          clear hK K
          refine norm_ (a' := ?_) ?_ ?_
          rotate_left
          ·show Act.put _ (some 22) _ = _
           simp only [Act.put, u1, u2, u3, i64_w, i32_w]
           rfl
          exact norm_ (by simp only [hq.1, putAll, Act.put, u1, u2, u3] <;> rfl) (hJ2_5_10_11 (gb329, gb330) _ (cong (pick [0, 1, 2] HO.out (by decide)) (by (try simp only [hq.1]) <;> rfl)))
        ·skip
         rintro gb330 w17 HO7_
         clear HO
         have HO := Aside0.mk HO7_
         clear HO7_
         have hHeld := pick [0] HO.out (by decide)
         refine norm_ (a' := ?_) ?_ ?_
         rotate_left
         ·simp only [putAll, Act.put, u1, u2, u3]
          rfl
         refine one_ (i := 10) (N := some 3) (Ow.B 16 4095) rfl rfl (one_of HT_.out (by kernel_rfl)) (by decide) (fun K hK => ?_)
         refine box_step ?hg (N := 3) ?hd (cs := Z25) (t := 27) ?hr ?_; (case hd => rfl); (case hg => rfl); (case hr => first | (go_simp; done) | (go_simp; rfl))
         intro gb329 hg w18 hbox hb
         replace HO := Aside0.mk (Ow.Own.add HO.out hg hbox hb)
         clear hb hbox hg
         simp only [cons_append, nil_append] at HO
         refine hK.out _ _ (by have h_ := pick [0] HO.out (by decide); first | exact h_ | exact cong h_ (by (try simp only [hq.1]) <;> rfl)) (fun hHeld => ?_)
         clear hK K
         refine norm_ (a' := ?_) ?_ ?_
         rotate_left
         ·show Act.put _ (some 3) _ = _
          simp only [Act.put, u1, u2, u3, i64_w, i32_w]
          rfl
         exact norm_ (by simp only [hq.1, putAll, Act.put, u1, u2, u3] <;> rfl) (hJ2_5_10_11 (gb329, gb330) _ (cong (pick [0, 2, 1] HO.out (by decide)) (by (try simp only [hq.1]) <;> rfl)))
       ·skip
        rintro gb329 w17 HO7_
        clear HO
        have HO := Aside0.mk HO7_
        clear HO7_
        have hHeld := pick [0] HO.out (by decide)
        refine norm_ (a' := ?_) ?_ ?_
        rotate_left
        ·simp only [putAll, Act.put, u1, u2, u3]
         rfl
        refine one_ (i := 11) (N := some 4) (Ow.B 16 4095) rfl rfl (one_of HT_.out (by kernel_rfl)) (by decide) (fun K hK => ?_)
        refine box_step ?hg (N := 4) ?hd (cs := Z6) (t := 29) ?hr ?_; (case hd => rfl); (case hg => rfl); (case hr => first | (go_simp; done) | (go_simp; rfl))
        intro gb330 hg w18 hbox hb
        replace HO := Aside0.mk (Ow.Own.add HO.out hg hbox hb)
        clear hb hbox hg
        simp only [cons_append, nil_append] at HO
        refine hK.out _ _ (by have h_ := pick [0] HO.out (by decide); first | exact h_ | exact cong h_ (by (try simp only [hq.1]) <;> rfl)) (fun hHeld => ?_)
        clear hK K
        refine norm_ (a' := ?_) ?_ ?_
        rotate_left
        ·show Act.put _ (some 4) _ = _
         simp only [Act.put, u1, u2, u3, i64_w, i32_w]
         rfl
        exact norm_ (by simp only [hq.1, putAll, Act.put, u1, u2, u3] <;> rfl) (hJ2_5_10_11 (gb329, gb330) _ (cong (pick [0, 1, 2] HO.out (by decide)) (by (try simp only [hq.1]) <;> rfl)))
      rintro ⟨gb329, gb330⟩ w18 HO7_
      clear HO
      have HO := Aside0.mk HO7_
      clear HO7_
      have hHeld := pick [0] HO.out (by decide)
      refine norm_ (a' := ?_) ?_ ?_
      rotate_left
      ·simp only [putAll, Act.put, u1, u2, u3]
       rfl
      refine one_ (i := 12) (N := none) (Ow.B 16 8191) rfl rfl (one_of HT_.out (by kernel_rfl)) (by decide) (fun K hK => ?_)
      refine Ow.oskip Ot.ty HO.out (by rfl) rfl rfl rfl rfl (by with_reducible first | exact Ow.at0 | exact Ow.at1 | exact Ow.at2) (by first | exact Ow.ev_tmp rfl | rfl) (by (try simp only [hq.1]) <;> rfl) (by (try simp only [hq.1]) <;> rfl) (by (try simp only [hq.1]) <;> rfl) ?_
      clear HO; intro wz_ HO; simp only [u2, u3] at HO
      refine hK.out _ _ (by have h_ := pick [0] HO.out (by decide); first | exact h_ | exact cong h_ (by (try simp only [hq.1]) <;> rfl)) (fun hHeld => ?_)
      clear hK K
      refine one_ (i := 13) (N := none) (Ow.B 16 16383) rfl rfl (one_of HT_.out (by kernel_rfl)) (by decide) (fun K hK => ?_)
      refine Ow.oskip Ot.ty HO.out (by rfl) rfl rfl rfl rfl (by with_reducible first | exact Ow.at0 | exact Ow.at1 | exact Ow.at2) (by first | exact Ow.ev_tmp rfl | rfl) (by (try simp only [hq.1]) <;> rfl) (by (try simp only [hq.1]) <;> rfl) (by (try simp only [hq.1]) <;> rfl) ?_
      clear HO; intro wz_ HO; simp only [u2, u3] at HO
      refine hK.out _ _ (by have h_ := pick [0] HO.out (by decide); first | exact h_ | exact cong h_ (by (try simp only [hq.1]) <;> rfl)) (fun hHeld => ?_)
      clear hK K
      refine' Ow.pu (i := 14) (N := some 5) (Ow.B 16 32767) HT_.out ?hv_ ?ha_ ?_; (case hv_ => intro w'; go_simp; with_reducible rfl); (case ha_ => simp only [Ow.Sl, i64_w, i32_w]; rfl)
      refine' Ow.pu (i := 15) (N := some 6) (Ow.B 16 65535) HT_.out ?hv_ ?ha_ ?_; (case hv_ => intro w'; go_simp; with_reducible rfl); (case ha_ => simp only [Ow.Sl, i64_w, i32_w]; rfl)
      refine done_ (done_of HT_.out (by kernel_rfl)) ?_
      obtain ⟨Q9, hQ9_⟩ : ∃ q_ : Array Value, q_ = (#[.string t298, .string t299, .string t300, .int .i64 t301, .string t302, .string t303, .string t304, .string t305, .string t306, .int .i64 t307, .int .i64 t308, .string t309, .bool t310, .int .i64 t311, .string t312, .string t313, .string t314, .int .i64 t315, .int .i64 t316, .int .i64 t317, .bool t318, .bool t319, .int .i64 t320, .int .i64 t321, .bool t322] : Array Value) := ⟨_, rfl⟩
      try rw [← hQ9_]
      have hQ9 := Aside0.mk hQ9_; replace hq := Aside0.mk (And.intro hQ9_ hq.1); clear hQ9_
      try go_wp2_with (first | ((with_reducible refine gate_callee (f := 17) rfl ?_); refine goesL_ (some 31) rfl rfl Try.func17 (by kernel_rfl) rfl #[.agg Q9, .agg #[.string t323, .string t324, .string t325, .int .i64 t326, .int .i64 t327, .int .i64 t328], .bool a0_31] rfl (by (try simp only [map_toArray, map_cons, map_nil]); first | done | rfl | (simp only [hq.1] <;> rfl)) ?_; refine Calls.mono (calls_of_args (by (try simp only [hq.1]) <;> rfl) (dispute_Decide.calls k t298 t299 t300 t301 t302 t303 t304 t305 t306 t307 t308 t309 t310 t311 t312 t313 t314 t315 t316 t317 t318 t319 t320 t321 t322 t323 t324 t325 t326 t327 t328 a0_31 t331 t332 t333 t334 t335 t336 t337 t338 t339 t340 t341 t342 t343 _ A4.out)) ?_; rintro e w55 ⟨he_, hb⟩; subst he_; refine ⟨_, rfl, ?_⟩; replace HO := Aside0.mk (Ow.Own.call HO.out hb); clear hb) | ((with_reducible refine gate_dst (N := 7) rfl ?_); refine Ow.box rfl (N := 7) rfl (cs := Z6) (t := 29) HO.out (by first | (go_simp; done) | (go_simp; rfl)) ?_; clear HO; intro gb344 w56 HO; simp only [cons_append, nil_append] at HO) | ((with_reducible refine gate_dst (N := 8) rfl ?_); refine Ow.box rfl (N := 8) rfl (cs := Z6_2) (t := 36) HO.out (by first | (go_simp; done) | (go_simp; rfl)) ?_; clear HO; intro gb345 w57 HO; simp only [cons_append, nil_append] at HO) | ((with_reducible refine gate_callee (f := 17) rfl ?_); refine goesL_ (some 46) rfl rfl Try.func17 (by kernel_rfl) rfl #[.agg Q9, .agg #[.string t331, .string t332, .string t333, .int .i64 t334, .int .i64 t335, .int .i64 t336], .bool true] rfl (by (try simp only [map_toArray, map_cons, map_nil]); first | done | rfl | (simp only [hq.1] <;> rfl)) ?_; refine Calls.mono (calls_of_args (by (try simp only [hq.1]) <;> rfl) (dispute_Decide.calls k t298 t299 t300 t301 t302 t303 t304 t305 t306 t307 t308 t309 t310 t311 t312 t313 t314 t315 t316 t317 t318 t319 t320 t321 t322 t331 t332 t333 t334 t335 t336 true t347 t348 t349 t350 t351 t352 t353 t354 t355 t356 t357 t358 t359 _ A6.out)) ?_; rintro e w71 ⟨he_, hb⟩; subst he_; refine ⟨_, rfl, ?_⟩; replace HO := Aside0.mk (Ow.Own.call HO.out hb); clear hb) | ((with_reducible refine gate_dst (N := 10) rfl ?_); refine Ow.box rfl (N := 10) rfl (cs := Z6) (t := 29) HO.out (by first | (go_simp; done) | (go_simp; rfl)) ?_; clear HO; intro gb360 w72 HO; simp only [cons_append, nil_append] at HO) | ((with_reducible refine gate_dst (N := 11) rfl ?_); refine Ow.box rfl (N := 11) rfl (cs := Z6_2) (t := 36) HO.out (by first | (go_simp; done) | (go_simp; rfl)) ?_; clear HO; intro gb361 w73 HO; simp only [cons_append, nil_append] at HO) | ((with_reducible refine gate_dst (N := 13) rfl ?_); refine Ow.box rfl (N := 13) rfl (cs := Z25) (t := 27) HO.out (by first | (go_simp; done) | (go_simp; rfl)) ?_; clear HO; intro gb362 w90 HO; simp only [cons_append, nil_append] at HO) | ((with_reducible refine gate_dst (N := 58) rfl ?_); refine Ow.lit8 rfl (N := 58) rfl (v := ((wrap64 (48 + (Int.tmod t334 3))) % 256)) (e := 5) Try.underlying40 Try.underlying5 Try.underlying9 HO.out (by first | (go_simp; done) | (go_simp; rfl)) ?_; clear HO; intro gv364 w101 HO hcv_; simp only [cons_append, nil_append] at HO; (try rw [← Ny363.out] at hcv_)) | ((with_reducible refine gate_callee (f := 18) rfl ?_); refine goesL_ (some 71) rfl rfl Try.func18 (by kernel_rfl) rfl #[] rfl (by (try simp only [map_toArray, map_cons, map_nil]); first | done | rfl | (simp only [hq.1] <;> rfl)) ?_; refine Calls.mono (calls_of_args (by (try simp only [hq.1]) <;> rfl) (bursarlaw26_awake.calls k  t366 _ A11.out)) ?_; rintro e w106 ⟨he_, hb⟩; subst he_; refine ⟨_, rfl, ?_⟩; replace HO := Aside0.mk (Ow.Own.call HO.out hb); clear hb) | ((with_reducible refine Ow.gate_build rfl ?_); (try (refine gate_guard (by rfl) ?_; dsimp only)); refine' Ow.tbuild Ot.bd rfl rfl rfl ?hf_ ?_; (case hf_ => repeat (any_goals (first | exact Ow.Fills.nil | (refine' Ow.Fills.c ?hv_ rfl ?hz_ ?_; (case hv_ => first | exact Ow.ev_tmp rfl | rfl); (case hz_ => first | (refine ⟨?_, ?_⟩ <;> ((try simp only [hq.1]) <;> rfl)) | fail)))))) | ((with_reducible refine Ow.gate_load rfl ?_); (try (refine gate_guard (by rfl) ?_; dsimp only)); (first | refine Ow.l1 Ot.ty HO.out rfl rfl rfl rfl (by (try simp only [hq.1]) <;> rfl) ?_ | refine Ow.l0 Ot.ty HO.out rfl rfl rfl rfl (by (try simp only [hq.1]) <;> rfl) ?_ | refine Ow.lp Ot.ty HO.out rfl rfl rfl rfl (by (try simp only [hq.1]) <;> rfl) ?_)) | ((with_reducible refine gate_store rfl ?_); (try (refine gate_guard (by rfl) ?_; dsimp only)); (first | refine Ow.s0 Ot.ty HO.out rfl rfl rfl rfl rfl (by first | exact Ow.ev_tmp rfl | rfl) (by first | (refine ⟨?_, ?_, ?_⟩ <;> ((try simp only [hq.1]) <;> rfl)) | fail) ?_ | refine Ow.sp Ot.ty HO.out rfl rfl rfl rfl rfl (by first | exact Ow.ev_tmp rfl | rfl) (by first | (refine ⟨?_, ?_, ?_⟩ <;> ((try simp only [hq.1]) <;> rfl)) | fail) ?_); clear HO; intro wz_ HO; simp only [u2, u3] at HO))
      all_goals go_ret
      all_goals exact ⟨by first | rfl | (simp only [hq.1] <;> rfl) | (simp [errW_none, errW_some] <;> rfl) | (simp [*, errW_none, errW_some] <;> rfl), Ow.Own.below HO.out⟩
     ·rw [if_neg c10] at H
      have c10b0 : decide (1073741824 < t320) = false := decide_eq_false c10
      clear c10
      replace H := Option.bind_eq_some_iff.mp H
      obtain ⟨⟨t367, t368, t369, t370, t371, t372, t373, t374, t375, t376, t377, t378, t379⟩, A1070, H⟩ := H
      replace H : (if t334 = 3 then (if t379.toList = ([48, 48] : List UInt8) then (none) else ((bursarlaw26_awake.f k).bind fun t382 => (some t382))) else (if t379.toList = ([48, 48] : List UInt8) then (if a0_32 ≤ 200 then ((bursarlaw26_awake.f k).bind fun t383 => (some t383)) else (none)) else (if a0_32 ≤ 200 then (none) else ((bursarlaw26_awake.f k).bind fun t384 => (some t384))))) = some r := H
      have A107 := Aside0.mk A1070
      clear A1070
      by_cases c108 : t334 = 3
      ·rw [if_pos c108] at H
       have c108b0 : (t334 == 3) = true := beq_iff_eq.mpr c108
       have c108b1 : (t334 != 3) = false := bne_eq_false_iff_eq.mpr c108
       clear c108
       by_cases c109 : t379.toList = ([48, 48] : List UInt8)
       ·rw [if_pos c109] at H
        exact absurd H (by simp)
       ·rw [if_neg c109] at H
        have c109b0 : (t379.toList == ([48, 48] : List UInt8)) = false := beq_eq_false_iff_ne.mpr c109
        have c109b1 : (t379.toList != ([48, 48] : List UInt8)) = true := bne_iff_ne.mpr c109
        replace H := Option.bind_eq_some_iff.mp H
        obtain ⟨t382, A1100, H⟩ := H
        replace H : (some t382) = some r := H
        have A110 := Aside0.mk A1100
        clear A1100
        obtain rfl := Option.some.inj H
        obtain ⟨Q10, hQ10_⟩ : ∃ q_ : Array Value, q_ = (#[.string a0_0, .string a0_1, .string a0_2, .int .i64 a0_3, .string a0_4, .string a0_5, .string a0_6, .string a0_7, .string a0_8, .int .i64 a0_9, .int .i64 a0_10, .string a0_11, .bool a0_12, .int .i64 a0_13, .string a0_14, .string a0_15, .string a0_16, .int .i64 a0_17, .int .i64 a0_18, .int .i64 a0_19, .bool a0_20, .bool a0_21, .int .i64 a0_22, .int .i64 a0_23, .bool a0_24, .string a0_25, .string a0_26, .string a0_27, .int .i64 a0_28, .int .i64 a0_29, .int .i64 a0_30, .bool a0_31, .int .u16 a0_32] : Array Value) := ⟨_, rfl⟩
        try rw [← hQ10_]
        have hQ10 := Aside0.mk hQ10_; have hq := Aside0.mk hQ10_; clear hQ10_
        go_enter Try.func3, Try.ntmps3
        try go_wp2_with (first | ((with_reducible refine gate_dst (N := 1) rfl ?_); refine Ow.box rfl (N := 1) rfl (cs := Q10) (t := 32) HO.out (by first | (go_simp; done) | (go_simp; rfl)) ?_; clear HO; intro gb297 w111 HO; simp only [cons_append, nil_append] at HO) | ((with_reducible refine Ow.gate_build rfl ?_); (try (refine gate_guard (by rfl) ?_; dsimp only)); refine' Ow.tbuild Ot.bd rfl rfl rfl ?hf_ ?_; (case hf_ => repeat (any_goals (first | exact Ow.Fills.nil | (refine' Ow.Fills.c ?hv_ rfl ?hz_ ?_; (case hv_ => first | exact Ow.ev_tmp rfl | rfl); (case hz_ => first | (refine ⟨?_, ?_⟩ <;> ((try simp only [hq.1]) <;> rfl)) | fail)))))) | ((with_reducible refine Ow.gate_load rfl ?_); (try (refine gate_guard (by rfl) ?_; dsimp only)); (first | refine Ow.l1 Ot.ty HO.out rfl rfl rfl rfl (by (try simp only [hq.1]) <;> rfl) ?_ | refine Ow.l0 Ot.ty HO.out rfl rfl rfl rfl (by (try simp only [hq.1]) <;> rfl) ?_ | refine Ow.lp Ot.ty HO.out rfl rfl rfl rfl (by (try simp only [hq.1]) <;> rfl) ?_)) | ((with_reducible refine gate_store rfl ?_); (try (refine gate_guard (by rfl) ?_; dsimp only)); (first | refine Ow.s0 Ot.ty HO.out rfl rfl rfl rfl rfl (by first | exact Ow.ev_tmp rfl | rfl) (by first | (refine ⟨?_, ?_, ?_⟩ <;> ((try simp only [hq.1]) <;> rfl)) | fail) ?_ | refine Ow.sp Ot.ty HO.out rfl rfl rfl rfl rfl (by first | exact Ow.ev_tmp rfl | rfl) (by first | (refine ⟨?_, ?_, ?_⟩ <;> ((try simp only [hq.1]) <;> rfl)) | fail) ?_); clear HO; intro wz_ HO; simp only [u2, u3] at HO))
        refine Ow.ostart (n := 16) (ds := []) (Ow.B 16 0) HO.out (by kernel_rfl) rfl (by kernel_rfl) ?_
        intro hHeld; replace HO := Aside0.mk hHeld; refine with_tabW bursarlaw26_DisputeOnce.tab1 bursarlaw26_DisputeOnce.bits1 (fun HT_ HW_ => ?_)
        refine' Ow.pu (i := 0) (N := some 17) (Ow.B 16 1) HT_.out ?hv_ ?ha_ ?_; (case hv_ => intro w'; go_simp; with_reducible rfl); (case ha_ => simp only [Ow.Sl, i64_w, i32_w]; rfl)
        refine' Ow.pu (i := 3) (N := some 20) (Ow.B 16 9) HT_.out ?hv_ ?ha_ ?_; (case hv_ => intro w'; go_simp; with_reducible rfl); (case ha_ => simp only [Ow.Sl, i64_w, i32_w]; rfl)
        refine' Ow.pu (i := 6) (N := some 23) (Ow.B 16 73) HT_.out ?hv_ ?ha_ ?_; (case hv_ => intro w'; go_simp; with_reducible rfl); (case ha_ => simp only [Ow.Sl, i64_w, i32_w]; rfl)
        refine' Ow.pu (i := 8) (N := some 25) (Ow.B 16 329) HT_.out ?hv_ ?ha_ ?_; (case hv_ => intro w'; go_simp; with_reducible rfl); (case ha_ => simp only [Ow.Sl, i64_w, i32_w]; rfl)
        refine take_ (i := 1) (N := some 18) (v := ?_) (a' := ?_) (Ow.B 16 331) rfl rfl (take_ofW HT_.out HW_.out (by kernel_rfl)) (fun _ _ _ h => h) (Or.inl ⟨by rfl, ?_⟩) hHeld ?_ ?_
        rotate_left
        ·intro w' s_
         first | refine Ow.r1 Ot.ty s_ rfl rfl rfl (by (try simp only [hq.1]) <;> rfl) | (refine' Ow.r0 Ot.ty s_ rfl rfl rfl ?h; (case h => first | ((try simp only [hq.1]) <;> rfl) | fail)) | (refine' Ow.rp Ot.ty s_ rfl rfl rfl ?h; (case h => first | ((try simp only [hq.1]) <;> rfl) | fail)) | (go_simp; with_reducible rfl)
        rotate_left
        ·simp only [Act.put, u1, u2, u3, i64_w, i32_w]
         rfl
        refine take_ (i := 4) (N := some 21) (v := ?_) (a' := ?_) (Ow.B 16 347) rfl rfl (take_ofW HT_.out HW_.out (by kernel_rfl)) (fun _ _ _ h => h) (Or.inl ⟨by rfl, ?_⟩) hHeld ?_ ?_
        rotate_left
        ·intro w' s_
         first | refine Ow.r1 Ot.ty s_ rfl rfl rfl (by (try simp only [hq.1]) <;> rfl) | (refine' Ow.r0 Ot.ty s_ rfl rfl rfl ?h; (case h => first | ((try simp only [hq.1]) <;> rfl) | fail)) | (refine' Ow.rp Ot.ty s_ rfl rfl rfl ?h; (case h => first | ((try simp only [hq.1]) <;> rfl) | fail)) | (go_simp; with_reducible rfl)
        rotate_left
        ·simp only [Act.put, u1, u2, u3, i64_w, i32_w]
         rfl
        refine take_ (i := 7) (N := some 24) (v := ?_) (a' := ?_) (Ow.B 16 475) rfl rfl (take_ofW HT_.out HW_.out (by kernel_rfl)) (fun _ _ _ h => h) (Or.inl ⟨by rfl, ?_⟩) hHeld ?_ ?_
        rotate_left
        ·intro w' s_
         first | refine Ow.r1 Ot.ty s_ rfl rfl rfl (by (try simp only [hq.1]) <;> rfl) | (refine' Ow.r0 Ot.ty s_ rfl rfl rfl ?h; (case h => first | ((try simp only [hq.1]) <;> rfl) | fail)) | (refine' Ow.rp Ot.ty s_ rfl rfl rfl ?h; (case h => first | ((try simp only [hq.1]) <;> rfl) | fail)) | (go_simp; with_reducible rfl)
        rotate_left
        ·simp only [Act.put, u1, u2, u3, i64_w, i32_w]
         rfl
        refine take_ (i := 9) (N := some 26) (v := ?_) (a' := ?_) (Ow.B 16 987) rfl rfl (take_ofW HT_.out HW_.out (by kernel_rfl)) (fun _ _ _ h => h) (Or.inl ⟨by rfl, ?_⟩) hHeld ?_ ?_
        rotate_left
        ·intro w' s_
         first | refine Ow.r1 Ot.ty s_ rfl rfl rfl (by (try simp only [hq.1]) <;> rfl) | (refine' Ow.r0 Ot.ty s_ rfl rfl rfl ?h; (case h => first | ((try simp only [hq.1]) <;> rfl) | fail)) | (refine' Ow.rp Ot.ty s_ rfl rfl rfl ?h; (case h => first | ((try simp only [hq.1]) <;> rfl) | fail)) | (go_simp; with_reducible rfl)
        rotate_left
        ·simp only [Act.put, u1, u2, u3, i64_w, i32_w]
         rfl
        refine join_ (σ := Nat × Nat) 4 (Ow.B 16 4095) (fun s_ => [(19, .agg #[.string t298, .string t299, .string t300, .int .i64 t301, .string t302, .string t303, .string t304, .string t305, .string t306, .int .i64 t307, .int .i64 t308, .string t309, .bool t310, .int .i64 t311, .string t312, .string t313, .string t314, .int .i64 t315, .int .i64 t316, .int .i64 t317, .bool t318, .bool t319, .int .i64 t320, .int .i64 t321, .bool t322]), (22, .agg #[.string t323, .string t324, .string t325, .int .i64 t326, .int .i64 t327, .int .i64 t328]), (3, .pointer (some ⟨s_.1, 0, none⟩)), (4, .pointer (some ⟨s_.2, 0, none⟩))]) (fun s_ w' => Ow.Own w w' [(gb297, Q10, 32), (s_.1, Z25, 27), (s_.2, Z6, 29)]) ?_ ?_
        rotate_left
        ·intro hJ2_5_10_11
         refine join_ (σ := Nat) 5 (Ow.B 16 2047) (fun s_ => [(19, .agg #[.string t298, .string t299, .string t300, .int .i64 t301, .string t302, .string t303, .string t304, .string t305, .string t306, .int .i64 t307, .int .i64 t308, .string t309, .bool t310, .int .i64 t311, .string t312, .string t313, .string t314, .int .i64 t315, .int .i64 t316, .int .i64 t317, .bool t318, .bool t319, .int .i64 t320, .int .i64 t321, .bool t322]), (22, .agg #[.string t323, .string t324, .string t325, .int .i64 t326, .int .i64 t327, .int .i64 t328]), (3, .pointer (some ⟨s_, 0, none⟩))]) (fun s_ w' => Ow.Own w w' [(gb297, Q10, 32), (s_, Z25, 27)]) ?_ ?_
         rotate_left
         ·intro hJ2_5_10
          refine join_ (σ := Nat) 5 (Ow.B 16 3071) (fun s_ => [(19, .agg #[.string t298, .string t299, .string t300, .int .i64 t301, .string t302, .string t303, .string t304, .string t305, .string t306, .int .i64 t307, .int .i64 t308, .string t309, .bool t310, .int .i64 t311, .string t312, .string t313, .string t314, .int .i64 t315, .int .i64 t316, .int .i64 t317, .bool t318, .bool t319, .int .i64 t320, .int .i64 t321, .bool t322]), (22, .agg #[.string t323, .string t324, .string t325, .int .i64 t326, .int .i64 t327, .int .i64 t328]), (4, .pointer (some ⟨s_, 0, none⟩))]) (fun s_ w' => Ow.Own w w' [(gb297, Q10, 32), (s_, Z6, 29)]) ?_ ?_
          rotate_left
          ·intro hJ2_5_11
           refine join_ (σ := Nat × Nat) 5 (Ow.B 16 4063) (fun s_ => [(19, .agg #[.string t298, .string t299, .string t300, .int .i64 t301, .string t302, .string t303, .string t304, .string t305, .string t306, .int .i64 t307, .int .i64 t308, .string t309, .bool t310, .int .i64 t311, .string t312, .string t313, .string t314, .int .i64 t315, .int .i64 t316, .int .i64 t317, .bool t318, .bool t319, .int .i64 t320, .int .i64 t321, .bool t322]), (3, .pointer (some ⟨s_.1, 0, none⟩)), (4, .pointer (some ⟨s_.2, 0, none⟩))]) (fun s_ w' => Ow.Own w w' [(gb297, Q10, 32), (s_.1, Z25, 27), (s_.2, Z6, 29)]) ?_ ?_
           rotate_left
           ·intro hJ2_10_11
            refine join_ (σ := Unit) 6 (Ow.B 16 1023) (fun s_ => [(19, .agg #[.string t298, .string t299, .string t300, .int .i64 t301, .string t302, .string t303, .string t304, .string t305, .string t306, .int .i64 t307, .int .i64 t308, .string t309, .bool t310, .int .i64 t311, .string t312, .string t313, .string t314, .int .i64 t315, .int .i64 t316, .int .i64 t317, .bool t318, .bool t319, .int .i64 t320, .int .i64 t321, .bool t322]), (22, .agg #[.string t323, .string t324, .string t325, .int .i64 t326, .int .i64 t327, .int .i64 t328])]) (fun s_ w' => Ow.Own w w' [(gb297, Q10, 32)]) ?_ ?_
            rotate_left
            ·intro hJ2_5
             refine join_ (σ := Nat) 6 (Ow.B 16 2015) (fun s_ => [(19, .agg #[.string t298, .string t299, .string t300, .int .i64 t301, .string t302, .string t303, .string t304, .string t305, .string t306, .int .i64 t307, .int .i64 t308, .string t309, .bool t310, .int .i64 t311, .string t312, .string t313, .string t314, .int .i64 t315, .int .i64 t316, .int .i64 t317, .bool t318, .bool t319, .int .i64 t320, .int .i64 t321, .bool t322]), (3, .pointer (some ⟨s_, 0, none⟩))]) (fun s_ w' => Ow.Own w w' [(gb297, Q10, 32), (s_, Z25, 27)]) ?_ ?_
             rotate_left
             ·intro hJ2_10
              refine join_ (σ := Nat) 6 (Ow.B 16 3039) (fun s_ => [(19, .agg #[.string t298, .string t299, .string t300, .int .i64 t301, .string t302, .string t303, .string t304, .string t305, .string t306, .int .i64 t307, .int .i64 t308, .string t309, .bool t310, .int .i64 t311, .string t312, .string t313, .string t314, .int .i64 t315, .int .i64 t316, .int .i64 t317, .bool t318, .bool t319, .int .i64 t320, .int .i64 t321, .bool t322]), (4, .pointer (some ⟨s_, 0, none⟩))]) (fun s_ w' => Ow.Own w w' [(gb297, Q10, 32), (s_, Z6, 29)]) ?_ ?_
              rotate_left
              ·intro hJ2_11
               refine join_ (σ := Nat × Nat) 6 (Ow.B 16 4059) (fun s_ => [(3, .pointer (some ⟨s_.1, 0, none⟩)), (4, .pointer (some ⟨s_.2, 0, none⟩))]) (fun s_ w' => Ow.Own w w' [(gb297, Q10, 32), (s_.1, Z25, 27), (s_.2, Z6, 29)]) ?_ ?_
               rotate_left
               ·intro hJ10_11
                refine join_ (σ := Unit) 7 (Ow.B 16 991) (fun s_ => [(19, .agg #[.string t298, .string t299, .string t300, .int .i64 t301, .string t302, .string t303, .string t304, .string t305, .string t306, .int .i64 t307, .int .i64 t308, .string t309, .bool t310, .int .i64 t311, .string t312, .string t313, .string t314, .int .i64 t315, .int .i64 t316, .int .i64 t317, .bool t318, .bool t319, .int .i64 t320, .int .i64 t321, .bool t322])]) (fun s_ w' => Ow.Own w w' [(gb297, Q10, 32)]) ?_ ?_
                rotate_left
                ·intro hJ2
                 refine join_ (σ := Nat) 7 (Ow.B 16 2011) (fun s_ => [(3, .pointer (some ⟨s_, 0, none⟩))]) (fun s_ w' => Ow.Own w w' [(gb297, Q10, 32), (s_, Z25, 27)]) ?_ ?_
                 rotate_left
                 ·intro hJ10
                  refine join_ (σ := Nat) 7 (Ow.B 16 3035) (fun s_ => [(4, .pointer (some ⟨s_, 0, none⟩))]) (fun s_ w' => Ow.Own w w' [(gb297, Q10, 32), (s_, Z6, 29)]) ?_ ?_
                  rotate_left
                  ·intro hJ11
                   refine three_ (i := 2) (j := 10) (k := 11) (Ni := some 19) (Nj := some 3) (Nk := some 4) (Ow.B 16 991) (Ow.B 16 2011) (Ow.B 16 3035) rfl rfl rfl rfl rfl rfl (three_of HT_.out (by kernel_rfl)) (by decide) (by decide) (by decide) (fun K hK => ?_) (fun K hK => ?_) (fun K hK => ?_)
                   ·skip
                    obtain ⟨Q11, hQ11_⟩ : ∃ q_ : Array Value, q_ = (#[.string a0_0, .string a0_1, .string a0_2, .int .i64 a0_3, .string a0_4, .string a0_5, .string a0_6, .string a0_7, .string a0_8, .int .i64 a0_9, .int .i64 a0_10, .string a0_11, .bool a0_12, .int .i64 a0_13, .string a0_14, .string a0_15, .string a0_16, .int .i64 a0_17, .int .i64 a0_18, .int .i64 a0_19, .bool a0_20, .bool a0_21, .int .i64 a0_22, .int .i64 a0_23, .bool a0_24] : Array Value) := ⟨_, rfl⟩
                    try rw [← hQ11_]
                    have hQ11 := Aside0.mk hQ11_; replace hq := Aside0.mk (And.intro hQ11_ hq.1); clear hQ11_
                    refine goes_ Try.func15 (by kernel_rfl) rfl #[.agg Q11] (by rfl) rfl rfl (by (try simp only [map_toArray, map_cons, map_nil]); first | done | rfl | (simp only [hq.1] <;> rfl) | (simp only [length_drop, length_take]; rfl)) ?_
                    obtain ⟨Q12, hQ12_⟩ : ∃ q_ : Array Value, q_ = (#[.string t298, .string t299, .string t300, .int .i64 t301, .string t302, .string t303, .string t304, .string t305, .string t306, .int .i64 t307, .int .i64 t308, .string t309, .bool t310, .int .i64 t311, .string t312, .string t313, .string t314, .int .i64 t315, .int .i64 t316, .int .i64 t317, .bool t318, .bool t319, .int .i64 t320, .int .i64 t321, .bool t322] : Array Value) := ⟨_, rfl⟩
                    try rw [← hQ12_]
                    have hQ12 := Aside0.mk hQ12_; replace hq := Aside0.mk (And.intro hQ12_ hq.1); clear hQ12_
                    refine Calls.mono (calls_of_args (by (try simp only [hq.1]) <;> rfl) (bursarlaw22_Few.calls a0_0 a0_1 a0_2 a0_3 a0_4 a0_5 a0_6 a0_7 a0_8 a0_9 a0_10 a0_11 a0_12 a0_13 a0_14 a0_15 a0_16 a0_17 a0_18 a0_19 a0_20 a0_21 a0_22 a0_23 a0_24 t298 t299 t300 t301 t302 t303 t304 t305 t306 t307 t308 t309 t310 t311 t312 t313 t314 t315 t316 t317 t318 t319 t320 t321 t322 _ A2.out)) ?_
                    rintro e w113 ⟨he_, hb⟩
                    (try rw [← hQ12.out] at he_)
                    subst he_
                    replace HO := Aside0.mk (Ow.Own.call HO.out hb)
                    clear hb
                    refine ⟨_, rfl, ?_⟩
                    refine hK.out _ _ (by first | exact HO.out | exact cong HO.out (by (try simp only [hq.1]) <;> rfl)) (fun hHeld => ?_)
                    clear hK K
                    refine norm_ (a' := ?_) ?_ ?_
                    rotate_left
                    ·show Act.put _ (some 19) _ = _
                     simp only [Act.put, u1, u2, u3, i64_w, i32_w]
                     rfl
                    exact norm_ (by simp only [hq.1, putAll, Act.put, u1, u2, u3] <;> rfl) (hJ2 () _ (cong (pick [0] HO.out (by decide)) (by (try simp only [hq.1]) <;> rfl)))
                   ·skip
                    refine box_step ?hg (N := 3) ?hd (cs := Z25) (t := 27) ?hr ?_; (case hd => rfl); (case hg => rfl); (case hr => first | (go_simp; done) | (go_simp; rfl))
                    intro gb329 hg w113 hbox hb
                    replace HO := Aside0.mk (Ow.Own.add HO.out hg hbox hb)
                    clear hb hbox hg
                    simp only [cons_append, nil_append] at HO
                    refine hK.out _ _ (by have h_ := pick [0] HO.out (by decide); first | exact h_ | exact cong h_ (by (try simp only [hq.1]) <;> rfl)) (fun hHeld => ?_)
                    clear hK K
                    refine norm_ (a' := ?_) ?_ ?_
                    rotate_left
                    ·show Act.put _ (some 3) _ = _
                     simp only [Act.put, u1, u2, u3, i64_w, i32_w]
                     rfl
                    exact norm_ (by simp only [hq.1, putAll, Act.put, u1, u2, u3] <;> rfl) (hJ10 (gb329) _ (cong (pick [0, 1] HO.out (by decide)) (by (try simp only [hq.1]) <;> rfl)))
                   ·skip
                    refine box_step ?hg (N := 4) ?hd (cs := Z6) (t := 29) ?hr ?_; (case hd => rfl); (case hg => rfl); (case hr => first | (go_simp; done) | (go_simp; rfl))
                    intro gb330 hg w113 hbox hb
                    replace HO := Aside0.mk (Ow.Own.add HO.out hg hbox hb)
                    clear hb hbox hg
                    simp only [cons_append, nil_append] at HO
                    refine hK.out _ _ (by have h_ := pick [0] HO.out (by decide); first | exact h_ | exact cong h_ (by (try simp only [hq.1]) <;> rfl)) (fun hHeld => ?_)
                    clear hK K
                    refine norm_ (a' := ?_) ?_ ?_
                    rotate_left
                    ·show Act.put _ (some 4) _ = _
                     simp only [Act.put, u1, u2, u3, i64_w, i32_w]
                     rfl
                    exact norm_ (by simp only [hq.1, putAll, Act.put, u1, u2, u3] <;> rfl) (hJ11 (gb330) _ (cong (pick [0, 1] HO.out (by decide)) (by (try simp only [hq.1]) <;> rfl)))
                  ·skip
                   rintro gb330 w114 HO7_
                   clear HO
                   have HO := Aside0.mk HO7_
                   clear HO7_
                   have hHeld := pick [0] HO.out (by decide)
                   refine norm_ (a' := ?_) ?_ ?_
                   rotate_left
                   ·simp only [putAll, Act.put, u1, u2, u3]
                    rfl
                   refine two_ (i := 2) (j := 10) (Ni := some 19) (Nj := some 3) (Ow.B 16 3039) (Ow.B 16 4059) rfl rfl rfl rfl (two_of HT_.out (by kernel_rfl)) (by decide) (by decide) (fun K hK => ?_) (fun K hK => ?_)
                   ·skip
                    obtain ⟨Q13, hQ13_⟩ : ∃ q_ : Array Value, q_ = (#[.string a0_0, .string a0_1, .string a0_2, .int .i64 a0_3, .string a0_4, .string a0_5, .string a0_6, .string a0_7, .string a0_8, .int .i64 a0_9, .int .i64 a0_10, .string a0_11, .bool a0_12, .int .i64 a0_13, .string a0_14, .string a0_15, .string a0_16, .int .i64 a0_17, .int .i64 a0_18, .int .i64 a0_19, .bool a0_20, .bool a0_21, .int .i64 a0_22, .int .i64 a0_23, .bool a0_24] : Array Value) := ⟨_, rfl⟩
                    try rw [← hQ13_]
                    have hQ13 := Aside0.mk hQ13_; replace hq := Aside0.mk (And.intro hQ13_ hq.1); clear hQ13_
                    refine goes_ Try.func15 (by kernel_rfl) rfl #[.agg Q13] (by rfl) rfl rfl (by (try simp only [map_toArray, map_cons, map_nil]); first | done | rfl | (simp only [hq.1] <;> rfl) | (simp only [length_drop, length_take]; rfl)) ?_
                    obtain ⟨Q14, hQ14_⟩ : ∃ q_ : Array Value, q_ = (#[.string t298, .string t299, .string t300, .int .i64 t301, .string t302, .string t303, .string t304, .string t305, .string t306, .int .i64 t307, .int .i64 t308, .string t309, .bool t310, .int .i64 t311, .string t312, .string t313, .string t314, .int .i64 t315, .int .i64 t316, .int .i64 t317, .bool t318, .bool t319, .int .i64 t320, .int .i64 t321, .bool t322] : Array Value) := ⟨_, rfl⟩
                    try rw [← hQ14_]
                    have hQ14 := Aside0.mk hQ14_; replace hq := Aside0.mk (And.intro hQ14_ hq.1); clear hQ14_
                    refine Calls.mono (calls_of_args (by (try simp only [hq.1]) <;> rfl) (bursarlaw22_Few.calls a0_0 a0_1 a0_2 a0_3 a0_4 a0_5 a0_6 a0_7 a0_8 a0_9 a0_10 a0_11 a0_12 a0_13 a0_14 a0_15 a0_16 a0_17 a0_18 a0_19 a0_20 a0_21 a0_22 a0_23 a0_24 t298 t299 t300 t301 t302 t303 t304 t305 t306 t307 t308 t309 t310 t311 t312 t313 t314 t315 t316 t317 t318 t319 t320 t321 t322 _ A2.out)) ?_
                    rintro e w115 ⟨he_, hb⟩
                    (try rw [← hQ14.out] at he_)
                    subst he_
                    replace HO := Aside0.mk (Ow.Own.call HO.out hb)
                    clear hb
                    refine ⟨_, rfl, ?_⟩
                    refine hK.out _ _ (by have h_ := pick [0] HO.out (by decide); first | exact h_ | exact cong h_ (by (try simp only [hq.1]) <;> rfl)) (fun hHeld => ?_)
                    clear hK K
                    refine norm_ (a' := ?_) ?_ ?_
                    rotate_left
                    ·show Act.put _ (some 19) _ = _
                     simp only [Act.put, u1, u2, u3, i64_w, i32_w]
                     rfl
                    exact norm_ (by simp only [hq.1, putAll, Act.put, u1, u2, u3] <;> rfl) (hJ2_11 (gb330) _ (cong (pick [0, 1] HO.out (by decide)) (by (try simp only [hq.1]) <;> rfl)))
                   ·skip
                    refine box_step ?hg (N := 3) ?hd (cs := Z25) (t := 27) ?hr ?_; (case hd => rfl); (case hg => rfl); (case hr => first | (go_simp; done) | (go_simp; rfl))
                    intro gb329 hg w115 hbox hb
                    replace HO := Aside0.mk (Ow.Own.add HO.out hg hbox hb)
                    clear hb hbox hg
                    simp only [cons_append, nil_append] at HO
                    refine hK.out _ _ (by have h_ := pick [0] HO.out (by decide); first | exact h_ | exact cong h_ (by (try simp only [hq.1]) <;> rfl)) (fun hHeld => ?_)
                    clear hK K
                    refine norm_ (a' := ?_) ?_ ?_
                    rotate_left
                    ·show Act.put _ (some 3) _ = _
                     simp only [Act.put, u1, u2, u3, i64_w, i32_w]
                     rfl
                    exact norm_ (by simp only [hq.1, putAll, Act.put, u1, u2, u3] <;> rfl) (hJ10_11 (gb329, gb330) _ (cong (pick [0, 2, 1] HO.out (by decide)) (by (try simp only [hq.1]) <;> rfl)))
                 ·skip
                  rintro gb329 w114 HO7_
                  clear HO
                  have HO := Aside0.mk HO7_
                  clear HO7_
                  have hHeld := pick [0] HO.out (by decide)
                  refine norm_ (a' := ?_) ?_ ?_
                  rotate_left
                  ·simp only [putAll, Act.put, u1, u2, u3]
                   rfl
                  refine two_ (i := 2) (j := 11) (Ni := some 19) (Nj := some 4) (Ow.B 16 2015) (Ow.B 16 4059) rfl rfl rfl rfl (two_of HT_.out (by kernel_rfl)) (by decide) (by decide) (fun K hK => ?_) (fun K hK => ?_)
                  ·skip
                   obtain ⟨Q15, hQ15_⟩ : ∃ q_ : Array Value, q_ = (#[.string a0_0, .string a0_1, .string a0_2, .int .i64 a0_3, .string a0_4, .string a0_5, .string a0_6, .string a0_7, .string a0_8, .int .i64 a0_9, .int .i64 a0_10, .string a0_11, .bool a0_12, .int .i64 a0_13, .string a0_14, .string a0_15, .string a0_16, .int .i64 a0_17, .int .i64 a0_18, .int .i64 a0_19, .bool a0_20, .bool a0_21, .int .i64 a0_22, .int .i64 a0_23, .bool a0_24] : Array Value) := ⟨_, rfl⟩
                   try rw [← hQ15_]
                   have hQ15 := Aside0.mk hQ15_; replace hq := Aside0.mk (And.intro hQ15_ hq.1); clear hQ15_
                   refine goes_ Try.func15 (by kernel_rfl) rfl #[.agg Q15] (by rfl) rfl rfl (by (try simp only [map_toArray, map_cons, map_nil]); first | done | rfl | (simp only [hq.1] <;> rfl) | (simp only [length_drop, length_take]; rfl)) ?_
                   obtain ⟨Q16, hQ16_⟩ : ∃ q_ : Array Value, q_ = (#[.string t298, .string t299, .string t300, .int .i64 t301, .string t302, .string t303, .string t304, .string t305, .string t306, .int .i64 t307, .int .i64 t308, .string t309, .bool t310, .int .i64 t311, .string t312, .string t313, .string t314, .int .i64 t315, .int .i64 t316, .int .i64 t317, .bool t318, .bool t319, .int .i64 t320, .int .i64 t321, .bool t322] : Array Value) := ⟨_, rfl⟩
                   try rw [← hQ16_]
                   have hQ16 := Aside0.mk hQ16_; replace hq := Aside0.mk (And.intro hQ16_ hq.1); clear hQ16_
                   refine Calls.mono (calls_of_args (by (try simp only [hq.1]) <;> rfl) (bursarlaw22_Few.calls a0_0 a0_1 a0_2 a0_3 a0_4 a0_5 a0_6 a0_7 a0_8 a0_9 a0_10 a0_11 a0_12 a0_13 a0_14 a0_15 a0_16 a0_17 a0_18 a0_19 a0_20 a0_21 a0_22 a0_23 a0_24 t298 t299 t300 t301 t302 t303 t304 t305 t306 t307 t308 t309 t310 t311 t312 t313 t314 t315 t316 t317 t318 t319 t320 t321 t322 _ A2.out)) ?_
                   rintro e w115 ⟨he_, hb⟩
                   (try rw [← hQ16.out] at he_)
                   subst he_
                   replace HO := Aside0.mk (Ow.Own.call HO.out hb)
                   clear hb
                   refine ⟨_, rfl, ?_⟩
                   refine hK.out _ _ (by have h_ := pick [0] HO.out (by decide); first | exact h_ | exact cong h_ (by (try simp only [hq.1]) <;> rfl)) (fun hHeld => ?_)
                   clear hK K
                   refine norm_ (a' := ?_) ?_ ?_
                   rotate_left
                   ·show Act.put _ (some 19) _ = _
                    simp only [Act.put, u1, u2, u3, i64_w, i32_w]
                    rfl
                   exact norm_ (by simp only [hq.1, putAll, Act.put, u1, u2, u3] <;> rfl) (hJ2_10 (gb329) _ (cong (pick [0, 1] HO.out (by decide)) (by (try simp only [hq.1]) <;> rfl)))
                  ·skip
                   refine box_step ?hg (N := 4) ?hd (cs := Z6) (t := 29) ?hr ?_; (case hd => rfl); (case hg => rfl); (case hr => first | (go_simp; done) | (go_simp; rfl))
                   intro gb330 hg w115 hbox hb
                   replace HO := Aside0.mk (Ow.Own.add HO.out hg hbox hb)
                   clear hb hbox hg
                   simp only [cons_append, nil_append] at HO
                   refine hK.out _ _ (by have h_ := pick [0] HO.out (by decide); first | exact h_ | exact cong h_ (by (try simp only [hq.1]) <;> rfl)) (fun hHeld => ?_)
                   clear hK K
                   refine norm_ (a' := ?_) ?_ ?_
                   rotate_left
                   ·show Act.put _ (some 4) _ = _
                    simp only [Act.put, u1, u2, u3, i64_w, i32_w]
                    rfl
                   exact norm_ (by simp only [hq.1, putAll, Act.put, u1, u2, u3] <;> rfl) (hJ10_11 (gb329, gb330) _ (cong (pick [0, 1, 2] HO.out (by decide)) (by (try simp only [hq.1]) <;> rfl)))
                ·skip
                 rintro _ w114 HO7_
                 clear HO
                 have HO := Aside0.mk HO7_
                 clear HO7_
                 have hHeld := pick [0] HO.out (by decide)
                 refine norm_ (a' := ?_) ?_ ?_
                 rotate_left
                 ·simp only [putAll, Act.put, u1, u2, u3]
                  rfl
                 refine three_ (i := 5) (j := 10) (k := 11) (Ni := some 22) (Nj := some 3) (Nk := some 4) (Ow.B 16 1023) (Ow.B 16 2015) (Ow.B 16 3039) rfl rfl rfl rfl rfl rfl (three_of HT_.out (by kernel_rfl)) (by decide) (by decide) (by decide) (fun K hK => ?_) (fun K hK => ?_) (fun K hK => ?_)
                 ·skip
                  refine goes_ Try.func16 (by kernel_rfl) rfl #[.agg #[.string a0_25, .string a0_26, .string a0_27, .int .i64 a0_28, .int .i64 a0_29, .int .i64 a0_30]] (by rfl) rfl rfl (by (try simp only [map_toArray, map_cons, map_nil]); first | done | rfl | (simp only [hq.1] <;> rfl) | (simp only [length_drop, length_take]; rfl)) ?_
                  refine Calls.mono (calls_of_args (by (try simp only [hq.1]) <;> rfl) (bursarlaw26_few.calls a0_25 a0_26 a0_27 a0_28 a0_29 a0_30 t323 t324 t325 t326 t327 t328 _ A3.out)) ?_
                  rintro e w115 ⟨he_, hb⟩
                  subst he_
                  replace HO := Aside0.mk (Ow.Own.call HO.out hb)
                  clear hb
                  refine ⟨_, rfl, ?_⟩
                  refine hK.out _ _ (by first | exact HO.out | exact cong HO.out (by (try simp only [hq.1]) <;> rfl)) (fun hHeld => ?_)
                  clear hK K
                  refine norm_ (a' := ?_) ?_ ?_
                  rotate_left
                  ·show Act.put _ (some 22) _ = _
                   simp only [Act.put, u1, u2, u3, i64_w, i32_w]
                   rfl
                  exact norm_ (by simp only [hq.1, putAll, Act.put, u1, u2, u3] <;> rfl) (hJ2_5 () _ (cong (pick [0] HO.out (by decide)) (by (try simp only [hq.1]) <;> rfl)))
                 ·skip
                  refine box_step ?hg (N := 3) ?hd (cs := Z25) (t := 27) ?hr ?_; (case hd => rfl); (case hg => rfl); (case hr => first | (go_simp; done) | (go_simp; rfl))
                  intro gb329 hg w115 hbox hb
                  replace HO := Aside0.mk (Ow.Own.add HO.out hg hbox hb)
                  clear hb hbox hg
                  simp only [cons_append, nil_append] at HO
                  refine hK.out _ _ (by have h_ := pick [0] HO.out (by decide); first | exact h_ | exact cong h_ (by (try simp only [hq.1]) <;> rfl)) (fun hHeld => ?_)
                  clear hK K
                  refine norm_ (a' := ?_) ?_ ?_
                  rotate_left
                  ·show Act.put _ (some 3) _ = _
                   simp only [Act.put, u1, u2, u3, i64_w, i32_w]
                   rfl
                  exact norm_ (by simp only [hq.1, putAll, Act.put, u1, u2, u3] <;> rfl) (hJ2_10 (gb329) _ (cong (pick [0, 1] HO.out (by decide)) (by (try simp only [hq.1]) <;> rfl)))
                 ·skip
                  refine box_step ?hg (N := 4) ?hd (cs := Z6) (t := 29) ?hr ?_; (case hd => rfl); (case hg => rfl); (case hr => first | (go_simp; done) | (go_simp; rfl))
                  intro gb330 hg w115 hbox hb
                  replace HO := Aside0.mk (Ow.Own.add HO.out hg hbox hb)
                  clear hb hbox hg
                  simp only [cons_append, nil_append] at HO
                  refine hK.out _ _ (by have h_ := pick [0] HO.out (by decide); first | exact h_ | exact cong h_ (by (try simp only [hq.1]) <;> rfl)) (fun hHeld => ?_)
                  clear hK K
                  refine norm_ (a' := ?_) ?_ ?_
                  rotate_left
                  ·show Act.put _ (some 4) _ = _
                   simp only [Act.put, u1, u2, u3, i64_w, i32_w]
                   rfl
                  exact norm_ (by simp only [hq.1, putAll, Act.put, u1, u2, u3] <;> rfl) (hJ2_11 (gb330) _ (cong (pick [0, 1] HO.out (by decide)) (by (try simp only [hq.1]) <;> rfl)))
               ·skip
                rintro ⟨gb329, gb330⟩ w115 HO7_
                clear HO
                have HO := Aside0.mk HO7_
                clear HO7_
                have hHeld := pick [0] HO.out (by decide)
                refine norm_ (a' := ?_) ?_ ?_
                rotate_left
                ·simp only [putAll, Act.put, u1, u2, u3]
                 rfl
                refine one_ (i := 2) (N := some 19) (Ow.B 16 4063) rfl rfl (one_of HT_.out (by kernel_rfl)) (by decide) (fun K hK => ?_)
                obtain ⟨Q17, hQ17_⟩ : ∃ q_ : Array Value, q_ = (#[.string a0_0, .string a0_1, .string a0_2, .int .i64 a0_3, .string a0_4, .string a0_5, .string a0_6, .string a0_7, .string a0_8, .int .i64 a0_9, .int .i64 a0_10, .string a0_11, .bool a0_12, .int .i64 a0_13, .string a0_14, .string a0_15, .string a0_16, .int .i64 a0_17, .int .i64 a0_18, .int .i64 a0_19, .bool a0_20, .bool a0_21, .int .i64 a0_22, .int .i64 a0_23, .bool a0_24] : Array Value) := ⟨_, rfl⟩
                try rw [← hQ17_]
                have hQ17 := Aside0.mk hQ17_; replace hq := Aside0.mk (And.intro hQ17_ hq.1); clear hQ17_
                refine goes_ Try.func15 (by kernel_rfl) rfl #[.agg Q17] (by rfl) rfl rfl (by (try simp only [map_toArray, map_cons, map_nil]); first | done | rfl | (simp only [hq.1] <;> rfl) | (simp only [length_drop, length_take]; rfl)) ?_
                obtain ⟨Q18, hQ18_⟩ : ∃ q_ : Array Value, q_ = (#[.string t298, .string t299, .string t300, .int .i64 t301, .string t302, .string t303, .string t304, .string t305, .string t306, .int .i64 t307, .int .i64 t308, .string t309, .bool t310, .int .i64 t311, .string t312, .string t313, .string t314, .int .i64 t315, .int .i64 t316, .int .i64 t317, .bool t318, .bool t319, .int .i64 t320, .int .i64 t321, .bool t322] : Array Value) := ⟨_, rfl⟩
                try rw [← hQ18_]
                have hQ18 := Aside0.mk hQ18_; replace hq := Aside0.mk (And.intro hQ18_ hq.1); clear hQ18_
                refine Calls.mono (calls_of_args (by (try simp only [hq.1]) <;> rfl) (bursarlaw22_Few.calls a0_0 a0_1 a0_2 a0_3 a0_4 a0_5 a0_6 a0_7 a0_8 a0_9 a0_10 a0_11 a0_12 a0_13 a0_14 a0_15 a0_16 a0_17 a0_18 a0_19 a0_20 a0_21 a0_22 a0_23 a0_24 t298 t299 t300 t301 t302 t303 t304 t305 t306 t307 t308 t309 t310 t311 t312 t313 t314 t315 t316 t317 t318 t319 t320 t321 t322 _ A2.out)) ?_
                rintro e w116 ⟨he_, hb⟩
                (try rw [← hQ18.out] at he_)
                subst he_
                replace HO := Aside0.mk (Ow.Own.call HO.out hb)
                clear hb
                refine ⟨_, rfl, ?_⟩
                refine hK.out _ _ (by have h_ := pick [0] HO.out (by decide); first | exact h_ | exact cong h_ (by (try simp only [hq.1]) <;> rfl)) (fun hHeld => ?_)
                clear hK K
                refine norm_ (a' := ?_) ?_ ?_
                rotate_left
                ·show Act.put _ (some 19) _ = _
                 simp only [Act.put, u1, u2, u3, i64_w, i32_w]
                 rfl
                exact norm_ (by simp only [hq.1, putAll, Act.put, u1, u2, u3] <;> rfl) (hJ2_10_11 (gb329, gb330) _ (cong (pick [0, 1, 2] HO.out (by decide)) (by (try simp only [hq.1]) <;> rfl)))
              ·skip
               rintro gb330 w115 HO7_
               clear HO
               have HO := Aside0.mk HO7_
               clear HO7_
               have hHeld := pick [0] HO.out (by decide)
               refine norm_ (a' := ?_) ?_ ?_
               rotate_left
               ·simp only [putAll, Act.put, u1, u2, u3]
                rfl
               refine two_ (i := 5) (j := 10) (Ni := some 22) (Nj := some 3) (Ow.B 16 3071) (Ow.B 16 4063) rfl rfl rfl rfl (two_of HT_.out (by kernel_rfl)) (by decide) (by decide) (fun K hK => ?_) (fun K hK => ?_)
               ·skip
                refine goes_ Try.func16 (by kernel_rfl) rfl #[.agg #[.string a0_25, .string a0_26, .string a0_27, .int .i64 a0_28, .int .i64 a0_29, .int .i64 a0_30]] (by rfl) rfl rfl (by (try simp only [map_toArray, map_cons, map_nil]); first | done | rfl | (simp only [hq.1] <;> rfl) | (simp only [length_drop, length_take]; rfl)) ?_
                refine Calls.mono (calls_of_args (by (try simp only [hq.1]) <;> rfl) (bursarlaw26_few.calls a0_25 a0_26 a0_27 a0_28 a0_29 a0_30 t323 t324 t325 t326 t327 t328 _ A3.out)) ?_
                rintro e w116 ⟨he_, hb⟩
                subst he_
                replace HO := Aside0.mk (Ow.Own.call HO.out hb)
                clear hb
                refine ⟨_, rfl, ?_⟩
                refine hK.out _ _ (by have h_ := pick [0] HO.out (by decide); first | exact h_ | exact cong h_ (by (try simp only [hq.1]) <;> rfl)) (fun hHeld => ?_)
                clear hK K
                refine norm_ (a' := ?_) ?_ ?_
                rotate_left
                ·show Act.put _ (some 22) _ = _
                 simp only [Act.put, u1, u2, u3, i64_w, i32_w]
                 rfl
                exact norm_ (by simp only [hq.1, putAll, Act.put, u1, u2, u3] <;> rfl) (hJ2_5_11 (gb330) _ (cong (pick [0, 1] HO.out (by decide)) (by (try simp only [hq.1]) <;> rfl)))
               ·skip
                refine box_step ?hg (N := 3) ?hd (cs := Z25) (t := 27) ?hr ?_; (case hd => rfl); (case hg => rfl); (case hr => first | (go_simp; done) | (go_simp; rfl))
                intro gb329 hg w116 hbox hb
                replace HO := Aside0.mk (Ow.Own.add HO.out hg hbox hb)
                clear hb hbox hg
                simp only [cons_append, nil_append] at HO
                refine hK.out _ _ (by have h_ := pick [0] HO.out (by decide); first | exact h_ | exact cong h_ (by (try simp only [hq.1]) <;> rfl)) (fun hHeld => ?_)
                clear hK K
                refine norm_ (a' := ?_) ?_ ?_
                rotate_left
                ·show Act.put _ (some 3) _ = _
                 simp only [Act.put, u1, u2, u3, i64_w, i32_w]
                 rfl
                exact norm_ (by simp only [hq.1, putAll, Act.put, u1, u2, u3] <;> rfl) (hJ2_10_11 (gb329, gb330) _ (cong (pick [0, 2, 1] HO.out (by decide)) (by (try simp only [hq.1]) <;> rfl)))
             ·skip
              rintro gb329 w115 HO7_
              clear HO
              have HO := Aside0.mk HO7_
              clear HO7_
              have hHeld := pick [0] HO.out (by decide)
              refine norm_ (a' := ?_) ?_ ?_
              rotate_left
              ·simp only [putAll, Act.put, u1, u2, u3]
               rfl
              refine two_ (i := 5) (j := 11) (Ni := some 22) (Nj := some 4) (Ow.B 16 2047) (Ow.B 16 4063) rfl rfl rfl rfl (two_of HT_.out (by kernel_rfl)) (by decide) (by decide) (fun K hK => ?_) (fun K hK => ?_)
              ·skip
               refine goes_ Try.func16 (by kernel_rfl) rfl #[.agg #[.string a0_25, .string a0_26, .string a0_27, .int .i64 a0_28, .int .i64 a0_29, .int .i64 a0_30]] (by rfl) rfl rfl (by (try simp only [map_toArray, map_cons, map_nil]); first | done | rfl | (simp only [hq.1] <;> rfl) | (simp only [length_drop, length_take]; rfl)) ?_
               refine Calls.mono (calls_of_args (by (try simp only [hq.1]) <;> rfl) (bursarlaw26_few.calls a0_25 a0_26 a0_27 a0_28 a0_29 a0_30 t323 t324 t325 t326 t327 t328 _ A3.out)) ?_
               rintro e w116 ⟨he_, hb⟩
               subst he_
               replace HO := Aside0.mk (Ow.Own.call HO.out hb)
               clear hb
               refine ⟨_, rfl, ?_⟩
               refine hK.out _ _ (by have h_ := pick [0] HO.out (by decide); first | exact h_ | exact cong h_ (by (try simp only [hq.1]) <;> rfl)) (fun hHeld => ?_)
               clear hK K
               refine norm_ (a' := ?_) ?_ ?_
               rotate_left
               ·show Act.put _ (some 22) _ = _
                simp only [Act.put, u1, u2, u3, i64_w, i32_w]
                rfl
               exact norm_ (by simp only [hq.1, putAll, Act.put, u1, u2, u3] <;> rfl) (hJ2_5_10 (gb329) _ (cong (pick [0, 1] HO.out (by decide)) (by (try simp only [hq.1]) <;> rfl)))
              ·skip
               refine box_step ?hg (N := 4) ?hd (cs := Z6) (t := 29) ?hr ?_; (case hd => rfl); (case hg => rfl); (case hr => first | (go_simp; done) | (go_simp; rfl))
               intro gb330 hg w116 hbox hb
               replace HO := Aside0.mk (Ow.Own.add HO.out hg hbox hb)
               clear hb hbox hg
               simp only [cons_append, nil_append] at HO
               refine hK.out _ _ (by have h_ := pick [0] HO.out (by decide); first | exact h_ | exact cong h_ (by (try simp only [hq.1]) <;> rfl)) (fun hHeld => ?_)
               clear hK K
               refine norm_ (a' := ?_) ?_ ?_
               rotate_left
               ·show Act.put _ (some 4) _ = _
                simp only [Act.put, u1, u2, u3, i64_w, i32_w]
                rfl
               exact norm_ (by simp only [hq.1, putAll, Act.put, u1, u2, u3] <;> rfl) (hJ2_10_11 (gb329, gb330) _ (cong (pick [0, 1, 2] HO.out (by decide)) (by (try simp only [hq.1]) <;> rfl)))
            ·skip
             rintro _ w115 HO7_
             clear HO
             have HO := Aside0.mk HO7_
             clear HO7_
             have hHeld := pick [0] HO.out (by decide)
             refine norm_ (a' := ?_) ?_ ?_
             rotate_left
             ·simp only [putAll, Act.put, u1, u2, u3]
              rfl
             refine two_ (i := 10) (j := 11) (Ni := some 3) (Nj := some 4) (Ow.B 16 2047) (Ow.B 16 3071) rfl rfl rfl rfl (two_of HT_.out (by kernel_rfl)) (by decide) (by decide) (fun K hK => ?_) (fun K hK => ?_)
             ·skip
              refine box_step ?hg (N := 3) ?hd (cs := Z25) (t := 27) ?hr ?_; (case hd => rfl); (case hg => rfl); (case hr => first | (go_simp; done) | (go_simp; rfl))
              intro gb329 hg w116 hbox hb
              replace HO := Aside0.mk (Ow.Own.add HO.out hg hbox hb)
              clear hb hbox hg
              simp only [cons_append, nil_append] at HO
              refine hK.out _ _ (by have h_ := pick [0] HO.out (by decide); first | exact h_ | exact cong h_ (by (try simp only [hq.1]) <;> rfl)) (fun hHeld => ?_)
              clear hK K
              refine norm_ (a' := ?_) ?_ ?_
              rotate_left
              ·show Act.put _ (some 3) _ = _
               simp only [Act.put, u1, u2, u3, i64_w, i32_w]
               rfl
              exact norm_ (by simp only [hq.1, putAll, Act.put, u1, u2, u3] <;> rfl) (hJ2_5_10 (gb329) _ (cong (pick [0, 1] HO.out (by decide)) (by (try simp only [hq.1]) <;> rfl)))
             ·skip
              refine box_step ?hg (N := 4) ?hd (cs := Z6) (t := 29) ?hr ?_; (case hd => rfl); (case hg => rfl); (case hr => first | (go_simp; done) | (go_simp; rfl))
              intro gb330 hg w116 hbox hb
              replace HO := Aside0.mk (Ow.Own.add HO.out hg hbox hb)
              clear hb hbox hg
              simp only [cons_append, nil_append] at HO
              refine hK.out _ _ (by have h_ := pick [0] HO.out (by decide); first | exact h_ | exact cong h_ (by (try simp only [hq.1]) <;> rfl)) (fun hHeld => ?_)
              clear hK K
              refine norm_ (a' := ?_) ?_ ?_
              rotate_left
              ·show Act.put _ (some 4) _ = _
               simp only [Act.put, u1, u2, u3, i64_w, i32_w]
               rfl
              exact norm_ (by simp only [hq.1, putAll, Act.put, u1, u2, u3] <;> rfl) (hJ2_5_11 (gb330) _ (cong (pick [0, 1] HO.out (by decide)) (by (try simp only [hq.1]) <;> rfl)))
           ·skip
            rintro ⟨gb329, gb330⟩ w116 HO7_
            clear HO
            have HO := Aside0.mk HO7_
            clear HO7_
            have hHeld := pick [0] HO.out (by decide)
            refine norm_ (a' := ?_) ?_ ?_
            rotate_left
            ·simp only [putAll, Act.put, u1, u2, u3]
             rfl
            refine one_ (i := 5) (N := some 22) (Ow.B 16 4095) rfl rfl (one_of HT_.out (by kernel_rfl)) (by decide) (fun K hK => ?_)
            refine goes_ Try.func16 (by kernel_rfl) rfl #[.agg #[.string a0_25, .string a0_26, .string a0_27, .int .i64 a0_28, .int .i64 a0_29, .int .i64 a0_30]] (by rfl) rfl rfl (by (try simp only [map_toArray, map_cons, map_nil]); first | done | rfl | (simp only [hq.1] <;> rfl) | (simp only [length_drop, length_take]; rfl)) ?_
            refine Calls.mono (calls_of_args (by (try simp only [hq.1]) <;> rfl) (bursarlaw26_few.calls a0_25 a0_26 a0_27 a0_28 a0_29 a0_30 t323 t324 t325 t326 t327 t328 _ A3.out)) ?_
            rintro e w117 ⟨he_, hb⟩
            subst he_
            replace HO := Aside0.mk (Ow.Own.call HO.out hb)
            clear hb
            refine ⟨_, rfl, ?_⟩
            refine hK.out _ _ (by have h_ := pick [0] HO.out (by decide); first | exact h_ | exact cong h_ (by (try simp only [hq.1]) <;> rfl)) (fun hHeld => ?_)
            clear hK K
            refine norm_ (a' := ?_) ?_ ?_
            rotate_left
            ·show Act.put _ (some 22) _ = _
             simp only [Act.put, u1, u2, u3, i64_w, i32_w]
             rfl
            exact norm_ (by simp only [hq.1, putAll, Act.put, u1, u2, u3] <;> rfl) (hJ2_5_10_11 (gb329, gb330) _ (cong (pick [0, 1, 2] HO.out (by decide)) (by (try simp only [hq.1]) <;> rfl)))
          ·skip
           rintro gb330 w116 HO7_
           clear HO
           have HO := Aside0.mk HO7_
           clear HO7_
           have hHeld := pick [0] HO.out (by decide)
           refine norm_ (a' := ?_) ?_ ?_
           rotate_left
           ·simp only [putAll, Act.put, u1, u2, u3]
            rfl
           refine one_ (i := 10) (N := some 3) (Ow.B 16 4095) rfl rfl (one_of HT_.out (by kernel_rfl)) (by decide) (fun K hK => ?_)
           refine box_step ?hg (N := 3) ?hd (cs := Z25) (t := 27) ?hr ?_; (case hd => rfl); (case hg => rfl); (case hr => first | (go_simp; done) | (go_simp; rfl))
           intro gb329 hg w117 hbox hb
           replace HO := Aside0.mk (Ow.Own.add HO.out hg hbox hb)
           clear hb hbox hg
           simp only [cons_append, nil_append] at HO
           refine hK.out _ _ (by have h_ := pick [0] HO.out (by decide); first | exact h_ | exact cong h_ (by (try simp only [hq.1]) <;> rfl)) (fun hHeld => ?_)
           clear hK K
           refine norm_ (a' := ?_) ?_ ?_
           rotate_left
           ·show Act.put _ (some 3) _ = _
            simp only [Act.put, u1, u2, u3, i64_w, i32_w]
            rfl
           exact norm_ (by simp only [hq.1, putAll, Act.put, u1, u2, u3] <;> rfl) (hJ2_5_10_11 (gb329, gb330) _ (cong (pick [0, 2, 1] HO.out (by decide)) (by (try simp only [hq.1]) <;> rfl)))
         ·skip
          rintro gb329 w116 HO7_
          clear HO
          have HO := Aside0.mk HO7_
          clear HO7_
          have hHeld := pick [0] HO.out (by decide)
          refine norm_ (a' := ?_) ?_ ?_
          rotate_left
          ·simp only [putAll, Act.put, u1, u2, u3]
           rfl
          refine one_ (i := 11) (N := some 4) (Ow.B 16 4095) rfl rfl (one_of HT_.out (by kernel_rfl)) (by decide) (fun K hK => ?_)
          refine box_step ?hg (N := 4) ?hd (cs := Z6) (t := 29) ?hr ?_; (case hd => rfl); (case hg => rfl); (case hr => first | (go_simp; done) | (go_simp; rfl))
          intro gb330 hg w117 hbox hb
          replace HO := Aside0.mk (Ow.Own.add HO.out hg hbox hb)
          clear hb hbox hg
          simp only [cons_append, nil_append] at HO
          refine hK.out _ _ (by have h_ := pick [0] HO.out (by decide); first | exact h_ | exact cong h_ (by (try simp only [hq.1]) <;> rfl)) (fun hHeld => ?_)
          clear hK K
          refine norm_ (a' := ?_) ?_ ?_
          rotate_left
          ·show Act.put _ (some 4) _ = _
           simp only [Act.put, u1, u2, u3, i64_w, i32_w]
           rfl
          exact norm_ (by simp only [hq.1, putAll, Act.put, u1, u2, u3] <;> rfl) (hJ2_5_10_11 (gb329, gb330) _ (cong (pick [0, 1, 2] HO.out (by decide)) (by (try simp only [hq.1]) <;> rfl)))
        rintro ⟨gb329, gb330⟩ w117 HO7_
        clear HO
        have HO := Aside0.mk HO7_
        clear HO7_
        have hHeld := pick [0] HO.out (by decide)
        refine norm_ (a' := ?_) ?_ ?_
        rotate_left
        ·simp only [putAll, Act.put, u1, u2, u3]
         rfl
        refine one_ (i := 12) (N := none) (Ow.B 16 8191) rfl rfl (one_of HT_.out (by kernel_rfl)) (by decide) (fun K hK => ?_)
        refine Ow.oskip Ot.ty HO.out (by rfl) rfl rfl rfl rfl (by with_reducible first | exact Ow.at0 | exact Ow.at1 | exact Ow.at2) (by first | exact Ow.ev_tmp rfl | rfl) (by (try simp only [hq.1]) <;> rfl) (by (try simp only [hq.1]) <;> rfl) (by (try simp only [hq.1]) <;> rfl) ?_
        clear HO; intro wz_ HO; simp only [u2, u3] at HO
        refine hK.out _ _ (by have h_ := pick [0] HO.out (by decide); first | exact h_ | exact cong h_ (by (try simp only [hq.1]) <;> rfl)) (fun hHeld => ?_)
        clear hK K
        refine one_ (i := 13) (N := none) (Ow.B 16 16383) rfl rfl (one_of HT_.out (by kernel_rfl)) (by decide) (fun K hK => ?_)
        refine Ow.oskip Ot.ty HO.out (by rfl) rfl rfl rfl rfl (by with_reducible first | exact Ow.at0 | exact Ow.at1 | exact Ow.at2) (by first | exact Ow.ev_tmp rfl | rfl) (by (try simp only [hq.1]) <;> rfl) (by (try simp only [hq.1]) <;> rfl) (by (try simp only [hq.1]) <;> rfl) ?_
        clear HO; intro wz_ HO; simp only [u2, u3] at HO
        refine hK.out _ _ (by have h_ := pick [0] HO.out (by decide); first | exact h_ | exact cong h_ (by (try simp only [hq.1]) <;> rfl)) (fun hHeld => ?_)
        clear hK K
        refine' Ow.pu (i := 14) (N := some 5) (Ow.B 16 32767) HT_.out ?hv_ ?ha_ ?_; (case hv_ => intro w'; go_simp; with_reducible rfl); (case ha_ => simp only [Ow.Sl, i64_w, i32_w]; rfl)
        refine' Ow.pu (i := 15) (N := some 6) (Ow.B 16 65535) HT_.out ?hv_ ?ha_ ?_; (case hv_ => intro w'; go_simp; with_reducible rfl); (case ha_ => simp only [Ow.Sl, i64_w, i32_w]; rfl)
        refine done_ (done_of HT_.out (by kernel_rfl)) ?_
        obtain ⟨Q19, hQ19_⟩ : ∃ q_ : Array Value, q_ = (#[.string t298, .string t299, .string t300, .int .i64 t301, .string t302, .string t303, .string t304, .string t305, .string t306, .int .i64 t307, .int .i64 t308, .string t309, .bool t310, .int .i64 t311, .string t312, .string t313, .string t314, .int .i64 t315, .int .i64 t316, .int .i64 t317, .bool t318, .bool t319, .int .i64 t320, .int .i64 t321, .bool t322] : Array Value) := ⟨_, rfl⟩
        try rw [← hQ19_]
        have hQ19 := Aside0.mk hQ19_; replace hq := Aside0.mk (And.intro hQ19_ hq.1); clear hQ19_
        obtain ⟨Q20, hQ20_⟩ : ∃ q_ : Array Value, q_ = (#[.string t298, .string t299, .string (((⟨#[48]⟩ : ByteArray) ++ (strOfNums y363)) ++ (⟨#[48, 48, 48, 48]⟩ : ByteArray)), .int .i64 t335, .string t302, .string t303, .string t304, .string t305, .string t306, .int .i64 t307, .int .i64 t308, .string t309, .bool t310, .int .i64 t311, .string t312, .string t313, .string t314, .int .i64 t315, .int .i64 t316, .int .i64 t317, .bool t318, .bool t319, .int .i64 (wrap64 (t320 + (wrap64 (a0_32)))), .int .i64 t321, .bool t322] : Array Value) := ⟨_, rfl⟩
        try rw [← hQ20_]
        have hQ20 := Aside0.mk hQ20_; replace hq := Aside0.mk (And.intro hQ20_ hq.1); clear hQ20_
        try go_wp2_with (first | ((with_reducible refine gate_callee (f := 17) rfl ?_); refine goesL_ (some 31) rfl rfl Try.func17 (by kernel_rfl) rfl #[.agg Q19, .agg #[.string t323, .string t324, .string t325, .int .i64 t326, .int .i64 t327, .int .i64 t328], .bool a0_31] rfl (by (try simp only [map_toArray, map_cons, map_nil]); first | done | rfl | (simp only [hq.1] <;> rfl)) ?_; refine Calls.mono (calls_of_args (by (try simp only [hq.1]) <;> rfl) (dispute_Decide.calls k t298 t299 t300 t301 t302 t303 t304 t305 t306 t307 t308 t309 t310 t311 t312 t313 t314 t315 t316 t317 t318 t319 t320 t321 t322 t323 t324 t325 t326 t327 t328 a0_31 t331 t332 t333 t334 t335 t336 t337 t338 t339 t340 t341 t342 t343 _ A4.out)) ?_; rintro e w154 ⟨he_, hb⟩; subst he_; refine ⟨_, rfl, ?_⟩; replace HO := Aside0.mk (Ow.Own.call HO.out hb); clear hb) | ((with_reducible refine gate_dst (N := 7) rfl ?_); refine Ow.box rfl (N := 7) rfl (cs := Z6) (t := 29) HO.out (by first | (go_simp; done) | (go_simp; rfl)) ?_; clear HO; intro gb344 w155 HO; simp only [cons_append, nil_append] at HO) | ((with_reducible refine gate_dst (N := 8) rfl ?_); refine Ow.box rfl (N := 8) rfl (cs := Z6_2) (t := 36) HO.out (by first | (go_simp; done) | (go_simp; rfl)) ?_; clear HO; intro gb345 w156 HO; simp only [cons_append, nil_append] at HO) | ((with_reducible refine gate_callee (f := 17) rfl ?_); refine goesL_ (some 46) rfl rfl Try.func17 (by kernel_rfl) rfl #[.agg Q19, .agg #[.string t331, .string t332, .string t333, .int .i64 t334, .int .i64 t335, .int .i64 t336], .bool true] rfl (by (try simp only [map_toArray, map_cons, map_nil]); first | done | rfl | (simp only [hq.1] <;> rfl)) ?_; refine Calls.mono (calls_of_args (by (try simp only [hq.1]) <;> rfl) (dispute_Decide.calls k t298 t299 t300 t301 t302 t303 t304 t305 t306 t307 t308 t309 t310 t311 t312 t313 t314 t315 t316 t317 t318 t319 t320 t321 t322 t331 t332 t333 t334 t335 t336 true t347 t348 t349 t350 t351 t352 t353 t354 t355 t356 t357 t358 t359 _ A6.out)) ?_; rintro e w170 ⟨he_, hb⟩; subst he_; refine ⟨_, rfl, ?_⟩; replace HO := Aside0.mk (Ow.Own.call HO.out hb); clear hb) | ((with_reducible refine gate_dst (N := 10) rfl ?_); refine Ow.box rfl (N := 10) rfl (cs := Z6) (t := 29) HO.out (by first | (go_simp; done) | (go_simp; rfl)) ?_; clear HO; intro gb360 w171 HO; simp only [cons_append, nil_append] at HO) | ((with_reducible refine gate_dst (N := 11) rfl ?_); refine Ow.box rfl (N := 11) rfl (cs := Z6_2) (t := 36) HO.out (by first | (go_simp; done) | (go_simp; rfl)) ?_; clear HO; intro gb361 w172 HO; simp only [cons_append, nil_append] at HO) | ((with_reducible refine gate_dst (N := 13) rfl ?_); refine Ow.box rfl (N := 13) rfl (cs := Z25) (t := 27) HO.out (by first | (go_simp; done) | (go_simp; rfl)) ?_; clear HO; intro gb362 w189 HO; simp only [cons_append, nil_append] at HO) | ((with_reducible refine gate_dst (N := 58) rfl ?_); refine Ow.lit8 rfl (N := 58) rfl (v := ((wrap64 (48 + (Int.tmod t334 3))) % 256)) (e := 5) Try.underlying40 Try.underlying5 Try.underlying9 HO.out (by first | (go_simp; done) | (go_simp; rfl)) ?_; clear HO; intro gv364 w200 HO hcv_; simp only [cons_append, nil_append] at HO; (try rw [← Ny363.out] at hcv_)) | ((with_reducible refine gate_callee (f := 17) rfl ?_); refine goesL_ (some 81) rfl rfl Try.func17 (by kernel_rfl) rfl #[.agg Q20, .agg #[.string t331, .string t332, .string t333, .int .i64 t334, .int .i64 t335, .int .i64 t336], .bool true] rfl (by (try simp only [map_toArray, map_cons, map_nil]); first | done | rfl | (simp only [hq.1] <;> rfl)) ?_; refine Calls.mono (calls_of_args (by (try simp only [hq.1]) <;> rfl) (dispute_Decide.calls k t298 t299 (((⟨#[48]⟩ : ByteArray) ++ (strOfNums y363)) ++ (⟨#[48, 48, 48, 48]⟩ : ByteArray)) t335 t302 t303 t304 t305 t306 t307 t308 t309 t310 t311 t312 t313 t314 t315 t316 t317 t318 t319 (wrap64 (t320 + (wrap64 (a0_32)))) t321 t322 t331 t332 t333 t334 t335 t336 true t367 t368 t369 t370 t371 t372 t373 t374 t375 t376 t377 t378 t379 _ A107.out)) ?_; rintro e w205 ⟨he_, hb⟩; subst he_; refine ⟨_, rfl, ?_⟩; replace HO := Aside0.mk (Ow.Own.call HO.out hb); clear hb) | ((with_reducible refine gate_dst (N := 14) rfl ?_); refine Ow.box rfl (N := 14) rfl (cs := Z6) (t := 29) HO.out (by first | (go_simp; done) | (go_simp; rfl)) ?_; clear HO; intro gb380 w206 HO; simp only [cons_append, nil_append] at HO) | ((with_reducible refine gate_dst (N := 15) rfl ?_); refine Ow.box rfl (N := 15) rfl (cs := Z6_2) (t := 36) HO.out (by first | (go_simp; done) | (go_simp; rfl)) ?_; clear HO; intro gb381 w207 HO; simp only [cons_append, nil_append] at HO) | (go_at_call 18; refine Calls.mono (calls_of_args (by (try simp only [hq.1]) <;> rfl) (bursarlaw26_awake.calls k  t382 _ A110.out)) ?_; rintro e w228 ⟨he_, hb⟩; subst he_; replace HO := Aside0.mk (Ow.Own.call HO.out hb); clear hb) | ((with_reducible refine Ow.gate_build rfl ?_); (try (refine gate_guard (by rfl) ?_; dsimp only)); refine' Ow.tbuild Ot.bd rfl rfl rfl ?hf_ ?_; (case hf_ => repeat (any_goals (first | exact Ow.Fills.nil | (refine' Ow.Fills.c ?hv_ rfl ?hz_ ?_; (case hv_ => first | exact Ow.ev_tmp rfl | rfl); (case hz_ => first | (refine ⟨?_, ?_⟩ <;> ((try simp only [hq.1]) <;> rfl)) | fail)))))) | ((with_reducible refine Ow.gate_load rfl ?_); (try (refine gate_guard (by rfl) ?_; dsimp only)); (first | refine Ow.l1 Ot.ty HO.out rfl rfl rfl rfl (by (try simp only [hq.1]) <;> rfl) ?_ | refine Ow.l0 Ot.ty HO.out rfl rfl rfl rfl (by (try simp only [hq.1]) <;> rfl) ?_ | refine Ow.lp Ot.ty HO.out rfl rfl rfl rfl (by (try simp only [hq.1]) <;> rfl) ?_)) | ((with_reducible refine gate_store rfl ?_); (try (refine gate_guard (by rfl) ?_; dsimp only)); (first | refine Ow.s0 Ot.ty HO.out rfl rfl rfl rfl rfl (by first | exact Ow.ev_tmp rfl | rfl) (by first | (refine ⟨?_, ?_, ?_⟩ <;> ((try simp only [hq.1]) <;> rfl)) | fail) ?_ | refine Ow.sp Ot.ty HO.out rfl rfl rfl rfl rfl (by first | exact Ow.ev_tmp rfl | rfl) (by first | (refine ⟨?_, ?_, ?_⟩ <;> ((try simp only [hq.1]) <;> rfl)) | fail) ?_); clear HO; intro wz_ HO; simp only [u2, u3] at HO))
        all_goals go_ret
        all_goals exact ⟨by first | rfl | (simp only [hq.1] <;> rfl) | (simp [errW_none, errW_some] <;> rfl) | (simp [*, errW_none, errW_some] <;> rfl), Ow.Own.below HO.out⟩
      ·rw [if_neg c108] at H
       have c108b0 : (t334 == 3) = false := beq_eq_false_iff_ne.mpr c108
       have c108b1 : (t334 != 3) = true := bne_iff_ne.mpr c108
       by_cases c229 : t379.toList = ([48, 48] : List UInt8)
       ·rw [if_pos c229] at H
        have c229b0 : (t379.toList == ([48, 48] : List UInt8)) = true := beq_iff_eq.mpr c229
        have c229b1 : (t379.toList != ([48, 48] : List UInt8)) = false := bne_eq_false_iff_eq.mpr c229
        clear c229
        by_cases c230 : a0_32 ≤ 200
        ·rw [if_pos c230] at H
         have c230b0 : decide (a0_32 ≤ 200) = true := decide_eq_true c230
         clear c230
         replace H := Option.bind_eq_some_iff.mp H
         obtain ⟨t383, A2310, H⟩ := H
         replace H : (some t383) = some r := H
         have A231 := Aside0.mk A2310
         clear A2310
         obtain rfl := Option.some.inj H
         obtain ⟨Q21, hQ21_⟩ : ∃ q_ : Array Value, q_ = (#[.string a0_0, .string a0_1, .string a0_2, .int .i64 a0_3, .string a0_4, .string a0_5, .string a0_6, .string a0_7, .string a0_8, .int .i64 a0_9, .int .i64 a0_10, .string a0_11, .bool a0_12, .int .i64 a0_13, .string a0_14, .string a0_15, .string a0_16, .int .i64 a0_17, .int .i64 a0_18, .int .i64 a0_19, .bool a0_20, .bool a0_21, .int .i64 a0_22, .int .i64 a0_23, .bool a0_24, .string a0_25, .string a0_26, .string a0_27, .int .i64 a0_28, .int .i64 a0_29, .int .i64 a0_30, .bool a0_31, .int .u16 a0_32] : Array Value) := ⟨_, rfl⟩
         try rw [← hQ21_]
         have hQ21 := Aside0.mk hQ21_; have hq := Aside0.mk hQ21_; clear hQ21_
         go_enter Try.func3, Try.ntmps3
         try go_wp2_with (first | ((with_reducible refine gate_dst (N := 1) rfl ?_); refine Ow.box rfl (N := 1) rfl (cs := Q21) (t := 32) HO.out (by first | (go_simp; done) | (go_simp; rfl)) ?_; clear HO; intro gb297 w232 HO; simp only [cons_append, nil_append] at HO) | ((with_reducible refine Ow.gate_build rfl ?_); (try (refine gate_guard (by rfl) ?_; dsimp only)); refine' Ow.tbuild Ot.bd rfl rfl rfl ?hf_ ?_; (case hf_ => repeat (any_goals (first | exact Ow.Fills.nil | (refine' Ow.Fills.c ?hv_ rfl ?hz_ ?_; (case hv_ => first | exact Ow.ev_tmp rfl | rfl); (case hz_ => first | (refine ⟨?_, ?_⟩ <;> ((try simp only [hq.1]) <;> rfl)) | fail)))))) | ((with_reducible refine Ow.gate_load rfl ?_); (try (refine gate_guard (by rfl) ?_; dsimp only)); (first | refine Ow.l1 Ot.ty HO.out rfl rfl rfl rfl (by (try simp only [hq.1]) <;> rfl) ?_ | refine Ow.l0 Ot.ty HO.out rfl rfl rfl rfl (by (try simp only [hq.1]) <;> rfl) ?_ | refine Ow.lp Ot.ty HO.out rfl rfl rfl rfl (by (try simp only [hq.1]) <;> rfl) ?_)) | ((with_reducible refine gate_store rfl ?_); (try (refine gate_guard (by rfl) ?_; dsimp only)); (first | refine Ow.s0 Ot.ty HO.out rfl rfl rfl rfl rfl (by first | exact Ow.ev_tmp rfl | rfl) (by first | (refine ⟨?_, ?_, ?_⟩ <;> ((try simp only [hq.1]) <;> rfl)) | fail) ?_ | refine Ow.sp Ot.ty HO.out rfl rfl rfl rfl rfl (by first | exact Ow.ev_tmp rfl | rfl) (by first | (refine ⟨?_, ?_, ?_⟩ <;> ((try simp only [hq.1]) <;> rfl)) | fail) ?_); clear HO; intro wz_ HO; simp only [u2, u3] at HO))
         refine Ow.ostart (n := 16) (ds := []) (Ow.B 16 0) HO.out (by kernel_rfl) rfl (by kernel_rfl) ?_
         intro hHeld; replace HO := Aside0.mk hHeld; refine with_tabW bursarlaw26_DisputeOnce.tab1 bursarlaw26_DisputeOnce.bits1 (fun HT_ HW_ => ?_)
         refine' Ow.pu (i := 0) (N := some 17) (Ow.B 16 1) HT_.out ?hv_ ?ha_ ?_; (case hv_ => intro w'; go_simp; with_reducible rfl); (case ha_ => simp only [Ow.Sl, i64_w, i32_w]; rfl)
         refine' Ow.pu (i := 3) (N := some 20) (Ow.B 16 9) HT_.out ?hv_ ?ha_ ?_; (case hv_ => intro w'; go_simp; with_reducible rfl); (case ha_ => simp only [Ow.Sl, i64_w, i32_w]; rfl)
         refine' Ow.pu (i := 6) (N := some 23) (Ow.B 16 73) HT_.out ?hv_ ?ha_ ?_; (case hv_ => intro w'; go_simp; with_reducible rfl); (case ha_ => simp only [Ow.Sl, i64_w, i32_w]; rfl)
         refine' Ow.pu (i := 8) (N := some 25) (Ow.B 16 329) HT_.out ?hv_ ?ha_ ?_; (case hv_ => intro w'; go_simp; with_reducible rfl); (case ha_ => simp only [Ow.Sl, i64_w, i32_w]; rfl)
         refine take_ (i := 1) (N := some 18) (v := ?_) (a' := ?_) (Ow.B 16 331) rfl rfl (take_ofW HT_.out HW_.out (by kernel_rfl)) (fun _ _ _ h => h) (Or.inl ⟨by rfl, ?_⟩) hHeld ?_ ?_
         rotate_left
         ·intro w' s_
          first | refine Ow.r1 Ot.ty s_ rfl rfl rfl (by (try simp only [hq.1]) <;> rfl) | (refine' Ow.r0 Ot.ty s_ rfl rfl rfl ?h; (case h => first | ((try simp only [hq.1]) <;> rfl) | fail)) | (refine' Ow.rp Ot.ty s_ rfl rfl rfl ?h; (case h => first | ((try simp only [hq.1]) <;> rfl) | fail)) | (go_simp; with_reducible rfl)
         rotate_left
         ·simp only [Act.put, u1, u2, u3, i64_w, i32_w]
          rfl
         refine take_ (i := 4) (N := some 21) (v := ?_) (a' := ?_) (Ow.B 16 347) rfl rfl (take_ofW HT_.out HW_.out (by kernel_rfl)) (fun _ _ _ h => h) (Or.inl ⟨by rfl, ?_⟩) hHeld ?_ ?_
         rotate_left
         ·intro w' s_
          first | refine Ow.r1 Ot.ty s_ rfl rfl rfl (by (try simp only [hq.1]) <;> rfl) | (refine' Ow.r0 Ot.ty s_ rfl rfl rfl ?h; (case h => first | ((try simp only [hq.1]) <;> rfl) | fail)) | (refine' Ow.rp Ot.ty s_ rfl rfl rfl ?h; (case h => first | ((try simp only [hq.1]) <;> rfl) | fail)) | (go_simp; with_reducible rfl)
         rotate_left
         ·simp only [Act.put, u1, u2, u3, i64_w, i32_w]
          rfl
         refine take_ (i := 7) (N := some 24) (v := ?_) (a' := ?_) (Ow.B 16 475) rfl rfl (take_ofW HT_.out HW_.out (by kernel_rfl)) (fun _ _ _ h => h) (Or.inl ⟨by rfl, ?_⟩) hHeld ?_ ?_
         rotate_left
         ·intro w' s_
          first | refine Ow.r1 Ot.ty s_ rfl rfl rfl (by (try simp only [hq.1]) <;> rfl) | (refine' Ow.r0 Ot.ty s_ rfl rfl rfl ?h; (case h => first | ((try simp only [hq.1]) <;> rfl) | fail)) | (refine' Ow.rp Ot.ty s_ rfl rfl rfl ?h; (case h => first | ((try simp only [hq.1]) <;> rfl) | fail)) | (go_simp; with_reducible rfl)
         rotate_left
         ·simp only [Act.put, u1, u2, u3, i64_w, i32_w]
          rfl
         refine take_ (i := 9) (N := some 26) (v := ?_) (a' := ?_) (Ow.B 16 987) rfl rfl (take_ofW HT_.out HW_.out (by kernel_rfl)) (fun _ _ _ h => h) (Or.inl ⟨by rfl, ?_⟩) hHeld ?_ ?_
         rotate_left
         ·intro w' s_
          first | refine Ow.r1 Ot.ty s_ rfl rfl rfl (by (try simp only [hq.1]) <;> rfl) | (refine' Ow.r0 Ot.ty s_ rfl rfl rfl ?h; (case h => first | ((try simp only [hq.1]) <;> rfl) | fail)) | (refine' Ow.rp Ot.ty s_ rfl rfl rfl ?h; (case h => first | ((try simp only [hq.1]) <;> rfl) | fail)) | (go_simp; with_reducible rfl)
         rotate_left
         ·simp only [Act.put, u1, u2, u3, i64_w, i32_w]
          rfl
         refine join_ (σ := Nat × Nat) 4 (Ow.B 16 4095) (fun s_ => [(19, .agg #[.string t298, .string t299, .string t300, .int .i64 t301, .string t302, .string t303, .string t304, .string t305, .string t306, .int .i64 t307, .int .i64 t308, .string t309, .bool t310, .int .i64 t311, .string t312, .string t313, .string t314, .int .i64 t315, .int .i64 t316, .int .i64 t317, .bool t318, .bool t319, .int .i64 t320, .int .i64 t321, .bool t322]), (22, .agg #[.string t323, .string t324, .string t325, .int .i64 t326, .int .i64 t327, .int .i64 t328]), (3, .pointer (some ⟨s_.1, 0, none⟩)), (4, .pointer (some ⟨s_.2, 0, none⟩))]) (fun s_ w' => Ow.Own w w' [(gb297, Q21, 32), (s_.1, Z25, 27), (s_.2, Z6, 29)]) ?_ ?_
         rotate_left
         ·intro hJ2_5_10_11
          refine join_ (σ := Nat) 5 (Ow.B 16 2047) (fun s_ => [(19, .agg #[.string t298, .string t299, .string t300, .int .i64 t301, .string t302, .string t303, .string t304, .string t305, .string t306, .int .i64 t307, .int .i64 t308, .string t309, .bool t310, .int .i64 t311, .string t312, .string t313, .string t314, .int .i64 t315, .int .i64 t316, .int .i64 t317, .bool t318, .bool t319, .int .i64 t320, .int .i64 t321, .bool t322]), (22, .agg #[.string t323, .string t324, .string t325, .int .i64 t326, .int .i64 t327, .int .i64 t328]), (3, .pointer (some ⟨s_, 0, none⟩))]) (fun s_ w' => Ow.Own w w' [(gb297, Q21, 32), (s_, Z25, 27)]) ?_ ?_
          rotate_left
          ·intro hJ2_5_10
           refine join_ (σ := Nat) 5 (Ow.B 16 3071) (fun s_ => [(19, .agg #[.string t298, .string t299, .string t300, .int .i64 t301, .string t302, .string t303, .string t304, .string t305, .string t306, .int .i64 t307, .int .i64 t308, .string t309, .bool t310, .int .i64 t311, .string t312, .string t313, .string t314, .int .i64 t315, .int .i64 t316, .int .i64 t317, .bool t318, .bool t319, .int .i64 t320, .int .i64 t321, .bool t322]), (22, .agg #[.string t323, .string t324, .string t325, .int .i64 t326, .int .i64 t327, .int .i64 t328]), (4, .pointer (some ⟨s_, 0, none⟩))]) (fun s_ w' => Ow.Own w w' [(gb297, Q21, 32), (s_, Z6, 29)]) ?_ ?_
           rotate_left
           ·intro hJ2_5_11
            refine join_ (σ := Nat × Nat) 5 (Ow.B 16 4063) (fun s_ => [(19, .agg #[.string t298, .string t299, .string t300, .int .i64 t301, .string t302, .string t303, .string t304, .string t305, .string t306, .int .i64 t307, .int .i64 t308, .string t309, .bool t310, .int .i64 t311, .string t312, .string t313, .string t314, .int .i64 t315, .int .i64 t316, .int .i64 t317, .bool t318, .bool t319, .int .i64 t320, .int .i64 t321, .bool t322]), (3, .pointer (some ⟨s_.1, 0, none⟩)), (4, .pointer (some ⟨s_.2, 0, none⟩))]) (fun s_ w' => Ow.Own w w' [(gb297, Q21, 32), (s_.1, Z25, 27), (s_.2, Z6, 29)]) ?_ ?_
            rotate_left
            ·intro hJ2_10_11
             refine join_ (σ := Unit) 6 (Ow.B 16 1023) (fun s_ => [(19, .agg #[.string t298, .string t299, .string t300, .int .i64 t301, .string t302, .string t303, .string t304, .string t305, .string t306, .int .i64 t307, .int .i64 t308, .string t309, .bool t310, .int .i64 t311, .string t312, .string t313, .string t314, .int .i64 t315, .int .i64 t316, .int .i64 t317, .bool t318, .bool t319, .int .i64 t320, .int .i64 t321, .bool t322]), (22, .agg #[.string t323, .string t324, .string t325, .int .i64 t326, .int .i64 t327, .int .i64 t328])]) (fun s_ w' => Ow.Own w w' [(gb297, Q21, 32)]) ?_ ?_
             rotate_left
             ·intro hJ2_5
              refine join_ (σ := Nat) 6 (Ow.B 16 2015) (fun s_ => [(19, .agg #[.string t298, .string t299, .string t300, .int .i64 t301, .string t302, .string t303, .string t304, .string t305, .string t306, .int .i64 t307, .int .i64 t308, .string t309, .bool t310, .int .i64 t311, .string t312, .string t313, .string t314, .int .i64 t315, .int .i64 t316, .int .i64 t317, .bool t318, .bool t319, .int .i64 t320, .int .i64 t321, .bool t322]), (3, .pointer (some ⟨s_, 0, none⟩))]) (fun s_ w' => Ow.Own w w' [(gb297, Q21, 32), (s_, Z25, 27)]) ?_ ?_
              rotate_left
              ·intro hJ2_10
               refine join_ (σ := Nat) 6 (Ow.B 16 3039) (fun s_ => [(19, .agg #[.string t298, .string t299, .string t300, .int .i64 t301, .string t302, .string t303, .string t304, .string t305, .string t306, .int .i64 t307, .int .i64 t308, .string t309, .bool t310, .int .i64 t311, .string t312, .string t313, .string t314, .int .i64 t315, .int .i64 t316, .int .i64 t317, .bool t318, .bool t319, .int .i64 t320, .int .i64 t321, .bool t322]), (4, .pointer (some ⟨s_, 0, none⟩))]) (fun s_ w' => Ow.Own w w' [(gb297, Q21, 32), (s_, Z6, 29)]) ?_ ?_
               rotate_left
               ·intro hJ2_11
                refine join_ (σ := Nat × Nat) 6 (Ow.B 16 4059) (fun s_ => [(3, .pointer (some ⟨s_.1, 0, none⟩)), (4, .pointer (some ⟨s_.2, 0, none⟩))]) (fun s_ w' => Ow.Own w w' [(gb297, Q21, 32), (s_.1, Z25, 27), (s_.2, Z6, 29)]) ?_ ?_
                rotate_left
                ·intro hJ10_11
                 refine join_ (σ := Unit) 7 (Ow.B 16 991) (fun s_ => [(19, .agg #[.string t298, .string t299, .string t300, .int .i64 t301, .string t302, .string t303, .string t304, .string t305, .string t306, .int .i64 t307, .int .i64 t308, .string t309, .bool t310, .int .i64 t311, .string t312, .string t313, .string t314, .int .i64 t315, .int .i64 t316, .int .i64 t317, .bool t318, .bool t319, .int .i64 t320, .int .i64 t321, .bool t322])]) (fun s_ w' => Ow.Own w w' [(gb297, Q21, 32)]) ?_ ?_
                 rotate_left
                 ·intro hJ2
                  refine join_ (σ := Nat) 7 (Ow.B 16 2011) (fun s_ => [(3, .pointer (some ⟨s_, 0, none⟩))]) (fun s_ w' => Ow.Own w w' [(gb297, Q21, 32), (s_, Z25, 27)]) ?_ ?_
                  rotate_left
                  ·intro hJ10
                   refine join_ (σ := Nat) 7 (Ow.B 16 3035) (fun s_ => [(4, .pointer (some ⟨s_, 0, none⟩))]) (fun s_ w' => Ow.Own w w' [(gb297, Q21, 32), (s_, Z6, 29)]) ?_ ?_
                   rotate_left
                   ·intro hJ11
                    refine three_ (i := 2) (j := 10) (k := 11) (Ni := some 19) (Nj := some 3) (Nk := some 4) (Ow.B 16 991) (Ow.B 16 2011) (Ow.B 16 3035) rfl rfl rfl rfl rfl rfl (three_of HT_.out (by kernel_rfl)) (by decide) (by decide) (by decide) (fun K hK => ?_) (fun K hK => ?_) (fun K hK => ?_)
                    ·skip
                     obtain ⟨Q22, hQ22_⟩ : ∃ q_ : Array Value, q_ = (#[.string a0_0, .string a0_1, .string a0_2, .int .i64 a0_3, .string a0_4, .string a0_5, .string a0_6, .string a0_7, .string a0_8, .int .i64 a0_9, .int .i64 a0_10, .string a0_11, .bool a0_12, .int .i64 a0_13, .string a0_14, .string a0_15, .string a0_16, .int .i64 a0_17, .int .i64 a0_18, .int .i64 a0_19, .bool a0_20, .bool a0_21, .int .i64 a0_22, .int .i64 a0_23, .bool a0_24] : Array Value) := ⟨_, rfl⟩
                     try rw [← hQ22_]
                     have hQ22 := Aside0.mk hQ22_; replace hq := Aside0.mk (And.intro hQ22_ hq.1); clear hQ22_
                     refine goes_ Try.func15 (by kernel_rfl) rfl #[.agg Q22] (by rfl) rfl rfl (by (try simp only [map_toArray, map_cons, map_nil]); first | done | rfl | (simp only [hq.1] <;> rfl) | (simp only [length_drop, length_take]; rfl)) ?_
                     obtain ⟨Q23, hQ23_⟩ : ∃ q_ : Array Value, q_ = (#[.string t298, .string t299, .string t300, .int .i64 t301, .string t302, .string t303, .string t304, .string t305, .string t306, .int .i64 t307, .int .i64 t308, .string t309, .bool t310, .int .i64 t311, .string t312, .string t313, .string t314, .int .i64 t315, .int .i64 t316, .int .i64 t317, .bool t318, .bool t319, .int .i64 t320, .int .i64 t321, .bool t322] : Array Value) := ⟨_, rfl⟩
                     try rw [← hQ23_]
                     have hQ23 := Aside0.mk hQ23_; replace hq := Aside0.mk (And.intro hQ23_ hq.1); clear hQ23_
                     refine Calls.mono (calls_of_args (by (try simp only [hq.1]) <;> rfl) (bursarlaw22_Few.calls a0_0 a0_1 a0_2 a0_3 a0_4 a0_5 a0_6 a0_7 a0_8 a0_9 a0_10 a0_11 a0_12 a0_13 a0_14 a0_15 a0_16 a0_17 a0_18 a0_19 a0_20 a0_21 a0_22 a0_23 a0_24 t298 t299 t300 t301 t302 t303 t304 t305 t306 t307 t308 t309 t310 t311 t312 t313 t314 t315 t316 t317 t318 t319 t320 t321 t322 _ A2.out)) ?_
                     rintro e w234 ⟨he_, hb⟩
                     (try rw [← hQ23.out] at he_)
                     subst he_
                     replace HO := Aside0.mk (Ow.Own.call HO.out hb)
                     clear hb
                     refine ⟨_, rfl, ?_⟩
                     refine hK.out _ _ (by first | exact HO.out | exact cong HO.out (by (try simp only [hq.1]) <;> rfl)) (fun hHeld => ?_)
                     clear hK K
                     refine norm_ (a' := ?_) ?_ ?_
                     rotate_left
                     ·show Act.put _ (some 19) _ = _
                      simp only [Act.put, u1, u2, u3, i64_w, i32_w]
                      rfl
                     exact norm_ (by simp only [hq.1, putAll, Act.put, u1, u2, u3] <;> rfl) (hJ2 () _ (cong (pick [0] HO.out (by decide)) (by (try simp only [hq.1]) <;> rfl)))
                    ·skip
                     refine box_step ?hg (N := 3) ?hd (cs := Z25) (t := 27) ?hr ?_; (case hd => rfl); (case hg => rfl); (case hr => first | (go_simp; done) | (go_simp; rfl))
                     intro gb329 hg w234 hbox hb
                     replace HO := Aside0.mk (Ow.Own.add HO.out hg hbox hb)
                     clear hb hbox hg
                     simp only [cons_append, nil_append] at HO
                     refine hK.out _ _ (by have h_ := pick [0] HO.out (by decide); first | exact h_ | exact cong h_ (by (try simp only [hq.1]) <;> rfl)) (fun hHeld => ?_)
                     clear hK K
                     refine norm_ (a' := ?_) ?_ ?_
                     rotate_left
                     ·show Act.put _ (some 3) _ = _
                      simp only [Act.put, u1, u2, u3, i64_w, i32_w]
                      rfl
                     exact norm_ (by simp only [hq.1, putAll, Act.put, u1, u2, u3] <;> rfl) (hJ10 (gb329) _ (cong (pick [0, 1] HO.out (by decide)) (by (try simp only [hq.1]) <;> rfl)))
                    ·skip
                     refine box_step ?hg (N := 4) ?hd (cs := Z6) (t := 29) ?hr ?_; (case hd => rfl); (case hg => rfl); (case hr => first | (go_simp; done) | (go_simp; rfl))
                     intro gb330 hg w234 hbox hb
                     replace HO := Aside0.mk (Ow.Own.add HO.out hg hbox hb)
                     clear hb hbox hg
                     simp only [cons_append, nil_append] at HO
                     refine hK.out _ _ (by have h_ := pick [0] HO.out (by decide); first | exact h_ | exact cong h_ (by (try simp only [hq.1]) <;> rfl)) (fun hHeld => ?_)
                     clear hK K
                     refine norm_ (a' := ?_) ?_ ?_
                     rotate_left
                     ·show Act.put _ (some 4) _ = _
                      simp only [Act.put, u1, u2, u3, i64_w, i32_w]
                      rfl
                     exact norm_ (by simp only [hq.1, putAll, Act.put, u1, u2, u3] <;> rfl) (hJ11 (gb330) _ (cong (pick [0, 1] HO.out (by decide)) (by (try simp only [hq.1]) <;> rfl)))
                   ·skip
                    rintro gb330 w235 HO7_
                    clear HO
                    have HO := Aside0.mk HO7_
                    clear HO7_
                    have hHeld := pick [0] HO.out (by decide)
                    refine norm_ (a' := ?_) ?_ ?_
                    rotate_left
                    ·simp only [putAll, Act.put, u1, u2, u3]
                     rfl
                    refine two_ (i := 2) (j := 10) (Ni := some 19) (Nj := some 3) (Ow.B 16 3039) (Ow.B 16 4059) rfl rfl rfl rfl (two_of HT_.out (by kernel_rfl)) (by decide) (by decide) (fun K hK => ?_) (fun K hK => ?_)
                    ·skip
                     obtain ⟨Q24, hQ24_⟩ : ∃ q_ : Array Value, q_ = (#[.string a0_0, .string a0_1, .string a0_2, .int .i64 a0_3, .string a0_4, .string a0_5, .string a0_6, .string a0_7, .string a0_8, .int .i64 a0_9, .int .i64 a0_10, .string a0_11, .bool a0_12, .int .i64 a0_13, .string a0_14, .string a0_15, .string a0_16, .int .i64 a0_17, .int .i64 a0_18, .int .i64 a0_19, .bool a0_20, .bool a0_21, .int .i64 a0_22, .int .i64 a0_23, .bool a0_24] : Array Value) := ⟨_, rfl⟩
                     try rw [← hQ24_]
                     have hQ24 := Aside0.mk hQ24_; replace hq := Aside0.mk (And.intro hQ24_ hq.1); clear hQ24_
                     refine goes_ Try.func15 (by kernel_rfl) rfl #[.agg Q24] (by rfl) rfl rfl (by (try simp only [map_toArray, map_cons, map_nil]); first | done | rfl | (simp only [hq.1] <;> rfl) | (simp only [length_drop, length_take]; rfl)) ?_
                     obtain ⟨Q25, hQ25_⟩ : ∃ q_ : Array Value, q_ = (#[.string t298, .string t299, .string t300, .int .i64 t301, .string t302, .string t303, .string t304, .string t305, .string t306, .int .i64 t307, .int .i64 t308, .string t309, .bool t310, .int .i64 t311, .string t312, .string t313, .string t314, .int .i64 t315, .int .i64 t316, .int .i64 t317, .bool t318, .bool t319, .int .i64 t320, .int .i64 t321, .bool t322] : Array Value) := ⟨_, rfl⟩
                     try rw [← hQ25_]
                     have hQ25 := Aside0.mk hQ25_; replace hq := Aside0.mk (And.intro hQ25_ hq.1); clear hQ25_
                     refine Calls.mono (calls_of_args (by (try simp only [hq.1]) <;> rfl) (bursarlaw22_Few.calls a0_0 a0_1 a0_2 a0_3 a0_4 a0_5 a0_6 a0_7 a0_8 a0_9 a0_10 a0_11 a0_12 a0_13 a0_14 a0_15 a0_16 a0_17 a0_18 a0_19 a0_20 a0_21 a0_22 a0_23 a0_24 t298 t299 t300 t301 t302 t303 t304 t305 t306 t307 t308 t309 t310 t311 t312 t313 t314 t315 t316 t317 t318 t319 t320 t321 t322 _ A2.out)) ?_
                     rintro e w236 ⟨he_, hb⟩
                     (try rw [← hQ25.out] at he_)
                     subst he_
                     replace HO := Aside0.mk (Ow.Own.call HO.out hb)
                     clear hb
                     refine ⟨_, rfl, ?_⟩
                     refine hK.out _ _ (by have h_ := pick [0] HO.out (by decide); first | exact h_ | exact cong h_ (by (try simp only [hq.1]) <;> rfl)) (fun hHeld => ?_)
                     clear hK K
                     refine norm_ (a' := ?_) ?_ ?_
                     rotate_left
                     ·show Act.put _ (some 19) _ = _
                      simp only [Act.put, u1, u2, u3, i64_w, i32_w]
                      rfl
                     exact norm_ (by simp only [hq.1, putAll, Act.put, u1, u2, u3] <;> rfl) (hJ2_11 (gb330) _ (cong (pick [0, 1] HO.out (by decide)) (by (try simp only [hq.1]) <;> rfl)))
                    ·skip
                     refine box_step ?hg (N := 3) ?hd (cs := Z25) (t := 27) ?hr ?_; (case hd => rfl); (case hg => rfl); (case hr => first | (go_simp; done) | (go_simp; rfl))
                     intro gb329 hg w236 hbox hb
                     replace HO := Aside0.mk (Ow.Own.add HO.out hg hbox hb)
                     clear hb hbox hg
                     simp only [cons_append, nil_append] at HO
                     refine hK.out _ _ (by have h_ := pick [0] HO.out (by decide); first | exact h_ | exact cong h_ (by (try simp only [hq.1]) <;> rfl)) (fun hHeld => ?_)
                     clear hK K
                     refine norm_ (a' := ?_) ?_ ?_
                     rotate_left
                     ·show Act.put _ (some 3) _ = _
                      simp only [Act.put, u1, u2, u3, i64_w, i32_w]
                      rfl
                     exact norm_ (by simp only [hq.1, putAll, Act.put, u1, u2, u3] <;> rfl) (hJ10_11 (gb329, gb330) _ (cong (pick [0, 2, 1] HO.out (by decide)) (by (try simp only [hq.1]) <;> rfl)))
                  ·skip
                   rintro gb329 w235 HO7_
                   clear HO
                   have HO := Aside0.mk HO7_
                   clear HO7_
                   have hHeld := pick [0] HO.out (by decide)
                   refine norm_ (a' := ?_) ?_ ?_
                   rotate_left
                   ·simp only [putAll, Act.put, u1, u2, u3]
                    rfl
                   refine two_ (i := 2) (j := 11) (Ni := some 19) (Nj := some 4) (Ow.B 16 2015) (Ow.B 16 4059) rfl rfl rfl rfl (two_of HT_.out (by kernel_rfl)) (by decide) (by decide) (fun K hK => ?_) (fun K hK => ?_)
                   ·skip
                    obtain ⟨Q26, hQ26_⟩ : ∃ q_ : Array Value, q_ = (#[.string a0_0, .string a0_1, .string a0_2, .int .i64 a0_3, .string a0_4, .string a0_5, .string a0_6, .string a0_7, .string a0_8, .int .i64 a0_9, .int .i64 a0_10, .string a0_11, .bool a0_12, .int .i64 a0_13, .string a0_14, .string a0_15, .string a0_16, .int .i64 a0_17, .int .i64 a0_18, .int .i64 a0_19, .bool a0_20, .bool a0_21, .int .i64 a0_22, .int .i64 a0_23, .bool a0_24] : Array Value) := ⟨_, rfl⟩
                    try rw [← hQ26_]
                    have hQ26 := Aside0.mk hQ26_; replace hq := Aside0.mk (And.intro hQ26_ hq.1); clear hQ26_
                    refine goes_ Try.func15 (by kernel_rfl) rfl #[.agg Q26] (by rfl) rfl rfl (by (try simp only [map_toArray, map_cons, map_nil]); first | done | rfl | (simp only [hq.1] <;> rfl) | (simp only [length_drop, length_take]; rfl)) ?_
                    obtain ⟨Q27, hQ27_⟩ : ∃ q_ : Array Value, q_ = (#[.string t298, .string t299, .string t300, .int .i64 t301, .string t302, .string t303, .string t304, .string t305, .string t306, .int .i64 t307, .int .i64 t308, .string t309, .bool t310, .int .i64 t311, .string t312, .string t313, .string t314, .int .i64 t315, .int .i64 t316, .int .i64 t317, .bool t318, .bool t319, .int .i64 t320, .int .i64 t321, .bool t322] : Array Value) := ⟨_, rfl⟩
                    try rw [← hQ27_]
                    have hQ27 := Aside0.mk hQ27_; replace hq := Aside0.mk (And.intro hQ27_ hq.1); clear hQ27_
                    refine Calls.mono (calls_of_args (by (try simp only [hq.1]) <;> rfl) (bursarlaw22_Few.calls a0_0 a0_1 a0_2 a0_3 a0_4 a0_5 a0_6 a0_7 a0_8 a0_9 a0_10 a0_11 a0_12 a0_13 a0_14 a0_15 a0_16 a0_17 a0_18 a0_19 a0_20 a0_21 a0_22 a0_23 a0_24 t298 t299 t300 t301 t302 t303 t304 t305 t306 t307 t308 t309 t310 t311 t312 t313 t314 t315 t316 t317 t318 t319 t320 t321 t322 _ A2.out)) ?_
                    rintro e w236 ⟨he_, hb⟩
                    (try rw [← hQ27.out] at he_)
                    subst he_
                    replace HO := Aside0.mk (Ow.Own.call HO.out hb)
                    clear hb
                    refine ⟨_, rfl, ?_⟩
                    refine hK.out _ _ (by have h_ := pick [0] HO.out (by decide); first | exact h_ | exact cong h_ (by (try simp only [hq.1]) <;> rfl)) (fun hHeld => ?_)
                    clear hK K
                    refine norm_ (a' := ?_) ?_ ?_
                    rotate_left
                    ·show Act.put _ (some 19) _ = _
                     simp only [Act.put, u1, u2, u3, i64_w, i32_w]
                     rfl
                    exact norm_ (by simp only [hq.1, putAll, Act.put, u1, u2, u3] <;> rfl) (hJ2_10 (gb329) _ (cong (pick [0, 1] HO.out (by decide)) (by (try simp only [hq.1]) <;> rfl)))
                   ·skip
                    refine box_step ?hg (N := 4) ?hd (cs := Z6) (t := 29) ?hr ?_; (case hd => rfl); (case hg => rfl); (case hr => first | (go_simp; done) | (go_simp; rfl))
                    intro gb330 hg w236 hbox hb
                    replace HO := Aside0.mk (Ow.Own.add HO.out hg hbox hb)
                    clear hb hbox hg
                    simp only [cons_append, nil_append] at HO
                    refine hK.out _ _ (by have h_ := pick [0] HO.out (by decide); first | exact h_ | exact cong h_ (by (try simp only [hq.1]) <;> rfl)) (fun hHeld => ?_)
                    clear hK K
                    refine norm_ (a' := ?_) ?_ ?_
                    rotate_left
                    ·show Act.put _ (some 4) _ = _
                     simp only [Act.put, u1, u2, u3, i64_w, i32_w]
                     rfl
                    exact norm_ (by simp only [hq.1, putAll, Act.put, u1, u2, u3] <;> rfl) (hJ10_11 (gb329, gb330) _ (cong (pick [0, 1, 2] HO.out (by decide)) (by (try simp only [hq.1]) <;> rfl)))
                 ·skip
                  rintro _ w235 HO7_
                  clear HO
                  have HO := Aside0.mk HO7_
                  clear HO7_
                  have hHeld := pick [0] HO.out (by decide)
                  refine norm_ (a' := ?_) ?_ ?_
                  rotate_left
                  ·simp only [putAll, Act.put, u1, u2, u3]
                   rfl
                  refine three_ (i := 5) (j := 10) (k := 11) (Ni := some 22) (Nj := some 3) (Nk := some 4) (Ow.B 16 1023) (Ow.B 16 2015) (Ow.B 16 3039) rfl rfl rfl rfl rfl rfl (three_of HT_.out (by kernel_rfl)) (by decide) (by decide) (by decide) (fun K hK => ?_) (fun K hK => ?_) (fun K hK => ?_)
                  ·skip
                   refine goes_ Try.func16 (by kernel_rfl) rfl #[.agg #[.string a0_25, .string a0_26, .string a0_27, .int .i64 a0_28, .int .i64 a0_29, .int .i64 a0_30]] (by rfl) rfl rfl (by (try simp only [map_toArray, map_cons, map_nil]); first | done | rfl | (simp only [hq.1] <;> rfl) | (simp only [length_drop, length_take]; rfl)) ?_
                   refine Calls.mono (calls_of_args (by (try simp only [hq.1]) <;> rfl) (bursarlaw26_few.calls a0_25 a0_26 a0_27 a0_28 a0_29 a0_30 t323 t324 t325 t326 t327 t328 _ A3.out)) ?_
                   rintro e w236 ⟨he_, hb⟩
                   subst he_
                   replace HO := Aside0.mk (Ow.Own.call HO.out hb)
                   clear hb
                   refine ⟨_, rfl, ?_⟩
                   refine hK.out _ _ (by first | exact HO.out | exact cong HO.out (by (try simp only [hq.1]) <;> rfl)) (fun hHeld => ?_)
                   clear hK K
                   refine norm_ (a' := ?_) ?_ ?_
                   rotate_left
                   ·show Act.put _ (some 22) _ = _
                    simp only [Act.put, u1, u2, u3, i64_w, i32_w]
                    rfl
                   exact norm_ (by simp only [hq.1, putAll, Act.put, u1, u2, u3] <;> rfl) (hJ2_5 () _ (cong (pick [0] HO.out (by decide)) (by (try simp only [hq.1]) <;> rfl)))
                  ·skip
                   refine box_step ?hg (N := 3) ?hd (cs := Z25) (t := 27) ?hr ?_; (case hd => rfl); (case hg => rfl); (case hr => first | (go_simp; done) | (go_simp; rfl))
                   intro gb329 hg w236 hbox hb
                   replace HO := Aside0.mk (Ow.Own.add HO.out hg hbox hb)
                   clear hb hbox hg
                   simp only [cons_append, nil_append] at HO
                   refine hK.out _ _ (by have h_ := pick [0] HO.out (by decide); first | exact h_ | exact cong h_ (by (try simp only [hq.1]) <;> rfl)) (fun hHeld => ?_)
                   clear hK K
                   refine norm_ (a' := ?_) ?_ ?_
                   rotate_left
                   ·show Act.put _ (some 3) _ = _
                    simp only [Act.put, u1, u2, u3, i64_w, i32_w]
                    rfl
                   exact norm_ (by simp only [hq.1, putAll, Act.put, u1, u2, u3] <;> rfl) (hJ2_10 (gb329) _ (cong (pick [0, 1] HO.out (by decide)) (by (try simp only [hq.1]) <;> rfl)))
                  ·skip
                   refine box_step ?hg (N := 4) ?hd (cs := Z6) (t := 29) ?hr ?_; (case hd => rfl); (case hg => rfl); (case hr => first | (go_simp; done) | (go_simp; rfl))
                   intro gb330 hg w236 hbox hb
                   replace HO := Aside0.mk (Ow.Own.add HO.out hg hbox hb)
                   clear hb hbox hg
                   simp only [cons_append, nil_append] at HO
                   refine hK.out _ _ (by have h_ := pick [0] HO.out (by decide); first | exact h_ | exact cong h_ (by (try simp only [hq.1]) <;> rfl)) (fun hHeld => ?_)
                   clear hK K
                   refine norm_ (a' := ?_) ?_ ?_
                   rotate_left
                   ·show Act.put _ (some 4) _ = _
                    simp only [Act.put, u1, u2, u3, i64_w, i32_w]
                    rfl
                   exact norm_ (by simp only [hq.1, putAll, Act.put, u1, u2, u3] <;> rfl) (hJ2_11 (gb330) _ (cong (pick [0, 1] HO.out (by decide)) (by (try simp only [hq.1]) <;> rfl)))
                ·skip
                 rintro ⟨gb329, gb330⟩ w236 HO7_
                 clear HO
                 have HO := Aside0.mk HO7_
                 clear HO7_
                 have hHeld := pick [0] HO.out (by decide)
                 refine norm_ (a' := ?_) ?_ ?_
                 rotate_left
                 ·simp only [putAll, Act.put, u1, u2, u3]
                  rfl
                 refine one_ (i := 2) (N := some 19) (Ow.B 16 4063) rfl rfl (one_of HT_.out (by kernel_rfl)) (by decide) (fun K hK => ?_)
                 obtain ⟨Q28, hQ28_⟩ : ∃ q_ : Array Value, q_ = (#[.string a0_0, .string a0_1, .string a0_2, .int .i64 a0_3, .string a0_4, .string a0_5, .string a0_6, .string a0_7, .string a0_8, .int .i64 a0_9, .int .i64 a0_10, .string a0_11, .bool a0_12, .int .i64 a0_13, .string a0_14, .string a0_15, .string a0_16, .int .i64 a0_17, .int .i64 a0_18, .int .i64 a0_19, .bool a0_20, .bool a0_21, .int .i64 a0_22, .int .i64 a0_23, .bool a0_24] : Array Value) := ⟨_, rfl⟩
                 try rw [← hQ28_]
                 have hQ28 := Aside0.mk hQ28_; replace hq := Aside0.mk (And.intro hQ28_ hq.1); clear hQ28_
                 refine goes_ Try.func15 (by kernel_rfl) rfl #[.agg Q28] (by rfl) rfl rfl (by (try simp only [map_toArray, map_cons, map_nil]); first | done | rfl | (simp only [hq.1] <;> rfl) | (simp only [length_drop, length_take]; rfl)) ?_
                 obtain ⟨Q29, hQ29_⟩ : ∃ q_ : Array Value, q_ = (#[.string t298, .string t299, .string t300, .int .i64 t301, .string t302, .string t303, .string t304, .string t305, .string t306, .int .i64 t307, .int .i64 t308, .string t309, .bool t310, .int .i64 t311, .string t312, .string t313, .string t314, .int .i64 t315, .int .i64 t316, .int .i64 t317, .bool t318, .bool t319, .int .i64 t320, .int .i64 t321, .bool t322] : Array Value) := ⟨_, rfl⟩
                 try rw [← hQ29_]
                 have hQ29 := Aside0.mk hQ29_; replace hq := Aside0.mk (And.intro hQ29_ hq.1); clear hQ29_
                 refine Calls.mono (calls_of_args (by (try simp only [hq.1]) <;> rfl) (bursarlaw22_Few.calls a0_0 a0_1 a0_2 a0_3 a0_4 a0_5 a0_6 a0_7 a0_8 a0_9 a0_10 a0_11 a0_12 a0_13 a0_14 a0_15 a0_16 a0_17 a0_18 a0_19 a0_20 a0_21 a0_22 a0_23 a0_24 t298 t299 t300 t301 t302 t303 t304 t305 t306 t307 t308 t309 t310 t311 t312 t313 t314 t315 t316 t317 t318 t319 t320 t321 t322 _ A2.out)) ?_
                 rintro e w237 ⟨he_, hb⟩
                 (try rw [← hQ29.out] at he_)
                 subst he_
                 replace HO := Aside0.mk (Ow.Own.call HO.out hb)
                 clear hb
                 refine ⟨_, rfl, ?_⟩
                 refine hK.out _ _ (by have h_ := pick [0] HO.out (by decide); first | exact h_ | exact cong h_ (by (try simp only [hq.1]) <;> rfl)) (fun hHeld => ?_)
                 clear hK K
                 refine norm_ (a' := ?_) ?_ ?_
                 rotate_left
                 ·show Act.put _ (some 19) _ = _
                  simp only [Act.put, u1, u2, u3, i64_w, i32_w]
                  rfl
                 exact norm_ (by simp only [hq.1, putAll, Act.put, u1, u2, u3] <;> rfl) (hJ2_10_11 (gb329, gb330) _ (cong (pick [0, 1, 2] HO.out (by decide)) (by (try simp only [hq.1]) <;> rfl)))
               ·skip
                rintro gb330 w236 HO7_
                clear HO
                have HO := Aside0.mk HO7_
                clear HO7_
                have hHeld := pick [0] HO.out (by decide)
                refine norm_ (a' := ?_) ?_ ?_
                rotate_left
                ·simp only [putAll, Act.put, u1, u2, u3]
                 rfl
                refine two_ (i := 5) (j := 10) (Ni := some 22) (Nj := some 3) (Ow.B 16 3071) (Ow.B 16 4063) rfl rfl rfl rfl (two_of HT_.out (by kernel_rfl)) (by decide) (by decide) (fun K hK => ?_) (fun K hK => ?_)
                ·skip
                 refine goes_ Try.func16 (by kernel_rfl) rfl #[.agg #[.string a0_25, .string a0_26, .string a0_27, .int .i64 a0_28, .int .i64 a0_29, .int .i64 a0_30]] (by rfl) rfl rfl (by (try simp only [map_toArray, map_cons, map_nil]); first | done | rfl | (simp only [hq.1] <;> rfl) | (simp only [length_drop, length_take]; rfl)) ?_
                 refine Calls.mono (calls_of_args (by (try simp only [hq.1]) <;> rfl) (bursarlaw26_few.calls a0_25 a0_26 a0_27 a0_28 a0_29 a0_30 t323 t324 t325 t326 t327 t328 _ A3.out)) ?_
                 rintro e w237 ⟨he_, hb⟩
                 subst he_
                 replace HO := Aside0.mk (Ow.Own.call HO.out hb)
                 clear hb
                 refine ⟨_, rfl, ?_⟩
                 refine hK.out _ _ (by have h_ := pick [0] HO.out (by decide); first | exact h_ | exact cong h_ (by (try simp only [hq.1]) <;> rfl)) (fun hHeld => ?_)
                 clear hK K
                 refine norm_ (a' := ?_) ?_ ?_
                 rotate_left
                 ·show Act.put _ (some 22) _ = _
                  simp only [Act.put, u1, u2, u3, i64_w, i32_w]
                  rfl
                 exact norm_ (by simp only [hq.1, putAll, Act.put, u1, u2, u3] <;> rfl) (hJ2_5_11 (gb330) _ (cong (pick [0, 1] HO.out (by decide)) (by (try simp only [hq.1]) <;> rfl)))
                ·skip
                 refine box_step ?hg (N := 3) ?hd (cs := Z25) (t := 27) ?hr ?_; (case hd => rfl); (case hg => rfl); (case hr => first | (go_simp; done) | (go_simp; rfl))
                 intro gb329 hg w237 hbox hb
                 replace HO := Aside0.mk (Ow.Own.add HO.out hg hbox hb)
                 clear hb hbox hg
                 simp only [cons_append, nil_append] at HO
                 refine hK.out _ _ (by have h_ := pick [0] HO.out (by decide); first | exact h_ | exact cong h_ (by (try simp only [hq.1]) <;> rfl)) (fun hHeld => ?_)
                 clear hK K
                 refine norm_ (a' := ?_) ?_ ?_
                 rotate_left
                 ·show Act.put _ (some 3) _ = _
                  simp only [Act.put, u1, u2, u3, i64_w, i32_w]
                  rfl
                 exact norm_ (by simp only [hq.1, putAll, Act.put, u1, u2, u3] <;> rfl) (hJ2_10_11 (gb329, gb330) _ (cong (pick [0, 2, 1] HO.out (by decide)) (by (try simp only [hq.1]) <;> rfl)))
              ·skip
               rintro gb329 w236 HO7_
               clear HO
               have HO := Aside0.mk HO7_
               clear HO7_
               have hHeld := pick [0] HO.out (by decide)
               refine norm_ (a' := ?_) ?_ ?_
               rotate_left
               ·simp only [putAll, Act.put, u1, u2, u3]
                rfl
               refine two_ (i := 5) (j := 11) (Ni := some 22) (Nj := some 4) (Ow.B 16 2047) (Ow.B 16 4063) rfl rfl rfl rfl (two_of HT_.out (by kernel_rfl)) (by decide) (by decide) (fun K hK => ?_) (fun K hK => ?_)
               ·skip
                refine goes_ Try.func16 (by kernel_rfl) rfl #[.agg #[.string a0_25, .string a0_26, .string a0_27, .int .i64 a0_28, .int .i64 a0_29, .int .i64 a0_30]] (by rfl) rfl rfl (by (try simp only [map_toArray, map_cons, map_nil]); first | done | rfl | (simp only [hq.1] <;> rfl) | (simp only [length_drop, length_take]; rfl)) ?_
                refine Calls.mono (calls_of_args (by (try simp only [hq.1]) <;> rfl) (bursarlaw26_few.calls a0_25 a0_26 a0_27 a0_28 a0_29 a0_30 t323 t324 t325 t326 t327 t328 _ A3.out)) ?_
                rintro e w237 ⟨he_, hb⟩
                subst he_
                replace HO := Aside0.mk (Ow.Own.call HO.out hb)
                clear hb
                refine ⟨_, rfl, ?_⟩
                refine hK.out _ _ (by have h_ := pick [0] HO.out (by decide); first | exact h_ | exact cong h_ (by (try simp only [hq.1]) <;> rfl)) (fun hHeld => ?_)
                clear hK K
                refine norm_ (a' := ?_) ?_ ?_
                rotate_left
                ·show Act.put _ (some 22) _ = _
                 simp only [Act.put, u1, u2, u3, i64_w, i32_w]
                 rfl
                exact norm_ (by simp only [hq.1, putAll, Act.put, u1, u2, u3] <;> rfl) (hJ2_5_10 (gb329) _ (cong (pick [0, 1] HO.out (by decide)) (by (try simp only [hq.1]) <;> rfl)))
               ·skip
                refine box_step ?hg (N := 4) ?hd (cs := Z6) (t := 29) ?hr ?_; (case hd => rfl); (case hg => rfl); (case hr => first | (go_simp; done) | (go_simp; rfl))
                intro gb330 hg w237 hbox hb
                replace HO := Aside0.mk (Ow.Own.add HO.out hg hbox hb)
                clear hb hbox hg
                simp only [cons_append, nil_append] at HO
                refine hK.out _ _ (by have h_ := pick [0] HO.out (by decide); first | exact h_ | exact cong h_ (by (try simp only [hq.1]) <;> rfl)) (fun hHeld => ?_)
                clear hK K
                refine norm_ (a' := ?_) ?_ ?_
                rotate_left
                ·show Act.put _ (some 4) _ = _
                 simp only [Act.put, u1, u2, u3, i64_w, i32_w]
                 rfl
                exact norm_ (by simp only [hq.1, putAll, Act.put, u1, u2, u3] <;> rfl) (hJ2_10_11 (gb329, gb330) _ (cong (pick [0, 1, 2] HO.out (by decide)) (by (try simp only [hq.1]) <;> rfl)))
             ·skip
              rintro _ w236 HO7_
              clear HO
              have HO := Aside0.mk HO7_
              clear HO7_
              have hHeld := pick [0] HO.out (by decide)
              refine norm_ (a' := ?_) ?_ ?_
              rotate_left
              ·simp only [putAll, Act.put, u1, u2, u3]
               rfl
              refine two_ (i := 10) (j := 11) (Ni := some 3) (Nj := some 4) (Ow.B 16 2047) (Ow.B 16 3071) rfl rfl rfl rfl (two_of HT_.out (by kernel_rfl)) (by decide) (by decide) (fun K hK => ?_) (fun K hK => ?_)
              ·skip
               refine box_step ?hg (N := 3) ?hd (cs := Z25) (t := 27) ?hr ?_; (case hd => rfl); (case hg => rfl); (case hr => first | (go_simp; done) | (go_simp; rfl))
               intro gb329 hg w237 hbox hb
               replace HO := Aside0.mk (Ow.Own.add HO.out hg hbox hb)
               clear hb hbox hg
               simp only [cons_append, nil_append] at HO
               refine hK.out _ _ (by have h_ := pick [0] HO.out (by decide); first | exact h_ | exact cong h_ (by (try simp only [hq.1]) <;> rfl)) (fun hHeld => ?_)
               clear hK K
               refine norm_ (a' := ?_) ?_ ?_
               rotate_left
               ·show Act.put _ (some 3) _ = _
                simp only [Act.put, u1, u2, u3, i64_w, i32_w]
                rfl
               exact norm_ (by simp only [hq.1, putAll, Act.put, u1, u2, u3] <;> rfl) (hJ2_5_10 (gb329) _ (cong (pick [0, 1] HO.out (by decide)) (by (try simp only [hq.1]) <;> rfl)))
              ·skip
               refine box_step ?hg (N := 4) ?hd (cs := Z6) (t := 29) ?hr ?_; (case hd => rfl); (case hg => rfl); (case hr => first | (go_simp; done) | (go_simp; rfl))
               intro gb330 hg w237 hbox hb
               replace HO := Aside0.mk (Ow.Own.add HO.out hg hbox hb)
               clear hb hbox hg
               simp only [cons_append, nil_append] at HO
               refine hK.out _ _ (by have h_ := pick [0] HO.out (by decide); first | exact h_ | exact cong h_ (by (try simp only [hq.1]) <;> rfl)) (fun hHeld => ?_)
               clear hK K
               refine norm_ (a' := ?_) ?_ ?_
               rotate_left
               ·show Act.put _ (some 4) _ = _
                simp only [Act.put, u1, u2, u3, i64_w, i32_w]
                rfl
               exact norm_ (by simp only [hq.1, putAll, Act.put, u1, u2, u3] <;> rfl) (hJ2_5_11 (gb330) _ (cong (pick [0, 1] HO.out (by decide)) (by (try simp only [hq.1]) <;> rfl)))
            ·skip
             rintro ⟨gb329, gb330⟩ w237 HO7_
             clear HO
             have HO := Aside0.mk HO7_
             clear HO7_
             have hHeld := pick [0] HO.out (by decide)
             refine norm_ (a' := ?_) ?_ ?_
             rotate_left
             ·simp only [putAll, Act.put, u1, u2, u3]
              rfl
             refine one_ (i := 5) (N := some 22) (Ow.B 16 4095) rfl rfl (one_of HT_.out (by kernel_rfl)) (by decide) (fun K hK => ?_)
             refine goes_ Try.func16 (by kernel_rfl) rfl #[.agg #[.string a0_25, .string a0_26, .string a0_27, .int .i64 a0_28, .int .i64 a0_29, .int .i64 a0_30]] (by rfl) rfl rfl (by (try simp only [map_toArray, map_cons, map_nil]); first | done | rfl | (simp only [hq.1] <;> rfl) | (simp only [length_drop, length_take]; rfl)) ?_
             refine Calls.mono (calls_of_args (by (try simp only [hq.1]) <;> rfl) (bursarlaw26_few.calls a0_25 a0_26 a0_27 a0_28 a0_29 a0_30 t323 t324 t325 t326 t327 t328 _ A3.out)) ?_
             rintro e w238 ⟨he_, hb⟩
             subst he_
             replace HO := Aside0.mk (Ow.Own.call HO.out hb)
             clear hb
             refine ⟨_, rfl, ?_⟩
             refine hK.out _ _ (by have h_ := pick [0] HO.out (by decide); first | exact h_ | exact cong h_ (by (try simp only [hq.1]) <;> rfl)) (fun hHeld => ?_)
             clear hK K
             refine norm_ (a' := ?_) ?_ ?_
             rotate_left
             ·show Act.put _ (some 22) _ = _
              simp only [Act.put, u1, u2, u3, i64_w, i32_w]
              rfl
             exact norm_ (by simp only [hq.1, putAll, Act.put, u1, u2, u3] <;> rfl) (hJ2_5_10_11 (gb329, gb330) _ (cong (pick [0, 1, 2] HO.out (by decide)) (by (try simp only [hq.1]) <;> rfl)))
           ·skip
            rintro gb330 w237 HO7_
            clear HO
            have HO := Aside0.mk HO7_
            clear HO7_
            have hHeld := pick [0] HO.out (by decide)
            refine norm_ (a' := ?_) ?_ ?_
            rotate_left
            ·simp only [putAll, Act.put, u1, u2, u3]
             rfl
            refine one_ (i := 10) (N := some 3) (Ow.B 16 4095) rfl rfl (one_of HT_.out (by kernel_rfl)) (by decide) (fun K hK => ?_)
            refine box_step ?hg (N := 3) ?hd (cs := Z25) (t := 27) ?hr ?_; (case hd => rfl); (case hg => rfl); (case hr => first | (go_simp; done) | (go_simp; rfl))
            intro gb329 hg w238 hbox hb
            replace HO := Aside0.mk (Ow.Own.add HO.out hg hbox hb)
            clear hb hbox hg
            simp only [cons_append, nil_append] at HO
            refine hK.out _ _ (by have h_ := pick [0] HO.out (by decide); first | exact h_ | exact cong h_ (by (try simp only [hq.1]) <;> rfl)) (fun hHeld => ?_)
            clear hK K
            refine norm_ (a' := ?_) ?_ ?_
            rotate_left
            ·show Act.put _ (some 3) _ = _
             simp only [Act.put, u1, u2, u3, i64_w, i32_w]
             rfl
            exact norm_ (by simp only [hq.1, putAll, Act.put, u1, u2, u3] <;> rfl) (hJ2_5_10_11 (gb329, gb330) _ (cong (pick [0, 2, 1] HO.out (by decide)) (by (try simp only [hq.1]) <;> rfl)))
          ·skip
           rintro gb329 w237 HO7_
           clear HO
           have HO := Aside0.mk HO7_
           clear HO7_
           have hHeld := pick [0] HO.out (by decide)
           refine norm_ (a' := ?_) ?_ ?_
           rotate_left
           ·simp only [putAll, Act.put, u1, u2, u3]
            rfl
           refine one_ (i := 11) (N := some 4) (Ow.B 16 4095) rfl rfl (one_of HT_.out (by kernel_rfl)) (by decide) (fun K hK => ?_)
           refine box_step ?hg (N := 4) ?hd (cs := Z6) (t := 29) ?hr ?_; (case hd => rfl); (case hg => rfl); (case hr => first | (go_simp; done) | (go_simp; rfl))
           intro gb330 hg w238 hbox hb
           replace HO := Aside0.mk (Ow.Own.add HO.out hg hbox hb)
           clear hb hbox hg
           simp only [cons_append, nil_append] at HO
           refine hK.out _ _ (by have h_ := pick [0] HO.out (by decide); first | exact h_ | exact cong h_ (by (try simp only [hq.1]) <;> rfl)) (fun hHeld => ?_)
           clear hK K
           refine norm_ (a' := ?_) ?_ ?_
           rotate_left
           ·show Act.put _ (some 4) _ = _
            simp only [Act.put, u1, u2, u3, i64_w, i32_w]
            rfl
           exact norm_ (by simp only [hq.1, putAll, Act.put, u1, u2, u3] <;> rfl) (hJ2_5_10_11 (gb329, gb330) _ (cong (pick [0, 1, 2] HO.out (by decide)) (by (try simp only [hq.1]) <;> rfl)))
         rintro ⟨gb329, gb330⟩ w238 HO7_
         clear HO
         have HO := Aside0.mk HO7_
         clear HO7_
         have hHeld := pick [0] HO.out (by decide)
         refine norm_ (a' := ?_) ?_ ?_
         rotate_left
         ·simp only [putAll, Act.put, u1, u2, u3]
          rfl
         refine one_ (i := 12) (N := none) (Ow.B 16 8191) rfl rfl (one_of HT_.out (by kernel_rfl)) (by decide) (fun K hK => ?_)
         refine Ow.oskip Ot.ty HO.out (by rfl) rfl rfl rfl rfl (by with_reducible first | exact Ow.at0 | exact Ow.at1 | exact Ow.at2) (by first | exact Ow.ev_tmp rfl | rfl) (by (try simp only [hq.1]) <;> rfl) (by (try simp only [hq.1]) <;> rfl) (by (try simp only [hq.1]) <;> rfl) ?_
         clear HO; intro wz_ HO; simp only [u2, u3] at HO
         refine hK.out _ _ (by have h_ := pick [0] HO.out (by decide); first | exact h_ | exact cong h_ (by (try simp only [hq.1]) <;> rfl)) (fun hHeld => ?_)
         clear hK K
         refine one_ (i := 13) (N := none) (Ow.B 16 16383) rfl rfl (one_of HT_.out (by kernel_rfl)) (by decide) (fun K hK => ?_)
         refine Ow.oskip Ot.ty HO.out (by rfl) rfl rfl rfl rfl (by with_reducible first | exact Ow.at0 | exact Ow.at1 | exact Ow.at2) (by first | exact Ow.ev_tmp rfl | rfl) (by (try simp only [hq.1]) <;> rfl) (by (try simp only [hq.1]) <;> rfl) (by (try simp only [hq.1]) <;> rfl) ?_
         clear HO; intro wz_ HO; simp only [u2, u3] at HO
         refine hK.out _ _ (by have h_ := pick [0] HO.out (by decide); first | exact h_ | exact cong h_ (by (try simp only [hq.1]) <;> rfl)) (fun hHeld => ?_)
         clear hK K
         refine' Ow.pu (i := 14) (N := some 5) (Ow.B 16 32767) HT_.out ?hv_ ?ha_ ?_; (case hv_ => intro w'; go_simp; with_reducible rfl); (case ha_ => simp only [Ow.Sl, i64_w, i32_w]; rfl)
         refine' Ow.pu (i := 15) (N := some 6) (Ow.B 16 65535) HT_.out ?hv_ ?ha_ ?_; (case hv_ => intro w'; go_simp; with_reducible rfl); (case ha_ => simp only [Ow.Sl, i64_w, i32_w]; rfl)
         refine done_ (done_of HT_.out (by kernel_rfl)) ?_
         obtain ⟨Q30, hQ30_⟩ : ∃ q_ : Array Value, q_ = (#[.string t298, .string t299, .string t300, .int .i64 t301, .string t302, .string t303, .string t304, .string t305, .string t306, .int .i64 t307, .int .i64 t308, .string t309, .bool t310, .int .i64 t311, .string t312, .string t313, .string t314, .int .i64 t315, .int .i64 t316, .int .i64 t317, .bool t318, .bool t319, .int .i64 t320, .int .i64 t321, .bool t322] : Array Value) := ⟨_, rfl⟩
         try rw [← hQ30_]
         have hQ30 := Aside0.mk hQ30_; replace hq := Aside0.mk (And.intro hQ30_ hq.1); clear hQ30_
         obtain ⟨Q31, hQ31_⟩ : ∃ q_ : Array Value, q_ = (#[.string t298, .string t299, .string (((⟨#[48]⟩ : ByteArray) ++ (strOfNums y363)) ++ (⟨#[48, 48, 48, 48]⟩ : ByteArray)), .int .i64 t335, .string t302, .string t303, .string t304, .string t305, .string t306, .int .i64 t307, .int .i64 t308, .string t309, .bool t310, .int .i64 t311, .string t312, .string t313, .string t314, .int .i64 t315, .int .i64 t316, .int .i64 t317, .bool t318, .bool t319, .int .i64 (wrap64 (t320 + (wrap64 (a0_32)))), .int .i64 t321, .bool t322] : Array Value) := ⟨_, rfl⟩
         try rw [← hQ31_]
         have hQ31 := Aside0.mk hQ31_; replace hq := Aside0.mk (And.intro hQ31_ hq.1); clear hQ31_
         try go_wp2_with (first | ((with_reducible refine gate_callee (f := 17) rfl ?_); refine goesL_ (some 31) rfl rfl Try.func17 (by kernel_rfl) rfl #[.agg Q30, .agg #[.string t323, .string t324, .string t325, .int .i64 t326, .int .i64 t327, .int .i64 t328], .bool a0_31] rfl (by (try simp only [map_toArray, map_cons, map_nil]); first | done | rfl | (simp only [hq.1] <;> rfl)) ?_; refine Calls.mono (calls_of_args (by (try simp only [hq.1]) <;> rfl) (dispute_Decide.calls k t298 t299 t300 t301 t302 t303 t304 t305 t306 t307 t308 t309 t310 t311 t312 t313 t314 t315 t316 t317 t318 t319 t320 t321 t322 t323 t324 t325 t326 t327 t328 a0_31 t331 t332 t333 t334 t335 t336 t337 t338 t339 t340 t341 t342 t343 _ A4.out)) ?_; rintro e w275 ⟨he_, hb⟩; subst he_; refine ⟨_, rfl, ?_⟩; replace HO := Aside0.mk (Ow.Own.call HO.out hb); clear hb) | ((with_reducible refine gate_dst (N := 7) rfl ?_); refine Ow.box rfl (N := 7) rfl (cs := Z6) (t := 29) HO.out (by first | (go_simp; done) | (go_simp; rfl)) ?_; clear HO; intro gb344 w276 HO; simp only [cons_append, nil_append] at HO) | ((with_reducible refine gate_dst (N := 8) rfl ?_); refine Ow.box rfl (N := 8) rfl (cs := Z6_2) (t := 36) HO.out (by first | (go_simp; done) | (go_simp; rfl)) ?_; clear HO; intro gb345 w277 HO; simp only [cons_append, nil_append] at HO) | ((with_reducible refine gate_callee (f := 17) rfl ?_); refine goesL_ (some 46) rfl rfl Try.func17 (by kernel_rfl) rfl #[.agg Q30, .agg #[.string t331, .string t332, .string t333, .int .i64 t334, .int .i64 t335, .int .i64 t336], .bool true] rfl (by (try simp only [map_toArray, map_cons, map_nil]); first | done | rfl | (simp only [hq.1] <;> rfl)) ?_; refine Calls.mono (calls_of_args (by (try simp only [hq.1]) <;> rfl) (dispute_Decide.calls k t298 t299 t300 t301 t302 t303 t304 t305 t306 t307 t308 t309 t310 t311 t312 t313 t314 t315 t316 t317 t318 t319 t320 t321 t322 t331 t332 t333 t334 t335 t336 true t347 t348 t349 t350 t351 t352 t353 t354 t355 t356 t357 t358 t359 _ A6.out)) ?_; rintro e w291 ⟨he_, hb⟩; subst he_; refine ⟨_, rfl, ?_⟩; replace HO := Aside0.mk (Ow.Own.call HO.out hb); clear hb) | ((with_reducible refine gate_dst (N := 10) rfl ?_); refine Ow.box rfl (N := 10) rfl (cs := Z6) (t := 29) HO.out (by first | (go_simp; done) | (go_simp; rfl)) ?_; clear HO; intro gb360 w292 HO; simp only [cons_append, nil_append] at HO) | ((with_reducible refine gate_dst (N := 11) rfl ?_); refine Ow.box rfl (N := 11) rfl (cs := Z6_2) (t := 36) HO.out (by first | (go_simp; done) | (go_simp; rfl)) ?_; clear HO; intro gb361 w293 HO; simp only [cons_append, nil_append] at HO) | ((with_reducible refine gate_dst (N := 13) rfl ?_); refine Ow.box rfl (N := 13) rfl (cs := Z25) (t := 27) HO.out (by first | (go_simp; done) | (go_simp; rfl)) ?_; clear HO; intro gb362 w310 HO; simp only [cons_append, nil_append] at HO) | ((with_reducible refine gate_dst (N := 58) rfl ?_); refine Ow.lit8 rfl (N := 58) rfl (v := ((wrap64 (48 + (Int.tmod t334 3))) % 256)) (e := 5) Try.underlying40 Try.underlying5 Try.underlying9 HO.out (by first | (go_simp; done) | (go_simp; rfl)) ?_; clear HO; intro gv364 w321 HO hcv_; simp only [cons_append, nil_append] at HO; (try rw [← Ny363.out] at hcv_)) | ((with_reducible refine gate_callee (f := 17) rfl ?_); refine goesL_ (some 81) rfl rfl Try.func17 (by kernel_rfl) rfl #[.agg Q31, .agg #[.string t331, .string t332, .string t333, .int .i64 t334, .int .i64 t335, .int .i64 t336], .bool true] rfl (by (try simp only [map_toArray, map_cons, map_nil]); first | done | rfl | (simp only [hq.1] <;> rfl)) ?_; refine Calls.mono (calls_of_args (by (try simp only [hq.1]) <;> rfl) (dispute_Decide.calls k t298 t299 (((⟨#[48]⟩ : ByteArray) ++ (strOfNums y363)) ++ (⟨#[48, 48, 48, 48]⟩ : ByteArray)) t335 t302 t303 t304 t305 t306 t307 t308 t309 t310 t311 t312 t313 t314 t315 t316 t317 t318 t319 (wrap64 (t320 + (wrap64 (a0_32)))) t321 t322 t331 t332 t333 t334 t335 t336 true t367 t368 t369 t370 t371 t372 t373 t374 t375 t376 t377 t378 t379 _ A107.out)) ?_; rintro e w326 ⟨he_, hb⟩; subst he_; refine ⟨_, rfl, ?_⟩; replace HO := Aside0.mk (Ow.Own.call HO.out hb); clear hb) | ((with_reducible refine gate_dst (N := 14) rfl ?_); refine Ow.box rfl (N := 14) rfl (cs := Z6) (t := 29) HO.out (by first | (go_simp; done) | (go_simp; rfl)) ?_; clear HO; intro gb380 w327 HO; simp only [cons_append, nil_append] at HO) | ((with_reducible refine gate_dst (N := 15) rfl ?_); refine Ow.box rfl (N := 15) rfl (cs := Z6_2) (t := 36) HO.out (by first | (go_simp; done) | (go_simp; rfl)) ?_; clear HO; intro gb381 w328 HO; simp only [cons_append, nil_append] at HO) | (go_at_call 18; refine Calls.mono (calls_of_args (by (try simp only [hq.1]) <;> rfl) (bursarlaw26_awake.calls k  t383 _ A231.out)) ?_; rintro e w349 ⟨he_, hb⟩; subst he_; replace HO := Aside0.mk (Ow.Own.call HO.out hb); clear hb) | ((with_reducible refine Ow.gate_build rfl ?_); (try (refine gate_guard (by rfl) ?_; dsimp only)); refine' Ow.tbuild Ot.bd rfl rfl rfl ?hf_ ?_; (case hf_ => repeat (any_goals (first | exact Ow.Fills.nil | (refine' Ow.Fills.c ?hv_ rfl ?hz_ ?_; (case hv_ => first | exact Ow.ev_tmp rfl | rfl); (case hz_ => first | (refine ⟨?_, ?_⟩ <;> ((try simp only [hq.1]) <;> rfl)) | fail)))))) | ((with_reducible refine Ow.gate_load rfl ?_); (try (refine gate_guard (by rfl) ?_; dsimp only)); (first | refine Ow.l1 Ot.ty HO.out rfl rfl rfl rfl (by (try simp only [hq.1]) <;> rfl) ?_ | refine Ow.l0 Ot.ty HO.out rfl rfl rfl rfl (by (try simp only [hq.1]) <;> rfl) ?_ | refine Ow.lp Ot.ty HO.out rfl rfl rfl rfl (by (try simp only [hq.1]) <;> rfl) ?_)) | ((with_reducible refine gate_store rfl ?_); (try (refine gate_guard (by rfl) ?_; dsimp only)); (first | refine Ow.s0 Ot.ty HO.out rfl rfl rfl rfl rfl (by first | exact Ow.ev_tmp rfl | rfl) (by first | (refine ⟨?_, ?_, ?_⟩ <;> ((try simp only [hq.1]) <;> rfl)) | fail) ?_ | refine Ow.sp Ot.ty HO.out rfl rfl rfl rfl rfl (by first | exact Ow.ev_tmp rfl | rfl) (by first | (refine ⟨?_, ?_, ?_⟩ <;> ((try simp only [hq.1]) <;> rfl)) | fail) ?_); clear HO; intro wz_ HO; simp only [u2, u3] at HO))
         all_goals go_ret
         all_goals exact ⟨by first | rfl | (simp only [hq.1] <;> rfl) | (simp [errW_none, errW_some] <;> rfl) | (simp [*, errW_none, errW_some] <;> rfl), Ow.Own.below HO.out⟩
        ·rw [if_neg c230] at H
         exact absurd H (by simp)
       ·rw [if_neg c229] at H
        have c229b0 : (t379.toList == ([48, 48] : List UInt8)) = false := beq_eq_false_iff_ne.mpr c229
        have c229b1 : (t379.toList != ([48, 48] : List UInt8)) = true := bne_iff_ne.mpr c229
        by_cases c350 : a0_32 ≤ 200
        ·rw [if_pos c350] at H
         exact absurd H (by simp)
        ·rw [if_neg c350] at H
         have c350b0 : decide (a0_32 ≤ 200) = false := decide_eq_false c350
         clear c350
         replace H := Option.bind_eq_some_iff.mp H
         obtain ⟨t384, A3510, H⟩ := H
         replace H : (some t384) = some r := H
         have A351 := Aside0.mk A3510
         clear A3510
         obtain rfl := Option.some.inj H
         obtain ⟨Q32, hQ32_⟩ : ∃ q_ : Array Value, q_ = (#[.string a0_0, .string a0_1, .string a0_2, .int .i64 a0_3, .string a0_4, .string a0_5, .string a0_6, .string a0_7, .string a0_8, .int .i64 a0_9, .int .i64 a0_10, .string a0_11, .bool a0_12, .int .i64 a0_13, .string a0_14, .string a0_15, .string a0_16, .int .i64 a0_17, .int .i64 a0_18, .int .i64 a0_19, .bool a0_20, .bool a0_21, .int .i64 a0_22, .int .i64 a0_23, .bool a0_24, .string a0_25, .string a0_26, .string a0_27, .int .i64 a0_28, .int .i64 a0_29, .int .i64 a0_30, .bool a0_31, .int .u16 a0_32] : Array Value) := ⟨_, rfl⟩
         try rw [← hQ32_]
         have hQ32 := Aside0.mk hQ32_; have hq := Aside0.mk hQ32_; clear hQ32_
         go_enter Try.func3, Try.ntmps3
         try go_wp2_with (first | ((with_reducible refine gate_dst (N := 1) rfl ?_); refine Ow.box rfl (N := 1) rfl (cs := Q32) (t := 32) HO.out (by first | (go_simp; done) | (go_simp; rfl)) ?_; clear HO; intro gb297 w352 HO; simp only [cons_append, nil_append] at HO) | ((with_reducible refine Ow.gate_build rfl ?_); (try (refine gate_guard (by rfl) ?_; dsimp only)); refine' Ow.tbuild Ot.bd rfl rfl rfl ?hf_ ?_; (case hf_ => repeat (any_goals (first | exact Ow.Fills.nil | (refine' Ow.Fills.c ?hv_ rfl ?hz_ ?_; (case hv_ => first | exact Ow.ev_tmp rfl | rfl); (case hz_ => first | (refine ⟨?_, ?_⟩ <;> ((try simp only [hq.1]) <;> rfl)) | fail)))))) | ((with_reducible refine Ow.gate_load rfl ?_); (try (refine gate_guard (by rfl) ?_; dsimp only)); (first | refine Ow.l1 Ot.ty HO.out rfl rfl rfl rfl (by (try simp only [hq.1]) <;> rfl) ?_ | refine Ow.l0 Ot.ty HO.out rfl rfl rfl rfl (by (try simp only [hq.1]) <;> rfl) ?_ | refine Ow.lp Ot.ty HO.out rfl rfl rfl rfl (by (try simp only [hq.1]) <;> rfl) ?_)) | ((with_reducible refine gate_store rfl ?_); (try (refine gate_guard (by rfl) ?_; dsimp only)); (first | refine Ow.s0 Ot.ty HO.out rfl rfl rfl rfl rfl (by first | exact Ow.ev_tmp rfl | rfl) (by first | (refine ⟨?_, ?_, ?_⟩ <;> ((try simp only [hq.1]) <;> rfl)) | fail) ?_ | refine Ow.sp Ot.ty HO.out rfl rfl rfl rfl rfl (by first | exact Ow.ev_tmp rfl | rfl) (by first | (refine ⟨?_, ?_, ?_⟩ <;> ((try simp only [hq.1]) <;> rfl)) | fail) ?_); clear HO; intro wz_ HO; simp only [u2, u3] at HO))
         refine Ow.ostart (n := 16) (ds := []) (Ow.B 16 0) HO.out (by kernel_rfl) rfl (by kernel_rfl) ?_
         intro hHeld; replace HO := Aside0.mk hHeld; refine with_tabW bursarlaw26_DisputeOnce.tab1 bursarlaw26_DisputeOnce.bits1 (fun HT_ HW_ => ?_)
         refine' Ow.pu (i := 0) (N := some 17) (Ow.B 16 1) HT_.out ?hv_ ?ha_ ?_; (case hv_ => intro w'; go_simp; with_reducible rfl); (case ha_ => simp only [Ow.Sl, i64_w, i32_w]; rfl)
         refine' Ow.pu (i := 3) (N := some 20) (Ow.B 16 9) HT_.out ?hv_ ?ha_ ?_; (case hv_ => intro w'; go_simp; with_reducible rfl); (case ha_ => simp only [Ow.Sl, i64_w, i32_w]; rfl)
         refine' Ow.pu (i := 6) (N := some 23) (Ow.B 16 73) HT_.out ?hv_ ?ha_ ?_; (case hv_ => intro w'; go_simp; with_reducible rfl); (case ha_ => simp only [Ow.Sl, i64_w, i32_w]; rfl)
         refine' Ow.pu (i := 8) (N := some 25) (Ow.B 16 329) HT_.out ?hv_ ?ha_ ?_; (case hv_ => intro w'; go_simp; with_reducible rfl); (case ha_ => simp only [Ow.Sl, i64_w, i32_w]; rfl)
         refine take_ (i := 1) (N := some 18) (v := ?_) (a' := ?_) (Ow.B 16 331) rfl rfl (take_ofW HT_.out HW_.out (by kernel_rfl)) (fun _ _ _ h => h) (Or.inl ⟨by rfl, ?_⟩) hHeld ?_ ?_
         rotate_left
         ·intro w' s_
          first | refine Ow.r1 Ot.ty s_ rfl rfl rfl (by (try simp only [hq.1]) <;> rfl) | (refine' Ow.r0 Ot.ty s_ rfl rfl rfl ?h; (case h => first | ((try simp only [hq.1]) <;> rfl) | fail)) | (refine' Ow.rp Ot.ty s_ rfl rfl rfl ?h; (case h => first | ((try simp only [hq.1]) <;> rfl) | fail)) | (go_simp; with_reducible rfl)
         rotate_left
         ·simp only [Act.put, u1, u2, u3, i64_w, i32_w]
          rfl
         refine take_ (i := 4) (N := some 21) (v := ?_) (a' := ?_) (Ow.B 16 347) rfl rfl (take_ofW HT_.out HW_.out (by kernel_rfl)) (fun _ _ _ h => h) (Or.inl ⟨by rfl, ?_⟩) hHeld ?_ ?_
         rotate_left
         ·intro w' s_
          first | refine Ow.r1 Ot.ty s_ rfl rfl rfl (by (try simp only [hq.1]) <;> rfl) | (refine' Ow.r0 Ot.ty s_ rfl rfl rfl ?h; (case h => first | ((try simp only [hq.1]) <;> rfl) | fail)) | (refine' Ow.rp Ot.ty s_ rfl rfl rfl ?h; (case h => first | ((try simp only [hq.1]) <;> rfl) | fail)) | (go_simp; with_reducible rfl)
         rotate_left
         ·simp only [Act.put, u1, u2, u3, i64_w, i32_w]
          rfl
         refine take_ (i := 7) (N := some 24) (v := ?_) (a' := ?_) (Ow.B 16 475) rfl rfl (take_ofW HT_.out HW_.out (by kernel_rfl)) (fun _ _ _ h => h) (Or.inl ⟨by rfl, ?_⟩) hHeld ?_ ?_
         rotate_left
         ·intro w' s_
          first | refine Ow.r1 Ot.ty s_ rfl rfl rfl (by (try simp only [hq.1]) <;> rfl) | (refine' Ow.r0 Ot.ty s_ rfl rfl rfl ?h; (case h => first | ((try simp only [hq.1]) <;> rfl) | fail)) | (refine' Ow.rp Ot.ty s_ rfl rfl rfl ?h; (case h => first | ((try simp only [hq.1]) <;> rfl) | fail)) | (go_simp; with_reducible rfl)
         rotate_left
         ·simp only [Act.put, u1, u2, u3, i64_w, i32_w]
          rfl
         refine take_ (i := 9) (N := some 26) (v := ?_) (a' := ?_) (Ow.B 16 987) rfl rfl (take_ofW HT_.out HW_.out (by kernel_rfl)) (fun _ _ _ h => h) (Or.inl ⟨by rfl, ?_⟩) hHeld ?_ ?_
         rotate_left
         ·intro w' s_
          first | refine Ow.r1 Ot.ty s_ rfl rfl rfl (by (try simp only [hq.1]) <;> rfl) | (refine' Ow.r0 Ot.ty s_ rfl rfl rfl ?h; (case h => first | ((try simp only [hq.1]) <;> rfl) | fail)) | (refine' Ow.rp Ot.ty s_ rfl rfl rfl ?h; (case h => first | ((try simp only [hq.1]) <;> rfl) | fail)) | (go_simp; with_reducible rfl)
         rotate_left
         ·simp only [Act.put, u1, u2, u3, i64_w, i32_w]
          rfl
         refine join_ (σ := Nat × Nat) 4 (Ow.B 16 4095) (fun s_ => [(19, .agg #[.string t298, .string t299, .string t300, .int .i64 t301, .string t302, .string t303, .string t304, .string t305, .string t306, .int .i64 t307, .int .i64 t308, .string t309, .bool t310, .int .i64 t311, .string t312, .string t313, .string t314, .int .i64 t315, .int .i64 t316, .int .i64 t317, .bool t318, .bool t319, .int .i64 t320, .int .i64 t321, .bool t322]), (22, .agg #[.string t323, .string t324, .string t325, .int .i64 t326, .int .i64 t327, .int .i64 t328]), (3, .pointer (some ⟨s_.1, 0, none⟩)), (4, .pointer (some ⟨s_.2, 0, none⟩))]) (fun s_ w' => Ow.Own w w' [(gb297, Q32, 32), (s_.1, Z25, 27), (s_.2, Z6, 29)]) ?_ ?_
         rotate_left
         ·intro hJ2_5_10_11
          refine join_ (σ := Nat) 5 (Ow.B 16 2047) (fun s_ => [(19, .agg #[.string t298, .string t299, .string t300, .int .i64 t301, .string t302, .string t303, .string t304, .string t305, .string t306, .int .i64 t307, .int .i64 t308, .string t309, .bool t310, .int .i64 t311, .string t312, .string t313, .string t314, .int .i64 t315, .int .i64 t316, .int .i64 t317, .bool t318, .bool t319, .int .i64 t320, .int .i64 t321, .bool t322]), (22, .agg #[.string t323, .string t324, .string t325, .int .i64 t326, .int .i64 t327, .int .i64 t328]), (3, .pointer (some ⟨s_, 0, none⟩))]) (fun s_ w' => Ow.Own w w' [(gb297, Q32, 32), (s_, Z25, 27)]) ?_ ?_
          rotate_left
          ·intro hJ2_5_10
           refine join_ (σ := Nat) 5 (Ow.B 16 3071) (fun s_ => [(19, .agg #[.string t298, .string t299, .string t300, .int .i64 t301, .string t302, .string t303, .string t304, .string t305, .string t306, .int .i64 t307, .int .i64 t308, .string t309, .bool t310, .int .i64 t311, .string t312, .string t313, .string t314, .int .i64 t315, .int .i64 t316, .int .i64 t317, .bool t318, .bool t319, .int .i64 t320, .int .i64 t321, .bool t322]), (22, .agg #[.string t323, .string t324, .string t325, .int .i64 t326, .int .i64 t327, .int .i64 t328]), (4, .pointer (some ⟨s_, 0, none⟩))]) (fun s_ w' => Ow.Own w w' [(gb297, Q32, 32), (s_, Z6, 29)]) ?_ ?_
           rotate_left
           ·intro hJ2_5_11
            refine join_ (σ := Nat × Nat) 5 (Ow.B 16 4063) (fun s_ => [(19, .agg #[.string t298, .string t299, .string t300, .int .i64 t301, .string t302, .string t303, .string t304, .string t305, .string t306, .int .i64 t307, .int .i64 t308, .string t309, .bool t310, .int .i64 t311, .string t312, .string t313, .string t314, .int .i64 t315, .int .i64 t316, .int .i64 t317, .bool t318, .bool t319, .int .i64 t320, .int .i64 t321, .bool t322]), (3, .pointer (some ⟨s_.1, 0, none⟩)), (4, .pointer (some ⟨s_.2, 0, none⟩))]) (fun s_ w' => Ow.Own w w' [(gb297, Q32, 32), (s_.1, Z25, 27), (s_.2, Z6, 29)]) ?_ ?_
            rotate_left
            ·intro hJ2_10_11
             refine join_ (σ := Unit) 6 (Ow.B 16 1023) (fun s_ => [(19, .agg #[.string t298, .string t299, .string t300, .int .i64 t301, .string t302, .string t303, .string t304, .string t305, .string t306, .int .i64 t307, .int .i64 t308, .string t309, .bool t310, .int .i64 t311, .string t312, .string t313, .string t314, .int .i64 t315, .int .i64 t316, .int .i64 t317, .bool t318, .bool t319, .int .i64 t320, .int .i64 t321, .bool t322]), (22, .agg #[.string t323, .string t324, .string t325, .int .i64 t326, .int .i64 t327, .int .i64 t328])]) (fun s_ w' => Ow.Own w w' [(gb297, Q32, 32)]) ?_ ?_
             rotate_left
             ·intro hJ2_5
              refine join_ (σ := Nat) 6 (Ow.B 16 2015) (fun s_ => [(19, .agg #[.string t298, .string t299, .string t300, .int .i64 t301, .string t302, .string t303, .string t304, .string t305, .string t306, .int .i64 t307, .int .i64 t308, .string t309, .bool t310, .int .i64 t311, .string t312, .string t313, .string t314, .int .i64 t315, .int .i64 t316, .int .i64 t317, .bool t318, .bool t319, .int .i64 t320, .int .i64 t321, .bool t322]), (3, .pointer (some ⟨s_, 0, none⟩))]) (fun s_ w' => Ow.Own w w' [(gb297, Q32, 32), (s_, Z25, 27)]) ?_ ?_
              rotate_left
              ·intro hJ2_10
               refine join_ (σ := Nat) 6 (Ow.B 16 3039) (fun s_ => [(19, .agg #[.string t298, .string t299, .string t300, .int .i64 t301, .string t302, .string t303, .string t304, .string t305, .string t306, .int .i64 t307, .int .i64 t308, .string t309, .bool t310, .int .i64 t311, .string t312, .string t313, .string t314, .int .i64 t315, .int .i64 t316, .int .i64 t317, .bool t318, .bool t319, .int .i64 t320, .int .i64 t321, .bool t322]), (4, .pointer (some ⟨s_, 0, none⟩))]) (fun s_ w' => Ow.Own w w' [(gb297, Q32, 32), (s_, Z6, 29)]) ?_ ?_
               rotate_left
               ·intro hJ2_11
                refine join_ (σ := Nat × Nat) 6 (Ow.B 16 4059) (fun s_ => [(3, .pointer (some ⟨s_.1, 0, none⟩)), (4, .pointer (some ⟨s_.2, 0, none⟩))]) (fun s_ w' => Ow.Own w w' [(gb297, Q32, 32), (s_.1, Z25, 27), (s_.2, Z6, 29)]) ?_ ?_
                rotate_left
                ·intro hJ10_11
                 refine join_ (σ := Unit) 7 (Ow.B 16 991) (fun s_ => [(19, .agg #[.string t298, .string t299, .string t300, .int .i64 t301, .string t302, .string t303, .string t304, .string t305, .string t306, .int .i64 t307, .int .i64 t308, .string t309, .bool t310, .int .i64 t311, .string t312, .string t313, .string t314, .int .i64 t315, .int .i64 t316, .int .i64 t317, .bool t318, .bool t319, .int .i64 t320, .int .i64 t321, .bool t322])]) (fun s_ w' => Ow.Own w w' [(gb297, Q32, 32)]) ?_ ?_
                 rotate_left
                 ·intro hJ2
                  refine join_ (σ := Nat) 7 (Ow.B 16 2011) (fun s_ => [(3, .pointer (some ⟨s_, 0, none⟩))]) (fun s_ w' => Ow.Own w w' [(gb297, Q32, 32), (s_, Z25, 27)]) ?_ ?_
                  rotate_left
                  ·intro hJ10
                   refine join_ (σ := Nat) 7 (Ow.B 16 3035) (fun s_ => [(4, .pointer (some ⟨s_, 0, none⟩))]) (fun s_ w' => Ow.Own w w' [(gb297, Q32, 32), (s_, Z6, 29)]) ?_ ?_
                   rotate_left
                   ·intro hJ11
                    refine three_ (i := 2) (j := 10) (k := 11) (Ni := some 19) (Nj := some 3) (Nk := some 4) (Ow.B 16 991) (Ow.B 16 2011) (Ow.B 16 3035) rfl rfl rfl rfl rfl rfl (three_of HT_.out (by kernel_rfl)) (by decide) (by decide) (by decide) (fun K hK => ?_) (fun K hK => ?_) (fun K hK => ?_)
                    ·skip
                     obtain ⟨Q33, hQ33_⟩ : ∃ q_ : Array Value, q_ = (#[.string a0_0, .string a0_1, .string a0_2, .int .i64 a0_3, .string a0_4, .string a0_5, .string a0_6, .string a0_7, .string a0_8, .int .i64 a0_9, .int .i64 a0_10, .string a0_11, .bool a0_12, .int .i64 a0_13, .string a0_14, .string a0_15, .string a0_16, .int .i64 a0_17, .int .i64 a0_18, .int .i64 a0_19, .bool a0_20, .bool a0_21, .int .i64 a0_22, .int .i64 a0_23, .bool a0_24] : Array Value) := ⟨_, rfl⟩
                     try rw [← hQ33_]
                     have hQ33 := Aside0.mk hQ33_; replace hq := Aside0.mk (And.intro hQ33_ hq.1); clear hQ33_
                     refine goes_ Try.func15 (by kernel_rfl) rfl #[.agg Q33] (by rfl) rfl rfl (by (try simp only [map_toArray, map_cons, map_nil]); first | done | rfl | (simp only [hq.1] <;> rfl) | (simp only [length_drop, length_take]; rfl)) ?_
                     obtain ⟨Q34, hQ34_⟩ : ∃ q_ : Array Value, q_ = (#[.string t298, .string t299, .string t300, .int .i64 t301, .string t302, .string t303, .string t304, .string t305, .string t306, .int .i64 t307, .int .i64 t308, .string t309, .bool t310, .int .i64 t311, .string t312, .string t313, .string t314, .int .i64 t315, .int .i64 t316, .int .i64 t317, .bool t318, .bool t319, .int .i64 t320, .int .i64 t321, .bool t322] : Array Value) := ⟨_, rfl⟩
                     try rw [← hQ34_]
                     have hQ34 := Aside0.mk hQ34_; replace hq := Aside0.mk (And.intro hQ34_ hq.1); clear hQ34_
                     refine Calls.mono (calls_of_args (by (try simp only [hq.1]) <;> rfl) (bursarlaw22_Few.calls a0_0 a0_1 a0_2 a0_3 a0_4 a0_5 a0_6 a0_7 a0_8 a0_9 a0_10 a0_11 a0_12 a0_13 a0_14 a0_15 a0_16 a0_17 a0_18 a0_19 a0_20 a0_21 a0_22 a0_23 a0_24 t298 t299 t300 t301 t302 t303 t304 t305 t306 t307 t308 t309 t310 t311 t312 t313 t314 t315 t316 t317 t318 t319 t320 t321 t322 _ A2.out)) ?_
                     rintro e w354 ⟨he_, hb⟩
                     (try rw [← hQ34.out] at he_)
                     subst he_
                     replace HO := Aside0.mk (Ow.Own.call HO.out hb)
                     clear hb
                     refine ⟨_, rfl, ?_⟩
                     refine hK.out _ _ (by first | exact HO.out | exact cong HO.out (by (try simp only [hq.1]) <;> rfl)) (fun hHeld => ?_)
                     clear hK K
                     refine norm_ (a' := ?_) ?_ ?_
                     rotate_left
                     ·show Act.put _ (some 19) _ = _
                      simp only [Act.put, u1, u2, u3, i64_w, i32_w]
                      rfl
                     exact norm_ (by simp only [hq.1, putAll, Act.put, u1, u2, u3] <;> rfl) (hJ2 () _ (cong (pick [0] HO.out (by decide)) (by (try simp only [hq.1]) <;> rfl)))
                    ·skip
                     refine box_step ?hg (N := 3) ?hd (cs := Z25) (t := 27) ?hr ?_; (case hd => rfl); (case hg => rfl); (case hr => first | (go_simp; done) | (go_simp; rfl))
                     intro gb329 hg w354 hbox hb
                     replace HO := Aside0.mk (Ow.Own.add HO.out hg hbox hb)
                     clear hb hbox hg
                     simp only [cons_append, nil_append] at HO
                     refine hK.out _ _ (by have h_ := pick [0] HO.out (by decide); first | exact h_ | exact cong h_ (by (try simp only [hq.1]) <;> rfl)) (fun hHeld => ?_)
                     clear hK K
                     refine norm_ (a' := ?_) ?_ ?_
                     rotate_left
                     ·show Act.put _ (some 3) _ = _
                      simp only [Act.put, u1, u2, u3, i64_w, i32_w]
                      rfl
                     exact norm_ (by simp only [hq.1, putAll, Act.put, u1, u2, u3] <;> rfl) (hJ10 (gb329) _ (cong (pick [0, 1] HO.out (by decide)) (by (try simp only [hq.1]) <;> rfl)))
                    ·skip
                     refine box_step ?hg (N := 4) ?hd (cs := Z6) (t := 29) ?hr ?_; (case hd => rfl); (case hg => rfl); (case hr => first | (go_simp; done) | (go_simp; rfl))
                     intro gb330 hg w354 hbox hb
                     replace HO := Aside0.mk (Ow.Own.add HO.out hg hbox hb)
                     clear hb hbox hg
                     simp only [cons_append, nil_append] at HO
                     refine hK.out _ _ (by have h_ := pick [0] HO.out (by decide); first | exact h_ | exact cong h_ (by (try simp only [hq.1]) <;> rfl)) (fun hHeld => ?_)
                     clear hK K
                     refine norm_ (a' := ?_) ?_ ?_
                     rotate_left
                     ·show Act.put _ (some 4) _ = _
                      simp only [Act.put, u1, u2, u3, i64_w, i32_w]
                      rfl
                     exact norm_ (by simp only [hq.1, putAll, Act.put, u1, u2, u3] <;> rfl) (hJ11 (gb330) _ (cong (pick [0, 1] HO.out (by decide)) (by (try simp only [hq.1]) <;> rfl)))
                   ·skip
                    rintro gb330 w355 HO7_
                    clear HO
                    have HO := Aside0.mk HO7_
                    clear HO7_
                    have hHeld := pick [0] HO.out (by decide)
                    refine norm_ (a' := ?_) ?_ ?_
                    rotate_left
                    ·simp only [putAll, Act.put, u1, u2, u3]
                     rfl
                    refine two_ (i := 2) (j := 10) (Ni := some 19) (Nj := some 3) (Ow.B 16 3039) (Ow.B 16 4059) rfl rfl rfl rfl (two_of HT_.out (by kernel_rfl)) (by decide) (by decide) (fun K hK => ?_) (fun K hK => ?_)
                    ·skip
                     obtain ⟨Q35, hQ35_⟩ : ∃ q_ : Array Value, q_ = (#[.string a0_0, .string a0_1, .string a0_2, .int .i64 a0_3, .string a0_4, .string a0_5, .string a0_6, .string a0_7, .string a0_8, .int .i64 a0_9, .int .i64 a0_10, .string a0_11, .bool a0_12, .int .i64 a0_13, .string a0_14, .string a0_15, .string a0_16, .int .i64 a0_17, .int .i64 a0_18, .int .i64 a0_19, .bool a0_20, .bool a0_21, .int .i64 a0_22, .int .i64 a0_23, .bool a0_24] : Array Value) := ⟨_, rfl⟩
                     try rw [← hQ35_]
                     have hQ35 := Aside0.mk hQ35_; replace hq := Aside0.mk (And.intro hQ35_ hq.1); clear hQ35_
                     refine goes_ Try.func15 (by kernel_rfl) rfl #[.agg Q35] (by rfl) rfl rfl (by (try simp only [map_toArray, map_cons, map_nil]); first | done | rfl | (simp only [hq.1] <;> rfl) | (simp only [length_drop, length_take]; rfl)) ?_
                     obtain ⟨Q36, hQ36_⟩ : ∃ q_ : Array Value, q_ = (#[.string t298, .string t299, .string t300, .int .i64 t301, .string t302, .string t303, .string t304, .string t305, .string t306, .int .i64 t307, .int .i64 t308, .string t309, .bool t310, .int .i64 t311, .string t312, .string t313, .string t314, .int .i64 t315, .int .i64 t316, .int .i64 t317, .bool t318, .bool t319, .int .i64 t320, .int .i64 t321, .bool t322] : Array Value) := ⟨_, rfl⟩
                     try rw [← hQ36_]
                     have hQ36 := Aside0.mk hQ36_; replace hq := Aside0.mk (And.intro hQ36_ hq.1); clear hQ36_
                     refine Calls.mono (calls_of_args (by (try simp only [hq.1]) <;> rfl) (bursarlaw22_Few.calls a0_0 a0_1 a0_2 a0_3 a0_4 a0_5 a0_6 a0_7 a0_8 a0_9 a0_10 a0_11 a0_12 a0_13 a0_14 a0_15 a0_16 a0_17 a0_18 a0_19 a0_20 a0_21 a0_22 a0_23 a0_24 t298 t299 t300 t301 t302 t303 t304 t305 t306 t307 t308 t309 t310 t311 t312 t313 t314 t315 t316 t317 t318 t319 t320 t321 t322 _ A2.out)) ?_
                     rintro e w356 ⟨he_, hb⟩
                     (try rw [← hQ36.out] at he_)
                     subst he_
                     replace HO := Aside0.mk (Ow.Own.call HO.out hb)
                     clear hb
                     refine ⟨_, rfl, ?_⟩
                     refine hK.out _ _ (by have h_ := pick [0] HO.out (by decide); first | exact h_ | exact cong h_ (by (try simp only [hq.1]) <;> rfl)) (fun hHeld => ?_)
                     clear hK K
                     refine norm_ (a' := ?_) ?_ ?_
                     rotate_left
                     ·show Act.put _ (some 19) _ = _
                      simp only [Act.put, u1, u2, u3, i64_w, i32_w]
                      rfl
                     exact norm_ (by simp only [hq.1, putAll, Act.put, u1, u2, u3] <;> rfl) (hJ2_11 (gb330) _ (cong (pick [0, 1] HO.out (by decide)) (by (try simp only [hq.1]) <;> rfl)))
                    ·skip
                     refine box_step ?hg (N := 3) ?hd (cs := Z25) (t := 27) ?hr ?_; (case hd => rfl); (case hg => rfl); (case hr => first | (go_simp; done) | (go_simp; rfl))
                     intro gb329 hg w356 hbox hb
                     replace HO := Aside0.mk (Ow.Own.add HO.out hg hbox hb)
                     clear hb hbox hg
                     simp only [cons_append, nil_append] at HO
                     refine hK.out _ _ (by have h_ := pick [0] HO.out (by decide); first | exact h_ | exact cong h_ (by (try simp only [hq.1]) <;> rfl)) (fun hHeld => ?_)
                     clear hK K
                     refine norm_ (a' := ?_) ?_ ?_
                     rotate_left
                     ·show Act.put _ (some 3) _ = _
                      simp only [Act.put, u1, u2, u3, i64_w, i32_w]
                      rfl
                     exact norm_ (by simp only [hq.1, putAll, Act.put, u1, u2, u3] <;> rfl) (hJ10_11 (gb329, gb330) _ (cong (pick [0, 2, 1] HO.out (by decide)) (by (try simp only [hq.1]) <;> rfl)))
                  ·skip
                   rintro gb329 w355 HO7_
                   clear HO
                   have HO := Aside0.mk HO7_
                   clear HO7_
                   have hHeld := pick [0] HO.out (by decide)
                   refine norm_ (a' := ?_) ?_ ?_
                   rotate_left
                   ·simp only [putAll, Act.put, u1, u2, u3]
                    rfl
                   refine two_ (i := 2) (j := 11) (Ni := some 19) (Nj := some 4) (Ow.B 16 2015) (Ow.B 16 4059) rfl rfl rfl rfl (two_of HT_.out (by kernel_rfl)) (by decide) (by decide) (fun K hK => ?_) (fun K hK => ?_)
                   ·skip
                    obtain ⟨Q37, hQ37_⟩ : ∃ q_ : Array Value, q_ = (#[.string a0_0, .string a0_1, .string a0_2, .int .i64 a0_3, .string a0_4, .string a0_5, .string a0_6, .string a0_7, .string a0_8, .int .i64 a0_9, .int .i64 a0_10, .string a0_11, .bool a0_12, .int .i64 a0_13, .string a0_14, .string a0_15, .string a0_16, .int .i64 a0_17, .int .i64 a0_18, .int .i64 a0_19, .bool a0_20, .bool a0_21, .int .i64 a0_22, .int .i64 a0_23, .bool a0_24] : Array Value) := ⟨_, rfl⟩
                    try rw [← hQ37_]
                    have hQ37 := Aside0.mk hQ37_; replace hq := Aside0.mk (And.intro hQ37_ hq.1); clear hQ37_
                    refine goes_ Try.func15 (by kernel_rfl) rfl #[.agg Q37] (by rfl) rfl rfl (by (try simp only [map_toArray, map_cons, map_nil]); first | done | rfl | (simp only [hq.1] <;> rfl) | (simp only [length_drop, length_take]; rfl)) ?_
                    obtain ⟨Q38, hQ38_⟩ : ∃ q_ : Array Value, q_ = (#[.string t298, .string t299, .string t300, .int .i64 t301, .string t302, .string t303, .string t304, .string t305, .string t306, .int .i64 t307, .int .i64 t308, .string t309, .bool t310, .int .i64 t311, .string t312, .string t313, .string t314, .int .i64 t315, .int .i64 t316, .int .i64 t317, .bool t318, .bool t319, .int .i64 t320, .int .i64 t321, .bool t322] : Array Value) := ⟨_, rfl⟩
                    try rw [← hQ38_]
                    have hQ38 := Aside0.mk hQ38_; replace hq := Aside0.mk (And.intro hQ38_ hq.1); clear hQ38_
                    refine Calls.mono (calls_of_args (by (try simp only [hq.1]) <;> rfl) (bursarlaw22_Few.calls a0_0 a0_1 a0_2 a0_3 a0_4 a0_5 a0_6 a0_7 a0_8 a0_9 a0_10 a0_11 a0_12 a0_13 a0_14 a0_15 a0_16 a0_17 a0_18 a0_19 a0_20 a0_21 a0_22 a0_23 a0_24 t298 t299 t300 t301 t302 t303 t304 t305 t306 t307 t308 t309 t310 t311 t312 t313 t314 t315 t316 t317 t318 t319 t320 t321 t322 _ A2.out)) ?_
                    rintro e w356 ⟨he_, hb⟩
                    (try rw [← hQ38.out] at he_)
                    subst he_
                    replace HO := Aside0.mk (Ow.Own.call HO.out hb)
                    clear hb
                    refine ⟨_, rfl, ?_⟩
                    refine hK.out _ _ (by have h_ := pick [0] HO.out (by decide); first | exact h_ | exact cong h_ (by (try simp only [hq.1]) <;> rfl)) (fun hHeld => ?_)
                    clear hK K
                    refine norm_ (a' := ?_) ?_ ?_
                    rotate_left
                    ·show Act.put _ (some 19) _ = _
                     simp only [Act.put, u1, u2, u3, i64_w, i32_w]
                     rfl
                    exact norm_ (by simp only [hq.1, putAll, Act.put, u1, u2, u3] <;> rfl) (hJ2_10 (gb329) _ (cong (pick [0, 1] HO.out (by decide)) (by (try simp only [hq.1]) <;> rfl)))
                   ·skip
                    refine box_step ?hg (N := 4) ?hd (cs := Z6) (t := 29) ?hr ?_; (case hd => rfl); (case hg => rfl); (case hr => first | (go_simp; done) | (go_simp; rfl))
                    intro gb330 hg w356 hbox hb
                    replace HO := Aside0.mk (Ow.Own.add HO.out hg hbox hb)
                    clear hb hbox hg
                    simp only [cons_append, nil_append] at HO
                    refine hK.out _ _ (by have h_ := pick [0] HO.out (by decide); first | exact h_ | exact cong h_ (by (try simp only [hq.1]) <;> rfl)) (fun hHeld => ?_)
                    clear hK K
                    refine norm_ (a' := ?_) ?_ ?_
                    rotate_left
                    ·show Act.put _ (some 4) _ = _
                     simp only [Act.put, u1, u2, u3, i64_w, i32_w]
                     rfl
                    exact norm_ (by simp only [hq.1, putAll, Act.put, u1, u2, u3] <;> rfl) (hJ10_11 (gb329, gb330) _ (cong (pick [0, 1, 2] HO.out (by decide)) (by (try simp only [hq.1]) <;> rfl)))
                 ·skip
                  rintro _ w355 HO7_
                  clear HO
                  have HO := Aside0.mk HO7_
                  clear HO7_
                  have hHeld := pick [0] HO.out (by decide)
                  refine norm_ (a' := ?_) ?_ ?_
                  rotate_left
                  ·simp only [putAll, Act.put, u1, u2, u3]
                   rfl
                  refine three_ (i := 5) (j := 10) (k := 11) (Ni := some 22) (Nj := some 3) (Nk := some 4) (Ow.B 16 1023) (Ow.B 16 2015) (Ow.B 16 3039) rfl rfl rfl rfl rfl rfl (three_of HT_.out (by kernel_rfl)) (by decide) (by decide) (by decide) (fun K hK => ?_) (fun K hK => ?_) (fun K hK => ?_)
                  ·skip
                   refine goes_ Try.func16 (by kernel_rfl) rfl #[.agg #[.string a0_25, .string a0_26, .string a0_27, .int .i64 a0_28, .int .i64 a0_29, .int .i64 a0_30]] (by rfl) rfl rfl (by (try simp only [map_toArray, map_cons, map_nil]); first | done | rfl | (simp only [hq.1] <;> rfl) | (simp only [length_drop, length_take]; rfl)) ?_
                   refine Calls.mono (calls_of_args (by (try simp only [hq.1]) <;> rfl) (bursarlaw26_few.calls a0_25 a0_26 a0_27 a0_28 a0_29 a0_30 t323 t324 t325 t326 t327 t328 _ A3.out)) ?_
                   rintro e w356 ⟨he_, hb⟩
                   subst he_
                   replace HO := Aside0.mk (Ow.Own.call HO.out hb)
                   clear hb
                   refine ⟨_, rfl, ?_⟩
                   refine hK.out _ _ (by first | exact HO.out | exact cong HO.out (by (try simp only [hq.1]) <;> rfl)) (fun hHeld => ?_)
                   clear hK K
                   refine norm_ (a' := ?_) ?_ ?_
                   rotate_left
                   ·show Act.put _ (some 22) _ = _
                    simp only [Act.put, u1, u2, u3, i64_w, i32_w]
                    rfl
                   exact norm_ (by simp only [hq.1, putAll, Act.put, u1, u2, u3] <;> rfl) (hJ2_5 () _ (cong (pick [0] HO.out (by decide)) (by (try simp only [hq.1]) <;> rfl)))
                  ·skip
                   refine box_step ?hg (N := 3) ?hd (cs := Z25) (t := 27) ?hr ?_; (case hd => rfl); (case hg => rfl); (case hr => first | (go_simp; done) | (go_simp; rfl))
                   intro gb329 hg w356 hbox hb
                   replace HO := Aside0.mk (Ow.Own.add HO.out hg hbox hb)
                   clear hb hbox hg
                   simp only [cons_append, nil_append] at HO
                   refine hK.out _ _ (by have h_ := pick [0] HO.out (by decide); first | exact h_ | exact cong h_ (by (try simp only [hq.1]) <;> rfl)) (fun hHeld => ?_)
                   clear hK K
                   refine norm_ (a' := ?_) ?_ ?_
                   rotate_left
                   ·show Act.put _ (some 3) _ = _
                    simp only [Act.put, u1, u2, u3, i64_w, i32_w]
                    rfl
                   exact norm_ (by simp only [hq.1, putAll, Act.put, u1, u2, u3] <;> rfl) (hJ2_10 (gb329) _ (cong (pick [0, 1] HO.out (by decide)) (by (try simp only [hq.1]) <;> rfl)))
                  ·skip
                   refine box_step ?hg (N := 4) ?hd (cs := Z6) (t := 29) ?hr ?_; (case hd => rfl); (case hg => rfl); (case hr => first | (go_simp; done) | (go_simp; rfl))
                   intro gb330 hg w356 hbox hb
                   replace HO := Aside0.mk (Ow.Own.add HO.out hg hbox hb)
                   clear hb hbox hg
                   simp only [cons_append, nil_append] at HO
                   refine hK.out _ _ (by have h_ := pick [0] HO.out (by decide); first | exact h_ | exact cong h_ (by (try simp only [hq.1]) <;> rfl)) (fun hHeld => ?_)
                   clear hK K
                   refine norm_ (a' := ?_) ?_ ?_
                   rotate_left
                   ·show Act.put _ (some 4) _ = _
                    simp only [Act.put, u1, u2, u3, i64_w, i32_w]
                    rfl
                   exact norm_ (by simp only [hq.1, putAll, Act.put, u1, u2, u3] <;> rfl) (hJ2_11 (gb330) _ (cong (pick [0, 1] HO.out (by decide)) (by (try simp only [hq.1]) <;> rfl)))
                ·skip
                 rintro ⟨gb329, gb330⟩ w356 HO7_
                 clear HO
                 have HO := Aside0.mk HO7_
                 clear HO7_
                 have hHeld := pick [0] HO.out (by decide)
                 refine norm_ (a' := ?_) ?_ ?_
                 rotate_left
                 ·simp only [putAll, Act.put, u1, u2, u3]
                  rfl
                 refine one_ (i := 2) (N := some 19) (Ow.B 16 4063) rfl rfl (one_of HT_.out (by kernel_rfl)) (by decide) (fun K hK => ?_)
                 obtain ⟨Q39, hQ39_⟩ : ∃ q_ : Array Value, q_ = (#[.string a0_0, .string a0_1, .string a0_2, .int .i64 a0_3, .string a0_4, .string a0_5, .string a0_6, .string a0_7, .string a0_8, .int .i64 a0_9, .int .i64 a0_10, .string a0_11, .bool a0_12, .int .i64 a0_13, .string a0_14, .string a0_15, .string a0_16, .int .i64 a0_17, .int .i64 a0_18, .int .i64 a0_19, .bool a0_20, .bool a0_21, .int .i64 a0_22, .int .i64 a0_23, .bool a0_24] : Array Value) := ⟨_, rfl⟩
                 try rw [← hQ39_]
                 have hQ39 := Aside0.mk hQ39_; replace hq := Aside0.mk (And.intro hQ39_ hq.1); clear hQ39_
                 refine goes_ Try.func15 (by kernel_rfl) rfl #[.agg Q39] (by rfl) rfl rfl (by (try simp only [map_toArray, map_cons, map_nil]); first | done | rfl | (simp only [hq.1] <;> rfl) | (simp only [length_drop, length_take]; rfl)) ?_
                 obtain ⟨Q40, hQ40_⟩ : ∃ q_ : Array Value, q_ = (#[.string t298, .string t299, .string t300, .int .i64 t301, .string t302, .string t303, .string t304, .string t305, .string t306, .int .i64 t307, .int .i64 t308, .string t309, .bool t310, .int .i64 t311, .string t312, .string t313, .string t314, .int .i64 t315, .int .i64 t316, .int .i64 t317, .bool t318, .bool t319, .int .i64 t320, .int .i64 t321, .bool t322] : Array Value) := ⟨_, rfl⟩
                 try rw [← hQ40_]
                 have hQ40 := Aside0.mk hQ40_; replace hq := Aside0.mk (And.intro hQ40_ hq.1); clear hQ40_
                 refine Calls.mono (calls_of_args (by (try simp only [hq.1]) <;> rfl) (bursarlaw22_Few.calls a0_0 a0_1 a0_2 a0_3 a0_4 a0_5 a0_6 a0_7 a0_8 a0_9 a0_10 a0_11 a0_12 a0_13 a0_14 a0_15 a0_16 a0_17 a0_18 a0_19 a0_20 a0_21 a0_22 a0_23 a0_24 t298 t299 t300 t301 t302 t303 t304 t305 t306 t307 t308 t309 t310 t311 t312 t313 t314 t315 t316 t317 t318 t319 t320 t321 t322 _ A2.out)) ?_
                 rintro e w357 ⟨he_, hb⟩
                 (try rw [← hQ40.out] at he_)
                 subst he_
                 replace HO := Aside0.mk (Ow.Own.call HO.out hb)
                 clear hb
                 refine ⟨_, rfl, ?_⟩
                 refine hK.out _ _ (by have h_ := pick [0] HO.out (by decide); first | exact h_ | exact cong h_ (by (try simp only [hq.1]) <;> rfl)) (fun hHeld => ?_)
                 clear hK K
                 refine norm_ (a' := ?_) ?_ ?_
                 rotate_left
                 ·show Act.put _ (some 19) _ = _
                  simp only [Act.put, u1, u2, u3, i64_w, i32_w]
                  rfl
                 exact norm_ (by simp only [hq.1, putAll, Act.put, u1, u2, u3] <;> rfl) (hJ2_10_11 (gb329, gb330) _ (cong (pick [0, 1, 2] HO.out (by decide)) (by (try simp only [hq.1]) <;> rfl)))
               ·skip
                rintro gb330 w356 HO7_
                clear HO
                have HO := Aside0.mk HO7_
                clear HO7_
                have hHeld := pick [0] HO.out (by decide)
                refine norm_ (a' := ?_) ?_ ?_
                rotate_left
                ·simp only [putAll, Act.put, u1, u2, u3]
                 rfl
                refine two_ (i := 5) (j := 10) (Ni := some 22) (Nj := some 3) (Ow.B 16 3071) (Ow.B 16 4063) rfl rfl rfl rfl (two_of HT_.out (by kernel_rfl)) (by decide) (by decide) (fun K hK => ?_) (fun K hK => ?_)
                ·skip
                 refine goes_ Try.func16 (by kernel_rfl) rfl #[.agg #[.string a0_25, .string a0_26, .string a0_27, .int .i64 a0_28, .int .i64 a0_29, .int .i64 a0_30]] (by rfl) rfl rfl (by (try simp only [map_toArray, map_cons, map_nil]); first | done | rfl | (simp only [hq.1] <;> rfl) | (simp only [length_drop, length_take]; rfl)) ?_
                 refine Calls.mono (calls_of_args (by (try simp only [hq.1]) <;> rfl) (bursarlaw26_few.calls a0_25 a0_26 a0_27 a0_28 a0_29 a0_30 t323 t324 t325 t326 t327 t328 _ A3.out)) ?_
                 rintro e w357 ⟨he_, hb⟩
                 subst he_
                 replace HO := Aside0.mk (Ow.Own.call HO.out hb)
                 clear hb
                 refine ⟨_, rfl, ?_⟩
                 refine hK.out _ _ (by have h_ := pick [0] HO.out (by decide); first | exact h_ | exact cong h_ (by (try simp only [hq.1]) <;> rfl)) (fun hHeld => ?_)
                 clear hK K
                 refine norm_ (a' := ?_) ?_ ?_
                 rotate_left
                 ·show Act.put _ (some 22) _ = _
                  simp only [Act.put, u1, u2, u3, i64_w, i32_w]
                  rfl
                 exact norm_ (by simp only [hq.1, putAll, Act.put, u1, u2, u3] <;> rfl) (hJ2_5_11 (gb330) _ (cong (pick [0, 1] HO.out (by decide)) (by (try simp only [hq.1]) <;> rfl)))
                ·skip
                 refine box_step ?hg (N := 3) ?hd (cs := Z25) (t := 27) ?hr ?_; (case hd => rfl); (case hg => rfl); (case hr => first | (go_simp; done) | (go_simp; rfl))
                 intro gb329 hg w357 hbox hb
                 replace HO := Aside0.mk (Ow.Own.add HO.out hg hbox hb)
                 clear hb hbox hg
                 simp only [cons_append, nil_append] at HO
                 refine hK.out _ _ (by have h_ := pick [0] HO.out (by decide); first | exact h_ | exact cong h_ (by (try simp only [hq.1]) <;> rfl)) (fun hHeld => ?_)
                 clear hK K
                 refine norm_ (a' := ?_) ?_ ?_
                 rotate_left
                 ·show Act.put _ (some 3) _ = _
                  simp only [Act.put, u1, u2, u3, i64_w, i32_w]
                  rfl
                 exact norm_ (by simp only [hq.1, putAll, Act.put, u1, u2, u3] <;> rfl) (hJ2_10_11 (gb329, gb330) _ (cong (pick [0, 2, 1] HO.out (by decide)) (by (try simp only [hq.1]) <;> rfl)))
              ·skip
               rintro gb329 w356 HO7_
               clear HO
               have HO := Aside0.mk HO7_
               clear HO7_
               have hHeld := pick [0] HO.out (by decide)
               refine norm_ (a' := ?_) ?_ ?_
               rotate_left
               ·simp only [putAll, Act.put, u1, u2, u3]
                rfl
               refine two_ (i := 5) (j := 11) (Ni := some 22) (Nj := some 4) (Ow.B 16 2047) (Ow.B 16 4063) rfl rfl rfl rfl (two_of HT_.out (by kernel_rfl)) (by decide) (by decide) (fun K hK => ?_) (fun K hK => ?_)
               ·skip
                refine goes_ Try.func16 (by kernel_rfl) rfl #[.agg #[.string a0_25, .string a0_26, .string a0_27, .int .i64 a0_28, .int .i64 a0_29, .int .i64 a0_30]] (by rfl) rfl rfl (by (try simp only [map_toArray, map_cons, map_nil]); first | done | rfl | (simp only [hq.1] <;> rfl) | (simp only [length_drop, length_take]; rfl)) ?_
                refine Calls.mono (calls_of_args (by (try simp only [hq.1]) <;> rfl) (bursarlaw26_few.calls a0_25 a0_26 a0_27 a0_28 a0_29 a0_30 t323 t324 t325 t326 t327 t328 _ A3.out)) ?_
                rintro e w357 ⟨he_, hb⟩
                subst he_
                replace HO := Aside0.mk (Ow.Own.call HO.out hb)
                clear hb
                refine ⟨_, rfl, ?_⟩
                refine hK.out _ _ (by have h_ := pick [0] HO.out (by decide); first | exact h_ | exact cong h_ (by (try simp only [hq.1]) <;> rfl)) (fun hHeld => ?_)
                clear hK K
                refine norm_ (a' := ?_) ?_ ?_
                rotate_left
                ·show Act.put _ (some 22) _ = _
                 simp only [Act.put, u1, u2, u3, i64_w, i32_w]
                 rfl
                exact norm_ (by simp only [hq.1, putAll, Act.put, u1, u2, u3] <;> rfl) (hJ2_5_10 (gb329) _ (cong (pick [0, 1] HO.out (by decide)) (by (try simp only [hq.1]) <;> rfl)))
               ·skip
                refine box_step ?hg (N := 4) ?hd (cs := Z6) (t := 29) ?hr ?_; (case hd => rfl); (case hg => rfl); (case hr => first | (go_simp; done) | (go_simp; rfl))
                intro gb330 hg w357 hbox hb
                replace HO := Aside0.mk (Ow.Own.add HO.out hg hbox hb)
                clear hb hbox hg
                simp only [cons_append, nil_append] at HO
                refine hK.out _ _ (by have h_ := pick [0] HO.out (by decide); first | exact h_ | exact cong h_ (by (try simp only [hq.1]) <;> rfl)) (fun hHeld => ?_)
                clear hK K
                refine norm_ (a' := ?_) ?_ ?_
                rotate_left
                ·show Act.put _ (some 4) _ = _
                 simp only [Act.put, u1, u2, u3, i64_w, i32_w]
                 rfl
                exact norm_ (by simp only [hq.1, putAll, Act.put, u1, u2, u3] <;> rfl) (hJ2_10_11 (gb329, gb330) _ (cong (pick [0, 1, 2] HO.out (by decide)) (by (try simp only [hq.1]) <;> rfl)))
             ·skip
              rintro _ w356 HO7_
              clear HO
              have HO := Aside0.mk HO7_
              clear HO7_
              have hHeld := pick [0] HO.out (by decide)
              refine norm_ (a' := ?_) ?_ ?_
              rotate_left
              ·simp only [putAll, Act.put, u1, u2, u3]
               rfl
              refine two_ (i := 10) (j := 11) (Ni := some 3) (Nj := some 4) (Ow.B 16 2047) (Ow.B 16 3071) rfl rfl rfl rfl (two_of HT_.out (by kernel_rfl)) (by decide) (by decide) (fun K hK => ?_) (fun K hK => ?_)
              ·skip
               refine box_step ?hg (N := 3) ?hd (cs := Z25) (t := 27) ?hr ?_; (case hd => rfl); (case hg => rfl); (case hr => first | (go_simp; done) | (go_simp; rfl))
               intro gb329 hg w357 hbox hb
               replace HO := Aside0.mk (Ow.Own.add HO.out hg hbox hb)
               clear hb hbox hg
               simp only [cons_append, nil_append] at HO
               refine hK.out _ _ (by have h_ := pick [0] HO.out (by decide); first | exact h_ | exact cong h_ (by (try simp only [hq.1]) <;> rfl)) (fun hHeld => ?_)
               clear hK K
               refine norm_ (a' := ?_) ?_ ?_
               rotate_left
               ·show Act.put _ (some 3) _ = _
                simp only [Act.put, u1, u2, u3, i64_w, i32_w]
                rfl
               exact norm_ (by simp only [hq.1, putAll, Act.put, u1, u2, u3] <;> rfl) (hJ2_5_10 (gb329) _ (cong (pick [0, 1] HO.out (by decide)) (by (try simp only [hq.1]) <;> rfl)))
              ·skip
               refine box_step ?hg (N := 4) ?hd (cs := Z6) (t := 29) ?hr ?_; (case hd => rfl); (case hg => rfl); (case hr => first | (go_simp; done) | (go_simp; rfl))
               intro gb330 hg w357 hbox hb
               replace HO := Aside0.mk (Ow.Own.add HO.out hg hbox hb)
               clear hb hbox hg
               simp only [cons_append, nil_append] at HO
               refine hK.out _ _ (by have h_ := pick [0] HO.out (by decide); first | exact h_ | exact cong h_ (by (try simp only [hq.1]) <;> rfl)) (fun hHeld => ?_)
               clear hK K
               refine norm_ (a' := ?_) ?_ ?_
               rotate_left
               ·show Act.put _ (some 4) _ = _
                simp only [Act.put, u1, u2, u3, i64_w, i32_w]
                rfl
               exact norm_ (by simp only [hq.1, putAll, Act.put, u1, u2, u3] <;> rfl) (hJ2_5_11 (gb330) _ (cong (pick [0, 1] HO.out (by decide)) (by (try simp only [hq.1]) <;> rfl)))
            ·skip
             rintro ⟨gb329, gb330⟩ w357 HO7_
             clear HO
             have HO := Aside0.mk HO7_
             clear HO7_
             have hHeld := pick [0] HO.out (by decide)
             refine norm_ (a' := ?_) ?_ ?_
             rotate_left
             ·simp only [putAll, Act.put, u1, u2, u3]
              rfl
             refine one_ (i := 5) (N := some 22) (Ow.B 16 4095) rfl rfl (one_of HT_.out (by kernel_rfl)) (by decide) (fun K hK => ?_)
             refine goes_ Try.func16 (by kernel_rfl) rfl #[.agg #[.string a0_25, .string a0_26, .string a0_27, .int .i64 a0_28, .int .i64 a0_29, .int .i64 a0_30]] (by rfl) rfl rfl (by (try simp only [map_toArray, map_cons, map_nil]); first | done | rfl | (simp only [hq.1] <;> rfl) | (simp only [length_drop, length_take]; rfl)) ?_
             refine Calls.mono (calls_of_args (by (try simp only [hq.1]) <;> rfl) (bursarlaw26_few.calls a0_25 a0_26 a0_27 a0_28 a0_29 a0_30 t323 t324 t325 t326 t327 t328 _ A3.out)) ?_
             rintro e w358 ⟨he_, hb⟩
             subst he_
             replace HO := Aside0.mk (Ow.Own.call HO.out hb)
             clear hb
             refine ⟨_, rfl, ?_⟩
             refine hK.out _ _ (by have h_ := pick [0] HO.out (by decide); first | exact h_ | exact cong h_ (by (try simp only [hq.1]) <;> rfl)) (fun hHeld => ?_)
             clear hK K
             refine norm_ (a' := ?_) ?_ ?_
             rotate_left
             ·show Act.put _ (some 22) _ = _
              simp only [Act.put, u1, u2, u3, i64_w, i32_w]
              rfl
             exact norm_ (by simp only [hq.1, putAll, Act.put, u1, u2, u3] <;> rfl) (hJ2_5_10_11 (gb329, gb330) _ (cong (pick [0, 1, 2] HO.out (by decide)) (by (try simp only [hq.1]) <;> rfl)))
           ·skip
            rintro gb330 w357 HO7_
            clear HO
            have HO := Aside0.mk HO7_
            clear HO7_
            have hHeld := pick [0] HO.out (by decide)
            refine norm_ (a' := ?_) ?_ ?_
            rotate_left
            ·simp only [putAll, Act.put, u1, u2, u3]
             rfl
            refine one_ (i := 10) (N := some 3) (Ow.B 16 4095) rfl rfl (one_of HT_.out (by kernel_rfl)) (by decide) (fun K hK => ?_)
            refine box_step ?hg (N := 3) ?hd (cs := Z25) (t := 27) ?hr ?_; (case hd => rfl); (case hg => rfl); (case hr => first | (go_simp; done) | (go_simp; rfl))
            intro gb329 hg w358 hbox hb
            replace HO := Aside0.mk (Ow.Own.add HO.out hg hbox hb)
            clear hb hbox hg
            simp only [cons_append, nil_append] at HO
            refine hK.out _ _ (by have h_ := pick [0] HO.out (by decide); first | exact h_ | exact cong h_ (by (try simp only [hq.1]) <;> rfl)) (fun hHeld => ?_)
            clear hK K
            refine norm_ (a' := ?_) ?_ ?_
            rotate_left
            ·show Act.put _ (some 3) _ = _
             simp only [Act.put, u1, u2, u3, i64_w, i32_w]
             rfl
            exact norm_ (by simp only [hq.1, putAll, Act.put, u1, u2, u3] <;> rfl) (hJ2_5_10_11 (gb329, gb330) _ (cong (pick [0, 2, 1] HO.out (by decide)) (by (try simp only [hq.1]) <;> rfl)))
          ·skip
           rintro gb329 w357 HO7_
           clear HO
           have HO := Aside0.mk HO7_
           clear HO7_
           have hHeld := pick [0] HO.out (by decide)
           refine norm_ (a' := ?_) ?_ ?_
           rotate_left
           ·simp only [putAll, Act.put, u1, u2, u3]
            rfl
           refine one_ (i := 11) (N := some 4) (Ow.B 16 4095) rfl rfl (one_of HT_.out (by kernel_rfl)) (by decide) (fun K hK => ?_)
           refine box_step ?hg (N := 4) ?hd (cs := Z6) (t := 29) ?hr ?_; (case hd => rfl); (case hg => rfl); (case hr => first | (go_simp; done) | (go_simp; rfl))
           intro gb330 hg w358 hbox hb
           replace HO := Aside0.mk (Ow.Own.add HO.out hg hbox hb)
           clear hb hbox hg
           simp only [cons_append, nil_append] at HO
           refine hK.out _ _ (by have h_ := pick [0] HO.out (by decide); first | exact h_ | exact cong h_ (by (try simp only [hq.1]) <;> rfl)) (fun hHeld => ?_)
           clear hK K
           refine norm_ (a' := ?_) ?_ ?_
           rotate_left
           ·show Act.put _ (some 4) _ = _
            simp only [Act.put, u1, u2, u3, i64_w, i32_w]
            rfl
           exact norm_ (by simp only [hq.1, putAll, Act.put, u1, u2, u3] <;> rfl) (hJ2_5_10_11 (gb329, gb330) _ (cong (pick [0, 1, 2] HO.out (by decide)) (by (try simp only [hq.1]) <;> rfl)))
         rintro ⟨gb329, gb330⟩ w358 HO7_
         clear HO
         have HO := Aside0.mk HO7_
         clear HO7_
         have hHeld := pick [0] HO.out (by decide)
         refine norm_ (a' := ?_) ?_ ?_
         rotate_left
         ·simp only [putAll, Act.put, u1, u2, u3]
          rfl
         refine one_ (i := 12) (N := none) (Ow.B 16 8191) rfl rfl (one_of HT_.out (by kernel_rfl)) (by decide) (fun K hK => ?_)
         refine Ow.oskip Ot.ty HO.out (by rfl) rfl rfl rfl rfl (by with_reducible first | exact Ow.at0 | exact Ow.at1 | exact Ow.at2) (by first | exact Ow.ev_tmp rfl | rfl) (by (try simp only [hq.1]) <;> rfl) (by (try simp only [hq.1]) <;> rfl) (by (try simp only [hq.1]) <;> rfl) ?_
         clear HO; intro wz_ HO; simp only [u2, u3] at HO
         refine hK.out _ _ (by have h_ := pick [0] HO.out (by decide); first | exact h_ | exact cong h_ (by (try simp only [hq.1]) <;> rfl)) (fun hHeld => ?_)
         clear hK K
         refine one_ (i := 13) (N := none) (Ow.B 16 16383) rfl rfl (one_of HT_.out (by kernel_rfl)) (by decide) (fun K hK => ?_)
         refine Ow.oskip Ot.ty HO.out (by rfl) rfl rfl rfl rfl (by with_reducible first | exact Ow.at0 | exact Ow.at1 | exact Ow.at2) (by first | exact Ow.ev_tmp rfl | rfl) (by (try simp only [hq.1]) <;> rfl) (by (try simp only [hq.1]) <;> rfl) (by (try simp only [hq.1]) <;> rfl) ?_
         clear HO; intro wz_ HO; simp only [u2, u3] at HO
         refine hK.out _ _ (by have h_ := pick [0] HO.out (by decide); first | exact h_ | exact cong h_ (by (try simp only [hq.1]) <;> rfl)) (fun hHeld => ?_)
         clear hK K
         refine' Ow.pu (i := 14) (N := some 5) (Ow.B 16 32767) HT_.out ?hv_ ?ha_ ?_; (case hv_ => intro w'; go_simp; with_reducible rfl); (case ha_ => simp only [Ow.Sl, i64_w, i32_w]; rfl)
         refine' Ow.pu (i := 15) (N := some 6) (Ow.B 16 65535) HT_.out ?hv_ ?ha_ ?_; (case hv_ => intro w'; go_simp; with_reducible rfl); (case ha_ => simp only [Ow.Sl, i64_w, i32_w]; rfl)
         refine done_ (done_of HT_.out (by kernel_rfl)) ?_
         obtain ⟨Q41, hQ41_⟩ : ∃ q_ : Array Value, q_ = (#[.string t298, .string t299, .string t300, .int .i64 t301, .string t302, .string t303, .string t304, .string t305, .string t306, .int .i64 t307, .int .i64 t308, .string t309, .bool t310, .int .i64 t311, .string t312, .string t313, .string t314, .int .i64 t315, .int .i64 t316, .int .i64 t317, .bool t318, .bool t319, .int .i64 t320, .int .i64 t321, .bool t322] : Array Value) := ⟨_, rfl⟩
         try rw [← hQ41_]
         have hQ41 := Aside0.mk hQ41_; replace hq := Aside0.mk (And.intro hQ41_ hq.1); clear hQ41_
         obtain ⟨Q42, hQ42_⟩ : ∃ q_ : Array Value, q_ = (#[.string t298, .string t299, .string (((⟨#[48]⟩ : ByteArray) ++ (strOfNums y363)) ++ (⟨#[48, 48, 48, 48]⟩ : ByteArray)), .int .i64 t335, .string t302, .string t303, .string t304, .string t305, .string t306, .int .i64 t307, .int .i64 t308, .string t309, .bool t310, .int .i64 t311, .string t312, .string t313, .string t314, .int .i64 t315, .int .i64 t316, .int .i64 t317, .bool t318, .bool t319, .int .i64 (wrap64 (t320 + (wrap64 (a0_32)))), .int .i64 t321, .bool t322] : Array Value) := ⟨_, rfl⟩
         try rw [← hQ42_]
         have hQ42 := Aside0.mk hQ42_; replace hq := Aside0.mk (And.intro hQ42_ hq.1); clear hQ42_
         try go_wp2_with (first | ((with_reducible refine gate_callee (f := 17) rfl ?_); refine goesL_ (some 31) rfl rfl Try.func17 (by kernel_rfl) rfl #[.agg Q41, .agg #[.string t323, .string t324, .string t325, .int .i64 t326, .int .i64 t327, .int .i64 t328], .bool a0_31] rfl (by (try simp only [map_toArray, map_cons, map_nil]); first | done | rfl | (simp only [hq.1] <;> rfl)) ?_; refine Calls.mono (calls_of_args (by (try simp only [hq.1]) <;> rfl) (dispute_Decide.calls k t298 t299 t300 t301 t302 t303 t304 t305 t306 t307 t308 t309 t310 t311 t312 t313 t314 t315 t316 t317 t318 t319 t320 t321 t322 t323 t324 t325 t326 t327 t328 a0_31 t331 t332 t333 t334 t335 t336 t337 t338 t339 t340 t341 t342 t343 _ A4.out)) ?_; rintro e w395 ⟨he_, hb⟩; subst he_; refine ⟨_, rfl, ?_⟩; replace HO := Aside0.mk (Ow.Own.call HO.out hb); clear hb) | ((with_reducible refine gate_dst (N := 7) rfl ?_); refine Ow.box rfl (N := 7) rfl (cs := Z6) (t := 29) HO.out (by first | (go_simp; done) | (go_simp; rfl)) ?_; clear HO; intro gb344 w396 HO; simp only [cons_append, nil_append] at HO) | ((with_reducible refine gate_dst (N := 8) rfl ?_); refine Ow.box rfl (N := 8) rfl (cs := Z6_2) (t := 36) HO.out (by first | (go_simp; done) | (go_simp; rfl)) ?_; clear HO; intro gb345 w397 HO; simp only [cons_append, nil_append] at HO) | ((with_reducible refine gate_callee (f := 17) rfl ?_); refine goesL_ (some 46) rfl rfl Try.func17 (by kernel_rfl) rfl #[.agg Q41, .agg #[.string t331, .string t332, .string t333, .int .i64 t334, .int .i64 t335, .int .i64 t336], .bool true] rfl (by (try simp only [map_toArray, map_cons, map_nil]); first | done | rfl | (simp only [hq.1] <;> rfl)) ?_; refine Calls.mono (calls_of_args (by (try simp only [hq.1]) <;> rfl) (dispute_Decide.calls k t298 t299 t300 t301 t302 t303 t304 t305 t306 t307 t308 t309 t310 t311 t312 t313 t314 t315 t316 t317 t318 t319 t320 t321 t322 t331 t332 t333 t334 t335 t336 true t347 t348 t349 t350 t351 t352 t353 t354 t355 t356 t357 t358 t359 _ A6.out)) ?_; rintro e w411 ⟨he_, hb⟩; subst he_; refine ⟨_, rfl, ?_⟩; replace HO := Aside0.mk (Ow.Own.call HO.out hb); clear hb) | ((with_reducible refine gate_dst (N := 10) rfl ?_); refine Ow.box rfl (N := 10) rfl (cs := Z6) (t := 29) HO.out (by first | (go_simp; done) | (go_simp; rfl)) ?_; clear HO; intro gb360 w412 HO; simp only [cons_append, nil_append] at HO) | ((with_reducible refine gate_dst (N := 11) rfl ?_); refine Ow.box rfl (N := 11) rfl (cs := Z6_2) (t := 36) HO.out (by first | (go_simp; done) | (go_simp; rfl)) ?_; clear HO; intro gb361 w413 HO; simp only [cons_append, nil_append] at HO) | ((with_reducible refine gate_dst (N := 13) rfl ?_); refine Ow.box rfl (N := 13) rfl (cs := Z25) (t := 27) HO.out (by first | (go_simp; done) | (go_simp; rfl)) ?_; clear HO; intro gb362 w430 HO; simp only [cons_append, nil_append] at HO) | ((with_reducible refine gate_dst (N := 58) rfl ?_); refine Ow.lit8 rfl (N := 58) rfl (v := ((wrap64 (48 + (Int.tmod t334 3))) % 256)) (e := 5) Try.underlying40 Try.underlying5 Try.underlying9 HO.out (by first | (go_simp; done) | (go_simp; rfl)) ?_; clear HO; intro gv364 w441 HO hcv_; simp only [cons_append, nil_append] at HO; (try rw [← Ny363.out] at hcv_)) | ((with_reducible refine gate_callee (f := 17) rfl ?_); refine goesL_ (some 81) rfl rfl Try.func17 (by kernel_rfl) rfl #[.agg Q42, .agg #[.string t331, .string t332, .string t333, .int .i64 t334, .int .i64 t335, .int .i64 t336], .bool true] rfl (by (try simp only [map_toArray, map_cons, map_nil]); first | done | rfl | (simp only [hq.1] <;> rfl)) ?_; refine Calls.mono (calls_of_args (by (try simp only [hq.1]) <;> rfl) (dispute_Decide.calls k t298 t299 (((⟨#[48]⟩ : ByteArray) ++ (strOfNums y363)) ++ (⟨#[48, 48, 48, 48]⟩ : ByteArray)) t335 t302 t303 t304 t305 t306 t307 t308 t309 t310 t311 t312 t313 t314 t315 t316 t317 t318 t319 (wrap64 (t320 + (wrap64 (a0_32)))) t321 t322 t331 t332 t333 t334 t335 t336 true t367 t368 t369 t370 t371 t372 t373 t374 t375 t376 t377 t378 t379 _ A107.out)) ?_; rintro e w446 ⟨he_, hb⟩; subst he_; refine ⟨_, rfl, ?_⟩; replace HO := Aside0.mk (Ow.Own.call HO.out hb); clear hb) | ((with_reducible refine gate_dst (N := 14) rfl ?_); refine Ow.box rfl (N := 14) rfl (cs := Z6) (t := 29) HO.out (by first | (go_simp; done) | (go_simp; rfl)) ?_; clear HO; intro gb380 w447 HO; simp only [cons_append, nil_append] at HO) | ((with_reducible refine gate_dst (N := 15) rfl ?_); refine Ow.box rfl (N := 15) rfl (cs := Z6_2) (t := 36) HO.out (by first | (go_simp; done) | (go_simp; rfl)) ?_; clear HO; intro gb381 w448 HO; simp only [cons_append, nil_append] at HO) | (go_at_call 18; refine Calls.mono (calls_of_args (by (try simp only [hq.1]) <;> rfl) (bursarlaw26_awake.calls k  t384 _ A351.out)) ?_; rintro e w469 ⟨he_, hb⟩; subst he_; replace HO := Aside0.mk (Ow.Own.call HO.out hb); clear hb) | ((with_reducible refine Ow.gate_build rfl ?_); (try (refine gate_guard (by rfl) ?_; dsimp only)); refine' Ow.tbuild Ot.bd rfl rfl rfl ?hf_ ?_; (case hf_ => repeat (any_goals (first | exact Ow.Fills.nil | (refine' Ow.Fills.c ?hv_ rfl ?hz_ ?_; (case hv_ => first | exact Ow.ev_tmp rfl | rfl); (case hz_ => first | (refine ⟨?_, ?_⟩ <;> ((try simp only [hq.1]) <;> rfl)) | fail)))))) | ((with_reducible refine Ow.gate_load rfl ?_); (try (refine gate_guard (by rfl) ?_; dsimp only)); (first | refine Ow.l1 Ot.ty HO.out rfl rfl rfl rfl (by (try simp only [hq.1]) <;> rfl) ?_ | refine Ow.l0 Ot.ty HO.out rfl rfl rfl rfl (by (try simp only [hq.1]) <;> rfl) ?_ | refine Ow.lp Ot.ty HO.out rfl rfl rfl rfl (by (try simp only [hq.1]) <;> rfl) ?_)) | ((with_reducible refine gate_store rfl ?_); (try (refine gate_guard (by rfl) ?_; dsimp only)); (first | refine Ow.s0 Ot.ty HO.out rfl rfl rfl rfl rfl (by first | exact Ow.ev_tmp rfl | rfl) (by first | (refine ⟨?_, ?_, ?_⟩ <;> ((try simp only [hq.1]) <;> rfl)) | fail) ?_ | refine Ow.sp Ot.ty HO.out rfl rfl rfl rfl rfl (by first | exact Ow.ev_tmp rfl | rfl) (by first | (refine ⟨?_, ?_, ?_⟩ <;> ((try simp only [hq.1]) <;> rfl)) | fail) ?_); clear HO; intro wz_ HO; simp only [u2, u3] at HO))
         all_goals go_ret
         all_goals exact ⟨by first | rfl | (simp only [hq.1] <;> rfl) | (simp [errW_none, errW_some] <;> rfl) | (simp [*, errW_none, errW_some] <;> rfl), Ow.Own.below HO.out⟩
    ·rw [if_neg c9] at H
     exact absurd H (by simp)
   ·rw [if_neg c8] at H
    exact absurd H (by simp)
 ·rw [if_neg c5] at H
  have c5b0 : (t343.toList == ([48, 48] : List UInt8)) = false := beq_eq_false_iff_ne.mpr c5
  have c5b1 : (t343.toList != ([48, 48] : List UInt8)) = true := bne_iff_ne.mpr c5
  by_cases c470 : (t331.toList == ([] : List UInt8) && (t332.toList == ([] : List UInt8) && (t333.toList == ([] : List UInt8) && (t334 == 0 && (t335 == 0 && (t336 == 0)))))) = true
  ·rw [if_pos c470] at H
   have c470b0 : (t331.toList == ([] : List UInt8) && (t332.toList == ([] : List UInt8) && (t333.toList == ([] : List UInt8) && (t334 == 0 && (t335 == 0 && (t336 == 0)))))) = true := c470
   (try (have c470b1 : decide (t331.toList = ([] : List UInt8) && (t332.toList == ([] : List UInt8) && (t333.toList == ([] : List UInt8) && (t334 == 0 && (t335 == 0 && (t336 == 0)))))) = true := by simpa using c470))
   (try (have c470b2 : (t331.toList == ([] : List UInt8) && (t332.toList == ([] : List UInt8) && (t333.toList == ([] : List UInt8) && (t334 == 0 && (t335 == 0 && (t336 == 0)))))) = true := by simpa using c470))
   (try (have c470b3 : ((t331.toList = ([] : List UInt8) ∧ (t332.toList = ([] : List UInt8) ∧ (t333.toList = ([] : List UInt8) ∧ (t334 = 0 ∧ (t335 = 0 ∧ (t336 = 0)))))) = True) := eq_true (by first | (simpa using c470; done) | (intro h_; have g_ := c470; simp [h_] at g_; done) | (have g_ := c470; simp at g_; exact g_))))
   (try (have c470b4 : (t331.toList.isEmpty) = true := (by first | (have g_ := c470; simp at g_; simp [g_]; done) | (have g_ := c470; simp [Pu.beq_nil] at g_ ⊢; simp [g_]; done) | (have g_ := c470; simp [Pu.beq_nil] at g_ ⊢; exact g_))))
   (try (have c470b5 : (t332.toList.isEmpty) = true := (by first | (have g_ := c470; simp at g_; simp [g_]; done) | (have g_ := c470; simp [Pu.beq_nil] at g_ ⊢; simp [g_]; done) | (have g_ := c470; simp [Pu.beq_nil] at g_ ⊢; exact g_))))
   (try (have c470b6 : (t333.toList.isEmpty) = true := (by first | (have g_ := c470; simp at g_; simp [g_]; done) | (have g_ := c470; simp [Pu.beq_nil] at g_ ⊢; simp [g_]; done) | (have g_ := c470; simp [Pu.beq_nil] at g_ ⊢; exact g_))))
   (try (have c470b7 : ((t334 == 0)) = true := (by first | (have g_ := c470; simp at g_; simp [g_]; done) | (have g_ := c470; simp [Pu.beq_nil] at g_ ⊢; simp [g_]; done) | (have g_ := c470; simp [Pu.beq_nil] at g_ ⊢; exact g_))))
   (try (have c470b8 : ((t335 == 0)) = true := (by first | (have g_ := c470; simp at g_; simp [g_]; done) | (have g_ := c470; simp [Pu.beq_nil] at g_ ⊢; simp [g_]; done) | (have g_ := c470; simp [Pu.beq_nil] at g_ ⊢; exact g_))))
   (try (have c470b9 : ((t336 == 0)) = true := (by first | (have g_ := c470; simp at g_; simp [g_]; done) | (have g_ := c470; simp [Pu.beq_nil] at g_ ⊢; simp [g_]; done) | (have g_ := c470; simp [Pu.beq_nil] at g_ ⊢; exact g_))))
   (try (have c470b10 : (t331.toList == ([] : List UInt8)) = true := (by first | (have g_ := c470; simp at g_; simp [g_]; done) | (have g_ := c470; simp [Pu.beq_nil] at g_ ⊢; simp [g_]; done) | (have g_ := c470; simp [Pu.beq_nil] at g_ ⊢; exact g_))))
   (try (have c470b11 : (t332.toList == ([] : List UInt8)) = true := (by first | (have g_ := c470; simp at g_; simp [g_]; done) | (have g_ := c470; simp [Pu.beq_nil] at g_ ⊢; simp [g_]; done) | (have g_ := c470; simp [Pu.beq_nil] at g_ ⊢; exact g_))))
   (try (have c470b12 : (t333.toList == ([] : List UInt8)) = true := (by first | (have g_ := c470; simp at g_; simp [g_]; done) | (have g_ := c470; simp [Pu.beq_nil] at g_ ⊢; simp [g_]; done) | (have g_ := c470; simp [Pu.beq_nil] at g_ ⊢; exact g_))))
   clear c470
   replace H := Option.bind_eq_some_iff.mp H
   obtain ⟨t346, A4710, H⟩ := H
   replace H : (some t346) = some r := H
   have A471 := Aside0.mk A4710
   clear A4710
   obtain rfl := Option.some.inj H
   obtain ⟨Q43, hQ43_⟩ : ∃ q_ : Array Value, q_ = (#[.string a0_0, .string a0_1, .string a0_2, .int .i64 a0_3, .string a0_4, .string a0_5, .string a0_6, .string a0_7, .string a0_8, .int .i64 a0_9, .int .i64 a0_10, .string a0_11, .bool a0_12, .int .i64 a0_13, .string a0_14, .string a0_15, .string a0_16, .int .i64 a0_17, .int .i64 a0_18, .int .i64 a0_19, .bool a0_20, .bool a0_21, .int .i64 a0_22, .int .i64 a0_23, .bool a0_24, .string a0_25, .string a0_26, .string a0_27, .int .i64 a0_28, .int .i64 a0_29, .int .i64 a0_30, .bool a0_31, .int .u16 a0_32] : Array Value) := ⟨_, rfl⟩
   try rw [← hQ43_]
   have hQ43 := Aside0.mk hQ43_; have hq := Aside0.mk hQ43_; clear hQ43_
   go_enter Try.func3, Try.ntmps3
   try go_wp2_with (first | ((with_reducible refine gate_dst (N := 1) rfl ?_); refine Ow.box rfl (N := 1) rfl (cs := Q43) (t := 32) HO.out (by first | (go_simp; done) | (go_simp; rfl)) ?_; clear HO; intro gb297 w472 HO; simp only [cons_append, nil_append] at HO) | ((with_reducible refine Ow.gate_eqs (t := 29) (by first | exact Or.inl rfl | exact Or.inr rfl) rfl ?_); simp only [hq.1, Ow.part, Ot.sz, Ot.zero, Ow.over, Ow.overL, List.drop_succ_cons, List.drop_zero, List.take_succ_cons, List.take_zero]) | ((with_reducible refine Ow.gate_build rfl ?_); (try (refine gate_guard (by rfl) ?_; dsimp only)); refine' Ow.tbuild Ot.bd rfl rfl rfl ?hf_ ?_; (case hf_ => repeat (any_goals (first | exact Ow.Fills.nil | (refine' Ow.Fills.c ?hv_ rfl ?hz_ ?_; (case hv_ => first | exact Ow.ev_tmp rfl | rfl); (case hz_ => first | (refine ⟨?_, ?_⟩ <;> ((try simp only [hq.1]) <;> rfl)) | fail)))))) | ((with_reducible refine Ow.gate_load rfl ?_); (try (refine gate_guard (by rfl) ?_; dsimp only)); (first | refine Ow.l1 Ot.ty HO.out rfl rfl rfl rfl (by (try simp only [hq.1]) <;> rfl) ?_ | refine Ow.l0 Ot.ty HO.out rfl rfl rfl rfl (by (try simp only [hq.1]) <;> rfl) ?_ | refine Ow.lp Ot.ty HO.out rfl rfl rfl rfl (by (try simp only [hq.1]) <;> rfl) ?_)) | ((with_reducible refine gate_store rfl ?_); (try (refine gate_guard (by rfl) ?_; dsimp only)); (first | refine Ow.s0 Ot.ty HO.out rfl rfl rfl rfl rfl (by first | exact Ow.ev_tmp rfl | rfl) (by first | (refine ⟨?_, ?_, ?_⟩ <;> ((try simp only [hq.1]) <;> rfl)) | fail) ?_ | refine Ow.sp Ot.ty HO.out rfl rfl rfl rfl rfl (by first | exact Ow.ev_tmp rfl | rfl) (by first | (refine ⟨?_, ?_, ?_⟩ <;> ((try simp only [hq.1]) <;> rfl)) | fail) ?_); clear HO; intro wz_ HO; simp only [u2, u3] at HO))
   refine Ow.ostart (n := 16) (ds := []) (Ow.B 16 0) HO.out (by kernel_rfl) rfl (by kernel_rfl) ?_
   intro hHeld; replace HO := Aside0.mk hHeld; refine with_tabW bursarlaw26_DisputeOnce.tab1 bursarlaw26_DisputeOnce.bits1 (fun HT_ HW_ => ?_)
   refine' Ow.pu (i := 0) (N := some 17) (Ow.B 16 1) HT_.out ?hv_ ?ha_ ?_; (case hv_ => intro w'; go_simp; with_reducible rfl); (case ha_ => simp only [Ow.Sl, i64_w, i32_w]; rfl)
   refine' Ow.pu (i := 3) (N := some 20) (Ow.B 16 9) HT_.out ?hv_ ?ha_ ?_; (case hv_ => intro w'; go_simp; with_reducible rfl); (case ha_ => simp only [Ow.Sl, i64_w, i32_w]; rfl)
   refine' Ow.pu (i := 6) (N := some 23) (Ow.B 16 73) HT_.out ?hv_ ?ha_ ?_; (case hv_ => intro w'; go_simp; with_reducible rfl); (case ha_ => simp only [Ow.Sl, i64_w, i32_w]; rfl)
   refine' Ow.pu (i := 8) (N := some 25) (Ow.B 16 329) HT_.out ?hv_ ?ha_ ?_; (case hv_ => intro w'; go_simp; with_reducible rfl); (case ha_ => simp only [Ow.Sl, i64_w, i32_w]; rfl)
   refine take_ (i := 1) (N := some 18) (v := ?_) (a' := ?_) (Ow.B 16 331) rfl rfl (take_ofW HT_.out HW_.out (by kernel_rfl)) (fun _ _ _ h => h) (Or.inl ⟨by rfl, ?_⟩) hHeld ?_ ?_
   rotate_left
   ·intro w' s_
    first | refine Ow.r1 Ot.ty s_ rfl rfl rfl (by (try simp only [hq.1]) <;> rfl) | (refine' Ow.r0 Ot.ty s_ rfl rfl rfl ?h; (case h => first | ((try simp only [hq.1]) <;> rfl) | fail)) | (refine' Ow.rp Ot.ty s_ rfl rfl rfl ?h; (case h => first | ((try simp only [hq.1]) <;> rfl) | fail)) | (go_simp; with_reducible rfl)
   rotate_left
   ·simp only [Act.put, u1, u2, u3, i64_w, i32_w]
    rfl
   refine take_ (i := 4) (N := some 21) (v := ?_) (a' := ?_) (Ow.B 16 347) rfl rfl (take_ofW HT_.out HW_.out (by kernel_rfl)) (fun _ _ _ h => h) (Or.inl ⟨by rfl, ?_⟩) hHeld ?_ ?_
   rotate_left
   ·intro w' s_
    first | refine Ow.r1 Ot.ty s_ rfl rfl rfl (by (try simp only [hq.1]) <;> rfl) | (refine' Ow.r0 Ot.ty s_ rfl rfl rfl ?h; (case h => first | ((try simp only [hq.1]) <;> rfl) | fail)) | (refine' Ow.rp Ot.ty s_ rfl rfl rfl ?h; (case h => first | ((try simp only [hq.1]) <;> rfl) | fail)) | (go_simp; with_reducible rfl)
   rotate_left
   ·simp only [Act.put, u1, u2, u3, i64_w, i32_w]
    rfl
   refine take_ (i := 7) (N := some 24) (v := ?_) (a' := ?_) (Ow.B 16 475) rfl rfl (take_ofW HT_.out HW_.out (by kernel_rfl)) (fun _ _ _ h => h) (Or.inl ⟨by rfl, ?_⟩) hHeld ?_ ?_
   rotate_left
   ·intro w' s_
    first | refine Ow.r1 Ot.ty s_ rfl rfl rfl (by (try simp only [hq.1]) <;> rfl) | (refine' Ow.r0 Ot.ty s_ rfl rfl rfl ?h; (case h => first | ((try simp only [hq.1]) <;> rfl) | fail)) | (refine' Ow.rp Ot.ty s_ rfl rfl rfl ?h; (case h => first | ((try simp only [hq.1]) <;> rfl) | fail)) | (go_simp; with_reducible rfl)
   rotate_left
   ·simp only [Act.put, u1, u2, u3, i64_w, i32_w]
    rfl
   refine take_ (i := 9) (N := some 26) (v := ?_) (a' := ?_) (Ow.B 16 987) rfl rfl (take_ofW HT_.out HW_.out (by kernel_rfl)) (fun _ _ _ h => h) (Or.inl ⟨by rfl, ?_⟩) hHeld ?_ ?_
   rotate_left
   ·intro w' s_
    first | refine Ow.r1 Ot.ty s_ rfl rfl rfl (by (try simp only [hq.1]) <;> rfl) | (refine' Ow.r0 Ot.ty s_ rfl rfl rfl ?h; (case h => first | ((try simp only [hq.1]) <;> rfl) | fail)) | (refine' Ow.rp Ot.ty s_ rfl rfl rfl ?h; (case h => first | ((try simp only [hq.1]) <;> rfl) | fail)) | (go_simp; with_reducible rfl)
   rotate_left
   ·simp only [Act.put, u1, u2, u3, i64_w, i32_w]
    rfl
   refine join_ (σ := Nat × Nat) 4 (Ow.B 16 4095) (fun s_ => [(19, .agg #[.string t298, .string t299, .string t300, .int .i64 t301, .string t302, .string t303, .string t304, .string t305, .string t306, .int .i64 t307, .int .i64 t308, .string t309, .bool t310, .int .i64 t311, .string t312, .string t313, .string t314, .int .i64 t315, .int .i64 t316, .int .i64 t317, .bool t318, .bool t319, .int .i64 t320, .int .i64 t321, .bool t322]), (22, .agg #[.string t323, .string t324, .string t325, .int .i64 t326, .int .i64 t327, .int .i64 t328]), (3, .pointer (some ⟨s_.1, 0, none⟩)), (4, .pointer (some ⟨s_.2, 0, none⟩))]) (fun s_ w' => Ow.Own w w' [(gb297, Q43, 32), (s_.1, Z25, 27), (s_.2, Z6, 29)]) ?_ ?_
   rotate_left
   ·intro hJ2_5_10_11
    refine join_ (σ := Nat) 5 (Ow.B 16 2047) (fun s_ => [(19, .agg #[.string t298, .string t299, .string t300, .int .i64 t301, .string t302, .string t303, .string t304, .string t305, .string t306, .int .i64 t307, .int .i64 t308, .string t309, .bool t310, .int .i64 t311, .string t312, .string t313, .string t314, .int .i64 t315, .int .i64 t316, .int .i64 t317, .bool t318, .bool t319, .int .i64 t320, .int .i64 t321, .bool t322]), (22, .agg #[.string t323, .string t324, .string t325, .int .i64 t326, .int .i64 t327, .int .i64 t328]), (3, .pointer (some ⟨s_, 0, none⟩))]) (fun s_ w' => Ow.Own w w' [(gb297, Q43, 32), (s_, Z25, 27)]) ?_ ?_
    rotate_left
    ·intro hJ2_5_10
     refine join_ (σ := Nat) 5 (Ow.B 16 3071) (fun s_ => [(19, .agg #[.string t298, .string t299, .string t300, .int .i64 t301, .string t302, .string t303, .string t304, .string t305, .string t306, .int .i64 t307, .int .i64 t308, .string t309, .bool t310, .int .i64 t311, .string t312, .string t313, .string t314, .int .i64 t315, .int .i64 t316, .int .i64 t317, .bool t318, .bool t319, .int .i64 t320, .int .i64 t321, .bool t322]), (22, .agg #[.string t323, .string t324, .string t325, .int .i64 t326, .int .i64 t327, .int .i64 t328]), (4, .pointer (some ⟨s_, 0, none⟩))]) (fun s_ w' => Ow.Own w w' [(gb297, Q43, 32), (s_, Z6, 29)]) ?_ ?_
     rotate_left
     ·intro hJ2_5_11
      refine join_ (σ := Nat × Nat) 5 (Ow.B 16 4063) (fun s_ => [(19, .agg #[.string t298, .string t299, .string t300, .int .i64 t301, .string t302, .string t303, .string t304, .string t305, .string t306, .int .i64 t307, .int .i64 t308, .string t309, .bool t310, .int .i64 t311, .string t312, .string t313, .string t314, .int .i64 t315, .int .i64 t316, .int .i64 t317, .bool t318, .bool t319, .int .i64 t320, .int .i64 t321, .bool t322]), (3, .pointer (some ⟨s_.1, 0, none⟩)), (4, .pointer (some ⟨s_.2, 0, none⟩))]) (fun s_ w' => Ow.Own w w' [(gb297, Q43, 32), (s_.1, Z25, 27), (s_.2, Z6, 29)]) ?_ ?_
      rotate_left
      ·intro hJ2_10_11
       refine join_ (σ := Unit) 6 (Ow.B 16 1023) (fun s_ => [(19, .agg #[.string t298, .string t299, .string t300, .int .i64 t301, .string t302, .string t303, .string t304, .string t305, .string t306, .int .i64 t307, .int .i64 t308, .string t309, .bool t310, .int .i64 t311, .string t312, .string t313, .string t314, .int .i64 t315, .int .i64 t316, .int .i64 t317, .bool t318, .bool t319, .int .i64 t320, .int .i64 t321, .bool t322]), (22, .agg #[.string t323, .string t324, .string t325, .int .i64 t326, .int .i64 t327, .int .i64 t328])]) (fun s_ w' => Ow.Own w w' [(gb297, Q43, 32)]) ?_ ?_
       rotate_left
       ·intro hJ2_5
        refine join_ (σ := Nat) 6 (Ow.B 16 2015) (fun s_ => [(19, .agg #[.string t298, .string t299, .string t300, .int .i64 t301, .string t302, .string t303, .string t304, .string t305, .string t306, .int .i64 t307, .int .i64 t308, .string t309, .bool t310, .int .i64 t311, .string t312, .string t313, .string t314, .int .i64 t315, .int .i64 t316, .int .i64 t317, .bool t318, .bool t319, .int .i64 t320, .int .i64 t321, .bool t322]), (3, .pointer (some ⟨s_, 0, none⟩))]) (fun s_ w' => Ow.Own w w' [(gb297, Q43, 32), (s_, Z25, 27)]) ?_ ?_
        rotate_left
        ·intro hJ2_10
         refine join_ (σ := Nat) 6 (Ow.B 16 3039) (fun s_ => [(19, .agg #[.string t298, .string t299, .string t300, .int .i64 t301, .string t302, .string t303, .string t304, .string t305, .string t306, .int .i64 t307, .int .i64 t308, .string t309, .bool t310, .int .i64 t311, .string t312, .string t313, .string t314, .int .i64 t315, .int .i64 t316, .int .i64 t317, .bool t318, .bool t319, .int .i64 t320, .int .i64 t321, .bool t322]), (4, .pointer (some ⟨s_, 0, none⟩))]) (fun s_ w' => Ow.Own w w' [(gb297, Q43, 32), (s_, Z6, 29)]) ?_ ?_
         rotate_left
         ·intro hJ2_11
          refine join_ (σ := Nat × Nat) 6 (Ow.B 16 4059) (fun s_ => [(3, .pointer (some ⟨s_.1, 0, none⟩)), (4, .pointer (some ⟨s_.2, 0, none⟩))]) (fun s_ w' => Ow.Own w w' [(gb297, Q43, 32), (s_.1, Z25, 27), (s_.2, Z6, 29)]) ?_ ?_
          rotate_left
          ·intro hJ10_11
           refine join_ (σ := Unit) 7 (Ow.B 16 991) (fun s_ => [(19, .agg #[.string t298, .string t299, .string t300, .int .i64 t301, .string t302, .string t303, .string t304, .string t305, .string t306, .int .i64 t307, .int .i64 t308, .string t309, .bool t310, .int .i64 t311, .string t312, .string t313, .string t314, .int .i64 t315, .int .i64 t316, .int .i64 t317, .bool t318, .bool t319, .int .i64 t320, .int .i64 t321, .bool t322])]) (fun s_ w' => Ow.Own w w' [(gb297, Q43, 32)]) ?_ ?_
           rotate_left
           ·intro hJ2
            refine join_ (σ := Nat) 7 (Ow.B 16 2011) (fun s_ => [(3, .pointer (some ⟨s_, 0, none⟩))]) (fun s_ w' => Ow.Own w w' [(gb297, Q43, 32), (s_, Z25, 27)]) ?_ ?_
            rotate_left
            ·intro hJ10
             refine join_ (σ := Nat) 7 (Ow.B 16 3035) (fun s_ => [(4, .pointer (some ⟨s_, 0, none⟩))]) (fun s_ w' => Ow.Own w w' [(gb297, Q43, 32), (s_, Z6, 29)]) ?_ ?_
             rotate_left
             ·intro hJ11
              refine three_ (i := 2) (j := 10) (k := 11) (Ni := some 19) (Nj := some 3) (Nk := some 4) (Ow.B 16 991) (Ow.B 16 2011) (Ow.B 16 3035) rfl rfl rfl rfl rfl rfl (three_of HT_.out (by kernel_rfl)) (by decide) (by decide) (by decide) (fun K hK => ?_) (fun K hK => ?_) (fun K hK => ?_)
              ·skip
               obtain ⟨Q44, hQ44_⟩ : ∃ q_ : Array Value, q_ = (#[.string a0_0, .string a0_1, .string a0_2, .int .i64 a0_3, .string a0_4, .string a0_5, .string a0_6, .string a0_7, .string a0_8, .int .i64 a0_9, .int .i64 a0_10, .string a0_11, .bool a0_12, .int .i64 a0_13, .string a0_14, .string a0_15, .string a0_16, .int .i64 a0_17, .int .i64 a0_18, .int .i64 a0_19, .bool a0_20, .bool a0_21, .int .i64 a0_22, .int .i64 a0_23, .bool a0_24] : Array Value) := ⟨_, rfl⟩
               try rw [← hQ44_]
               have hQ44 := Aside0.mk hQ44_; replace hq := Aside0.mk (And.intro hQ44_ hq.1); clear hQ44_
               refine goes_ Try.func15 (by kernel_rfl) rfl #[.agg Q44] (by rfl) rfl rfl (by (try simp only [map_toArray, map_cons, map_nil]); first | done | rfl | (simp only [hq.1] <;> rfl) | (simp only [length_drop, length_take]; rfl)) ?_
               obtain ⟨Q45, hQ45_⟩ : ∃ q_ : Array Value, q_ = (#[.string t298, .string t299, .string t300, .int .i64 t301, .string t302, .string t303, .string t304, .string t305, .string t306, .int .i64 t307, .int .i64 t308, .string t309, .bool t310, .int .i64 t311, .string t312, .string t313, .string t314, .int .i64 t315, .int .i64 t316, .int .i64 t317, .bool t318, .bool t319, .int .i64 t320, .int .i64 t321, .bool t322] : Array Value) := ⟨_, rfl⟩
               try rw [← hQ45_]
               have hQ45 := Aside0.mk hQ45_; replace hq := Aside0.mk (And.intro hQ45_ hq.1); clear hQ45_
               refine Calls.mono (calls_of_args (by (try simp only [hq.1]) <;> rfl) (bursarlaw22_Few.calls a0_0 a0_1 a0_2 a0_3 a0_4 a0_5 a0_6 a0_7 a0_8 a0_9 a0_10 a0_11 a0_12 a0_13 a0_14 a0_15 a0_16 a0_17 a0_18 a0_19 a0_20 a0_21 a0_22 a0_23 a0_24 t298 t299 t300 t301 t302 t303 t304 t305 t306 t307 t308 t309 t310 t311 t312 t313 t314 t315 t316 t317 t318 t319 t320 t321 t322 _ A2.out)) ?_
               rintro e w474 ⟨he_, hb⟩
               (try rw [← hQ45.out] at he_)
               subst he_
               replace HO := Aside0.mk (Ow.Own.call HO.out hb)
               clear hb
               refine ⟨_, rfl, ?_⟩
               refine hK.out _ _ (by first | exact HO.out | exact cong HO.out (by (try simp only [hq.1]) <;> rfl)) (fun hHeld => ?_)
               clear hK K
               refine norm_ (a' := ?_) ?_ ?_
               rotate_left
               ·show Act.put _ (some 19) _ = _
                simp only [Act.put, u1, u2, u3, i64_w, i32_w]
                rfl
               exact norm_ (by simp only [hq.1, putAll, Act.put, u1, u2, u3] <;> rfl) (hJ2 () _ (cong (pick [0] HO.out (by decide)) (by (try simp only [hq.1]) <;> rfl)))
              ·skip
               refine box_step ?hg (N := 3) ?hd (cs := Z25) (t := 27) ?hr ?_; (case hd => rfl); (case hg => rfl); (case hr => first | (go_simp; done) | (go_simp; rfl))
               intro gb329 hg w474 hbox hb
               replace HO := Aside0.mk (Ow.Own.add HO.out hg hbox hb)
               clear hb hbox hg
               simp only [cons_append, nil_append] at HO
               refine hK.out _ _ (by have h_ := pick [0] HO.out (by decide); first | exact h_ | exact cong h_ (by (try simp only [hq.1]) <;> rfl)) (fun hHeld => ?_)
               clear hK K
               refine norm_ (a' := ?_) ?_ ?_
               rotate_left
               ·show Act.put _ (some 3) _ = _
                simp only [Act.put, u1, u2, u3, i64_w, i32_w]
                rfl
               exact norm_ (by simp only [hq.1, putAll, Act.put, u1, u2, u3] <;> rfl) (hJ10 (gb329) _ (cong (pick [0, 1] HO.out (by decide)) (by (try simp only [hq.1]) <;> rfl)))
              ·skip
               refine box_step ?hg (N := 4) ?hd (cs := Z6) (t := 29) ?hr ?_; (case hd => rfl); (case hg => rfl); (case hr => first | (go_simp; done) | (go_simp; rfl))
               intro gb330 hg w474 hbox hb
               replace HO := Aside0.mk (Ow.Own.add HO.out hg hbox hb)
               clear hb hbox hg
               simp only [cons_append, nil_append] at HO
               refine hK.out _ _ (by have h_ := pick [0] HO.out (by decide); first | exact h_ | exact cong h_ (by (try simp only [hq.1]) <;> rfl)) (fun hHeld => ?_)
               clear hK K
               refine norm_ (a' := ?_) ?_ ?_
               rotate_left
               ·show Act.put _ (some 4) _ = _
                simp only [Act.put, u1, u2, u3, i64_w, i32_w]
                rfl
               exact norm_ (by simp only [hq.1, putAll, Act.put, u1, u2, u3] <;> rfl) (hJ11 (gb330) _ (cong (pick [0, 1] HO.out (by decide)) (by (try simp only [hq.1]) <;> rfl)))
             ·skip
              rintro gb330 w475 HO7_
              clear HO
              have HO := Aside0.mk HO7_
              clear HO7_
              have hHeld := pick [0] HO.out (by decide)
              refine norm_ (a' := ?_) ?_ ?_
              rotate_left
              ·simp only [putAll, Act.put, u1, u2, u3]
               rfl
              refine two_ (i := 2) (j := 10) (Ni := some 19) (Nj := some 3) (Ow.B 16 3039) (Ow.B 16 4059) rfl rfl rfl rfl (two_of HT_.out (by kernel_rfl)) (by decide) (by decide) (fun K hK => ?_) (fun K hK => ?_)
              ·skip
               obtain ⟨Q46, hQ46_⟩ : ∃ q_ : Array Value, q_ = (#[.string a0_0, .string a0_1, .string a0_2, .int .i64 a0_3, .string a0_4, .string a0_5, .string a0_6, .string a0_7, .string a0_8, .int .i64 a0_9, .int .i64 a0_10, .string a0_11, .bool a0_12, .int .i64 a0_13, .string a0_14, .string a0_15, .string a0_16, .int .i64 a0_17, .int .i64 a0_18, .int .i64 a0_19, .bool a0_20, .bool a0_21, .int .i64 a0_22, .int .i64 a0_23, .bool a0_24] : Array Value) := ⟨_, rfl⟩
               try rw [← hQ46_]
               have hQ46 := Aside0.mk hQ46_; replace hq := Aside0.mk (And.intro hQ46_ hq.1); clear hQ46_
               refine goes_ Try.func15 (by kernel_rfl) rfl #[.agg Q46] (by rfl) rfl rfl (by (try simp only [map_toArray, map_cons, map_nil]); first | done | rfl | (simp only [hq.1] <;> rfl) | (simp only [length_drop, length_take]; rfl)) ?_
               obtain ⟨Q47, hQ47_⟩ : ∃ q_ : Array Value, q_ = (#[.string t298, .string t299, .string t300, .int .i64 t301, .string t302, .string t303, .string t304, .string t305, .string t306, .int .i64 t307, .int .i64 t308, .string t309, .bool t310, .int .i64 t311, .string t312, .string t313, .string t314, .int .i64 t315, .int .i64 t316, .int .i64 t317, .bool t318, .bool t319, .int .i64 t320, .int .i64 t321, .bool t322] : Array Value) := ⟨_, rfl⟩
               try rw [← hQ47_]
               have hQ47 := Aside0.mk hQ47_; replace hq := Aside0.mk (And.intro hQ47_ hq.1); clear hQ47_
               refine Calls.mono (calls_of_args (by (try simp only [hq.1]) <;> rfl) (bursarlaw22_Few.calls a0_0 a0_1 a0_2 a0_3 a0_4 a0_5 a0_6 a0_7 a0_8 a0_9 a0_10 a0_11 a0_12 a0_13 a0_14 a0_15 a0_16 a0_17 a0_18 a0_19 a0_20 a0_21 a0_22 a0_23 a0_24 t298 t299 t300 t301 t302 t303 t304 t305 t306 t307 t308 t309 t310 t311 t312 t313 t314 t315 t316 t317 t318 t319 t320 t321 t322 _ A2.out)) ?_
               rintro e w476 ⟨he_, hb⟩
               (try rw [← hQ47.out] at he_)
               subst he_
               replace HO := Aside0.mk (Ow.Own.call HO.out hb)
               clear hb
               refine ⟨_, rfl, ?_⟩
               refine hK.out _ _ (by have h_ := pick [0] HO.out (by decide); first | exact h_ | exact cong h_ (by (try simp only [hq.1]) <;> rfl)) (fun hHeld => ?_)
               clear hK K
               refine norm_ (a' := ?_) ?_ ?_
               rotate_left
               ·show Act.put _ (some 19) _ = _
                simp only [Act.put, u1, u2, u3, i64_w, i32_w]
                rfl
               exact norm_ (by simp only [hq.1, putAll, Act.put, u1, u2, u3] <;> rfl) (hJ2_11 (gb330) _ (cong (pick [0, 1] HO.out (by decide)) (by (try simp only [hq.1]) <;> rfl)))
              ·skip
               refine box_step ?hg (N := 3) ?hd (cs := Z25) (t := 27) ?hr ?_; (case hd => rfl); (case hg => rfl); (case hr => first | (go_simp; done) | (go_simp; rfl))
               intro gb329 hg w476 hbox hb
               replace HO := Aside0.mk (Ow.Own.add HO.out hg hbox hb)
               clear hb hbox hg
               simp only [cons_append, nil_append] at HO
               refine hK.out _ _ (by have h_ := pick [0] HO.out (by decide); first | exact h_ | exact cong h_ (by (try simp only [hq.1]) <;> rfl)) (fun hHeld => ?_)
               clear hK K
               refine norm_ (a' := ?_) ?_ ?_
               rotate_left
               ·show Act.put _ (some 3) _ = _
                simp only [Act.put, u1, u2, u3, i64_w, i32_w]
                rfl
               exact norm_ (by simp only [hq.1, putAll, Act.put, u1, u2, u3] <;> rfl) (hJ10_11 (gb329, gb330) _ (cong (pick [0, 2, 1] HO.out (by decide)) (by (try simp only [hq.1]) <;> rfl)))
            ·skip
             rintro gb329 w475 HO7_
             clear HO
             have HO := Aside0.mk HO7_
             clear HO7_
             have hHeld := pick [0] HO.out (by decide)
             refine norm_ (a' := ?_) ?_ ?_
             rotate_left
             ·simp only [putAll, Act.put, u1, u2, u3]
              rfl
             refine two_ (i := 2) (j := 11) (Ni := some 19) (Nj := some 4) (Ow.B 16 2015) (Ow.B 16 4059) rfl rfl rfl rfl (two_of HT_.out (by kernel_rfl)) (by decide) (by decide) (fun K hK => ?_) (fun K hK => ?_)
             ·skip
              obtain ⟨Q48, hQ48_⟩ : ∃ q_ : Array Value, q_ = (#[.string a0_0, .string a0_1, .string a0_2, .int .i64 a0_3, .string a0_4, .string a0_5, .string a0_6, .string a0_7, .string a0_8, .int .i64 a0_9, .int .i64 a0_10, .string a0_11, .bool a0_12, .int .i64 a0_13, .string a0_14, .string a0_15, .string a0_16, .int .i64 a0_17, .int .i64 a0_18, .int .i64 a0_19, .bool a0_20, .bool a0_21, .int .i64 a0_22, .int .i64 a0_23, .bool a0_24] : Array Value) := ⟨_, rfl⟩
              try rw [← hQ48_]
              have hQ48 := Aside0.mk hQ48_; replace hq := Aside0.mk (And.intro hQ48_ hq.1); clear hQ48_
              refine goes_ Try.func15 (by kernel_rfl) rfl #[.agg Q48] (by rfl) rfl rfl (by (try simp only [map_toArray, map_cons, map_nil]); first | done | rfl | (simp only [hq.1] <;> rfl) | (simp only [length_drop, length_take]; rfl)) ?_
              obtain ⟨Q49, hQ49_⟩ : ∃ q_ : Array Value, q_ = (#[.string t298, .string t299, .string t300, .int .i64 t301, .string t302, .string t303, .string t304, .string t305, .string t306, .int .i64 t307, .int .i64 t308, .string t309, .bool t310, .int .i64 t311, .string t312, .string t313, .string t314, .int .i64 t315, .int .i64 t316, .int .i64 t317, .bool t318, .bool t319, .int .i64 t320, .int .i64 t321, .bool t322] : Array Value) := ⟨_, rfl⟩
              try rw [← hQ49_]
              have hQ49 := Aside0.mk hQ49_; replace hq := Aside0.mk (And.intro hQ49_ hq.1); clear hQ49_
              refine Calls.mono (calls_of_args (by (try simp only [hq.1]) <;> rfl) (bursarlaw22_Few.calls a0_0 a0_1 a0_2 a0_3 a0_4 a0_5 a0_6 a0_7 a0_8 a0_9 a0_10 a0_11 a0_12 a0_13 a0_14 a0_15 a0_16 a0_17 a0_18 a0_19 a0_20 a0_21 a0_22 a0_23 a0_24 t298 t299 t300 t301 t302 t303 t304 t305 t306 t307 t308 t309 t310 t311 t312 t313 t314 t315 t316 t317 t318 t319 t320 t321 t322 _ A2.out)) ?_
              rintro e w476 ⟨he_, hb⟩
              (try rw [← hQ49.out] at he_)
              subst he_
              replace HO := Aside0.mk (Ow.Own.call HO.out hb)
              clear hb
              refine ⟨_, rfl, ?_⟩
              refine hK.out _ _ (by have h_ := pick [0] HO.out (by decide); first | exact h_ | exact cong h_ (by (try simp only [hq.1]) <;> rfl)) (fun hHeld => ?_)
              clear hK K
              refine norm_ (a' := ?_) ?_ ?_
              rotate_left
              ·show Act.put _ (some 19) _ = _
               simp only [Act.put, u1, u2, u3, i64_w, i32_w]
               rfl
              exact norm_ (by simp only [hq.1, putAll, Act.put, u1, u2, u3] <;> rfl) (hJ2_10 (gb329) _ (cong (pick [0, 1] HO.out (by decide)) (by (try simp only [hq.1]) <;> rfl)))
             ·skip
              refine box_step ?hg (N := 4) ?hd (cs := Z6) (t := 29) ?hr ?_; (case hd => rfl); (case hg => rfl); (case hr => first | (go_simp; done) | (go_simp; rfl))
              intro gb330 hg w476 hbox hb
              replace HO := Aside0.mk (Ow.Own.add HO.out hg hbox hb)
              clear hb hbox hg
              simp only [cons_append, nil_append] at HO
              refine hK.out _ _ (by have h_ := pick [0] HO.out (by decide); first | exact h_ | exact cong h_ (by (try simp only [hq.1]) <;> rfl)) (fun hHeld => ?_)
              clear hK K
              refine norm_ (a' := ?_) ?_ ?_
              rotate_left
              ·show Act.put _ (some 4) _ = _
               simp only [Act.put, u1, u2, u3, i64_w, i32_w]
               rfl
              exact norm_ (by simp only [hq.1, putAll, Act.put, u1, u2, u3] <;> rfl) (hJ10_11 (gb329, gb330) _ (cong (pick [0, 1, 2] HO.out (by decide)) (by (try simp only [hq.1]) <;> rfl)))
           ·skip
            rintro _ w475 HO7_
            clear HO
            have HO := Aside0.mk HO7_
            clear HO7_
            have hHeld := pick [0] HO.out (by decide)
            refine norm_ (a' := ?_) ?_ ?_
            rotate_left
            ·simp only [putAll, Act.put, u1, u2, u3]
             rfl
            refine three_ (i := 5) (j := 10) (k := 11) (Ni := some 22) (Nj := some 3) (Nk := some 4) (Ow.B 16 1023) (Ow.B 16 2015) (Ow.B 16 3039) rfl rfl rfl rfl rfl rfl (three_of HT_.out (by kernel_rfl)) (by decide) (by decide) (by decide) (fun K hK => ?_) (fun K hK => ?_) (fun K hK => ?_)
            ·skip
             refine goes_ Try.func16 (by kernel_rfl) rfl #[.agg #[.string a0_25, .string a0_26, .string a0_27, .int .i64 a0_28, .int .i64 a0_29, .int .i64 a0_30]] (by rfl) rfl rfl (by (try simp only [map_toArray, map_cons, map_nil]); first | done | rfl | (simp only [hq.1] <;> rfl) | (simp only [length_drop, length_take]; rfl)) ?_
             refine Calls.mono (calls_of_args (by (try simp only [hq.1]) <;> rfl) (bursarlaw26_few.calls a0_25 a0_26 a0_27 a0_28 a0_29 a0_30 t323 t324 t325 t326 t327 t328 _ A3.out)) ?_
             rintro e w476 ⟨he_, hb⟩
             subst he_
             replace HO := Aside0.mk (Ow.Own.call HO.out hb)
             clear hb
             refine ⟨_, rfl, ?_⟩
             refine hK.out _ _ (by first | exact HO.out | exact cong HO.out (by (try simp only [hq.1]) <;> rfl)) (fun hHeld => ?_)
             clear hK K
             refine norm_ (a' := ?_) ?_ ?_
             rotate_left
             ·show Act.put _ (some 22) _ = _
              simp only [Act.put, u1, u2, u3, i64_w, i32_w]
              rfl
             exact norm_ (by simp only [hq.1, putAll, Act.put, u1, u2, u3] <;> rfl) (hJ2_5 () _ (cong (pick [0] HO.out (by decide)) (by (try simp only [hq.1]) <;> rfl)))
            ·skip
             refine box_step ?hg (N := 3) ?hd (cs := Z25) (t := 27) ?hr ?_; (case hd => rfl); (case hg => rfl); (case hr => first | (go_simp; done) | (go_simp; rfl))
             intro gb329 hg w476 hbox hb
             replace HO := Aside0.mk (Ow.Own.add HO.out hg hbox hb)
             clear hb hbox hg
             simp only [cons_append, nil_append] at HO
             refine hK.out _ _ (by have h_ := pick [0] HO.out (by decide); first | exact h_ | exact cong h_ (by (try simp only [hq.1]) <;> rfl)) (fun hHeld => ?_)
             clear hK K
             refine norm_ (a' := ?_) ?_ ?_
             rotate_left
             ·show Act.put _ (some 3) _ = _
              simp only [Act.put, u1, u2, u3, i64_w, i32_w]
              rfl
             exact norm_ (by simp only [hq.1, putAll, Act.put, u1, u2, u3] <;> rfl) (hJ2_10 (gb329) _ (cong (pick [0, 1] HO.out (by decide)) (by (try simp only [hq.1]) <;> rfl)))
            ·skip
             refine box_step ?hg (N := 4) ?hd (cs := Z6) (t := 29) ?hr ?_; (case hd => rfl); (case hg => rfl); (case hr => first | (go_simp; done) | (go_simp; rfl))
             intro gb330 hg w476 hbox hb
             replace HO := Aside0.mk (Ow.Own.add HO.out hg hbox hb)
             clear hb hbox hg
             simp only [cons_append, nil_append] at HO
             refine hK.out _ _ (by have h_ := pick [0] HO.out (by decide); first | exact h_ | exact cong h_ (by (try simp only [hq.1]) <;> rfl)) (fun hHeld => ?_)
             clear hK K
             refine norm_ (a' := ?_) ?_ ?_
             rotate_left
             ·show Act.put _ (some 4) _ = _
              simp only [Act.put, u1, u2, u3, i64_w, i32_w]
              rfl
             exact norm_ (by simp only [hq.1, putAll, Act.put, u1, u2, u3] <;> rfl) (hJ2_11 (gb330) _ (cong (pick [0, 1] HO.out (by decide)) (by (try simp only [hq.1]) <;> rfl)))
          ·skip
           rintro ⟨gb329, gb330⟩ w476 HO7_
           clear HO
           have HO := Aside0.mk HO7_
           clear HO7_
           have hHeld := pick [0] HO.out (by decide)
           refine norm_ (a' := ?_) ?_ ?_
           rotate_left
           ·simp only [putAll, Act.put, u1, u2, u3]
            rfl
           refine one_ (i := 2) (N := some 19) (Ow.B 16 4063) rfl rfl (one_of HT_.out (by kernel_rfl)) (by decide) (fun K hK => ?_)
           obtain ⟨Q50, hQ50_⟩ : ∃ q_ : Array Value, q_ = (#[.string a0_0, .string a0_1, .string a0_2, .int .i64 a0_3, .string a0_4, .string a0_5, .string a0_6, .string a0_7, .string a0_8, .int .i64 a0_9, .int .i64 a0_10, .string a0_11, .bool a0_12, .int .i64 a0_13, .string a0_14, .string a0_15, .string a0_16, .int .i64 a0_17, .int .i64 a0_18, .int .i64 a0_19, .bool a0_20, .bool a0_21, .int .i64 a0_22, .int .i64 a0_23, .bool a0_24] : Array Value) := ⟨_, rfl⟩
           try rw [← hQ50_]
           have hQ50 := Aside0.mk hQ50_; replace hq := Aside0.mk (And.intro hQ50_ hq.1); clear hQ50_
           refine goes_ Try.func15 (by kernel_rfl) rfl #[.agg Q50] (by rfl) rfl rfl (by (try simp only [map_toArray, map_cons, map_nil]); first | done | rfl | (simp only [hq.1] <;> rfl) | (simp only [length_drop, length_take]; rfl)) ?_
           obtain ⟨Q51, hQ51_⟩ : ∃ q_ : Array Value, q_ = (#[.string t298, .string t299, .string t300, .int .i64 t301, .string t302, .string t303, .string t304, .string t305, .string t306, .int .i64 t307, .int .i64 t308, .string t309, .bool t310, .int .i64 t311, .string t312, .string t313, .string t314, .int .i64 t315, .int .i64 t316, .int .i64 t317, .bool t318, .bool t319, .int .i64 t320, .int .i64 t321, .bool t322] : Array Value) := ⟨_, rfl⟩
           try rw [← hQ51_]
           have hQ51 := Aside0.mk hQ51_; replace hq := Aside0.mk (And.intro hQ51_ hq.1); clear hQ51_
           refine Calls.mono (calls_of_args (by (try simp only [hq.1]) <;> rfl) (bursarlaw22_Few.calls a0_0 a0_1 a0_2 a0_3 a0_4 a0_5 a0_6 a0_7 a0_8 a0_9 a0_10 a0_11 a0_12 a0_13 a0_14 a0_15 a0_16 a0_17 a0_18 a0_19 a0_20 a0_21 a0_22 a0_23 a0_24 t298 t299 t300 t301 t302 t303 t304 t305 t306 t307 t308 t309 t310 t311 t312 t313 t314 t315 t316 t317 t318 t319 t320 t321 t322 _ A2.out)) ?_
           rintro e w477 ⟨he_, hb⟩
           (try rw [← hQ51.out] at he_)
           subst he_
           replace HO := Aside0.mk (Ow.Own.call HO.out hb)
           clear hb
           refine ⟨_, rfl, ?_⟩
           refine hK.out _ _ (by have h_ := pick [0] HO.out (by decide); first | exact h_ | exact cong h_ (by (try simp only [hq.1]) <;> rfl)) (fun hHeld => ?_)
           clear hK K
           refine norm_ (a' := ?_) ?_ ?_
           rotate_left
           ·show Act.put _ (some 19) _ = _
            simp only [Act.put, u1, u2, u3, i64_w, i32_w]
            rfl
           exact norm_ (by simp only [hq.1, putAll, Act.put, u1, u2, u3] <;> rfl) (hJ2_10_11 (gb329, gb330) _ (cong (pick [0, 1, 2] HO.out (by decide)) (by (try simp only [hq.1]) <;> rfl)))
         ·skip
          rintro gb330 w476 HO7_
          clear HO
          have HO := Aside0.mk HO7_
          clear HO7_
          have hHeld := pick [0] HO.out (by decide)
          refine norm_ (a' := ?_) ?_ ?_
          rotate_left
          ·simp only [putAll, Act.put, u1, u2, u3]
           rfl
          refine two_ (i := 5) (j := 10) (Ni := some 22) (Nj := some 3) (Ow.B 16 3071) (Ow.B 16 4063) rfl rfl rfl rfl (two_of HT_.out (by kernel_rfl)) (by decide) (by decide) (fun K hK => ?_) (fun K hK => ?_)
          ·skip
           refine goes_ Try.func16 (by kernel_rfl) rfl #[.agg #[.string a0_25, .string a0_26, .string a0_27, .int .i64 a0_28, .int .i64 a0_29, .int .i64 a0_30]] (by rfl) rfl rfl (by (try simp only [map_toArray, map_cons, map_nil]); first | done | rfl | (simp only [hq.1] <;> rfl) | (simp only [length_drop, length_take]; rfl)) ?_
           refine Calls.mono (calls_of_args (by (try simp only [hq.1]) <;> rfl) (bursarlaw26_few.calls a0_25 a0_26 a0_27 a0_28 a0_29 a0_30 t323 t324 t325 t326 t327 t328 _ A3.out)) ?_
           rintro e w477 ⟨he_, hb⟩
           subst he_
           replace HO := Aside0.mk (Ow.Own.call HO.out hb)
           clear hb
           refine ⟨_, rfl, ?_⟩
           refine hK.out _ _ (by have h_ := pick [0] HO.out (by decide); first | exact h_ | exact cong h_ (by (try simp only [hq.1]) <;> rfl)) (fun hHeld => ?_)
           clear hK K
           refine norm_ (a' := ?_) ?_ ?_
           rotate_left
           ·show Act.put _ (some 22) _ = _
            simp only [Act.put, u1, u2, u3, i64_w, i32_w]
            rfl
           exact norm_ (by simp only [hq.1, putAll, Act.put, u1, u2, u3] <;> rfl) (hJ2_5_11 (gb330) _ (cong (pick [0, 1] HO.out (by decide)) (by (try simp only [hq.1]) <;> rfl)))
          ·skip
           refine box_step ?hg (N := 3) ?hd (cs := Z25) (t := 27) ?hr ?_; (case hd => rfl); (case hg => rfl); (case hr => first | (go_simp; done) | (go_simp; rfl))
           intro gb329 hg w477 hbox hb
           replace HO := Aside0.mk (Ow.Own.add HO.out hg hbox hb)
           clear hb hbox hg
           simp only [cons_append, nil_append] at HO
           refine hK.out _ _ (by have h_ := pick [0] HO.out (by decide); first | exact h_ | exact cong h_ (by (try simp only [hq.1]) <;> rfl)) (fun hHeld => ?_)
           clear hK K
           refine norm_ (a' := ?_) ?_ ?_
           rotate_left
           ·show Act.put _ (some 3) _ = _
            simp only [Act.put, u1, u2, u3, i64_w, i32_w]
            rfl
           exact norm_ (by simp only [hq.1, putAll, Act.put, u1, u2, u3] <;> rfl) (hJ2_10_11 (gb329, gb330) _ (cong (pick [0, 2, 1] HO.out (by decide)) (by (try simp only [hq.1]) <;> rfl)))
        ·skip
         rintro gb329 w476 HO7_
         clear HO
         have HO := Aside0.mk HO7_
         clear HO7_
         have hHeld := pick [0] HO.out (by decide)
         refine norm_ (a' := ?_) ?_ ?_
         rotate_left
         ·simp only [putAll, Act.put, u1, u2, u3]
          rfl
         refine two_ (i := 5) (j := 11) (Ni := some 22) (Nj := some 4) (Ow.B 16 2047) (Ow.B 16 4063) rfl rfl rfl rfl (two_of HT_.out (by kernel_rfl)) (by decide) (by decide) (fun K hK => ?_) (fun K hK => ?_)
         ·skip
          refine goes_ Try.func16 (by kernel_rfl) rfl #[.agg #[.string a0_25, .string a0_26, .string a0_27, .int .i64 a0_28, .int .i64 a0_29, .int .i64 a0_30]] (by rfl) rfl rfl (by (try simp only [map_toArray, map_cons, map_nil]); first | done | rfl | (simp only [hq.1] <;> rfl) | (simp only [length_drop, length_take]; rfl)) ?_
          refine Calls.mono (calls_of_args (by (try simp only [hq.1]) <;> rfl) (bursarlaw26_few.calls a0_25 a0_26 a0_27 a0_28 a0_29 a0_30 t323 t324 t325 t326 t327 t328 _ A3.out)) ?_
          rintro e w477 ⟨he_, hb⟩
          subst he_
          replace HO := Aside0.mk (Ow.Own.call HO.out hb)
          clear hb
          refine ⟨_, rfl, ?_⟩
          refine hK.out _ _ (by have h_ := pick [0] HO.out (by decide); first | exact h_ | exact cong h_ (by (try simp only [hq.1]) <;> rfl)) (fun hHeld => ?_)
          clear hK K
          refine norm_ (a' := ?_) ?_ ?_
          rotate_left
          ·show Act.put _ (some 22) _ = _
           simp only [Act.put, u1, u2, u3, i64_w, i32_w]
           rfl
          exact norm_ (by simp only [hq.1, putAll, Act.put, u1, u2, u3] <;> rfl) (hJ2_5_10 (gb329) _ (cong (pick [0, 1] HO.out (by decide)) (by (try simp only [hq.1]) <;> rfl)))
         ·skip
          refine box_step ?hg (N := 4) ?hd (cs := Z6) (t := 29) ?hr ?_; (case hd => rfl); (case hg => rfl); (case hr => first | (go_simp; done) | (go_simp; rfl))
          intro gb330 hg w477 hbox hb
          replace HO := Aside0.mk (Ow.Own.add HO.out hg hbox hb)
          clear hb hbox hg
          simp only [cons_append, nil_append] at HO
          refine hK.out _ _ (by have h_ := pick [0] HO.out (by decide); first | exact h_ | exact cong h_ (by (try simp only [hq.1]) <;> rfl)) (fun hHeld => ?_)
          clear hK K
          refine norm_ (a' := ?_) ?_ ?_
          rotate_left
          ·show Act.put _ (some 4) _ = _
           simp only [Act.put, u1, u2, u3, i64_w, i32_w]
           rfl
          exact norm_ (by simp only [hq.1, putAll, Act.put, u1, u2, u3] <;> rfl) (hJ2_10_11 (gb329, gb330) _ (cong (pick [0, 1, 2] HO.out (by decide)) (by (try simp only [hq.1]) <;> rfl)))
       ·skip
        rintro _ w476 HO7_
        clear HO
        have HO := Aside0.mk HO7_
        clear HO7_
        have hHeld := pick [0] HO.out (by decide)
        refine norm_ (a' := ?_) ?_ ?_
        rotate_left
        ·simp only [putAll, Act.put, u1, u2, u3]
         rfl
        refine two_ (i := 10) (j := 11) (Ni := some 3) (Nj := some 4) (Ow.B 16 2047) (Ow.B 16 3071) rfl rfl rfl rfl (two_of HT_.out (by kernel_rfl)) (by decide) (by decide) (fun K hK => ?_) (fun K hK => ?_)
        ·skip
         refine box_step ?hg (N := 3) ?hd (cs := Z25) (t := 27) ?hr ?_; (case hd => rfl); (case hg => rfl); (case hr => first | (go_simp; done) | (go_simp; rfl))
         intro gb329 hg w477 hbox hb
         replace HO := Aside0.mk (Ow.Own.add HO.out hg hbox hb)
         clear hb hbox hg
         simp only [cons_append, nil_append] at HO
         refine hK.out _ _ (by have h_ := pick [0] HO.out (by decide); first | exact h_ | exact cong h_ (by (try simp only [hq.1]) <;> rfl)) (fun hHeld => ?_)
         clear hK K
         refine norm_ (a' := ?_) ?_ ?_
         rotate_left
         ·show Act.put _ (some 3) _ = _
          simp only [Act.put, u1, u2, u3, i64_w, i32_w]
          rfl
         exact norm_ (by simp only [hq.1, putAll, Act.put, u1, u2, u3] <;> rfl) (hJ2_5_10 (gb329) _ (cong (pick [0, 1] HO.out (by decide)) (by (try simp only [hq.1]) <;> rfl)))
        ·skip
         refine box_step ?hg (N := 4) ?hd (cs := Z6) (t := 29) ?hr ?_; (case hd => rfl); (case hg => rfl); (case hr => first | (go_simp; done) | (go_simp; rfl))
         intro gb330 hg w477 hbox hb
         replace HO := Aside0.mk (Ow.Own.add HO.out hg hbox hb)
         clear hb hbox hg
         simp only [cons_append, nil_append] at HO
         refine hK.out _ _ (by have h_ := pick [0] HO.out (by decide); first | exact h_ | exact cong h_ (by (try simp only [hq.1]) <;> rfl)) (fun hHeld => ?_)
         clear hK K
         refine norm_ (a' := ?_) ?_ ?_
         rotate_left
         ·show Act.put _ (some 4) _ = _
          simp only [Act.put, u1, u2, u3, i64_w, i32_w]
          rfl
         exact norm_ (by simp only [hq.1, putAll, Act.put, u1, u2, u3] <;> rfl) (hJ2_5_11 (gb330) _ (cong (pick [0, 1] HO.out (by decide)) (by (try simp only [hq.1]) <;> rfl)))
      ·skip
       rintro ⟨gb329, gb330⟩ w477 HO7_
       clear HO
       have HO := Aside0.mk HO7_
       clear HO7_
       have hHeld := pick [0] HO.out (by decide)
       refine norm_ (a' := ?_) ?_ ?_
       rotate_left
       ·simp only [putAll, Act.put, u1, u2, u3]
        rfl
       refine one_ (i := 5) (N := some 22) (Ow.B 16 4095) rfl rfl (one_of HT_.out (by kernel_rfl)) (by decide) (fun K hK => ?_)
       refine goes_ Try.func16 (by kernel_rfl) rfl #[.agg #[.string a0_25, .string a0_26, .string a0_27, .int .i64 a0_28, .int .i64 a0_29, .int .i64 a0_30]] (by rfl) rfl rfl (by (try simp only [map_toArray, map_cons, map_nil]); first | done | rfl | (simp only [hq.1] <;> rfl) | (simp only [length_drop, length_take]; rfl)) ?_
       refine Calls.mono (calls_of_args (by (try simp only [hq.1]) <;> rfl) (bursarlaw26_few.calls a0_25 a0_26 a0_27 a0_28 a0_29 a0_30 t323 t324 t325 t326 t327 t328 _ A3.out)) ?_
       rintro e w478 ⟨he_, hb⟩
       subst he_
       replace HO := Aside0.mk (Ow.Own.call HO.out hb)
       clear hb
       refine ⟨_, rfl, ?_⟩
       refine hK.out _ _ (by have h_ := pick [0] HO.out (by decide); first | exact h_ | exact cong h_ (by (try simp only [hq.1]) <;> rfl)) (fun hHeld => ?_)
       clear hK K
       refine norm_ (a' := ?_) ?_ ?_
       rotate_left
       ·show Act.put _ (some 22) _ = _
        simp only [Act.put, u1, u2, u3, i64_w, i32_w]
        rfl
       exact norm_ (by simp only [hq.1, putAll, Act.put, u1, u2, u3] <;> rfl) (hJ2_5_10_11 (gb329, gb330) _ (cong (pick [0, 1, 2] HO.out (by decide)) (by (try simp only [hq.1]) <;> rfl)))
     ·skip
      rintro gb330 w477 HO7_
      clear HO
      have HO := Aside0.mk HO7_
      clear HO7_
      have hHeld := pick [0] HO.out (by decide)
      refine norm_ (a' := ?_) ?_ ?_
      rotate_left
      ·simp only [putAll, Act.put, u1, u2, u3]
       rfl
      refine one_ (i := 10) (N := some 3) (Ow.B 16 4095) rfl rfl (one_of HT_.out (by kernel_rfl)) (by decide) (fun K hK => ?_)
      refine box_step ?hg (N := 3) ?hd (cs := Z25) (t := 27) ?hr ?_; (case hd => rfl); (case hg => rfl); (case hr => first | (go_simp; done) | (go_simp; rfl))
      intro gb329 hg w478 hbox hb
      replace HO := Aside0.mk (Ow.Own.add HO.out hg hbox hb)
      clear hb hbox hg
      simp only [cons_append, nil_append] at HO
      refine hK.out _ _ (by have h_ := pick [0] HO.out (by decide); first | exact h_ | exact cong h_ (by (try simp only [hq.1]) <;> rfl)) (fun hHeld => ?_)
      clear hK K
      refine norm_ (a' := ?_) ?_ ?_
      rotate_left
      ·show Act.put _ (some 3) _ = _
       simp only [Act.put, u1, u2, u3, i64_w, i32_w]
       rfl
      exact norm_ (by simp only [hq.1, putAll, Act.put, u1, u2, u3] <;> rfl) (hJ2_5_10_11 (gb329, gb330) _ (cong (pick [0, 2, 1] HO.out (by decide)) (by (try simp only [hq.1]) <;> rfl)))
    ·skip
     rintro gb329 w477 HO7_
     clear HO
     have HO := Aside0.mk HO7_
     clear HO7_
     have hHeld := pick [0] HO.out (by decide)
     refine norm_ (a' := ?_) ?_ ?_
     rotate_left
     ·simp only [putAll, Act.put, u1, u2, u3]
      rfl
     refine one_ (i := 11) (N := some 4) (Ow.B 16 4095) rfl rfl (one_of HT_.out (by kernel_rfl)) (by decide) (fun K hK => ?_)
     refine box_step ?hg (N := 4) ?hd (cs := Z6) (t := 29) ?hr ?_; (case hd => rfl); (case hg => rfl); (case hr => first | (go_simp; done) | (go_simp; rfl))
     intro gb330 hg w478 hbox hb
     replace HO := Aside0.mk (Ow.Own.add HO.out hg hbox hb)
     clear hb hbox hg
     simp only [cons_append, nil_append] at HO
     refine hK.out _ _ (by have h_ := pick [0] HO.out (by decide); first | exact h_ | exact cong h_ (by (try simp only [hq.1]) <;> rfl)) (fun hHeld => ?_)
     clear hK K
     refine norm_ (a' := ?_) ?_ ?_
     rotate_left
     ·show Act.put _ (some 4) _ = _
      simp only [Act.put, u1, u2, u3, i64_w, i32_w]
      rfl
     exact norm_ (by simp only [hq.1, putAll, Act.put, u1, u2, u3] <;> rfl) (hJ2_5_10_11 (gb329, gb330) _ (cong (pick [0, 1, 2] HO.out (by decide)) (by (try simp only [hq.1]) <;> rfl)))
   rintro ⟨gb329, gb330⟩ w478 HO7_
   clear HO
   have HO := Aside0.mk HO7_
   clear HO7_
   have hHeld := pick [0] HO.out (by decide)
   refine norm_ (a' := ?_) ?_ ?_
   rotate_left
   ·simp only [putAll, Act.put, u1, u2, u3]
    rfl
   refine one_ (i := 12) (N := none) (Ow.B 16 8191) rfl rfl (one_of HT_.out (by kernel_rfl)) (by decide) (fun K hK => ?_)
   refine Ow.oskip Ot.ty HO.out (by rfl) rfl rfl rfl rfl (by with_reducible first | exact Ow.at0 | exact Ow.at1 | exact Ow.at2) (by first | exact Ow.ev_tmp rfl | rfl) (by (try simp only [hq.1]) <;> rfl) (by (try simp only [hq.1]) <;> rfl) (by (try simp only [hq.1]) <;> rfl) ?_
   clear HO; intro wz_ HO; simp only [u2, u3] at HO
   refine hK.out _ _ (by have h_ := pick [0] HO.out (by decide); first | exact h_ | exact cong h_ (by (try simp only [hq.1]) <;> rfl)) (fun hHeld => ?_)
   clear hK K
   refine one_ (i := 13) (N := none) (Ow.B 16 16383) rfl rfl (one_of HT_.out (by kernel_rfl)) (by decide) (fun K hK => ?_)
   refine Ow.oskip Ot.ty HO.out (by rfl) rfl rfl rfl rfl (by with_reducible first | exact Ow.at0 | exact Ow.at1 | exact Ow.at2) (by first | exact Ow.ev_tmp rfl | rfl) (by (try simp only [hq.1]) <;> rfl) (by (try simp only [hq.1]) <;> rfl) (by (try simp only [hq.1]) <;> rfl) ?_
   clear HO; intro wz_ HO; simp only [u2, u3] at HO
   refine hK.out _ _ (by have h_ := pick [0] HO.out (by decide); first | exact h_ | exact cong h_ (by (try simp only [hq.1]) <;> rfl)) (fun hHeld => ?_)
   clear hK K
   refine' Ow.pu (i := 14) (N := some 5) (Ow.B 16 32767) HT_.out ?hv_ ?ha_ ?_; (case hv_ => intro w'; go_simp; with_reducible rfl); (case ha_ => simp only [Ow.Sl, i64_w, i32_w]; rfl)
   refine' Ow.pu (i := 15) (N := some 6) (Ow.B 16 65535) HT_.out ?hv_ ?ha_ ?_; (case hv_ => intro w'; go_simp; with_reducible rfl); (case ha_ => simp only [Ow.Sl, i64_w, i32_w]; rfl)
   refine done_ (done_of HT_.out (by kernel_rfl)) ?_
   obtain ⟨Q52, hQ52_⟩ : ∃ q_ : Array Value, q_ = (#[.string t298, .string t299, .string t300, .int .i64 t301, .string t302, .string t303, .string t304, .string t305, .string t306, .int .i64 t307, .int .i64 t308, .string t309, .bool t310, .int .i64 t311, .string t312, .string t313, .string t314, .int .i64 t315, .int .i64 t316, .int .i64 t317, .bool t318, .bool t319, .int .i64 t320, .int .i64 t321, .bool t322] : Array Value) := ⟨_, rfl⟩
   try rw [← hQ52_]
   have hQ52 := Aside0.mk hQ52_; replace hq := Aside0.mk (And.intro hQ52_ hq.1); clear hQ52_
   try go_wp2_with (first | ((with_reducible refine gate_callee (f := 17) rfl ?_); refine goesL_ (some 31) rfl rfl Try.func17 (by kernel_rfl) rfl #[.agg Q52, .agg #[.string t323, .string t324, .string t325, .int .i64 t326, .int .i64 t327, .int .i64 t328], .bool a0_31] rfl (by (try simp only [map_toArray, map_cons, map_nil]); first | done | rfl | (simp only [hq.1] <;> rfl)) ?_; refine Calls.mono (calls_of_args (by (try simp only [hq.1]) <;> rfl) (dispute_Decide.calls k t298 t299 t300 t301 t302 t303 t304 t305 t306 t307 t308 t309 t310 t311 t312 t313 t314 t315 t316 t317 t318 t319 t320 t321 t322 t323 t324 t325 t326 t327 t328 a0_31 t331 t332 t333 t334 t335 t336 t337 t338 t339 t340 t341 t342 t343 _ A4.out)) ?_; rintro e w515 ⟨he_, hb⟩; subst he_; refine ⟨_, rfl, ?_⟩; replace HO := Aside0.mk (Ow.Own.call HO.out hb); clear hb) | ((with_reducible refine gate_dst (N := 7) rfl ?_); refine Ow.box rfl (N := 7) rfl (cs := Z6) (t := 29) HO.out (by first | (go_simp; done) | (go_simp; rfl)) ?_; clear HO; intro gb344 w516 HO; simp only [cons_append, nil_append] at HO) | ((with_reducible refine gate_dst (N := 8) rfl ?_); refine Ow.box rfl (N := 8) rfl (cs := Z6_2) (t := 36) HO.out (by first | (go_simp; done) | (go_simp; rfl)) ?_; clear HO; intro gb345 w517 HO; simp only [cons_append, nil_append] at HO) | (go_at_call 18; refine Calls.mono (calls_of_args (by (try simp only [hq.1]) <;> rfl) (bursarlaw26_awake.calls k  t346 _ A471.out)) ?_; rintro e w530 ⟨he_, hb⟩; subst he_; replace HO := Aside0.mk (Ow.Own.call HO.out hb); clear hb) | ((with_reducible refine Ow.gate_eqs (t := 29) (by first | exact Or.inl rfl | exact Or.inr rfl) rfl ?_); simp only [hq.1, Ow.part, Ot.sz, Ot.zero, Ow.over, Ow.overL, List.drop_succ_cons, List.drop_zero, List.take_succ_cons, List.take_zero]) | ((with_reducible refine Ow.gate_build rfl ?_); (try (refine gate_guard (by rfl) ?_; dsimp only)); refine' Ow.tbuild Ot.bd rfl rfl rfl ?hf_ ?_; (case hf_ => repeat (any_goals (first | exact Ow.Fills.nil | (refine' Ow.Fills.c ?hv_ rfl ?hz_ ?_; (case hv_ => first | exact Ow.ev_tmp rfl | rfl); (case hz_ => first | (refine ⟨?_, ?_⟩ <;> ((try simp only [hq.1]) <;> rfl)) | fail)))))) | ((with_reducible refine Ow.gate_load rfl ?_); (try (refine gate_guard (by rfl) ?_; dsimp only)); (first | refine Ow.l1 Ot.ty HO.out rfl rfl rfl rfl (by (try simp only [hq.1]) <;> rfl) ?_ | refine Ow.l0 Ot.ty HO.out rfl rfl rfl rfl (by (try simp only [hq.1]) <;> rfl) ?_ | refine Ow.lp Ot.ty HO.out rfl rfl rfl rfl (by (try simp only [hq.1]) <;> rfl) ?_)) | ((with_reducible refine gate_store rfl ?_); (try (refine gate_guard (by rfl) ?_; dsimp only)); (first | refine Ow.s0 Ot.ty HO.out rfl rfl rfl rfl rfl (by first | exact Ow.ev_tmp rfl | rfl) (by first | (refine ⟨?_, ?_, ?_⟩ <;> ((try simp only [hq.1]) <;> rfl)) | fail) ?_ | refine Ow.sp Ot.ty HO.out rfl rfl rfl rfl rfl (by first | exact Ow.ev_tmp rfl | rfl) (by first | (refine ⟨?_, ?_, ?_⟩ <;> ((try simp only [hq.1]) <;> rfl)) | fail) ?_); clear HO; intro wz_ HO; simp only [u2, u3] at HO))
   all_goals go_ret
   all_goals exact ⟨by first | rfl | (simp only [hq.1] <;> rfl) | (simp [errW_none, errW_some] <;> rfl) | (simp [*, errW_none, errW_some] <;> rfl), Ow.Own.below HO.out⟩
  ·rw [if_neg c470] at H
   exact absurd H (by simp)

end Go.Proofs.Ytddlmcaclbkopaa.XDO
