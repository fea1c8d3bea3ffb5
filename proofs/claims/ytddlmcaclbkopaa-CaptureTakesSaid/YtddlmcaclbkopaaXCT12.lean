-- Written by wip/xprint.py, a session's program: printed out of the translation, with hand-written functions. Lean checks it.
import Derived.Test.YtddlmcaclbkopaaXCT0
import Derived.Test.YtddlmcaclbkopaaXCT4
import Derived.Test.YtddlmcaclbkopaaXCT5
import Derived.Test.YtddlmcaclbkopaaXCT11
namespace Go.Proofs.Ytddlmcaclbkopaa.XCT
open Go.RowKit Go.Proofs.YtddlmcaclbkopaaW.PrintWords Go.Proofs.YtddlmcaclbkopaaW.PrintLast Go.Proofs.YtddlmcaclbkopaaW.PrintMore
attribute [local go_sem] max2_int min2_int max_two min_two max_three min_three max_four min_four   -- for this text's walks alone
set_option linter.unusedVariables false
set_option linter.unusedSimpArgs false

/-! ### bursarlaw23_some: function 58 -/
def bursarlaw23_some.f (a0 : Int) (a1 : ByteArray) : Option (ByteArray × ByteArray × ByteArray × Int × ByteArray × ByteArray × ByteArray × ByteArray × ByteArray × Int × Int × ByteArray × Bool × Int × ByteArray × ByteArray × ByteArray × Int × Int × Int × Bool × Bool × Int × Int × Bool) := some ((⟨#[48, 50, 48, 48]⟩ : ByteArray), (⟨#[52, 49, 49, 49, 49, 49, 49, 49, 49, 49, 49, 49, 49, 49, 49, 49]⟩ : ByteArray), a1, a0, (⟨#[]⟩ : ByteArray), (⟨#[]⟩ : ByteArray), (⟨#[49, 50, 51, 52, 53, 54]⟩ : ByteArray), (⟨#[65, 66, 67, 48, 48, 48, 48, 48, 48, 48, 48, 49]⟩ : ByteArray), (⟨#[]⟩ : ByteArray), 0, 0, (⟨#[]⟩ : ByteArray), true, 0, (⟨#[65, 66, 67, 48, 48, 48, 48, 48, 48, 48, 48, 49]⟩ : ByteArray), (⟨#[49, 50, 51, 52, 53, 54]⟩ : ByteArray), (⟨#[52, 49, 49, 49, 49, 49, 49, 49, 49, 49, 49, 49, 49, 49, 49, 49]⟩ : ByteArray), 100, 0, 9, true, true, 0, 0, false)
def bursarlaw23_some.Z25 : Array Value := #[.string (⟨#[]⟩ : ByteArray), .string (⟨#[]⟩ : ByteArray), .string (⟨#[]⟩ : ByteArray), .int .i64 0, .string (⟨#[]⟩ : ByteArray), .string (⟨#[]⟩ : ByteArray), .string (⟨#[]⟩ : ByteArray), .string (⟨#[]⟩ : ByteArray), .string (⟨#[]⟩ : ByteArray), .int .i64 0, .int .i64 0, .string (⟨#[]⟩ : ByteArray), .bool false, .int .i64 0, .string (⟨#[]⟩ : ByteArray), .string (⟨#[]⟩ : ByteArray), .string (⟨#[]⟩ : ByteArray), .int .i64 0, .int .i64 0, .int .i64 0, .bool false, .bool false, .int .i64 0, .int .i64 0, .bool false]
def bursarlaw23_some.Z7 : Array Value := #[.string (⟨#[]⟩ : ByteArray), .string (⟨#[]⟩ : ByteArray), .string (⟨#[]⟩ : ByteArray), .int .i64 0, .int .i64 0, .int .i64 0, .bool false]
set_option maxHeartbeats 8000000 in
set_option maxRecDepth 100000 in
theorem bursarlaw23_some.calls (a0 : Int) (a1 : ByteArray) (r1 : ByteArray) (r2 : ByteArray) (r3 : ByteArray) (r4 : Int) (r5 : ByteArray) (r6 : ByteArray) (r7 : ByteArray) (r8 : ByteArray) (r9 : ByteArray) (r10 : Int) (r11 : Int) (r12 : ByteArray) (r13 : Bool) (r14 : Int) (r15 : ByteArray) (r16 : ByteArray) (r17 : ByteArray) (r18 : Int) (r19 : Int) (r20 : Int) (r21 : Bool) (r22 : Bool) (r23 : Int) (r24 : Int) (r25 : Bool) (w : World) (h : bursarlaw23_some.f a0 a1 = some (r1, r2, r3, r4, r5, r6, r7, r8, r9, r10, r11, r12, r13, r14, r15, r16, r17, r18, r19, r20, r21, r22, r23, r24, r25)) :
    Calls Try.prog 58 #[.int .i64 a0, .string a1] w fun e w' => e = .returned (.agg #[.string r1, .string r2, .string r3, .int .i64 r4, .string r5, .string r6, .string r7, .string r8, .string r9, .int .i64 r10, .int .i64 r11, .string r12, .bool r13, .int .i64 r14, .string r15, .string r16, .string r17, .int .i64 r18, .int .i64 r19, .int .i64 r20, .bool r21, .bool r22, .int .i64 r23, .int .i64 r24, .bool r25]) ∧ Below w.heap.size w w' := by
  have hu27 := Try.underlying27
  have hu25 := Try.underlying25
  have hu23 := Try.underlying23
  have HO := Aside0.mk (Ow.Own.nil w)
  have hmf : ∀ (fn : Fn) (first cap : Array Value) (w : World), (Instr.makeFunc fn first cap).run Try.prog w = .ok (.func fn first cap) w := fun _ _ _ _ => rfl
  have H : (some ((⟨#[48, 50, 48, 48]⟩ : ByteArray), (⟨#[52, 49, 49, 49, 49, 49, 49, 49, 49, 49, 49, 49, 49, 49, 49, 49]⟩ : ByteArray), a1, a0, (⟨#[]⟩ : ByteArray), (⟨#[]⟩ : ByteArray), (⟨#[49, 50, 51, 52, 53, 54]⟩ : ByteArray), (⟨#[65, 66, 67, 48, 48, 48, 48, 48, 48, 48, 48, 49]⟩ : ByteArray), (⟨#[]⟩ : ByteArray), 0, 0, (⟨#[]⟩ : ByteArray), true, 0, (⟨#[65, 66, 67, 48, 48, 48, 48, 48, 48, 48, 48, 49]⟩ : ByteArray), (⟨#[49, 50, 51, 52, 53, 54]⟩ : ByteArray), (⟨#[52, 49, 49, 49, 49, 49, 49, 49, 49, 49, 49, 49, 49, 49, 49, 49]⟩ : ByteArray), 100, 0, 9, true, true, 0, 0, false)) = some (r1, r2, r3, r4, r5, r6, r7, r8, r9, r10, r11, r12, r13, r14, r15, r16, r17, r18, r19, r20, r21, r22, r23, r24, r25) := h
  clear h
  simp only [Option.some.injEq, Prod.mk.injEq] at H
  obtain ⟨rfl, rfl, rfl, rfl, rfl, rfl, rfl, rfl, rfl, rfl, rfl, rfl, rfl, rfl, rfl, rfl, rfl, rfl, rfl, rfl, rfl, rfl, rfl, rfl, rfl⟩ := H
  go_enter Try.func58, Try.ntmps58
  go_wp2_with (first | ((with_reducible refine gate_dst (N := 4) rfl ?_); refine Ow.box rfl (N := 4) rfl (cs := bursarlaw23_some.Z25) (t := 27) HO.out (by first | (go_simp; done) | (go_simp; rfl)) ?_; clear HO; intro gb245 w3 HO; simp only [List.cons_append, List.nil_append] at HO) | ((with_reducible refine gate_dst (N := 5) rfl ?_); refine Ow.box rfl (N := 5) rfl (cs := bursarlaw23_some.Z7) (t := 25) HO.out (by first | (go_simp; done) | (go_simp; rfl)) ?_; clear HO; intro gb246 w4 HO; simp only [List.cons_append, List.nil_append] at HO) | ((with_reducible refine Ow.gate_build rfl ?_); (try (refine gate_guard (by rfl) ?_; dsimp only)); refine' Ow.tbuild Ot.bd rfl rfl rfl ?hf_ ?_; (case hf_ => repeat (any_goals (first | exact Ow.Fills.nil | (refine' Ow.Fills.c ?hv_ rfl ?hz_ ?_; (case hv_ => first | exact Ow.ev_tmp rfl | rfl); (case hz_ => first | (refine ⟨?_, ?_⟩ <;> (rfl)) | fail)))))) | ((with_reducible refine Ow.gate_load rfl ?_); (try (refine gate_guard (by rfl) ?_; dsimp only)); (first | refine Ow.l1 Ot.ty HO.out rfl rfl rfl rfl (by rfl) ?_ | refine Ow.l0 Ot.ty HO.out rfl rfl rfl rfl (by rfl) ?_ | refine Ow.lp Ot.ty HO.out rfl rfl rfl rfl (by rfl) ?_)) | ((with_reducible refine gate_store rfl ?_); (try (refine gate_guard (by rfl) ?_; dsimp only)); (first | refine Ow.s0 Ot.ty HO.out rfl rfl rfl rfl rfl (by first | exact Ow.ev_tmp rfl | rfl) (by first | (refine ⟨?_, ?_, ?_⟩ <;> (rfl)) | fail) ?_ | refine Ow.sp Ot.ty HO.out rfl rfl rfl rfl rfl (by first | exact Ow.ev_tmp rfl | rfl) (by first | (refine ⟨?_, ?_, ?_⟩ <;> (rfl)) | fail) ?_); clear HO; intro wz_ HO; simp only [List.set_cons_zero, List.set_cons_succ] at HO))
  refine' bodyPost_ret (results_cell_row rfl _ _ gb245 27 _ (0, 0) _ rfl ?hb_ Try.underlying27 rfl ?hi_) rfl ?_
  case hb_ => refine' Ow.Own.get HO.out 0 ?hk_; (case hk_ => rfl)
  case hi_ => exact (Ot.ty.size 27 rfl).trans (congrArg some (by rfl))
  all_goals exact ⟨by first | rfl | (simp [errW_none, errW_some] <;> rfl) | (simp [*, errW_none, errW_some] <;> rfl), Ow.Own.below HO.out⟩

/-! ### bursarlaw23_awake: function 29 -/
def bursarlaw23_awake.f (k : Nat)  : Option (Bool) := (bursarlaw23_some.f 30 (⟨#[48, 49, 48, 48, 48, 48]⟩ : ByteArray)).bind fun bt247 => ((capture_Capture.f k bt247.1 bt247.2.1 bt247.2.2.1 bt247.2.2.2.1 bt247.2.2.2.2.1 bt247.2.2.2.2.2.1 bt247.2.2.2.2.2.2.1 bt247.2.2.2.2.2.2.2.1 bt247.2.2.2.2.2.2.2.2.1 bt247.2.2.2.2.2.2.2.2.2.1 bt247.2.2.2.2.2.2.2.2.2.2.1 bt247.2.2.2.2.2.2.2.2.2.2.2.1 bt247.2.2.2.2.2.2.2.2.2.2.2.2.1 bt247.2.2.2.2.2.2.2.2.2.2.2.2.2.1 bt247.2.2.2.2.2.2.2.2.2.2.2.2.2.2.1 bt247.2.2.2.2.2.2.2.2.2.2.2.2.2.2.2.1 bt247.2.2.2.2.2.2.2.2.2.2.2.2.2.2.2.2.1 bt247.2.2.2.2.2.2.2.2.2.2.2.2.2.2.2.2.2.1 bt247.2.2.2.2.2.2.2.2.2.2.2.2.2.2.2.2.2.2.1 bt247.2.2.2.2.2.2.2.2.2.2.2.2.2.2.2.2.2.2.2.1 bt247.2.2.2.2.2.2.2.2.2.2.2.2.2.2.2.2.2.2.2.2.1 bt247.2.2.2.2.2.2.2.2.2.2.2.2.2.2.2.2.2.2.2.2.2.1 bt247.2.2.2.2.2.2.2.2.2.2.2.2.2.2.2.2.2.2.2.2.2.2.1 bt247.2.2.2.2.2.2.2.2.2.2.2.2.2.2.2.2.2.2.2.2.2.2.2.1 bt247.2.2.2.2.2.2.2.2.2.2.2.2.2.2.2.2.2.2.2.2.2.2.2.2).bind fun bt272 => ((bursarlaw23_some.f 101 (⟨#[48, 48, 48, 48, 48, 48]⟩ : ByteArray)).bind fun bt288 => ((capture_Capture.f k bt288.1 bt288.2.1 bt288.2.2.1 bt288.2.2.2.1 bt288.2.2.2.2.1 bt288.2.2.2.2.2.1 bt288.2.2.2.2.2.2.1 bt288.2.2.2.2.2.2.2.1 bt288.2.2.2.2.2.2.2.2.1 bt288.2.2.2.2.2.2.2.2.2.1 bt288.2.2.2.2.2.2.2.2.2.2.1 bt288.2.2.2.2.2.2.2.2.2.2.2.1 bt288.2.2.2.2.2.2.2.2.2.2.2.2.1 bt288.2.2.2.2.2.2.2.2.2.2.2.2.2.1 bt288.2.2.2.2.2.2.2.2.2.2.2.2.2.2.1 bt288.2.2.2.2.2.2.2.2.2.2.2.2.2.2.2.1 bt288.2.2.2.2.2.2.2.2.2.2.2.2.2.2.2.2.1 bt288.2.2.2.2.2.2.2.2.2.2.2.2.2.2.2.2.2.1 bt288.2.2.2.2.2.2.2.2.2.2.2.2.2.2.2.2.2.2.1 bt288.2.2.2.2.2.2.2.2.2.2.2.2.2.2.2.2.2.2.2.1 bt288.2.2.2.2.2.2.2.2.2.2.2.2.2.2.2.2.2.2.2.2.1 bt288.2.2.2.2.2.2.2.2.2.2.2.2.2.2.2.2.2.2.2.2.2.1 bt288.2.2.2.2.2.2.2.2.2.2.2.2.2.2.2.2.2.2.2.2.2.2.1 bt288.2.2.2.2.2.2.2.2.2.2.2.2.2.2.2.2.2.2.2.2.2.2.2.1 bt288.2.2.2.2.2.2.2.2.2.2.2.2.2.2.2.2.2.2.2.2.2.2.2.2).bind fun bt313 => ((bursarlaw23_some.f 30 (⟨#[48, 48, 48, 48, 48, 48]⟩ : ByteArray)).bind fun bt329 => ((capture_Capture.f k bt329.1 bt329.2.1 bt329.2.2.1 bt329.2.2.2.1 bt329.2.2.2.2.1 bt329.2.2.2.2.2.1 bt329.2.2.2.2.2.2.1 bt329.2.2.2.2.2.2.2.1 bt329.2.2.2.2.2.2.2.2.1 bt329.2.2.2.2.2.2.2.2.2.1 bt329.2.2.2.2.2.2.2.2.2.2.1 bt329.2.2.2.2.2.2.2.2.2.2.2.1 bt329.2.2.2.2.2.2.2.2.2.2.2.2.1 50 bt329.2.2.2.2.2.2.2.2.2.2.2.2.2.2.1 bt329.2.2.2.2.2.2.2.2.2.2.2.2.2.2.2.1 bt329.2.2.2.2.2.2.2.2.2.2.2.2.2.2.2.2.1 bt329.2.2.2.2.2.2.2.2.2.2.2.2.2.2.2.2.2.1 bt329.2.2.2.2.2.2.2.2.2.2.2.2.2.2.2.2.2.2.1 bt329.2.2.2.2.2.2.2.2.2.2.2.2.2.2.2.2.2.2.2.1 bt329.2.2.2.2.2.2.2.2.2.2.2.2.2.2.2.2.2.2.2.2.1 false bt329.2.2.2.2.2.2.2.2.2.2.2.2.2.2.2.2.2.2.2.2.2.2.1 bt329.2.2.2.2.2.2.2.2.2.2.2.2.2.2.2.2.2.2.2.2.2.2.2.1 bt329.2.2.2.2.2.2.2.2.2.2.2.2.2.2.2.2.2.2.2.2.2.2.2.2).bind fun bt355 => (if bt272.1.toList = ([48, 48] : List UInt8) then (if bt272.2.2.2.2.2.2.2.2.1 = true then (if bt272.2.2.2.2.2.1 = 30 then (if bt272.2.2.2.2.2.2.2.1 = true then (if bt272.2.2.2.2.2.2.2.2.2.2.2.2.2.2 = 30 then (if bt313.1.toList = ([54, 49] : List UInt8) then (if bt355.1.toList = ([48, 48] : List UInt8) then (if bt355.2.2.2.2.2.2.2.2.1 = true then (none) else (some (bt355.2.2.2.2.2.2.2.2.2.1 == 2))) else (none)) else (none)) else (none)) else (none)) else (none)) else (none)) else (none)))))))
theorem bursarlaw23_awake.mono : ∀ k, LeO (bursarlaw23_awake.f k ) (bursarlaw23_awake.f (k + 1) ) := by
  intro  k
  unfold bursarlaw23_awake.f
  repeat' first
      | (with_reducible exact capture_Capture.mono _ _ _ _ _ _ _ _ _ _ _ _ _ _ _ _ _ _ _ _ _ _ _ _ _ _)
      | (with_reducible exact LeO.refl _)
      | (with_reducible exact LeO.none _)
      | (with_reducible refine LeO.ite ?_ ?_)
      | (with_reducible refine LeO.bind ?_ (fun _ => ?_))
      | exact capture_Capture.mono _ _ _ _ _ _ _ _ _ _ _ _ _ _ _ _ _ _ _ _ _ _ _ _ _ _
      | exact LeO.none _
      | refine LeO.ite ?_ ?_
      | refine LeO.bind ?_ (fun _ => ?_)
def bursarlaw23_awake.Z15 : Array Value := #[.string (⟨#[]⟩ : ByteArray), .string (⟨#[]⟩ : ByteArray), .string (⟨#[]⟩ : ByteArray), .string (⟨#[]⟩ : ByteArray), .int .i64 0, .int .i64 0, .int .i64 0, .bool false, .bool false, .int .i64 0, .int .i64 0, .string (⟨#[]⟩ : ByteArray), .string (⟨#[]⟩ : ByteArray), .string (⟨#[]⟩ : ByteArray), .int .i64 0]
def bursarlaw23_awake.Z25 : Array Value := #[.string (⟨#[]⟩ : ByteArray), .string (⟨#[]⟩ : ByteArray), .string (⟨#[]⟩ : ByteArray), .int .i64 0, .string (⟨#[]⟩ : ByteArray), .string (⟨#[]⟩ : ByteArray), .string (⟨#[]⟩ : ByteArray), .string (⟨#[]⟩ : ByteArray), .string (⟨#[]⟩ : ByteArray), .int .i64 0, .int .i64 0, .string (⟨#[]⟩ : ByteArray), .bool false, .int .i64 0, .string (⟨#[]⟩ : ByteArray), .string (⟨#[]⟩ : ByteArray), .string (⟨#[]⟩ : ByteArray), .int .i64 0, .int .i64 0, .int .i64 0, .bool false, .bool false, .int .i64 0, .int .i64 0, .bool false]
set_option maxHeartbeats 8000000 in
set_option maxRecDepth 100000 in
theorem bursarlaw23_awake.calls (k : Nat)  (r : Bool) (w : World) (h : bursarlaw23_awake.f k  = some r) :
    Calls Try.prog 29 #[] w fun e w' => e = .returned (.bool r) ∧ Below w.heap.size w w' := by
  have hu53 := Try.underlying53
  have hu27 := Try.underlying27
  have HO := Aside0.mk (Ow.Own.nil w)
  have hmf : ∀ (fn : Fn) (first cap : Array Value) (w : World), (Instr.makeFunc fn first cap).run Try.prog w = .ok (.func fn first cap) w := fun _ _ _ _ => rfl
  have H : ((bursarlaw23_some.f 30 (⟨#[48, 49, 48, 48, 48, 48]⟩ : ByteArray)).bind fun bt247 => ((capture_Capture.f k bt247.1 bt247.2.1 bt247.2.2.1 bt247.2.2.2.1 bt247.2.2.2.2.1 bt247.2.2.2.2.2.1 bt247.2.2.2.2.2.2.1 bt247.2.2.2.2.2.2.2.1 bt247.2.2.2.2.2.2.2.2.1 bt247.2.2.2.2.2.2.2.2.2.1 bt247.2.2.2.2.2.2.2.2.2.2.1 bt247.2.2.2.2.2.2.2.2.2.2.2.1 bt247.2.2.2.2.2.2.2.2.2.2.2.2.1 bt247.2.2.2.2.2.2.2.2.2.2.2.2.2.1 bt247.2.2.2.2.2.2.2.2.2.2.2.2.2.2.1 bt247.2.2.2.2.2.2.2.2.2.2.2.2.2.2.2.1 bt247.2.2.2.2.2.2.2.2.2.2.2.2.2.2.2.2.1 bt247.2.2.2.2.2.2.2.2.2.2.2.2.2.2.2.2.2.1 bt247.2.2.2.2.2.2.2.2.2.2.2.2.2.2.2.2.2.2.1 bt247.2.2.2.2.2.2.2.2.2.2.2.2.2.2.2.2.2.2.2.1 bt247.2.2.2.2.2.2.2.2.2.2.2.2.2.2.2.2.2.2.2.2.1 bt247.2.2.2.2.2.2.2.2.2.2.2.2.2.2.2.2.2.2.2.2.2.1 bt247.2.2.2.2.2.2.2.2.2.2.2.2.2.2.2.2.2.2.2.2.2.2.1 bt247.2.2.2.2.2.2.2.2.2.2.2.2.2.2.2.2.2.2.2.2.2.2.2.1 bt247.2.2.2.2.2.2.2.2.2.2.2.2.2.2.2.2.2.2.2.2.2.2.2.2).bind fun bt272 => ((bursarlaw23_some.f 101 (⟨#[48, 48, 48, 48, 48, 48]⟩ : ByteArray)).bind fun bt288 => ((capture_Capture.f k bt288.1 bt288.2.1 bt288.2.2.1 bt288.2.2.2.1 bt288.2.2.2.2.1 bt288.2.2.2.2.2.1 bt288.2.2.2.2.2.2.1 bt288.2.2.2.2.2.2.2.1 bt288.2.2.2.2.2.2.2.2.1 bt288.2.2.2.2.2.2.2.2.2.1 bt288.2.2.2.2.2.2.2.2.2.2.1 bt288.2.2.2.2.2.2.2.2.2.2.2.1 bt288.2.2.2.2.2.2.2.2.2.2.2.2.1 bt288.2.2.2.2.2.2.2.2.2.2.2.2.2.1 bt288.2.2.2.2.2.2.2.2.2.2.2.2.2.2.1 bt288.2.2.2.2.2.2.2.2.2.2.2.2.2.2.2.1 bt288.2.2.2.2.2.2.2.2.2.2.2.2.2.2.2.2.1 bt288.2.2.2.2.2.2.2.2.2.2.2.2.2.2.2.2.2.1 bt288.2.2.2.2.2.2.2.2.2.2.2.2.2.2.2.2.2.2.1 bt288.2.2.2.2.2.2.2.2.2.2.2.2.2.2.2.2.2.2.2.1 bt288.2.2.2.2.2.2.2.2.2.2.2.2.2.2.2.2.2.2.2.2.1 bt288.2.2.2.2.2.2.2.2.2.2.2.2.2.2.2.2.2.2.2.2.2.1 bt288.2.2.2.2.2.2.2.2.2.2.2.2.2.2.2.2.2.2.2.2.2.2.1 bt288.2.2.2.2.2.2.2.2.2.2.2.2.2.2.2.2.2.2.2.2.2.2.2.1 bt288.2.2.2.2.2.2.2.2.2.2.2.2.2.2.2.2.2.2.2.2.2.2.2.2).bind fun bt313 => ((bursarlaw23_some.f 30 (⟨#[48, 48, 48, 48, 48, 48]⟩ : ByteArray)).bind fun bt329 => ((capture_Capture.f k bt329.1 bt329.2.1 bt329.2.2.1 bt329.2.2.2.1 bt329.2.2.2.2.1 bt329.2.2.2.2.2.1 bt329.2.2.2.2.2.2.1 bt329.2.2.2.2.2.2.2.1 bt329.2.2.2.2.2.2.2.2.1 bt329.2.2.2.2.2.2.2.2.2.1 bt329.2.2.2.2.2.2.2.2.2.2.1 bt329.2.2.2.2.2.2.2.2.2.2.2.1 bt329.2.2.2.2.2.2.2.2.2.2.2.2.1 50 bt329.2.2.2.2.2.2.2.2.2.2.2.2.2.2.1 bt329.2.2.2.2.2.2.2.2.2.2.2.2.2.2.2.1 bt329.2.2.2.2.2.2.2.2.2.2.2.2.2.2.2.2.1 bt329.2.2.2.2.2.2.2.2.2.2.2.2.2.2.2.2.2.1 bt329.2.2.2.2.2.2.2.2.2.2.2.2.2.2.2.2.2.2.1 bt329.2.2.2.2.2.2.2.2.2.2.2.2.2.2.2.2.2.2.2.1 bt329.2.2.2.2.2.2.2.2.2.2.2.2.2.2.2.2.2.2.2.2.1 false bt329.2.2.2.2.2.2.2.2.2.2.2.2.2.2.2.2.2.2.2.2.2.2.1 bt329.2.2.2.2.2.2.2.2.2.2.2.2.2.2.2.2.2.2.2.2.2.2.2.1 bt329.2.2.2.2.2.2.2.2.2.2.2.2.2.2.2.2.2.2.2.2.2.2.2.2).bind fun bt355 => (if bt272.1.toList = ([48, 48] : List UInt8) then (if bt272.2.2.2.2.2.2.2.2.1 = true then (if bt272.2.2.2.2.2.1 = 30 then (if bt272.2.2.2.2.2.2.2.1 = true then (if bt272.2.2.2.2.2.2.2.2.2.2.2.2.2.2 = 30 then (if bt313.1.toList = ([54, 49] : List UInt8) then (if bt355.1.toList = ([48, 48] : List UInt8) then (if bt355.2.2.2.2.2.2.2.2.1 = true then (none) else (some (bt355.2.2.2.2.2.2.2.2.2.1 == 2))) else (none)) else (none)) else (none)) else (none)) else (none)) else (none)) else (none)))))))) = some r := h
  clear h
  replace H := Option.bind_eq_some_iff.mp H
  obtain ⟨⟨t247, t248, t249, t250, t251, t252, t253, t254, t255, t256, t257, t258, t259, t260, t261, t262, t263, t264, t265, t266, t267, t268, t269, t270, t271⟩, A10, H⟩ := H
  replace H : ((capture_Capture.f k t247 t248 t249 t250 t251 t252 t253 t254 t255 t256 t257 t258 t259 t260 t261 t262 t263 t264 t265 t266 t267 t268 t269 t270 t271).bind fun bt272 => ((bursarlaw23_some.f 101 (⟨#[48, 48, 48, 48, 48, 48]⟩ : ByteArray)).bind fun bt288 => ((capture_Capture.f k bt288.1 bt288.2.1 bt288.2.2.1 bt288.2.2.2.1 bt288.2.2.2.2.1 bt288.2.2.2.2.2.1 bt288.2.2.2.2.2.2.1 bt288.2.2.2.2.2.2.2.1 bt288.2.2.2.2.2.2.2.2.1 bt288.2.2.2.2.2.2.2.2.2.1 bt288.2.2.2.2.2.2.2.2.2.2.1 bt288.2.2.2.2.2.2.2.2.2.2.2.1 bt288.2.2.2.2.2.2.2.2.2.2.2.2.1 bt288.2.2.2.2.2.2.2.2.2.2.2.2.2.1 bt288.2.2.2.2.2.2.2.2.2.2.2.2.2.2.1 bt288.2.2.2.2.2.2.2.2.2.2.2.2.2.2.2.1 bt288.2.2.2.2.2.2.2.2.2.2.2.2.2.2.2.2.1 bt288.2.2.2.2.2.2.2.2.2.2.2.2.2.2.2.2.2.1 bt288.2.2.2.2.2.2.2.2.2.2.2.2.2.2.2.2.2.2.1 bt288.2.2.2.2.2.2.2.2.2.2.2.2.2.2.2.2.2.2.2.1 bt288.2.2.2.2.2.2.2.2.2.2.2.2.2.2.2.2.2.2.2.2.1 bt288.2.2.2.2.2.2.2.2.2.2.2.2.2.2.2.2.2.2.2.2.2.1 bt288.2.2.2.2.2.2.2.2.2.2.2.2.2.2.2.2.2.2.2.2.2.2.1 bt288.2.2.2.2.2.2.2.2.2.2.2.2.2.2.2.2.2.2.2.2.2.2.2.1 bt288.2.2.2.2.2.2.2.2.2.2.2.2.2.2.2.2.2.2.2.2.2.2.2.2).bind fun bt313 => ((bursarlaw23_some.f 30 (⟨#[48, 48, 48, 48, 48, 48]⟩ : ByteArray)).bind fun bt329 => ((capture_Capture.f k bt329.1 bt329.2.1 bt329.2.2.1 bt329.2.2.2.1 bt329.2.2.2.2.1 bt329.2.2.2.2.2.1 bt329.2.2.2.2.2.2.1 bt329.2.2.2.2.2.2.2.1 bt329.2.2.2.2.2.2.2.2.1 bt329.2.2.2.2.2.2.2.2.2.1 bt329.2.2.2.2.2.2.2.2.2.2.1 bt329.2.2.2.2.2.2.2.2.2.2.2.1 bt329.2.2.2.2.2.2.2.2.2.2.2.2.1 50 bt329.2.2.2.2.2.2.2.2.2.2.2.2.2.2.1 bt329.2.2.2.2.2.2.2.2.2.2.2.2.2.2.2.1 bt329.2.2.2.2.2.2.2.2.2.2.2.2.2.2.2.2.1 bt329.2.2.2.2.2.2.2.2.2.2.2.2.2.2.2.2.2.1 bt329.2.2.2.2.2.2.2.2.2.2.2.2.2.2.2.2.2.2.1 bt329.2.2.2.2.2.2.2.2.2.2.2.2.2.2.2.2.2.2.2.1 bt329.2.2.2.2.2.2.2.2.2.2.2.2.2.2.2.2.2.2.2.2.1 false bt329.2.2.2.2.2.2.2.2.2.2.2.2.2.2.2.2.2.2.2.2.2.2.1 bt329.2.2.2.2.2.2.2.2.2.2.2.2.2.2.2.2.2.2.2.2.2.2.2.1 bt329.2.2.2.2.2.2.2.2.2.2.2.2.2.2.2.2.2.2.2.2.2.2.2.2).bind fun bt355 => (if bt272.1.toList = ([48, 48] : List UInt8) then (if bt272.2.2.2.2.2.2.2.2.1 = true then (if bt272.2.2.2.2.2.1 = 30 then (if bt272.2.2.2.2.2.2.2.1 = true then (if bt272.2.2.2.2.2.2.2.2.2.2.2.2.2.2 = 30 then (if bt313.1.toList = ([54, 49] : List UInt8) then (if bt355.1.toList = ([48, 48] : List UInt8) then (if bt355.2.2.2.2.2.2.2.2.1 = true then (none) else (some (bt355.2.2.2.2.2.2.2.2.2.1 == 2))) else (none)) else (none)) else (none)) else (none)) else (none)) else (none)) else (none))))))) = some r := H
  have A1 := Aside0.mk A10
  clear A10
  replace H := Option.bind_eq_some_iff.mp H
  obtain ⟨⟨t272, t273, t274, t275, t276, t277, t278, t279, t280, t281, t282, t283, t284, t285, t286⟩, A20, H⟩ := H
  replace H : ((bursarlaw23_some.f 101 (⟨#[48, 48, 48, 48, 48, 48]⟩ : ByteArray)).bind fun bt288 => ((capture_Capture.f k bt288.1 bt288.2.1 bt288.2.2.1 bt288.2.2.2.1 bt288.2.2.2.2.1 bt288.2.2.2.2.2.1 bt288.2.2.2.2.2.2.1 bt288.2.2.2.2.2.2.2.1 bt288.2.2.2.2.2.2.2.2.1 bt288.2.2.2.2.2.2.2.2.2.1 bt288.2.2.2.2.2.2.2.2.2.2.1 bt288.2.2.2.2.2.2.2.2.2.2.2.1 bt288.2.2.2.2.2.2.2.2.2.2.2.2.1 bt288.2.2.2.2.2.2.2.2.2.2.2.2.2.1 bt288.2.2.2.2.2.2.2.2.2.2.2.2.2.2.1 bt288.2.2.2.2.2.2.2.2.2.2.2.2.2.2.2.1 bt288.2.2.2.2.2.2.2.2.2.2.2.2.2.2.2.2.1 bt288.2.2.2.2.2.2.2.2.2.2.2.2.2.2.2.2.2.1 bt288.2.2.2.2.2.2.2.2.2.2.2.2.2.2.2.2.2.2.1 bt288.2.2.2.2.2.2.2.2.2.2.2.2.2.2.2.2.2.2.2.1 bt288.2.2.2.2.2.2.2.2.2.2.2.2.2.2.2.2.2.2.2.2.1 bt288.2.2.2.2.2.2.2.2.2.2.2.2.2.2.2.2.2.2.2.2.2.1 bt288.2.2.2.2.2.2.2.2.2.2.2.2.2.2.2.2.2.2.2.2.2.2.1 bt288.2.2.2.2.2.2.2.2.2.2.2.2.2.2.2.2.2.2.2.2.2.2.2.1 bt288.2.2.2.2.2.2.2.2.2.2.2.2.2.2.2.2.2.2.2.2.2.2.2.2).bind fun bt313 => ((bursarlaw23_some.f 30 (⟨#[48, 48, 48, 48, 48, 48]⟩ : ByteArray)).bind fun bt329 => ((capture_Capture.f k bt329.1 bt329.2.1 bt329.2.2.1 bt329.2.2.2.1 bt329.2.2.2.2.1 bt329.2.2.2.2.2.1 bt329.2.2.2.2.2.2.1 bt329.2.2.2.2.2.2.2.1 bt329.2.2.2.2.2.2.2.2.1 bt329.2.2.2.2.2.2.2.2.2.1 bt329.2.2.2.2.2.2.2.2.2.2.1 bt329.2.2.2.2.2.2.2.2.2.2.2.1 bt329.2.2.2.2.2.2.2.2.2.2.2.2.1 50 bt329.2.2.2.2.2.2.2.2.2.2.2.2.2.2.1 bt329.2.2.2.2.2.2.2.2.2.2.2.2.2.2.2.1 bt329.2.2.2.2.2.2.2.2.2.2.2.2.2.2.2.2.1 bt329.2.2.2.2.2.2.2.2.2.2.2.2.2.2.2.2.2.1 bt329.2.2.2.2.2.2.2.2.2.2.2.2.2.2.2.2.2.2.1 bt329.2.2.2.2.2.2.2.2.2.2.2.2.2.2.2.2.2.2.2.1 bt329.2.2.2.2.2.2.2.2.2.2.2.2.2.2.2.2.2.2.2.2.1 false bt329.2.2.2.2.2.2.2.2.2.2.2.2.2.2.2.2.2.2.2.2.2.2.1 bt329.2.2.2.2.2.2.2.2.2.2.2.2.2.2.2.2.2.2.2.2.2.2.2.1 bt329.2.2.2.2.2.2.2.2.2.2.2.2.2.2.2.2.2.2.2.2.2.2.2.2).bind fun bt355 => (if t272.toList = ([48, 48] : List UInt8) then (if t280 = true then (if t277 = 30 then (if t279 = true then (if t286 = 30 then (if bt313.1.toList = ([54, 49] : List UInt8) then (if bt355.1.toList = ([48, 48] : List UInt8) then (if bt355.2.2.2.2.2.2.2.2.1 = true then (none) else (some (bt355.2.2.2.2.2.2.2.2.2.1 == 2))) else (none)) else (none)) else (none)) else (none)) else (none)) else (none)) else (none)))))) = some r := H
  have A2 := Aside0.mk A20
  clear A20
  replace H := Option.bind_eq_some_iff.mp H
  obtain ⟨⟨t288, t289, t290, t291, t292, t293, t294, t295, t296, t297, t298, t299, t300, t301, t302, t303, t304, t305, t306, t307, t308, t309, t310, t311, t312⟩, A30, H⟩ := H
  replace H : ((capture_Capture.f k t288 t289 t290 t291 t292 t293 t294 t295 t296 t297 t298 t299 t300 t301 t302 t303 t304 t305 t306 t307 t308 t309 t310 t311 t312).bind fun bt313 => ((bursarlaw23_some.f 30 (⟨#[48, 48, 48, 48, 48, 48]⟩ : ByteArray)).bind fun bt329 => ((capture_Capture.f k bt329.1 bt329.2.1 bt329.2.2.1 bt329.2.2.2.1 bt329.2.2.2.2.1 bt329.2.2.2.2.2.1 bt329.2.2.2.2.2.2.1 bt329.2.2.2.2.2.2.2.1 bt329.2.2.2.2.2.2.2.2.1 bt329.2.2.2.2.2.2.2.2.2.1 bt329.2.2.2.2.2.2.2.2.2.2.1 bt329.2.2.2.2.2.2.2.2.2.2.2.1 bt329.2.2.2.2.2.2.2.2.2.2.2.2.1 50 bt329.2.2.2.2.2.2.2.2.2.2.2.2.2.2.1 bt329.2.2.2.2.2.2.2.2.2.2.2.2.2.2.2.1 bt329.2.2.2.2.2.2.2.2.2.2.2.2.2.2.2.2.1 bt329.2.2.2.2.2.2.2.2.2.2.2.2.2.2.2.2.2.1 bt329.2.2.2.2.2.2.2.2.2.2.2.2.2.2.2.2.2.2.1 bt329.2.2.2.2.2.2.2.2.2.2.2.2.2.2.2.2.2.2.2.1 bt329.2.2.2.2.2.2.2.2.2.2.2.2.2.2.2.2.2.2.2.2.1 false bt329.2.2.2.2.2.2.2.2.2.2.2.2.2.2.2.2.2.2.2.2.2.2.1 bt329.2.2.2.2.2.2.2.2.2.2.2.2.2.2.2.2.2.2.2.2.2.2.2.1 bt329.2.2.2.2.2.2.2.2.2.2.2.2.2.2.2.2.2.2.2.2.2.2.2.2).bind fun bt355 => (if t272.toList = ([48, 48] : List UInt8) then (if t280 = true then (if t277 = 30 then (if t279 = true then (if t286 = 30 then (if bt313.1.toList = ([54, 49] : List UInt8) then (if bt355.1.toList = ([48, 48] : List UInt8) then (if bt355.2.2.2.2.2.2.2.2.1 = true then (none) else (some (bt355.2.2.2.2.2.2.2.2.2.1 == 2))) else (none)) else (none)) else (none)) else (none)) else (none)) else (none)) else (none))))) = some r := H
  have A3 := Aside0.mk A30
  clear A30
  replace H := Option.bind_eq_some_iff.mp H
  obtain ⟨⟨t313, t314, t315, t316, t317, t318, t319, t320, t321, t322, t323, t324, t325, t326, t327⟩, A40, H⟩ := H
  replace H : ((bursarlaw23_some.f 30 (⟨#[48, 48, 48, 48, 48, 48]⟩ : ByteArray)).bind fun bt329 => ((capture_Capture.f k bt329.1 bt329.2.1 bt329.2.2.1 bt329.2.2.2.1 bt329.2.2.2.2.1 bt329.2.2.2.2.2.1 bt329.2.2.2.2.2.2.1 bt329.2.2.2.2.2.2.2.1 bt329.2.2.2.2.2.2.2.2.1 bt329.2.2.2.2.2.2.2.2.2.1 bt329.2.2.2.2.2.2.2.2.2.2.1 bt329.2.2.2.2.2.2.2.2.2.2.2.1 bt329.2.2.2.2.2.2.2.2.2.2.2.2.1 50 bt329.2.2.2.2.2.2.2.2.2.2.2.2.2.2.1 bt329.2.2.2.2.2.2.2.2.2.2.2.2.2.2.2.1 bt329.2.2.2.2.2.2.2.2.2.2.2.2.2.2.2.2.1 bt329.2.2.2.2.2.2.2.2.2.2.2.2.2.2.2.2.2.1 bt329.2.2.2.2.2.2.2.2.2.2.2.2.2.2.2.2.2.2.1 bt329.2.2.2.2.2.2.2.2.2.2.2.2.2.2.2.2.2.2.2.1 bt329.2.2.2.2.2.2.2.2.2.2.2.2.2.2.2.2.2.2.2.2.1 false bt329.2.2.2.2.2.2.2.2.2.2.2.2.2.2.2.2.2.2.2.2.2.2.1 bt329.2.2.2.2.2.2.2.2.2.2.2.2.2.2.2.2.2.2.2.2.2.2.2.1 bt329.2.2.2.2.2.2.2.2.2.2.2.2.2.2.2.2.2.2.2.2.2.2.2.2).bind fun bt355 => (if t272.toList = ([48, 48] : List UInt8) then (if t280 = true then (if t277 = 30 then (if t279 = true then (if t286 = 30 then (if t313.toList = ([54, 49] : List UInt8) then (if bt355.1.toList = ([48, 48] : List UInt8) then (if bt355.2.2.2.2.2.2.2.2.1 = true then (none) else (some (bt355.2.2.2.2.2.2.2.2.2.1 == 2))) else (none)) else (none)) else (none)) else (none)) else (none)) else (none)) else (none)))) = some r := H
  have A4 := Aside0.mk A40
  clear A40
  replace H := Option.bind_eq_some_iff.mp H
  obtain ⟨⟨t329, t330, t331, t332, t333, t334, t335, t336, t337, t338, t339, t340, t341, t342, t343, t344, t345, t346, t347, t348, t349, t350, t351, t352, t353⟩, A50, H⟩ := H
  replace H : ((capture_Capture.f k t329 t330 t331 t332 t333 t334 t335 t336 t337 t338 t339 t340 t341 50 t343 t344 t345 t346 t347 t348 t349 false t351 t352 t353).bind fun bt355 => (if t272.toList = ([48, 48] : List UInt8) then (if t280 = true then (if t277 = 30 then (if t279 = true then (if t286 = 30 then (if t313.toList = ([54, 49] : List UInt8) then (if bt355.1.toList = ([48, 48] : List UInt8) then (if bt355.2.2.2.2.2.2.2.2.1 = true then (none) else (some (bt355.2.2.2.2.2.2.2.2.2.1 == 2))) else (none)) else (none)) else (none)) else (none)) else (none)) else (none)) else (none))) = some r := H
  have A5 := Aside0.mk A50
  clear A50
  replace H := Option.bind_eq_some_iff.mp H
  obtain ⟨⟨t355, t356, t357, t358, t359, t360, t361, t362, t363, t364, t365, t366, t367, t368, t369⟩, A60, H⟩ := H
  replace H : (if t272.toList = ([48, 48] : List UInt8) then (if t280 = true then (if t277 = 30 then (if t279 = true then (if t286 = 30 then (if t313.toList = ([54, 49] : List UInt8) then (if t355.toList = ([48, 48] : List UInt8) then (if t363 = true then (none) else (some (t364 == 2))) else (none)) else (none)) else (none)) else (none)) else (none)) else (none)) else (none)) = some r := H
  have A6 := Aside0.mk A60
  clear A60
  by_cases c7 : t272.toList = ([48, 48] : List UInt8)
  · rw [if_pos c7] at H
    have c7b0 : (t272.toList == ([48, 48] : List UInt8)) = true := beq_iff_eq.mpr c7
    have c7b1 : (t272.toList != ([48, 48] : List UInt8)) = false := bne_eq_false_iff_eq.mpr c7
    clear c7
    by_cases c8 : t280 = true
    · subst c8
      have H1 : (if t277 = 30 then (if t279 = true then (if t286 = 30 then (if t313.toList = ([54, 49] : List UInt8) then (if t355.toList = ([48, 48] : List UInt8) then (if t363 = true then (none) else (some (t364 == 2))) else (none)) else (none)) else (none)) else (none)) else (none)) = some r := by rw [if_pos rfl] at H; exact H
      clear H
      have H := H1
      clear H1
      by_cases c9 : t277 = 30
      · rw [if_pos c9] at H
        have c9b0 : (t277 == 30) = true := beq_iff_eq.mpr c9
        have c9b1 : (t277 != 30) = false := bne_eq_false_iff_eq.mpr c9
        clear c9
        by_cases c10 : t279 = true
        · subst c10
          have H1 : (if t286 = 30 then (if t313.toList = ([54, 49] : List UInt8) then (if t355.toList = ([48, 48] : List UInt8) then (if t363 = true then (none) else (some (t364 == 2))) else (none)) else (none)) else (none)) = some r := by rw [if_pos rfl] at H; exact H
          clear H
          have H := H1
          clear H1
          by_cases c11 : t286 = 30
          · rw [if_pos c11] at H
            have c11b0 : (t286 == 30) = true := beq_iff_eq.mpr c11
            have c11b1 : (t286 != 30) = false := bne_eq_false_iff_eq.mpr c11
            clear c11
            by_cases c12 : t313.toList = ([54, 49] : List UInt8)
            · rw [if_pos c12] at H
              have c12b0 : (t313.toList == ([54, 49] : List UInt8)) = true := beq_iff_eq.mpr c12
              have c12b1 : (t313.toList != ([54, 49] : List UInt8)) = false := bne_eq_false_iff_eq.mpr c12
              clear c12
              by_cases c13 : t355.toList = ([48, 48] : List UInt8)
              · rw [if_pos c13] at H
                have c13b0 : (t355.toList == ([48, 48] : List UInt8)) = true := beq_iff_eq.mpr c13
                have c13b1 : (t355.toList != ([48, 48] : List UInt8)) = false := bne_eq_false_iff_eq.mpr c13
                clear c13
                by_cases c14 : t363 = true
                · subst c14
                  have H1 : (none) = some r := by rw [if_pos rfl] at H; exact H
                  clear H
                  have H := H1
                  clear H1
                  exact absurd H (by simp)
                · replace c14 := Bool.eq_false_iff.mpr c14
                  subst c14
                  have H1 : (some (t364 == 2)) = some r := by rw [if_neg (show ¬ (false = true) by decide)] at H; exact H
                  clear H
                  have H := H1
                  clear H1
                  obtain rfl := Option.some.inj H
                  go_enter Try.func29, Try.ntmps29
                  obtain ⟨Q0, hQ0_⟩ : ∃ q_ : Array Value, q_ = (#[.string t247, .string t248, .string t249, .int .i64 t250, .string t251, .string t252, .string t253, .string t254, .string t255, .int .i64 t256, .int .i64 t257, .string t258, .bool t259, .int .i64 t260, .string t261, .string t262, .string t263, .int .i64 t264, .int .i64 t265, .int .i64 t266, .bool t267, .bool t268, .int .i64 t269, .int .i64 t270, .bool t271] : Array Value) := ⟨_, rfl⟩
                  try rw [← hQ0_]
                  have hQ0 := Aside0.mk hQ0_; have hq := Aside0.mk hQ0_; clear hQ0_
                  obtain ⟨Q1, hQ1_⟩ : ∃ q_ : Array Value, q_ = (#[.string t272, .string t273, .string t274, .string t275, .int .i64 t276, .int .i64 t277, .int .i64 t278, .bool true, .bool true, .int .i64 t281, .int .i64 t282, .string t283, .string t284, .string t285, .int .i64 t286] : Array Value) := ⟨_, rfl⟩
                  try rw [← hQ1_]
                  have hQ1 := Aside0.mk hQ1_; replace hq := Aside0.mk (And.intro hQ1_ hq.1); clear hQ1_
                  obtain ⟨Q2, hQ2_⟩ : ∃ q_ : Array Value, q_ = (#[.string t288, .string t289, .string t290, .int .i64 t291, .string t292, .string t293, .string t294, .string t295, .string t296, .int .i64 t297, .int .i64 t298, .string t299, .bool t300, .int .i64 t301, .string t302, .string t303, .string t304, .int .i64 t305, .int .i64 t306, .int .i64 t307, .bool t308, .bool t309, .int .i64 t310, .int .i64 t311, .bool t312] : Array Value) := ⟨_, rfl⟩
                  try rw [← hQ2_]
                  have hQ2 := Aside0.mk hQ2_; replace hq := Aside0.mk (And.intro hQ2_ hq.1); clear hQ2_
                  obtain ⟨Q3, hQ3_⟩ : ∃ q_ : Array Value, q_ = (#[.string t313, .string t314, .string t315, .string t316, .int .i64 t317, .int .i64 t318, .int .i64 t319, .bool t320, .bool t321, .int .i64 t322, .int .i64 t323, .string t324, .string t325, .string t326, .int .i64 t327] : Array Value) := ⟨_, rfl⟩
                  try rw [← hQ3_]
                  have hQ3 := Aside0.mk hQ3_; replace hq := Aside0.mk (And.intro hQ3_ hq.1); clear hQ3_
                  obtain ⟨Q4, hQ4_⟩ : ∃ q_ : Array Value, q_ = (#[.string t329, .string t330, .string t331, .int .i64 t332, .string t333, .string t334, .string t335, .string t336, .string t337, .int .i64 t338, .int .i64 t339, .string t340, .bool t341, .int .i64 t342, .string t343, .string t344, .string t345, .int .i64 t346, .int .i64 t347, .int .i64 t348, .bool t349, .bool t350, .int .i64 t351, .int .i64 t352, .bool t353] : Array Value) := ⟨_, rfl⟩
                  try rw [← hQ4_]
                  have hQ4 := Aside0.mk hQ4_; replace hq := Aside0.mk (And.intro hQ4_ hq.1); clear hQ4_
                  obtain ⟨Q5, hQ5_⟩ : ∃ q_ : Array Value, q_ = (#[.string t355, .string t356, .string t357, .string t358, .int .i64 t359, .int .i64 t360, .int .i64 t361, .bool t362, .bool false, .int .i64 t364, .int .i64 t365, .string t366, .string t367, .string t368, .int .i64 t369] : Array Value) := ⟨_, rfl⟩
                  try rw [← hQ5_]
                  have hQ5 := Aside0.mk hQ5_; replace hq := Aside0.mk (And.intro hQ5_ hq.1); clear hQ5_
                  obtain ⟨Q6, hQ6_⟩ : ∃ q_ : Array Value, q_ = (#[.string t329, .string t330, .string t331, .int .i64 t332, .string t333, .string t334, .string t335, .string t336, .string t337, .int .i64 t338, .int .i64 t339, .string t340, .bool t341, .int .i64 50, .string t343, .string t344, .string t345, .int .i64 t346, .int .i64 t347, .int .i64 t348, .bool t349, .bool false, .int .i64 t351, .int .i64 t352, .bool t353] : Array Value) := ⟨_, rfl⟩
                  try rw [← hQ6_]
                  have hQ6 := Aside0.mk hQ6_; replace hq := Aside0.mk (And.intro hQ6_ hq.1); clear hQ6_
                  go_wp2_with (first | ((with_reducible refine gate_callee (f := 58) rfl ?_); refine goesL_ (some 5) rfl rfl Try.func58 (by kernel_rfl) rfl #[.int .i64 30, .string (⟨#[48, 49, 48, 48, 48, 48]⟩ : ByteArray)] rfl (by (try simp only [List.map_toArray, List.map_cons, List.map_nil]); first | done | rfl | (simp only [hq.1]; done) | (simp only [hq.1]; rfl)) ?_; refine Calls.mono (calls_of_args (by first | ((try simp only [hq.1]) <;> rfl) | fail) (bursarlaw23_some.calls 30 (⟨#[48, 49, 48, 48, 48, 48]⟩ : ByteArray) t247 t248 t249 t250 t251 t252 t253 t254 t255 t256 t257 t258 t259 t260 t261 t262 t263 t264 t265 t266 t267 t268 t269 t270 t271 _ A1.out)) ?_; rintro e w15 ⟨he_, hb⟩; (try rw [← hQ0.out] at he_); subst he_; refine ⟨_, rfl, ?_⟩; replace HO := Aside0.mk (Ow.Own.call HO.out hb); clear hb) | ((with_reducible refine gate_callee (f := 27) rfl ?_); refine goesL_ (some 6) rfl rfl Try.func27 (by kernel_rfl) rfl #[.agg Q0] rfl (by (try simp only [List.map_toArray, List.map_cons, List.map_nil]); first | done | rfl | (simp only [hq.1]; done) | (simp only [hq.1]; rfl)) ?_; refine Calls.mono (calls_of_args (by first | ((try simp only [hq.1]) <;> rfl) | fail) (capture_Capture.calls k t247 t248 t249 t250 t251 t252 t253 t254 t255 t256 t257 t258 t259 t260 t261 t262 t263 t264 t265 t266 t267 t268 t269 t270 t271 t272 t273 t274 t275 t276 t277 t278 true true t281 t282 t283 t284 t285 t286 _ A2.out)) ?_; rintro e w16 ⟨he_, hb⟩; (try rw [← hQ1.out] at he_); subst he_; refine ⟨_, rfl, ?_⟩; replace HO := Aside0.mk (Ow.Own.call HO.out hb); clear hb) | ((with_reducible refine gate_dst (N := 1) rfl ?_); refine Ow.box rfl (N := 1) rfl (cs := bursarlaw23_awake.Z15) (t := 53) HO.out (by first | (go_simp; done) | (go_simp; rfl)) ?_; clear HO; intro gb287 w17 HO; simp only [List.cons_append, List.nil_append] at HO) | ((with_reducible refine gate_callee (f := 58) rfl ?_); refine goesL_ (some 7) rfl rfl Try.func58 (by kernel_rfl) rfl #[.int .i64 101, .string (⟨#[48, 48, 48, 48, 48, 48]⟩ : ByteArray)] rfl (by (try simp only [List.map_toArray, List.map_cons, List.map_nil]); first | done | rfl | (simp only [hq.1]; done) | (simp only [hq.1]; rfl)) ?_; refine Calls.mono (calls_of_args (by first | ((try simp only [hq.1]) <;> rfl) | fail) (bursarlaw23_some.calls 101 (⟨#[48, 48, 48, 48, 48, 48]⟩ : ByteArray) t288 t289 t290 t291 t292 t293 t294 t295 t296 t297 t298 t299 t300 t301 t302 t303 t304 t305 t306 t307 t308 t309 t310 t311 t312 _ A3.out)) ?_; rintro e w20 ⟨he_, hb⟩; (try rw [← hQ2.out] at he_); subst he_; refine ⟨_, rfl, ?_⟩; replace HO := Aside0.mk (Ow.Own.call HO.out hb); clear hb) | ((with_reducible refine gate_callee (f := 27) rfl ?_); refine goesL_ (some 8) rfl rfl Try.func27 (by kernel_rfl) rfl #[.agg Q2] rfl (by (try simp only [List.map_toArray, List.map_cons, List.map_nil]); first | done | rfl | (simp only [hq.1]; done) | (simp only [hq.1]; rfl)) ?_; refine Calls.mono (calls_of_args (by first | ((try simp only [hq.1]) <;> rfl) | fail) (capture_Capture.calls k t288 t289 t290 t291 t292 t293 t294 t295 t296 t297 t298 t299 t300 t301 t302 t303 t304 t305 t306 t307 t308 t309 t310 t311 t312 t313 t314 t315 t316 t317 t318 t319 t320 t321 t322 t323 t324 t325 t326 t327 _ A4.out)) ?_; rintro e w21 ⟨he_, hb⟩; (try rw [← hQ3.out] at he_); subst he_; refine ⟨_, rfl, ?_⟩; replace HO := Aside0.mk (Ow.Own.call HO.out hb); clear hb) | ((with_reducible refine gate_dst (N := 2) rfl ?_); refine Ow.box rfl (N := 2) rfl (cs := bursarlaw23_awake.Z15) (t := 53) HO.out (by first | (go_simp; done) | (go_simp; rfl)) ?_; clear HO; intro gb328 w22 HO; simp only [List.cons_append, List.nil_append] at HO) | ((with_reducible refine gate_callee (f := 58) rfl ?_); refine goesL_ (some 9) rfl rfl Try.func58 (by kernel_rfl) rfl #[.int .i64 30, .string (⟨#[48, 48, 48, 48, 48, 48]⟩ : ByteArray)] rfl (by (try simp only [List.map_toArray, List.map_cons, List.map_nil]); first | done | rfl | (simp only [hq.1]; done) | (simp only [hq.1]; rfl)) ?_; refine Calls.mono (calls_of_args (by first | ((try simp only [hq.1]) <;> rfl) | fail) (bursarlaw23_some.calls 30 (⟨#[48, 48, 48, 48, 48, 48]⟩ : ByteArray) t329 t330 t331 t332 t333 t334 t335 t336 t337 t338 t339 t340 t341 t342 t343 t344 t345 t346 t347 t348 t349 t350 t351 t352 t353 _ A5.out)) ?_; rintro e w26 ⟨he_, hb⟩; (try rw [← hQ4.out] at he_); subst he_; refine ⟨_, rfl, ?_⟩; replace HO := Aside0.mk (Ow.Own.call HO.out hb); clear hb) | ((with_reducible refine gate_dst (N := 3) rfl ?_); refine Ow.box rfl (N := 3) rfl (cs := bursarlaw23_awake.Z25) (t := 27) HO.out (by first | (go_simp; done) | (go_simp; rfl)) ?_; clear HO; intro gb354 w27 HO; simp only [List.cons_append, List.nil_append] at HO) | ((with_reducible refine gate_callee (f := 27) rfl ?_); refine goesL_ (some 13) rfl rfl Try.func27 (by kernel_rfl) rfl #[.agg Q6] rfl (by (try simp only [List.map_toArray, List.map_cons, List.map_nil]); first | done | rfl | (simp only [hq.1]; done) | (simp only [hq.1]; rfl)) ?_; refine Calls.mono (calls_of_args (by first | ((try simp only [hq.1]) <;> rfl) | fail) (capture_Capture.calls k t329 t330 t331 t332 t333 t334 t335 t336 t337 t338 t339 t340 t341 50 t343 t344 t345 t346 t347 t348 t349 false t351 t352 t353 t355 t356 t357 t358 t359 t360 t361 t362 false t364 t365 t366 t367 t368 t369 _ A6.out)) ?_; rintro e w33 ⟨he_, hb⟩; (try rw [← hQ5.out] at he_); subst he_; refine ⟨_, rfl, ?_⟩; replace HO := Aside0.mk (Ow.Own.call HO.out hb); clear hb) | ((with_reducible refine gate_dst (N := 4) rfl ?_); refine Ow.box rfl (N := 4) rfl (cs := bursarlaw23_awake.Z15) (t := 53) HO.out (by first | (go_simp; done) | (go_simp; rfl)) ?_; clear HO; intro gb370 w34 HO; simp only [List.cons_append, List.nil_append] at HO) | ((with_reducible refine Ow.gate_load rfl ?_); (try (refine gate_guard (by rfl) ?_; dsimp only)); (first | refine Ow.l1 Ot.ty HO.out rfl rfl rfl rfl (by first | ((try simp only [hq.1]) <;> rfl) | fail) ?_ | refine Ow.l0 Ot.ty HO.out rfl rfl rfl rfl (by first | ((try simp only [hq.1]) <;> rfl) | fail) ?_ | refine Ow.lp Ot.ty HO.out rfl rfl rfl rfl (by first | ((try simp only [hq.1]) <;> rfl) | fail) ?_)) | ((with_reducible refine gate_store rfl ?_); (try (refine gate_guard (by rfl) ?_; dsimp only)); (first | refine Ow.s0 Ot.ty HO.out rfl rfl rfl rfl rfl (by first | exact Ow.ev_tmp rfl | rfl) (by first | (refine ⟨?_, ?_, ?_⟩ <;> (first | ((try simp only [hq.1]) <;> rfl) | fail)) | fail) ?_ | refine Ow.sp Ot.ty HO.out rfl rfl rfl rfl rfl (by first | exact Ow.ev_tmp rfl | rfl) (by first | (refine ⟨?_, ?_, ?_⟩ <;> (first | ((try simp only [hq.1]) <;> rfl) | fail)) | fail) ?_); clear HO; intro wz_ HO; simp only [List.set_cons_zero, List.set_cons_succ] at HO))
                  all_goals go_ret
                  all_goals exact ⟨by first | rfl | (simp only [hq.1]; done) | (simp only [hq.1]; rfl) | (simp [errW_none, errW_some] <;> rfl) | (simp [*, errW_none, errW_some] <;> rfl), Ow.Own.below HO.out⟩
              · rw [if_neg c13] at H
                exact absurd H (by simp)
            · rw [if_neg c12] at H
              exact absurd H (by simp)
          · rw [if_neg c11] at H
            exact absurd H (by simp)
        · replace c10 := Bool.eq_false_iff.mpr c10
          subst c10
          have H1 : (none) = some r := by rw [if_neg (show ¬ (false = true) by decide)] at H; exact H
          clear H
          have H := H1
          clear H1
          exact absurd H (by simp)
      · rw [if_neg c9] at H
        exact absurd H (by simp)
    · replace c8 := Bool.eq_false_iff.mpr c8
      subst c8
      have H1 : (none) = some r := by rw [if_neg (show ¬ (false = true) by decide)] at H; exact H
      clear H
      have H := H1
      clear H1
      exact absurd H (by simp)
  · rw [if_neg c7] at H
    exact absurd H (by simp)

/-! ### bursarref14_Left: function 30 -/
def bursarref14_Left.f (a0_0 : ByteArray) (a0_1 : ByteArray) (a0_2 : ByteArray) (a0_3 : Int) (a0_4 : Int) (a0_5 : Int) (a0_6 : Bool) : Option (Int) := if a0_6 = true then (some (wrap64 (a0_3 - a0_4))) else (some 0)
set_option maxHeartbeats 8000000 in
set_option maxRecDepth 100000 in
theorem bursarref14_Left.calls (a0_0 : ByteArray) (a0_1 : ByteArray) (a0_2 : ByteArray) (a0_3 : Int) (a0_4 : Int) (a0_5 : Int) (a0_6 : Bool) (r : Int) (w : World) (h : bursarref14_Left.f a0_0 a0_1 a0_2 a0_3 a0_4 a0_5 a0_6 = some r) :
    Calls Try.prog 30 #[.agg #[.string a0_0, .string a0_1, .string a0_2, .int .i64 a0_3, .int .i64 a0_4, .int .i64 a0_5, .bool a0_6]] w fun e w' => e = .returned (.int .i64 r) ∧ Below w.heap.size w w' := by
  have hu25 := Try.underlying25
  have HO := Aside0.mk (Ow.Own.nil w)
  have hmf : ∀ (fn : Fn) (first cap : Array Value) (w : World), (Instr.makeFunc fn first cap).run Try.prog w = .ok (.func fn first cap) w := fun _ _ _ _ => rfl
  have H : (if a0_6 = true then (some (wrap64 (a0_3 - a0_4))) else (some 0)) = some r := h
  clear h
  by_cases c2 : a0_6 = true
  · subst c2
    have H1 : (some (wrap64 (a0_3 - a0_4))) = some r := by rw [if_pos rfl] at H; exact H
    clear H
    have H := H1
    clear H1
    obtain rfl := Option.some.inj H
    obtain ⟨Q0, hQ0_⟩ : ∃ q_ : Array Value, q_ = (#[.string a0_0, .string a0_1, .string a0_2, .int .i64 a0_3, .int .i64 a0_4, .int .i64 a0_5, .bool true] : Array Value) := ⟨_, rfl⟩
    try rw [← hQ0_]
    have hQ0 := Aside0.mk hQ0_; have hq := Aside0.mk hQ0_; clear hQ0_
    go_enter Try.func30, Try.ntmps30
    go_wp2_with (first | ((with_reducible refine gate_dst (N := 1) rfl ?_); refine Ow.box rfl (N := 1) rfl (cs := Q0) (t := 25) HO.out (by first | (go_simp; done) | (go_simp; rfl)) ?_; clear HO; intro gb371 w3 HO; simp only [List.cons_append, List.nil_append] at HO) | ((with_reducible refine Ow.gate_load rfl ?_); (try (refine gate_guard (by rfl) ?_; dsimp only)); (first | refine Ow.l1 Ot.ty HO.out rfl rfl rfl rfl (by first | ((try simp only [hq.1]) <;> rfl) | fail) ?_)))
    all_goals go_ret
    all_goals exact ⟨by first | rfl | (simp only [hq.1]; done) | (simp only [hq.1]; rfl) | (simp [errW_none, errW_some] <;> rfl) | (simp [*, errW_none, errW_some] <;> rfl), Ow.Own.below HO.out⟩
  · replace c2 := Bool.eq_false_iff.mpr c2
    subst c2
    have H1 : (some 0) = some r := by rw [if_neg (show ¬ (false = true) by decide)] at H; exact H
    clear H
    have H := H1
    clear H1
    obtain rfl := Option.some.inj H
    obtain ⟨Q1, hQ1_⟩ : ∃ q_ : Array Value, q_ = (#[.string a0_0, .string a0_1, .string a0_2, .int .i64 a0_3, .int .i64 a0_4, .int .i64 a0_5, .bool false] : Array Value) := ⟨_, rfl⟩
    try rw [← hQ1_]
    have hQ1 := Aside0.mk hQ1_; have hq := Aside0.mk hQ1_; clear hQ1_
    go_enter Try.func30, Try.ntmps30
    go_wp2_with (first | ((with_reducible refine gate_dst (N := 1) rfl ?_); refine Ow.box rfl (N := 1) rfl (cs := Q1) (t := 25) HO.out (by first | (go_simp; done) | (go_simp; rfl)) ?_; clear HO; intro gb371 w5 HO; simp only [List.cons_append, List.nil_append] at HO) | ((with_reducible refine Ow.gate_load rfl ?_); (try (refine gate_guard (by rfl) ?_; dsimp only)); (first | refine Ow.l1 Ot.ty HO.out rfl rfl rfl rfl (by first | ((try simp only [hq.1]) <;> rfl) | fail) ?_)))
    all_goals go_ret
    all_goals exact ⟨by first | rfl | (simp only [hq.1]; done) | (simp only [hq.1]; rfl) | (simp [errW_none, errW_some] <;> rfl) | (simp [*, errW_none, errW_some] <;> rfl), Ow.Own.below HO.out⟩

/-! ### bursarref14_May_p: function 31 -/
def bursarref14_May_p.f (a0_0 : ByteArray) (a0_1 : ByteArray) (a0_2 : ByteArray) (a0_3 : Int) (a0_4 : Int) (a0_5 : Int) (a0_6 : Bool) : Option (Bool) := (bursarref11_Name.f 1 a0_2).bind fun bt373 => ((bursarref11_Name.f 2 a0_1).bind fun bt375 => ((bursarref14_Ref.f a0_0).bind fun t377 => (if t377 = true then (if bt373.2 = true then (if bt375.2 = true then (if 0 ≤ a0_4 then (if a0_4 ≤ a0_3 then (if 0 ≤ a0_5 then (if a0_5 ≤ 2147483647 then (if a0_6 = true then (some (decide (a0_3 > a0_4))) else (some true)) else (some false)) else (some false)) else (some false)) else (some false)) else (some false)) else (some false)) else (some false))))
set_option maxHeartbeats 8000000 in
set_option maxRecDepth 100000 in
theorem bursarref14_May_p.calls (a0_0 : ByteArray) (a0_1 : ByteArray) (a0_2 : ByteArray) (a0_3 : Int) (a0_4 : Int) (a0_5 : Int) (a0_6 : Bool) (r : Bool) (w : World) (h : bursarref14_May_p.f a0_0 a0_1 a0_2 a0_3 a0_4 a0_5 a0_6 = some r) :
    Calls Try.prog 31 #[.agg #[.string a0_0, .string a0_1, .string a0_2, .int .i64 a0_3, .int .i64 a0_4, .int .i64 a0_5, .bool a0_6]] w fun e w' => e = .returned (.bool r) ∧ Below w.heap.size w w' := by
  have hu25 := Try.underlying25
  have hu73 := Try.underlying73
  have HO := Aside0.mk (Ow.Own.nil w)
  have hmf : ∀ (fn : Fn) (first cap : Array Value) (w : World), (Instr.makeFunc fn first cap).run Try.prog w = .ok (.func fn first cap) w := fun _ _ _ _ => rfl
  have H : ((bursarref11_Name.f 1 a0_2).bind fun bt373 => ((bursarref11_Name.f 2 a0_1).bind fun bt375 => ((bursarref14_Ref.f a0_0).bind fun t377 => (if t377 = true then (if bt373.2 = true then (if bt375.2 = true then (if 0 ≤ a0_4 then (if a0_4 ≤ a0_3 then (if 0 ≤ a0_5 then (if a0_5 ≤ 2147483647 then (if a0_6 = true then (some (decide (a0_3 > a0_4))) else (some true)) else (some false)) else (some false)) else (some false)) else (some false)) else (some false)) else (some false)) else (some false))))) = some r := h
  clear h
  replace H := Option.bind_eq_some_iff.mp H
  obtain ⟨⟨t373, t374⟩, A20, H⟩ := H
  replace H : ((bursarref11_Name.f 2 a0_1).bind fun bt375 => ((bursarref14_Ref.f a0_0).bind fun t377 => (if t377 = true then (if t374 = true then (if bt375.2 = true then (if 0 ≤ a0_4 then (if a0_4 ≤ a0_3 then (if 0 ≤ a0_5 then (if a0_5 ≤ 2147483647 then (if a0_6 = true then (some (decide (a0_3 > a0_4))) else (some true)) else (some false)) else (some false)) else (some false)) else (some false)) else (some false)) else (some false)) else (some false)))) = some r := H
  have A2 := Aside0.mk A20
  clear A20
  replace H := Option.bind_eq_some_iff.mp H
  obtain ⟨⟨t375, t376⟩, A30, H⟩ := H
  replace H : ((bursarref14_Ref.f a0_0).bind fun t377 => (if t377 = true then (if t374 = true then (if t376 = true then (if 0 ≤ a0_4 then (if a0_4 ≤ a0_3 then (if 0 ≤ a0_5 then (if a0_5 ≤ 2147483647 then (if a0_6 = true then (some (decide (a0_3 > a0_4))) else (some true)) else (some false)) else (some false)) else (some false)) else (some false)) else (some false)) else (some false)) else (some false))) = some r := H
  have A3 := Aside0.mk A30
  clear A30
  replace H := Option.bind_eq_some_iff.mp H
  obtain ⟨t377, A40, H⟩ := H
  replace H : (if t377 = true then (if t374 = true then (if t376 = true then (if 0 ≤ a0_4 then (if a0_4 ≤ a0_3 then (if 0 ≤ a0_5 then (if a0_5 ≤ 2147483647 then (if a0_6 = true then (some (decide (a0_3 > a0_4))) else (some true)) else (some false)) else (some false)) else (some false)) else (some false)) else (some false)) else (some false)) else (some false)) = some r := H
  have A4 := Aside0.mk A40
  clear A40
  by_cases c5 : t377 = true
  · subst c5
    have H1 : (if t374 = true then (if t376 = true then (if 0 ≤ a0_4 then (if a0_4 ≤ a0_3 then (if 0 ≤ a0_5 then (if a0_5 ≤ 2147483647 then (if a0_6 = true then (some (decide (a0_3 > a0_4))) else (some true)) else (some false)) else (some false)) else (some false)) else (some false)) else (some false)) else (some false)) = some r := by rw [if_pos rfl] at H; exact H
    clear H
    have H := H1
    clear H1
    by_cases c6 : t374 = true
    · subst c6
      have H1 : (if t376 = true then (if 0 ≤ a0_4 then (if a0_4 ≤ a0_3 then (if 0 ≤ a0_5 then (if a0_5 ≤ 2147483647 then (if a0_6 = true then (some (decide (a0_3 > a0_4))) else (some true)) else (some false)) else (some false)) else (some false)) else (some false)) else (some false)) = some r := by rw [if_pos rfl] at H; exact H
      clear H
      have H := H1
      clear H1
      by_cases c7 : t376 = true
      · subst c7
        have H1 : (if 0 ≤ a0_4 then (if a0_4 ≤ a0_3 then (if 0 ≤ a0_5 then (if a0_5 ≤ 2147483647 then (if a0_6 = true then (some (decide (a0_3 > a0_4))) else (some true)) else (some false)) else (some false)) else (some false)) else (some false)) = some r := by rw [if_pos rfl] at H; exact H
        clear H
        have H := H1
        clear H1
        by_cases c8 : 0 ≤ a0_4
        · rw [if_pos c8] at H
          have c8b0 : decide (0 ≤ a0_4) = true := decide_eq_true c8
          clear c8
          by_cases c9 : a0_4 ≤ a0_3
          · rw [if_pos c9] at H
            have c9b0 : decide (a0_4 ≤ a0_3) = true := decide_eq_true c9
            clear c9
            by_cases c10 : 0 ≤ a0_5
            · rw [if_pos c10] at H
              have c10b0 : decide (0 ≤ a0_5) = true := decide_eq_true c10
              clear c10
              by_cases c11 : a0_5 ≤ 2147483647
              · rw [if_pos c11] at H
                have c11b0 : decide (a0_5 ≤ 2147483647) = true := decide_eq_true c11
                clear c11
                by_cases c12 : a0_6 = true
                · subst c12
                  have H1 : (some (decide (a0_3 > a0_4))) = some r := by rw [if_pos rfl] at H; exact H
                  clear H
                  have H := H1
                  clear H1
                  obtain rfl := Option.some.inj H
                  obtain ⟨Q0, hQ0_⟩ : ∃ q_ : Array Value, q_ = (#[.string a0_0, .string a0_1, .string a0_2, .int .i64 a0_3, .int .i64 a0_4, .int .i64 a0_5, .bool true] : Array Value) := ⟨_, rfl⟩
                  try rw [← hQ0_]
                  have hQ0 := Aside0.mk hQ0_; have hq := Aside0.mk hQ0_; clear hQ0_
                  go_enter Try.func31, Try.ntmps31
                  go_wp2_with (first | ((with_reducible refine gate_dst (N := 1) rfl ?_); refine Ow.box rfl (N := 1) rfl (cs := Q0) (t := 25) HO.out (by first | (go_simp; done) | (go_simp; rfl)) ?_; clear HO; intro gb372 w13 HO; simp only [List.cons_append, List.nil_append] at HO) | ((with_reducible refine gate_callee (f := 45) rfl ?_); refine goesL_ (some 11) rfl rfl Try.func45 (by kernel_rfl) rfl #[.agg #[.int .i64 1, .string a0_2]] rfl (by (try simp only [List.map_toArray, List.map_cons, List.map_nil]); first | done | rfl | (simp only [hq.1]; done) | (simp only [hq.1]; rfl)) ?_; refine Calls.mono (calls_of_args (by first | ((try simp only [hq.1]) <;> rfl) | fail) (bursarref11_Name.calls 1 a0_2 t373 true _ A2.out)) ?_; rintro e w15 ⟨he_, hb⟩; subst he_; refine ⟨_, rfl, ?_⟩; replace HO := Aside0.mk (Ow.Own.call HO.out hb); clear hb) | ((with_reducible refine gate_callee (f := 45) rfl ?_); refine goesL_ (some 18) rfl rfl Try.func45 (by kernel_rfl) rfl #[.agg #[.int .i64 2, .string a0_1]] rfl (by (try simp only [List.map_toArray, List.map_cons, List.map_nil]); first | done | rfl | (simp only [hq.1]; done) | (simp only [hq.1]; rfl)) ?_; refine Calls.mono (calls_of_args (by first | ((try simp only [hq.1]) <;> rfl) | fail) (bursarref11_Name.calls 2 a0_1 t375 true _ A3.out)) ?_; rintro e w17 ⟨he_, hb⟩; subst he_; refine ⟨_, rfl, ?_⟩; replace HO := Aside0.mk (Ow.Own.call HO.out hb); clear hb) | ((with_reducible refine gate_callee (f := 46) rfl ?_); refine goesL_ (some 23) rfl rfl Try.func46 (by kernel_rfl) rfl #[.string a0_0] rfl (by (try simp only [List.map_toArray, List.map_cons, List.map_nil]); first | done | rfl | (simp only [hq.1]; done) | (simp only [hq.1]; rfl)) ?_; refine Calls.mono (calls_of_args (by first | ((try simp only [hq.1]) <;> rfl) | fail) (bursarref14_Ref.calls a0_0 true _ A4.out)) ?_; rintro e w' ⟨he_, ⟨nd, rfl⟩⟩; subst he_; refine ⟨_, rfl, ?_⟩; replace HO := Aside0.mk (Ow.Own.drewN HO.out nd)) | ((with_reducible refine Ow.gate_build rfl ?_); (try (refine gate_guard (by rfl) ?_; dsimp only)); refine' Ow.tbuild Ot.bd rfl rfl rfl ?hf_ ?_; (case hf_ => repeat (any_goals (first | exact Ow.Fills.nil | (refine' Ow.Fills.c ?hv_ rfl ?hz_ ?_; (case hv_ => first | exact Ow.ev_tmp rfl | rfl); (case hz_ => first | (refine ⟨?_, ?_⟩ <;> (first | ((try simp only [hq.1]) <;> rfl) | fail)) | fail)))))) | ((with_reducible refine Ow.gate_load rfl ?_); (try (refine gate_guard (by rfl) ?_; dsimp only)); (first | refine Ow.l1 Ot.ty HO.out rfl rfl rfl rfl (by first | ((try simp only [hq.1]) <;> rfl) | fail) ?_)))
                  all_goals go_ret
                  all_goals exact ⟨by first | rfl | (simp only [hq.1]; done) | (simp only [hq.1]; rfl) | (simp [errW_none, errW_some] <;> rfl) | (simp [*, errW_none, errW_some] <;> rfl), Ow.Own.below HO.out⟩
                · replace c12 := Bool.eq_false_iff.mpr c12
                  subst c12
                  have H1 : (some true) = some r := by rw [if_neg (show ¬ (false = true) by decide)] at H; exact H
                  clear H
                  have H := H1
                  clear H1
                  obtain rfl := Option.some.inj H
                  obtain ⟨Q1, hQ1_⟩ : ∃ q_ : Array Value, q_ = (#[.string a0_0, .string a0_1, .string a0_2, .int .i64 a0_3, .int .i64 a0_4, .int .i64 a0_5, .bool false] : Array Value) := ⟨_, rfl⟩
                  try rw [← hQ1_]
                  have hQ1 := Aside0.mk hQ1_; have hq := Aside0.mk hQ1_; clear hQ1_
                  go_enter Try.func31, Try.ntmps31
                  go_wp2_with (first | ((with_reducible refine gate_dst (N := 1) rfl ?_); refine Ow.box rfl (N := 1) rfl (cs := Q1) (t := 25) HO.out (by first | (go_simp; done) | (go_simp; rfl)) ?_; clear HO; intro gb372 w19 HO; simp only [List.cons_append, List.nil_append] at HO) | ((with_reducible refine gate_callee (f := 45) rfl ?_); refine goesL_ (some 11) rfl rfl Try.func45 (by kernel_rfl) rfl #[.agg #[.int .i64 1, .string a0_2]] rfl (by (try simp only [List.map_toArray, List.map_cons, List.map_nil]); first | done | rfl | (simp only [hq.1]; done) | (simp only [hq.1]; rfl)) ?_; refine Calls.mono (calls_of_args (by first | ((try simp only [hq.1]) <;> rfl) | fail) (bursarref11_Name.calls 1 a0_2 t373 true _ A2.out)) ?_; rintro e w21 ⟨he_, hb⟩; subst he_; refine ⟨_, rfl, ?_⟩; replace HO := Aside0.mk (Ow.Own.call HO.out hb); clear hb) | ((with_reducible refine gate_callee (f := 45) rfl ?_); refine goesL_ (some 18) rfl rfl Try.func45 (by kernel_rfl) rfl #[.agg #[.int .i64 2, .string a0_1]] rfl (by (try simp only [List.map_toArray, List.map_cons, List.map_nil]); first | done | rfl | (simp only [hq.1]; done) | (simp only [hq.1]; rfl)) ?_; refine Calls.mono (calls_of_args (by first | ((try simp only [hq.1]) <;> rfl) | fail) (bursarref11_Name.calls 2 a0_1 t375 true _ A3.out)) ?_; rintro e w23 ⟨he_, hb⟩; subst he_; refine ⟨_, rfl, ?_⟩; replace HO := Aside0.mk (Ow.Own.call HO.out hb); clear hb) | ((with_reducible refine gate_callee (f := 46) rfl ?_); refine goesL_ (some 23) rfl rfl Try.func46 (by kernel_rfl) rfl #[.string a0_0] rfl (by (try simp only [List.map_toArray, List.map_cons, List.map_nil]); first | done | rfl | (simp only [hq.1]; done) | (simp only [hq.1]; rfl)) ?_; refine Calls.mono (calls_of_args (by first | ((try simp only [hq.1]) <;> rfl) | fail) (bursarref14_Ref.calls a0_0 true _ A4.out)) ?_; rintro e w' ⟨he_, ⟨nd, rfl⟩⟩; subst he_; refine ⟨_, rfl, ?_⟩; replace HO := Aside0.mk (Ow.Own.drewN HO.out nd)) | ((with_reducible refine Ow.gate_build rfl ?_); (try (refine gate_guard (by rfl) ?_; dsimp only)); refine' Ow.tbuild Ot.bd rfl rfl rfl ?hf_ ?_; (case hf_ => repeat (any_goals (first | exact Ow.Fills.nil | (refine' Ow.Fills.c ?hv_ rfl ?hz_ ?_; (case hv_ => first | exact Ow.ev_tmp rfl | rfl); (case hz_ => first | (refine ⟨?_, ?_⟩ <;> (first | ((try simp only [hq.1]) <;> rfl) | fail)) | fail)))))) | ((with_reducible refine Ow.gate_load rfl ?_); (try (refine gate_guard (by rfl) ?_; dsimp only)); (first | refine Ow.l1 Ot.ty HO.out rfl rfl rfl rfl (by first | ((try simp only [hq.1]) <;> rfl) | fail) ?_)))
                  all_goals go_ret
                  all_goals exact ⟨by first | rfl | (simp only [hq.1]; done) | (simp only [hq.1]; rfl) | (simp [errW_none, errW_some] <;> rfl) | (simp [*, errW_none, errW_some] <;> rfl), Ow.Own.below HO.out⟩
              · rw [if_neg c11] at H
                have c11b0 : decide (a0_5 ≤ 2147483647) = false := decide_eq_false c11
                clear c11
                obtain rfl := Option.some.inj H
                obtain ⟨Q2, hQ2_⟩ : ∃ q_ : Array Value, q_ = (#[.string a0_0, .string a0_1, .string a0_2, .int .i64 a0_3, .int .i64 a0_4, .int .i64 a0_5, .bool a0_6] : Array Value) := ⟨_, rfl⟩
                try rw [← hQ2_]
                have hQ2 := Aside0.mk hQ2_; have hq := Aside0.mk hQ2_; clear hQ2_
                go_enter Try.func31, Try.ntmps31
                go_wp2_with (first | ((with_reducible refine gate_dst (N := 1) rfl ?_); refine Ow.box rfl (N := 1) rfl (cs := Q2) (t := 25) HO.out (by first | (go_simp; done) | (go_simp; rfl)) ?_; clear HO; intro gb372 w25 HO; simp only [List.cons_append, List.nil_append] at HO) | ((with_reducible refine gate_callee (f := 45) rfl ?_); refine goesL_ (some 11) rfl rfl Try.func45 (by kernel_rfl) rfl #[.agg #[.int .i64 1, .string a0_2]] rfl (by (try simp only [List.map_toArray, List.map_cons, List.map_nil]); first | done | rfl | (simp only [hq.1]; done) | (simp only [hq.1]; rfl)) ?_; refine Calls.mono (calls_of_args (by first | ((try simp only [hq.1]) <;> rfl) | fail) (bursarref11_Name.calls 1 a0_2 t373 true _ A2.out)) ?_; rintro e w27 ⟨he_, hb⟩; subst he_; refine ⟨_, rfl, ?_⟩; replace HO := Aside0.mk (Ow.Own.call HO.out hb); clear hb) | ((with_reducible refine gate_callee (f := 45) rfl ?_); refine goesL_ (some 18) rfl rfl Try.func45 (by kernel_rfl) rfl #[.agg #[.int .i64 2, .string a0_1]] rfl (by (try simp only [List.map_toArray, List.map_cons, List.map_nil]); first | done | rfl | (simp only [hq.1]; done) | (simp only [hq.1]; rfl)) ?_; refine Calls.mono (calls_of_args (by first | ((try simp only [hq.1]) <;> rfl) | fail) (bursarref11_Name.calls 2 a0_1 t375 true _ A3.out)) ?_; rintro e w29 ⟨he_, hb⟩; subst he_; refine ⟨_, rfl, ?_⟩; replace HO := Aside0.mk (Ow.Own.call HO.out hb); clear hb) | ((with_reducible refine gate_callee (f := 46) rfl ?_); refine goesL_ (some 23) rfl rfl Try.func46 (by kernel_rfl) rfl #[.string a0_0] rfl (by (try simp only [List.map_toArray, List.map_cons, List.map_nil]); first | done | rfl | (simp only [hq.1]; done) | (simp only [hq.1]; rfl)) ?_; refine Calls.mono (calls_of_args (by first | ((try simp only [hq.1]) <;> rfl) | fail) (bursarref14_Ref.calls a0_0 true _ A4.out)) ?_; rintro e w' ⟨he_, ⟨nd, rfl⟩⟩; subst he_; refine ⟨_, rfl, ?_⟩; replace HO := Aside0.mk (Ow.Own.drewN HO.out nd)) | ((with_reducible refine Ow.gate_build rfl ?_); (try (refine gate_guard (by rfl) ?_; dsimp only)); refine' Ow.tbuild Ot.bd rfl rfl rfl ?hf_ ?_; (case hf_ => repeat (any_goals (first | exact Ow.Fills.nil | (refine' Ow.Fills.c ?hv_ rfl ?hz_ ?_; (case hv_ => first | exact Ow.ev_tmp rfl | rfl); (case hz_ => first | (refine ⟨?_, ?_⟩ <;> (first | ((try simp only [hq.1]) <;> rfl) | fail)) | fail)))))) | ((with_reducible refine Ow.gate_load rfl ?_); (try (refine gate_guard (by rfl) ?_; dsimp only)); (first | refine Ow.l1 Ot.ty HO.out rfl rfl rfl rfl (by first | ((try simp only [hq.1]) <;> rfl) | fail) ?_)))
                all_goals go_ret
                all_goals exact ⟨by first | rfl | (simp only [hq.1]; done) | (simp only [hq.1]; rfl) | (simp [errW_none, errW_some] <;> rfl) | (simp [*, errW_none, errW_some] <;> rfl), Ow.Own.below HO.out⟩
            · rw [if_neg c10] at H
              have c10b0 : decide (0 ≤ a0_5) = false := decide_eq_false c10
              clear c10
              obtain rfl := Option.some.inj H
              obtain ⟨Q3, hQ3_⟩ : ∃ q_ : Array Value, q_ = (#[.string a0_0, .string a0_1, .string a0_2, .int .i64 a0_3, .int .i64 a0_4, .int .i64 a0_5, .bool a0_6] : Array Value) := ⟨_, rfl⟩
              try rw [← hQ3_]
              have hQ3 := Aside0.mk hQ3_; have hq := Aside0.mk hQ3_; clear hQ3_
              go_enter Try.func31, Try.ntmps31
              go_wp2_with (first | ((with_reducible refine gate_dst (N := 1) rfl ?_); refine Ow.box rfl (N := 1) rfl (cs := Q3) (t := 25) HO.out (by first | (go_simp; done) | (go_simp; rfl)) ?_; clear HO; intro gb372 w31 HO; simp only [List.cons_append, List.nil_append] at HO) | ((with_reducible refine gate_callee (f := 45) rfl ?_); refine goesL_ (some 11) rfl rfl Try.func45 (by kernel_rfl) rfl #[.agg #[.int .i64 1, .string a0_2]] rfl (by (try simp only [List.map_toArray, List.map_cons, List.map_nil]); first | done | rfl | (simp only [hq.1]; done) | (simp only [hq.1]; rfl)) ?_; refine Calls.mono (calls_of_args (by first | ((try simp only [hq.1]) <;> rfl) | fail) (bursarref11_Name.calls 1 a0_2 t373 true _ A2.out)) ?_; rintro e w33 ⟨he_, hb⟩; subst he_; refine ⟨_, rfl, ?_⟩; replace HO := Aside0.mk (Ow.Own.call HO.out hb); clear hb) | ((with_reducible refine gate_callee (f := 45) rfl ?_); refine goesL_ (some 18) rfl rfl Try.func45 (by kernel_rfl) rfl #[.agg #[.int .i64 2, .string a0_1]] rfl (by (try simp only [List.map_toArray, List.map_cons, List.map_nil]); first | done | rfl | (simp only [hq.1]; done) | (simp only [hq.1]; rfl)) ?_; refine Calls.mono (calls_of_args (by first | ((try simp only [hq.1]) <;> rfl) | fail) (bursarref11_Name.calls 2 a0_1 t375 true _ A3.out)) ?_; rintro e w35 ⟨he_, hb⟩; subst he_; refine ⟨_, rfl, ?_⟩; replace HO := Aside0.mk (Ow.Own.call HO.out hb); clear hb) | ((with_reducible refine gate_callee (f := 46) rfl ?_); refine goesL_ (some 23) rfl rfl Try.func46 (by kernel_rfl) rfl #[.string a0_0] rfl (by (try simp only [List.map_toArray, List.map_cons, List.map_nil]); first | done | rfl | (simp only [hq.1]; done) | (simp only [hq.1]; rfl)) ?_; refine Calls.mono (calls_of_args (by first | ((try simp only [hq.1]) <;> rfl) | fail) (bursarref14_Ref.calls a0_0 true _ A4.out)) ?_; rintro e w' ⟨he_, ⟨nd, rfl⟩⟩; subst he_; refine ⟨_, rfl, ?_⟩; replace HO := Aside0.mk (Ow.Own.drewN HO.out nd)) | ((with_reducible refine Ow.gate_build rfl ?_); (try (refine gate_guard (by rfl) ?_; dsimp only)); refine' Ow.tbuild Ot.bd rfl rfl rfl ?hf_ ?_; (case hf_ => repeat (any_goals (first | exact Ow.Fills.nil | (refine' Ow.Fills.c ?hv_ rfl ?hz_ ?_; (case hv_ => first | exact Ow.ev_tmp rfl | rfl); (case hz_ => first | (refine ⟨?_, ?_⟩ <;> (first | ((try simp only [hq.1]) <;> rfl) | fail)) | fail)))))) | ((with_reducible refine Ow.gate_load rfl ?_); (try (refine gate_guard (by rfl) ?_; dsimp only)); (first | refine Ow.l1 Ot.ty HO.out rfl rfl rfl rfl (by first | ((try simp only [hq.1]) <;> rfl) | fail) ?_)))
              all_goals go_ret
              all_goals exact ⟨by first | rfl | (simp only [hq.1]; done) | (simp only [hq.1]; rfl) | (simp [errW_none, errW_some] <;> rfl) | (simp [*, errW_none, errW_some] <;> rfl), Ow.Own.below HO.out⟩
          · rw [if_neg c9] at H
            have c9b0 : decide (a0_4 ≤ a0_3) = false := decide_eq_false c9
            clear c9
            obtain rfl := Option.some.inj H
            obtain ⟨Q4, hQ4_⟩ : ∃ q_ : Array Value, q_ = (#[.string a0_0, .string a0_1, .string a0_2, .int .i64 a0_3, .int .i64 a0_4, .int .i64 a0_5, .bool a0_6] : Array Value) := ⟨_, rfl⟩
            try rw [← hQ4_]
            have hQ4 := Aside0.mk hQ4_; have hq := Aside0.mk hQ4_; clear hQ4_
            go_enter Try.func31, Try.ntmps31
            go_wp2_with (first | ((with_reducible refine gate_dst (N := 1) rfl ?_); refine Ow.box rfl (N := 1) rfl (cs := Q4) (t := 25) HO.out (by first | (go_simp; done) | (go_simp; rfl)) ?_; clear HO; intro gb372 w37 HO; simp only [List.cons_append, List.nil_append] at HO) | ((with_reducible refine gate_callee (f := 45) rfl ?_); refine goesL_ (some 11) rfl rfl Try.func45 (by kernel_rfl) rfl #[.agg #[.int .i64 1, .string a0_2]] rfl (by (try simp only [List.map_toArray, List.map_cons, List.map_nil]); first | done | rfl | (simp only [hq.1]; done) | (simp only [hq.1]; rfl)) ?_; refine Calls.mono (calls_of_args (by first | ((try simp only [hq.1]) <;> rfl) | fail) (bursarref11_Name.calls 1 a0_2 t373 true _ A2.out)) ?_; rintro e w39 ⟨he_, hb⟩; subst he_; refine ⟨_, rfl, ?_⟩; replace HO := Aside0.mk (Ow.Own.call HO.out hb); clear hb) | ((with_reducible refine gate_callee (f := 45) rfl ?_); refine goesL_ (some 18) rfl rfl Try.func45 (by kernel_rfl) rfl #[.agg #[.int .i64 2, .string a0_1]] rfl (by (try simp only [List.map_toArray, List.map_cons, List.map_nil]); first | done | rfl | (simp only [hq.1]; done) | (simp only [hq.1]; rfl)) ?_; refine Calls.mono (calls_of_args (by first | ((try simp only [hq.1]) <;> rfl) | fail) (bursarref11_Name.calls 2 a0_1 t375 true _ A3.out)) ?_; rintro e w41 ⟨he_, hb⟩; subst he_; refine ⟨_, rfl, ?_⟩; replace HO := Aside0.mk (Ow.Own.call HO.out hb); clear hb) | ((with_reducible refine gate_callee (f := 46) rfl ?_); refine goesL_ (some 23) rfl rfl Try.func46 (by kernel_rfl) rfl #[.string a0_0] rfl (by (try simp only [List.map_toArray, List.map_cons, List.map_nil]); first | done | rfl | (simp only [hq.1]; done) | (simp only [hq.1]; rfl)) ?_; refine Calls.mono (calls_of_args (by first | ((try simp only [hq.1]) <;> rfl) | fail) (bursarref14_Ref.calls a0_0 true _ A4.out)) ?_; rintro e w' ⟨he_, ⟨nd, rfl⟩⟩; subst he_; refine ⟨_, rfl, ?_⟩; replace HO := Aside0.mk (Ow.Own.drewN HO.out nd)) | ((with_reducible refine Ow.gate_build rfl ?_); (try (refine gate_guard (by rfl) ?_; dsimp only)); refine' Ow.tbuild Ot.bd rfl rfl rfl ?hf_ ?_; (case hf_ => repeat (any_goals (first | exact Ow.Fills.nil | (refine' Ow.Fills.c ?hv_ rfl ?hz_ ?_; (case hv_ => first | exact Ow.ev_tmp rfl | rfl); (case hz_ => first | (refine ⟨?_, ?_⟩ <;> (first | ((try simp only [hq.1]) <;> rfl) | fail)) | fail)))))) | ((with_reducible refine Ow.gate_load rfl ?_); (try (refine gate_guard (by rfl) ?_; dsimp only)); (first | refine Ow.l1 Ot.ty HO.out rfl rfl rfl rfl (by first | ((try simp only [hq.1]) <;> rfl) | fail) ?_)))
            all_goals go_ret
            all_goals exact ⟨by first | rfl | (simp only [hq.1]; done) | (simp only [hq.1]; rfl) | (simp [errW_none, errW_some] <;> rfl) | (simp [*, errW_none, errW_some] <;> rfl), Ow.Own.below HO.out⟩
        · rw [if_neg c8] at H
          have c8b0 : decide (0 ≤ a0_4) = false := decide_eq_false c8
          clear c8
          obtain rfl := Option.some.inj H
          obtain ⟨Q5, hQ5_⟩ : ∃ q_ : Array Value, q_ = (#[.string a0_0, .string a0_1, .string a0_2, .int .i64 a0_3, .int .i64 a0_4, .int .i64 a0_5, .bool a0_6] : Array Value) := ⟨_, rfl⟩
          try rw [← hQ5_]
          have hQ5 := Aside0.mk hQ5_; have hq := Aside0.mk hQ5_; clear hQ5_
          go_enter Try.func31, Try.ntmps31
          go_wp2_with (first | ((with_reducible refine gate_dst (N := 1) rfl ?_); refine Ow.box rfl (N := 1) rfl (cs := Q5) (t := 25) HO.out (by first | (go_simp; done) | (go_simp; rfl)) ?_; clear HO; intro gb372 w43 HO; simp only [List.cons_append, List.nil_append] at HO) | ((with_reducible refine gate_callee (f := 45) rfl ?_); refine goesL_ (some 11) rfl rfl Try.func45 (by kernel_rfl) rfl #[.agg #[.int .i64 1, .string a0_2]] rfl (by (try simp only [List.map_toArray, List.map_cons, List.map_nil]); first | done | rfl | (simp only [hq.1]; done) | (simp only [hq.1]; rfl)) ?_; refine Calls.mono (calls_of_args (by first | ((try simp only [hq.1]) <;> rfl) | fail) (bursarref11_Name.calls 1 a0_2 t373 true _ A2.out)) ?_; rintro e w45 ⟨he_, hb⟩; subst he_; refine ⟨_, rfl, ?_⟩; replace HO := Aside0.mk (Ow.Own.call HO.out hb); clear hb) | ((with_reducible refine gate_callee (f := 45) rfl ?_); refine goesL_ (some 18) rfl rfl Try.func45 (by kernel_rfl) rfl #[.agg #[.int .i64 2, .string a0_1]] rfl (by (try simp only [List.map_toArray, List.map_cons, List.map_nil]); first | done | rfl | (simp only [hq.1]; done) | (simp only [hq.1]; rfl)) ?_; refine Calls.mono (calls_of_args (by first | ((try simp only [hq.1]) <;> rfl) | fail) (bursarref11_Name.calls 2 a0_1 t375 true _ A3.out)) ?_; rintro e w47 ⟨he_, hb⟩; subst he_; refine ⟨_, rfl, ?_⟩; replace HO := Aside0.mk (Ow.Own.call HO.out hb); clear hb) | ((with_reducible refine gate_callee (f := 46) rfl ?_); refine goesL_ (some 23) rfl rfl Try.func46 (by kernel_rfl) rfl #[.string a0_0] rfl (by (try simp only [List.map_toArray, List.map_cons, List.map_nil]); first | done | rfl | (simp only [hq.1]; done) | (simp only [hq.1]; rfl)) ?_; refine Calls.mono (calls_of_args (by first | ((try simp only [hq.1]) <;> rfl) | fail) (bursarref14_Ref.calls a0_0 true _ A4.out)) ?_; rintro e w' ⟨he_, ⟨nd, rfl⟩⟩; subst he_; refine ⟨_, rfl, ?_⟩; replace HO := Aside0.mk (Ow.Own.drewN HO.out nd)) | ((with_reducible refine Ow.gate_build rfl ?_); (try (refine gate_guard (by rfl) ?_; dsimp only)); refine' Ow.tbuild Ot.bd rfl rfl rfl ?hf_ ?_; (case hf_ => repeat (any_goals (first | exact Ow.Fills.nil | (refine' Ow.Fills.c ?hv_ rfl ?hz_ ?_; (case hv_ => first | exact Ow.ev_tmp rfl | rfl); (case hz_ => first | (refine ⟨?_, ?_⟩ <;> (first | ((try simp only [hq.1]) <;> rfl) | fail)) | fail)))))) | ((with_reducible refine Ow.gate_load rfl ?_); (try (refine gate_guard (by rfl) ?_; dsimp only)); (first | refine Ow.l1 Ot.ty HO.out rfl rfl rfl rfl (by first | ((try simp only [hq.1]) <;> rfl) | fail) ?_)))
          all_goals go_ret
          all_goals exact ⟨by first | rfl | (simp only [hq.1]; done) | (simp only [hq.1]; rfl) | (simp [errW_none, errW_some] <;> rfl) | (simp [*, errW_none, errW_some] <;> rfl), Ow.Own.below HO.out⟩
      · replace c7 := Bool.eq_false_iff.mpr c7
        subst c7
        have H1 : (some false) = some r := by rw [if_neg (show ¬ (false = true) by decide)] at H; exact H
        clear H
        have H := H1
        clear H1
        obtain rfl := Option.some.inj H
        obtain ⟨Q6, hQ6_⟩ : ∃ q_ : Array Value, q_ = (#[.string a0_0, .string a0_1, .string a0_2, .int .i64 a0_3, .int .i64 a0_4, .int .i64 a0_5, .bool a0_6] : Array Value) := ⟨_, rfl⟩
        try rw [← hQ6_]
        have hQ6 := Aside0.mk hQ6_; have hq := Aside0.mk hQ6_; clear hQ6_
        go_enter Try.func31, Try.ntmps31
        go_wp2_with (first | ((with_reducible refine gate_dst (N := 1) rfl ?_); refine Ow.box rfl (N := 1) rfl (cs := Q6) (t := 25) HO.out (by first | (go_simp; done) | (go_simp; rfl)) ?_; clear HO; intro gb372 w49 HO; simp only [List.cons_append, List.nil_append] at HO) | ((with_reducible refine gate_callee (f := 45) rfl ?_); refine goesL_ (some 11) rfl rfl Try.func45 (by kernel_rfl) rfl #[.agg #[.int .i64 1, .string a0_2]] rfl (by (try simp only [List.map_toArray, List.map_cons, List.map_nil]); first | done | rfl | (simp only [hq.1]; done) | (simp only [hq.1]; rfl)) ?_; refine Calls.mono (calls_of_args (by first | ((try simp only [hq.1]) <;> rfl) | fail) (bursarref11_Name.calls 1 a0_2 t373 true _ A2.out)) ?_; rintro e w51 ⟨he_, hb⟩; subst he_; refine ⟨_, rfl, ?_⟩; replace HO := Aside0.mk (Ow.Own.call HO.out hb); clear hb) | ((with_reducible refine gate_callee (f := 45) rfl ?_); refine goesL_ (some 18) rfl rfl Try.func45 (by kernel_rfl) rfl #[.agg #[.int .i64 2, .string a0_1]] rfl (by (try simp only [List.map_toArray, List.map_cons, List.map_nil]); first | done | rfl | (simp only [hq.1]; done) | (simp only [hq.1]; rfl)) ?_; refine Calls.mono (calls_of_args (by first | ((try simp only [hq.1]) <;> rfl) | fail) (bursarref11_Name.calls 2 a0_1 t375 false _ A3.out)) ?_; rintro e w53 ⟨he_, hb⟩; subst he_; refine ⟨_, rfl, ?_⟩; replace HO := Aside0.mk (Ow.Own.call HO.out hb); clear hb) | ((with_reducible refine gate_callee (f := 46) rfl ?_); refine goesL_ (some 23) rfl rfl Try.func46 (by kernel_rfl) rfl #[.string a0_0] rfl (by (try simp only [List.map_toArray, List.map_cons, List.map_nil]); first | done | rfl | (simp only [hq.1]; done) | (simp only [hq.1]; rfl)) ?_; refine Calls.mono (calls_of_args (by first | ((try simp only [hq.1]) <;> rfl) | fail) (bursarref14_Ref.calls a0_0 true _ A4.out)) ?_; rintro e w' ⟨he_, ⟨nd, rfl⟩⟩; subst he_; refine ⟨_, rfl, ?_⟩; replace HO := Aside0.mk (Ow.Own.drewN HO.out nd)) | ((with_reducible refine Ow.gate_build rfl ?_); (try (refine gate_guard (by rfl) ?_; dsimp only)); refine' Ow.tbuild Ot.bd rfl rfl rfl ?hf_ ?_; (case hf_ => repeat (any_goals (first | exact Ow.Fills.nil | (refine' Ow.Fills.c ?hv_ rfl ?hz_ ?_; (case hv_ => first | exact Ow.ev_tmp rfl | rfl); (case hz_ => first | (refine ⟨?_, ?_⟩ <;> (first | ((try simp only [hq.1]) <;> rfl) | fail)) | fail)))))) | ((with_reducible refine Ow.gate_load rfl ?_); (try (refine gate_guard (by rfl) ?_; dsimp only)); (first | refine Ow.l1 Ot.ty HO.out rfl rfl rfl rfl (by first | ((try simp only [hq.1]) <;> rfl) | fail) ?_)))
        all_goals go_ret
        all_goals exact ⟨by first | rfl | (simp only [hq.1]; done) | (simp only [hq.1]; rfl) | (simp [errW_none, errW_some] <;> rfl) | (simp [*, errW_none, errW_some] <;> rfl), Ow.Own.below HO.out⟩
    · replace c6 := Bool.eq_false_iff.mpr c6
      subst c6
      have H1 : (some false) = some r := by rw [if_neg (show ¬ (false = true) by decide)] at H; exact H
      clear H
      have H := H1
      clear H1
      obtain rfl := Option.some.inj H
      obtain ⟨Q7, hQ7_⟩ : ∃ q_ : Array Value, q_ = (#[.string a0_0, .string a0_1, .string a0_2, .int .i64 a0_3, .int .i64 a0_4, .int .i64 a0_5, .bool a0_6] : Array Value) := ⟨_, rfl⟩
      try rw [← hQ7_]
      have hQ7 := Aside0.mk hQ7_; have hq := Aside0.mk hQ7_; clear hQ7_
      go_enter Try.func31, Try.ntmps31
      go_wp2_with (first | ((with_reducible refine gate_dst (N := 1) rfl ?_); refine Ow.box rfl (N := 1) rfl (cs := Q7) (t := 25) HO.out (by first | (go_simp; done) | (go_simp; rfl)) ?_; clear HO; intro gb372 w55 HO; simp only [List.cons_append, List.nil_append] at HO) | ((with_reducible refine gate_callee (f := 45) rfl ?_); refine goesL_ (some 11) rfl rfl Try.func45 (by kernel_rfl) rfl #[.agg #[.int .i64 1, .string a0_2]] rfl (by (try simp only [List.map_toArray, List.map_cons, List.map_nil]); first | done | rfl | (simp only [hq.1]; done) | (simp only [hq.1]; rfl)) ?_; refine Calls.mono (calls_of_args (by first | ((try simp only [hq.1]) <;> rfl) | fail) (bursarref11_Name.calls 1 a0_2 t373 false _ A2.out)) ?_; rintro e w57 ⟨he_, hb⟩; subst he_; refine ⟨_, rfl, ?_⟩; replace HO := Aside0.mk (Ow.Own.call HO.out hb); clear hb) | ((with_reducible refine gate_callee (f := 45) rfl ?_); refine goesL_ (some 18) rfl rfl Try.func45 (by kernel_rfl) rfl #[.agg #[.int .i64 2, .string a0_1]] rfl (by (try simp only [List.map_toArray, List.map_cons, List.map_nil]); first | done | rfl | (simp only [hq.1]; done) | (simp only [hq.1]; rfl)) ?_; refine Calls.mono (calls_of_args (by first | ((try simp only [hq.1]) <;> rfl) | fail) (bursarref11_Name.calls 2 a0_1 t375 t376 _ A3.out)) ?_; rintro e w59 ⟨he_, hb⟩; subst he_; refine ⟨_, rfl, ?_⟩; replace HO := Aside0.mk (Ow.Own.call HO.out hb); clear hb) | ((with_reducible refine gate_callee (f := 46) rfl ?_); refine goesL_ (some 23) rfl rfl Try.func46 (by kernel_rfl) rfl #[.string a0_0] rfl (by (try simp only [List.map_toArray, List.map_cons, List.map_nil]); first | done | rfl | (simp only [hq.1]; done) | (simp only [hq.1]; rfl)) ?_; refine Calls.mono (calls_of_args (by first | ((try simp only [hq.1]) <;> rfl) | fail) (bursarref14_Ref.calls a0_0 true _ A4.out)) ?_; rintro e w' ⟨he_, ⟨nd, rfl⟩⟩; subst he_; refine ⟨_, rfl, ?_⟩; replace HO := Aside0.mk (Ow.Own.drewN HO.out nd)) | ((with_reducible refine Ow.gate_build rfl ?_); (try (refine gate_guard (by rfl) ?_; dsimp only)); refine' Ow.tbuild Ot.bd rfl rfl rfl ?hf_ ?_; (case hf_ => repeat (any_goals (first | exact Ow.Fills.nil | (refine' Ow.Fills.c ?hv_ rfl ?hz_ ?_; (case hv_ => first | exact Ow.ev_tmp rfl | rfl); (case hz_ => first | (refine ⟨?_, ?_⟩ <;> (first | ((try simp only [hq.1]) <;> rfl) | fail)) | fail)))))) | ((with_reducible refine Ow.gate_load rfl ?_); (try (refine gate_guard (by rfl) ?_; dsimp only)); (first | refine Ow.l1 Ot.ty HO.out rfl rfl rfl rfl (by first | ((try simp only [hq.1]) <;> rfl) | fail) ?_)))
      all_goals go_ret
      all_goals exact ⟨by first | rfl | (simp only [hq.1]; done) | (simp only [hq.1]; rfl) | (simp [errW_none, errW_some] <;> rfl) | (simp [*, errW_none, errW_some] <;> rfl), Ow.Own.below HO.out⟩
  · replace c5 := Bool.eq_false_iff.mpr c5
    subst c5
    have H1 : (some false) = some r := by rw [if_neg (show ¬ (false = true) by decide)] at H; exact H
    clear H
    have H := H1
    clear H1
    obtain rfl := Option.some.inj H
    obtain ⟨Q8, hQ8_⟩ : ∃ q_ : Array Value, q_ = (#[.string a0_0, .string a0_1, .string a0_2, .int .i64 a0_3, .int .i64 a0_4, .int .i64 a0_5, .bool a0_6] : Array Value) := ⟨_, rfl⟩
    try rw [← hQ8_]
    have hQ8 := Aside0.mk hQ8_; have hq := Aside0.mk hQ8_; clear hQ8_
    go_enter Try.func31, Try.ntmps31
    go_wp2_with (first | ((with_reducible refine gate_dst (N := 1) rfl ?_); refine Ow.box rfl (N := 1) rfl (cs := Q8) (t := 25) HO.out (by first | (go_simp; done) | (go_simp; rfl)) ?_; clear HO; intro gb372 w61 HO; simp only [List.cons_append, List.nil_append] at HO) | ((with_reducible refine gate_callee (f := 45) rfl ?_); refine goesL_ (some 11) rfl rfl Try.func45 (by kernel_rfl) rfl #[.agg #[.int .i64 1, .string a0_2]] rfl (by (try simp only [List.map_toArray, List.map_cons, List.map_nil]); first | done | rfl | (simp only [hq.1]; done) | (simp only [hq.1]; rfl)) ?_; refine Calls.mono (calls_of_args (by first | ((try simp only [hq.1]) <;> rfl) | fail) (bursarref11_Name.calls 1 a0_2 t373 t374 _ A2.out)) ?_; rintro e w63 ⟨he_, hb⟩; subst he_; refine ⟨_, rfl, ?_⟩; replace HO := Aside0.mk (Ow.Own.call HO.out hb); clear hb) | ((with_reducible refine gate_callee (f := 45) rfl ?_); refine goesL_ (some 18) rfl rfl Try.func45 (by kernel_rfl) rfl #[.agg #[.int .i64 2, .string a0_1]] rfl (by (try simp only [List.map_toArray, List.map_cons, List.map_nil]); first | done | rfl | (simp only [hq.1]; done) | (simp only [hq.1]; rfl)) ?_; refine Calls.mono (calls_of_args (by first | ((try simp only [hq.1]) <;> rfl) | fail) (bursarref11_Name.calls 2 a0_1 t375 t376 _ A3.out)) ?_; rintro e w65 ⟨he_, hb⟩; subst he_; refine ⟨_, rfl, ?_⟩; replace HO := Aside0.mk (Ow.Own.call HO.out hb); clear hb) | ((with_reducible refine gate_callee (f := 46) rfl ?_); refine goesL_ (some 23) rfl rfl Try.func46 (by kernel_rfl) rfl #[.string a0_0] rfl (by (try simp only [List.map_toArray, List.map_cons, List.map_nil]); first | done | rfl | (simp only [hq.1]; done) | (simp only [hq.1]; rfl)) ?_; refine Calls.mono (calls_of_args (by first | ((try simp only [hq.1]) <;> rfl) | fail) (bursarref14_Ref.calls a0_0 false _ A4.out)) ?_; rintro e w' ⟨he_, ⟨nd, rfl⟩⟩; subst he_; refine ⟨_, rfl, ?_⟩; replace HO := Aside0.mk (Ow.Own.drewN HO.out nd)) | ((with_reducible refine Ow.gate_build rfl ?_); (try (refine gate_guard (by rfl) ?_; dsimp only)); refine' Ow.tbuild Ot.bd rfl rfl rfl ?hf_ ?_; (case hf_ => repeat (any_goals (first | exact Ow.Fills.nil | (refine' Ow.Fills.c ?hv_ rfl ?hz_ ?_; (case hv_ => first | exact Ow.ev_tmp rfl | rfl); (case hz_ => first | (refine ⟨?_, ?_⟩ <;> (first | ((try simp only [hq.1]) <;> rfl) | fail)) | fail)))))) | ((with_reducible refine Ow.gate_load rfl ?_); (try (refine gate_guard (by rfl) ?_; dsimp only)); (first | refine Ow.l1 Ot.ty HO.out rfl rfl rfl rfl (by first | ((try simp only [hq.1]) <;> rfl) | fail) ?_)))
    all_goals go_ret
    all_goals exact ⟨by first | rfl | (simp only [hq.1]; done) | (simp only [hq.1]; rfl) | (simp [errW_none, errW_some] <;> rfl) | (simp [*, errW_none, errW_some] <;> rfl), Ow.Own.below HO.out⟩

/-! #### bursarref14_May, refined -/
theorem ref14_May_e (rrn acq pan : ByteArray) (ap ca un : Int) (op : Bool) : bursarref14_May_p.f rrn acq pan ap ca un op = some (Pu.hmay rrn acq pan ap ca un op) := by
  unfold bursarref14_May_p.f bursarref14_Ref.f bursarref11_Name.f Pu.hmay
  simp only [Option.bind_some]
  cases Pu.refB rrn <;> cases Pu.mayB 1 pan <;> cases Pu.mayB 2 acq <;> try (simp; done)
  by_cases h1 : 0 ≤ un <;> by_cases h2 : un ≤ 2147483647 <;> by_cases h3 : 0 ≤ ca <;> by_cases h4 : ca ≤ ap <;> cases op <;> simp [h1, h2, h3, h4]
def bursarref14_May.f (a0_0 a0_1 a0_2 : ByteArray) (a0_3 a0_4 a0_5 : Int) (a0_6 : Bool) : Option Bool := some (Pu.hmay a0_0 a0_1 a0_2 a0_3 a0_4 a0_5 a0_6)
theorem bursarref14_May.calls (a0_0 a0_1 a0_2 : ByteArray) (a0_3 a0_4 a0_5 : Int) (a0_6 : Bool) (r : Bool) (w : World) (h : bursarref14_May.f a0_0 a0_1 a0_2 a0_3 a0_4 a0_5 a0_6 = some r) :
    Calls Try.prog 31 #[.agg #[.string a0_0, .string a0_1, .string a0_2, .int .i64 a0_3, .int .i64 a0_4, .int .i64 a0_5, .bool a0_6]] w fun e w' => e = .returned (.bool r) ∧ Below w.heap.size w w' :=
  bursarref14_May_p.calls a0_0 a0_1 a0_2 a0_3 a0_4 a0_5 a0_6 r w ((ref14_May_e a0_0 a0_1 a0_2 a0_3 a0_4 a0_5 a0_6).trans h)


end Go.Proofs.Ytddlmcaclbkopaa.XCT
