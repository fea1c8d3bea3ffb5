-- Written by wip/xprint.py, a session's program: printed out of the translation, with hand-written functions. Lean checks it.
import Derived.Test.YtddlmcaclbkopaaXCP0
import Derived.Test.YtddlmcaclbkopaaXCP7
namespace Go.Proofs.Ytddlmcaclbkopaa.XCP
open Go.RowKit Go.Proofs.YtddlmcaclbkopaaW.PrintWords Go.Proofs.YtddlmcaclbkopaaW.PrintLast Go.Proofs.YtddlmcaclbkopaaW.PrintMore
attribute [local go_sem] max2_int min2_int max_two min_two max_three min_three max_four min_four   -- for this text's walks alone
set_option linter.unusedVariables false
set_option linter.unusedSimpArgs false

/-! ### bursarlaw23_some: function 58 -/
def bursarlaw23_some.f (a0 : Int) (a1 : ByteArray) : Option (ByteArray × ByteArray × ByteArray × Int × ByteArray × ByteArray × ByteArray × ByteArray × ByteArray × Int × Int × ByteArray × Bool × Int × ByteArray × ByteArray × ByteArray × Int × Int × Int × Bool × Bool × Int × Int × Bool) := some ((⟨#[48, 50, 48, 48]⟩ : ByteArray), (⟨#[52, 49, 49, 49, 49, 49, 49, 49, 49, 49, 49, 49, 49, 49, 49, 49]⟩ : ByteArray), a1, a0, (⟨#[]⟩ : ByteArray), (⟨#[]⟩ : ByteArray), (⟨#[49, 50, 51, 52, 53, 54]⟩ : ByteArray), (⟨#[65, 66, 67, 48, 48, 48, 48, 48, 48, 48, 48, 49]⟩ : ByteArray), (⟨#[]⟩ : ByteArray), 0, 0, (⟨#[]⟩ : ByteArray), true, 0, (⟨#[65, 66, 67, 48, 48, 48, 48, 48, 48, 48, 48, 49]⟩ : ByteArray), (⟨#[49, 50, 51, 52, 53, 54]⟩ : ByteArray), (⟨#[52, 49, 49, 49, 49, 49, 49, 49, 49, 49, 49, 49, 49, 49, 49, 49]⟩ : ByteArray), 100, 0, 9, true, true, 0, 0, false)
def bursarlaw23_some.Z25 : Array Value := #[.string (⟨#[]⟩ : ByteArray), .string (⟨#[]⟩ : ByteArray), .string (⟨#[]⟩ : ByteArray), .int .i64 0, .string (⟨#[]⟩ : ByteArray), .string (⟨#[]⟩ : ByteArray), .string (⟨#[]⟩ : ByteArray), .string (⟨#[]⟩ : ByteArray), .string (⟨#[]⟩ : ByteArray), .int .i64 0, .int .i64 0, .string (⟨#[]⟩ : ByteArray), .bool false, .int .i64 0, .string (⟨#[]⟩ : ByteArray), .string (⟨#[]⟩ : ByteArray), .string (⟨#[]⟩ : ByteArray), .int .i64 0, .int .i64 0, .int .i64 0, .bool false, .bool false, .int .i64 0, .int .i64 0, .bool false]
def bursarlaw23_some.Z7 : Array Value := #[.string (⟨#[]⟩ : ByteArray), .string (⟨#[]⟩ : ByteArray), .string (⟨#[]⟩ : ByteArray), .int .i64 0, .int .i64 0, .int .i64 0, .bool false]
set_option maxHeartbeats 8000000 in
set_option maxRecDepth 100000 in
theorem bursarlaw23_some.calls (a0 : Int) (a1 : ByteArray) (r1 : ByteArray) (r2 : ByteArray) (r3 : ByteArray) (r4 : Int) (r5 : ByteArray) (r6 : ByteArray) (r7 : ByteArray) (r8 : ByteArray) (r9 : ByteArray) (r10 : Int) (r11 : Int) (r12 : ByteArray) (r13 : Bool) (r14 : Int) (r15 : ByteArray) (r16 : ByteArray) (r17 : ByteArray) (r18 : Int) (r19 : Int) (r20 : Int) (r21 : Bool) (r22 : Bool) (r23 : Int) (r24 : Int) (r25 : Bool) (w : World) (h : bursarlaw23_some.f a0 a1 = some (r1, r2, r3, r4, r5, r6, r7, r8, r9, r10, r11, r12, r13, r14, r15, r16, r17, r18, r19, r20, r21, r22, r23, r24, r25)) :
    Calls Try.prog 58 #[.int .i64 a0, .string a1] w fun e w' => e = .returned (.agg #[.string r1, .string r2, .string r3, .int .i64 r4, .string r5, .string r6, .string r7, .string r8, .string r9, .int .i64 r10, .int .i64 r11, .string r12, .bool r13, .int .i64 r14, .string r15, .string r16, .string r17, .int .i64 r18, .int .i64 r19, .int .i64 r20, .bool r21, .bool r22, .int .i64 r23, .int .i64 r24, .bool r25]) ∧ Below w.heap.size w w' := by
  have hu27 := Try.underlying27
  have hu25 := Try.underlying25
  have hu23 := Try.underlying23
  have HO := Aside0.mk (Ow.Own.nil w)
  have hmf : ∀ (fn : Fn) (first cap : Array Value) (w : World), (Instr.makeFunc fn first cap).run Try.prog w = .ok (.func fn first cap) w := fun _ _ _ _ => rfl
  have H : (some ((⟨#[48, 50, 48, 48]⟩ : ByteArray), (⟨#[52, 49, 49, 49, 49, 49, 49, 49, 49, 49, 49, 49, 49, 49, 49, 49]⟩ : ByteArray), a1, a0, (⟨#[]⟩ : ByteArray), (⟨#[]⟩ : ByteArray), (⟨#[49, 50, 51, 52, 53, 54]⟩ : ByteArray), (⟨#[65, 66, 67, 48, 48, 48, 48, 48, 48, 48, 48, 49]⟩ : ByteArray), (⟨#[]⟩ : ByteArray), 0, 0, (⟨#[]⟩ : ByteArray), true, 0, (⟨#[65, 66, 67, 48, 48, 48, 48, 48, 48, 48, 48, 49]⟩ : ByteArray), (⟨#[49, 50, 51, 52, 53, 54]⟩ : ByteArray), (⟨#[52, 49, 49, 49, 49, 49, 49, 49, 49, 49, 49, 49, 49, 49, 49, 49]⟩ : ByteArray), 100, 0, 9, true, true, 0, 0, false)) = some (r1, r2, r3, r4, r5, r6, r7, r8, r9, r10, r11, r12, r13, r14, r15, r16, r17, r18, r19, r20, r21, r22, r23, r24, r25) := h
  clear h
  simp only [Option.some.injEq, Prod.mk.injEq] at H
  obtain ⟨rfl, rfl, rfl, rfl, rfl, rfl, rfl, rfl, rfl, rfl, rfl, rfl, rfl, rfl, rfl, rfl, rfl, rfl, rfl, rfl, rfl, rfl, rfl, rfl, rfl⟩ := H
  go_enter Try.func58, Try.ntmps58
  go_wp2_with (first | ((with_reducible refine gate_dst (N := 4) rfl ?_); refine Ow.box rfl (N := 4) rfl (cs := bursarlaw23_some.Z25) (t := 27) HO.out (by first | (go_simp; done) | (go_simp; rfl)) ?_; clear HO; intro gb232 w3 HO; simp only [List.cons_append, List.nil_append] at HO) | ((with_reducible refine gate_dst (N := 5) rfl ?_); refine Ow.box rfl (N := 5) rfl (cs := bursarlaw23_some.Z7) (t := 25) HO.out (by first | (go_simp; done) | (go_simp; rfl)) ?_; clear HO; intro gb233 w4 HO; simp only [List.cons_append, List.nil_append] at HO) | ((with_reducible refine Ow.gate_build rfl ?_); (try (refine gate_guard (by rfl) ?_; dsimp only)); refine' Ow.tbuild Ot.bd rfl rfl rfl ?hf_ ?_; (case hf_ => repeat (any_goals (first | exact Ow.Fills.nil | (refine' Ow.Fills.c ?hv_ rfl ?hz_ ?_; (case hv_ => first | exact Ow.ev_tmp rfl | rfl); (case hz_ => first | (refine ⟨?_, ?_⟩ <;> (rfl)) | fail)))))) | ((with_reducible refine Ow.gate_load rfl ?_); (try (refine gate_guard (by rfl) ?_; dsimp only)); (first | refine Ow.l1 Ot.ty HO.out rfl rfl rfl rfl (by rfl) ?_ | refine Ow.l0 Ot.ty HO.out rfl rfl rfl rfl (by rfl) ?_ | refine Ow.lp Ot.ty HO.out rfl rfl rfl rfl (by rfl) ?_)) | ((with_reducible refine gate_store rfl ?_); (try (refine gate_guard (by rfl) ?_; dsimp only)); (first | refine Ow.s0 Ot.ty HO.out rfl rfl rfl rfl rfl (by first | exact Ow.ev_tmp rfl | rfl) (by first | (refine ⟨?_, ?_, ?_⟩ <;> (rfl)) | fail) ?_ | refine Ow.sp Ot.ty HO.out rfl rfl rfl rfl rfl (by first | exact Ow.ev_tmp rfl | rfl) (by first | (refine ⟨?_, ?_, ?_⟩ <;> (rfl)) | fail) ?_); clear HO; intro wz_ HO; simp only [List.set_cons_zero, List.set_cons_succ] at HO))
  refine' bodyPost_ret (results_cell_row rfl _ _ gb232 27 _ (0, 0) _ rfl ?hb_ Try.underlying27 rfl ?hi_) rfl ?_
  case hb_ => refine' Ow.Own.get HO.out 0 ?hk_; (case hk_ => rfl)
  case hi_ => exact (Ot.ty.size 27 rfl).trans (congrArg some (by rfl))
  all_goals exact ⟨by first | rfl | (simp [errW_none, errW_some] <;> rfl) | (simp [*, errW_none, errW_some] <;> rfl), Ow.Own.below HO.out⟩

/-! ### bursarlaw23_awake: function 29 -/
def bursarlaw23_awake.f (k : Nat)  : Option (Bool) := (bursarlaw23_some.f 30 (⟨#[48, 49, 48, 48, 48, 48]⟩ : ByteArray)).bind fun bt234 => ((capture_Capture.f k bt234.1 bt234.2.1 bt234.2.2.1 bt234.2.2.2.1 bt234.2.2.2.2.1 bt234.2.2.2.2.2.1 bt234.2.2.2.2.2.2.1 bt234.2.2.2.2.2.2.2.1 bt234.2.2.2.2.2.2.2.2.1 bt234.2.2.2.2.2.2.2.2.2.1 bt234.2.2.2.2.2.2.2.2.2.2.1 bt234.2.2.2.2.2.2.2.2.2.2.2.1 bt234.2.2.2.2.2.2.2.2.2.2.2.2.1 bt234.2.2.2.2.2.2.2.2.2.2.2.2.2.1 bt234.2.2.2.2.2.2.2.2.2.2.2.2.2.2.1 bt234.2.2.2.2.2.2.2.2.2.2.2.2.2.2.2.1 bt234.2.2.2.2.2.2.2.2.2.2.2.2.2.2.2.2.1 bt234.2.2.2.2.2.2.2.2.2.2.2.2.2.2.2.2.2.1 bt234.2.2.2.2.2.2.2.2.2.2.2.2.2.2.2.2.2.2.1 bt234.2.2.2.2.2.2.2.2.2.2.2.2.2.2.2.2.2.2.2.1 bt234.2.2.2.2.2.2.2.2.2.2.2.2.2.2.2.2.2.2.2.2.1 bt234.2.2.2.2.2.2.2.2.2.2.2.2.2.2.2.2.2.2.2.2.2.1 bt234.2.2.2.2.2.2.2.2.2.2.2.2.2.2.2.2.2.2.2.2.2.2.1 bt234.2.2.2.2.2.2.2.2.2.2.2.2.2.2.2.2.2.2.2.2.2.2.2.1 bt234.2.2.2.2.2.2.2.2.2.2.2.2.2.2.2.2.2.2.2.2.2.2.2.2).bind fun bt259 => ((bursarlaw23_some.f 101 (⟨#[48, 48, 48, 48, 48, 48]⟩ : ByteArray)).bind fun bt275 => ((capture_Capture.f k bt275.1 bt275.2.1 bt275.2.2.1 bt275.2.2.2.1 bt275.2.2.2.2.1 bt275.2.2.2.2.2.1 bt275.2.2.2.2.2.2.1 bt275.2.2.2.2.2.2.2.1 bt275.2.2.2.2.2.2.2.2.1 bt275.2.2.2.2.2.2.2.2.2.1 bt275.2.2.2.2.2.2.2.2.2.2.1 bt275.2.2.2.2.2.2.2.2.2.2.2.1 bt275.2.2.2.2.2.2.2.2.2.2.2.2.1 bt275.2.2.2.2.2.2.2.2.2.2.2.2.2.1 bt275.2.2.2.2.2.2.2.2.2.2.2.2.2.2.1 bt275.2.2.2.2.2.2.2.2.2.2.2.2.2.2.2.1 bt275.2.2.2.2.2.2.2.2.2.2.2.2.2.2.2.2.1 bt275.2.2.2.2.2.2.2.2.2.2.2.2.2.2.2.2.2.1 bt275.2.2.2.2.2.2.2.2.2.2.2.2.2.2.2.2.2.2.1 bt275.2.2.2.2.2.2.2.2.2.2.2.2.2.2.2.2.2.2.2.1 bt275.2.2.2.2.2.2.2.2.2.2.2.2.2.2.2.2.2.2.2.2.1 bt275.2.2.2.2.2.2.2.2.2.2.2.2.2.2.2.2.2.2.2.2.2.1 bt275.2.2.2.2.2.2.2.2.2.2.2.2.2.2.2.2.2.2.2.2.2.2.1 bt275.2.2.2.2.2.2.2.2.2.2.2.2.2.2.2.2.2.2.2.2.2.2.2.1 bt275.2.2.2.2.2.2.2.2.2.2.2.2.2.2.2.2.2.2.2.2.2.2.2.2).bind fun bt300 => ((bursarlaw23_some.f 30 (⟨#[48, 48, 48, 48, 48, 48]⟩ : ByteArray)).bind fun bt316 => ((capture_Capture.f k bt316.1 bt316.2.1 bt316.2.2.1 bt316.2.2.2.1 bt316.2.2.2.2.1 bt316.2.2.2.2.2.1 bt316.2.2.2.2.2.2.1 bt316.2.2.2.2.2.2.2.1 bt316.2.2.2.2.2.2.2.2.1 bt316.2.2.2.2.2.2.2.2.2.1 bt316.2.2.2.2.2.2.2.2.2.2.1 bt316.2.2.2.2.2.2.2.2.2.2.2.1 bt316.2.2.2.2.2.2.2.2.2.2.2.2.1 50 bt316.2.2.2.2.2.2.2.2.2.2.2.2.2.2.1 bt316.2.2.2.2.2.2.2.2.2.2.2.2.2.2.2.1 bt316.2.2.2.2.2.2.2.2.2.2.2.2.2.2.2.2.1 bt316.2.2.2.2.2.2.2.2.2.2.2.2.2.2.2.2.2.1 bt316.2.2.2.2.2.2.2.2.2.2.2.2.2.2.2.2.2.2.1 bt316.2.2.2.2.2.2.2.2.2.2.2.2.2.2.2.2.2.2.2.1 bt316.2.2.2.2.2.2.2.2.2.2.2.2.2.2.2.2.2.2.2.2.1 false bt316.2.2.2.2.2.2.2.2.2.2.2.2.2.2.2.2.2.2.2.2.2.2.1 bt316.2.2.2.2.2.2.2.2.2.2.2.2.2.2.2.2.2.2.2.2.2.2.2.1 bt316.2.2.2.2.2.2.2.2.2.2.2.2.2.2.2.2.2.2.2.2.2.2.2.2).bind fun bt342 => (if bt259.1.toList = ([48, 48] : List UInt8) then (if bt259.2.2.2.2.2.2.2.2.1 = true then (if bt259.2.2.2.2.2.1 = 30 then (if bt259.2.2.2.2.2.2.2.1 = true then (if bt259.2.2.2.2.2.2.2.2.2.2.2.2.2.2 = 30 then (if bt300.1.toList = ([54, 49] : List UInt8) then (if bt342.1.toList = ([48, 48] : List UInt8) then (if bt342.2.2.2.2.2.2.2.2.1 = true then (none) else (some (bt342.2.2.2.2.2.2.2.2.2.1 == 2))) else (none)) else (none)) else (none)) else (none)) else (none)) else (none)) else (none)))))))
theorem bursarlaw23_awake.mono : ∀ k, LeO (bursarlaw23_awake.f k ) (bursarlaw23_awake.f (k + 1) ) := by
  intro  k
  unfold bursarlaw23_awake.f
  repeat' first
      | (with_reducible exact capture_Capture.mono _ _ _ _ _ _ _ _ _ _ _ _ _ _ _ _ _ _ _ _ _ _ _ _ _ _)
      | (with_reducible exact LeO.refl _)
      | (with_reducible exact LeO.none _)
      | (with_reducible refine LeO.ite ?_ ?_)
      | (with_reducible refine LeO.bind ?_ (fun _ => ?_))
      | exact capture_Capture.mono _ _ _ _ _ _ _ _ _ _ _ _ _ _ _ _ _ _ _ _ _ _ _ _ _ _
      | exact LeO.none _
      | refine LeO.ite ?_ ?_
      | refine LeO.bind ?_ (fun _ => ?_)
def bursarlaw23_awake.Z15 : Array Value := #[.string (⟨#[]⟩ : ByteArray), .string (⟨#[]⟩ : ByteArray), .string (⟨#[]⟩ : ByteArray), .string (⟨#[]⟩ : ByteArray), .int .i64 0, .int .i64 0, .int .i64 0, .bool false, .bool false, .int .i64 0, .int .i64 0, .string (⟨#[]⟩ : ByteArray), .string (⟨#[]⟩ : ByteArray), .string (⟨#[]⟩ : ByteArray), .int .i64 0]
def bursarlaw23_awake.Z25 : Array Value := #[.string (⟨#[]⟩ : ByteArray), .string (⟨#[]⟩ : ByteArray), .string (⟨#[]⟩ : ByteArray), .int .i64 0, .string (⟨#[]⟩ : ByteArray), .string (⟨#[]⟩ : ByteArray), .string (⟨#[]⟩ : ByteArray), .string (⟨#[]⟩ : ByteArray), .string (⟨#[]⟩ : ByteArray), .int .i64 0, .int .i64 0, .string (⟨#[]⟩ : ByteArray), .bool false, .int .i64 0, .string (⟨#[]⟩ : ByteArray), .string (⟨#[]⟩ : ByteArray), .string (⟨#[]⟩ : ByteArray), .int .i64 0, .int .i64 0, .int .i64 0, .bool false, .bool false, .int .i64 0, .int .i64 0, .bool false]
set_option maxHeartbeats 8000000 in
set_option maxRecDepth 100000 in
theorem bursarlaw23_awake.calls (k : Nat)  (r : Bool) (w : World) (h : bursarlaw23_awake.f k  = some r) :
    Calls Try.prog 29 #[] w fun e w' => e = .returned (.bool r) ∧ Below w.heap.size w w' := by
  have hu53 := Try.underlying53
  have hu27 := Try.underlying27
  have HO := Aside0.mk (Ow.Own.nil w)
  have hmf : ∀ (fn : Fn) (first cap : Array Value) (w : World), (Instr.makeFunc fn first cap).run Try.prog w = .ok (.func fn first cap) w := fun _ _ _ _ => rfl
  have H : ((bursarlaw23_some.f 30 (⟨#[48, 49, 48, 48, 48, 48]⟩ : ByteArray)).bind fun bt234 => ((capture_Capture.f k bt234.1 bt234.2.1 bt234.2.2.1 bt234.2.2.2.1 bt234.2.2.2.2.1 bt234.2.2.2.2.2.1 bt234.2.2.2.2.2.2.1 bt234.2.2.2.2.2.2.2.1 bt234.2.2.2.2.2.2.2.2.1 bt234.2.2.2.2.2.2.2.2.2.1 bt234.2.2.2.2.2.2.2.2.2.2.1 bt234.2.2.2.2.2.2.2.2.2.2.2.1 bt234.2.2.2.2.2.2.2.2.2.2.2.2.1 bt234.2.2.2.2.2.2.2.2.2.2.2.2.2.1 bt234.2.2.2.2.2.2.2.2.2.2.2.2.2.2.1 bt234.2.2.2.2.2.2.2.2.2.2.2.2.2.2.2.1 bt234.2.2.2.2.2.2.2.2.2.2.2.2.2.2.2.2.1 bt234.2.2.2.2.2.2.2.2.2.2.2.2.2.2.2.2.2.1 bt234.2.2.2.2.2.2.2.2.2.2.2.2.2.2.2.2.2.2.1 bt234.2.2.2.2.2.2.2.2.2.2.2.2.2.2.2.2.2.2.2.1 bt234.2.2.2.2.2.2.2.2.2.2.2.2.2.2.2.2.2.2.2.2.1 bt234.2.2.2.2.2.2.2.2.2.2.2.2.2.2.2.2.2.2.2.2.2.1 bt234.2.2.2.2.2.2.2.2.2.2.2.2.2.2.2.2.2.2.2.2.2.2.1 bt234.2.2.2.2.2.2.2.2.2.2.2.2.2.2.2.2.2.2.2.2.2.2.2.1 bt234.2.2.2.2.2.2.2.2.2.2.2.2.2.2.2.2.2.2.2.2.2.2.2.2).bind fun bt259 => ((bursarlaw23_some.f 101 (⟨#[48, 48, 48, 48, 48, 48]⟩ : ByteArray)).bind fun bt275 => ((capture_Capture.f k bt275.1 bt275.2.1 bt275.2.2.1 bt275.2.2.2.1 bt275.2.2.2.2.1 bt275.2.2.2.2.2.1 bt275.2.2.2.2.2.2.1 bt275.2.2.2.2.2.2.2.1 bt275.2.2.2.2.2.2.2.2.1 bt275.2.2.2.2.2.2.2.2.2.1 bt275.2.2.2.2.2.2.2.2.2.2.1 bt275.2.2.2.2.2.2.2.2.2.2.2.1 bt275.2.2.2.2.2.2.2.2.2.2.2.2.1 bt275.2.2.2.2.2.2.2.2.2.2.2.2.2.1 bt275.2.2.2.2.2.2.2.2.2.2.2.2.2.2.1 bt275.2.2.2.2.2.2.2.2.2.2.2.2.2.2.2.1 bt275.2.2.2.2.2.2.2.2.2.2.2.2.2.2.2.2.1 bt275.2.2.2.2.2.2.2.2.2.2.2.2.2.2.2.2.2.1 bt275.2.2.2.2.2.2.2.2.2.2.2.2.2.2.2.2.2.2.1 bt275.2.2.2.2.2.2.2.2.2.2.2.2.2.2.2.2.2.2.2.1 bt275.2.2.2.2.2.2.2.2.2.2.2.2.2.2.2.2.2.2.2.2.1 bt275.2.2.2.2.2.2.2.2.2.2.2.2.2.2.2.2.2.2.2.2.2.1 bt275.2.2.2.2.2.2.2.2.2.2.2.2.2.2.2.2.2.2.2.2.2.2.1 bt275.2.2.2.2.2.2.2.2.2.2.2.2.2.2.2.2.2.2.2.2.2.2.2.1 bt275.2.2.2.2.2.2.2.2.2.2.2.2.2.2.2.2.2.2.2.2.2.2.2.2).bind fun bt300 => ((bursarlaw23_some.f 30 (⟨#[48, 48, 48, 48, 48, 48]⟩ : ByteArray)).bind fun bt316 => ((capture_Capture.f k bt316.1 bt316.2.1 bt316.2.2.1 bt316.2.2.2.1 bt316.2.2.2.2.1 bt316.2.2.2.2.2.1 bt316.2.2.2.2.2.2.1 bt316.2.2.2.2.2.2.2.1 bt316.2.2.2.2.2.2.2.2.1 bt316.2.2.2.2.2.2.2.2.2.1 bt316.2.2.2.2.2.2.2.2.2.2.1 bt316.2.2.2.2.2.2.2.2.2.2.2.1 bt316.2.2.2.2.2.2.2.2.2.2.2.2.1 50 bt316.2.2.2.2.2.2.2.2.2.2.2.2.2.2.1 bt316.2.2.2.2.2.2.2.2.2.2.2.2.2.2.2.1 bt316.2.2.2.2.2.2.2.2.2.2.2.2.2.2.2.2.1 bt316.2.2.2.2.2.2.2.2.2.2.2.2.2.2.2.2.2.1 bt316.2.2.2.2.2.2.2.2.2.2.2.2.2.2.2.2.2.2.1 bt316.2.2.2.2.2.2.2.2.2.2.2.2.2.2.2.2.2.2.2.1 bt316.2.2.2.2.2.2.2.2.2.2.2.2.2.2.2.2.2.2.2.2.1 false bt316.2.2.2.2.2.2.2.2.2.2.2.2.2.2.2.2.2.2.2.2.2.2.1 bt316.2.2.2.2.2.2.2.2.2.2.2.2.2.2.2.2.2.2.2.2.2.2.2.1 bt316.2.2.2.2.2.2.2.2.2.2.2.2.2.2.2.2.2.2.2.2.2.2.2.2).bind fun bt342 => (if bt259.1.toList = ([48, 48] : List UInt8) then (if bt259.2.2.2.2.2.2.2.2.1 = true then (if bt259.2.2.2.2.2.1 = 30 then (if bt259.2.2.2.2.2.2.2.1 = true then (if bt259.2.2.2.2.2.2.2.2.2.2.2.2.2.2 = 30 then (if bt300.1.toList = ([54, 49] : List UInt8) then (if bt342.1.toList = ([48, 48] : List UInt8) then (if bt342.2.2.2.2.2.2.2.2.1 = true then (none) else (some (bt342.2.2.2.2.2.2.2.2.2.1 == 2))) else (none)) else (none)) else (none)) else (none)) else (none)) else (none)) else (none)))))))) = some r := h
  clear h
  replace H := Option.bind_eq_some_iff.mp H
  obtain ⟨⟨t234, t235, t236, t237, t238, t239, t240, t241, t242, t243, t244, t245, t246, t247, t248, t249, t250, t251, t252, t253, t254, t255, t256, t257, t258⟩, A10, H⟩ := H
  replace H : ((capture_Capture.f k t234 t235 t236 t237 t238 t239 t240 t241 t242 t243 t244 t245 t246 t247 t248 t249 t250 t251 t252 t253 t254 t255 t256 t257 t258).bind fun bt259 => ((bursarlaw23_some.f 101 (⟨#[48, 48, 48, 48, 48, 48]⟩ : ByteArray)).bind fun bt275 => ((capture_Capture.f k bt275.1 bt275.2.1 bt275.2.2.1 bt275.2.2.2.1 bt275.2.2.2.2.1 bt275.2.2.2.2.2.1 bt275.2.2.2.2.2.2.1 bt275.2.2.2.2.2.2.2.1 bt275.2.2.2.2.2.2.2.2.1 bt275.2.2.2.2.2.2.2.2.2.1 bt275.2.2.2.2.2.2.2.2.2.2.1 bt275.2.2.2.2.2.2.2.2.2.2.2.1 bt275.2.2.2.2.2.2.2.2.2.2.2.2.1 bt275.2.2.2.2.2.2.2.2.2.2.2.2.2.1 bt275.2.2.2.2.2.2.2.2.2.2.2.2.2.2.1 bt275.2.2.2.2.2.2.2.2.2.2.2.2.2.2.2.1 bt275.2.2.2.2.2.2.2.2.2.2.2.2.2.2.2.2.1 bt275.2.2.2.2.2.2.2.2.2.2.2.2.2.2.2.2.2.1 bt275.2.2.2.2.2.2.2.2.2.2.2.2.2.2.2.2.2.2.1 bt275.2.2.2.2.2.2.2.2.2.2.2.2.2.2.2.2.2.2.2.1 bt275.2.2.2.2.2.2.2.2.2.2.2.2.2.2.2.2.2.2.2.2.1 bt275.2.2.2.2.2.2.2.2.2.2.2.2.2.2.2.2.2.2.2.2.2.1 bt275.2.2.2.2.2.2.2.2.2.2.2.2.2.2.2.2.2.2.2.2.2.2.1 bt275.2.2.2.2.2.2.2.2.2.2.2.2.2.2.2.2.2.2.2.2.2.2.2.1 bt275.2.2.2.2.2.2.2.2.2.2.2.2.2.2.2.2.2.2.2.2.2.2.2.2).bind fun bt300 => ((bursarlaw23_some.f 30 (⟨#[48, 48, 48, 48, 48, 48]⟩ : ByteArray)).bind fun bt316 => ((capture_Capture.f k bt316.1 bt316.2.1 bt316.2.2.1 bt316.2.2.2.1 bt316.2.2.2.2.1 bt316.2.2.2.2.2.1 bt316.2.2.2.2.2.2.1 bt316.2.2.2.2.2.2.2.1 bt316.2.2.2.2.2.2.2.2.1 bt316.2.2.2.2.2.2.2.2.2.1 bt316.2.2.2.2.2.2.2.2.2.2.1 bt316.2.2.2.2.2.2.2.2.2.2.2.1 bt316.2.2.2.2.2.2.2.2.2.2.2.2.1 50 bt316.2.2.2.2.2.2.2.2.2.2.2.2.2.2.1 bt316.2.2.2.2.2.2.2.2.2.2.2.2.2.2.2.1 bt316.2.2.2.2.2.2.2.2.2.2.2.2.2.2.2.2.1 bt316.2.2.2.2.2.2.2.2.2.2.2.2.2.2.2.2.2.1 bt316.2.2.2.2.2.2.2.2.2.2.2.2.2.2.2.2.2.2.1 bt316.2.2.2.2.2.2.2.2.2.2.2.2.2.2.2.2.2.2.2.1 bt316.2.2.2.2.2.2.2.2.2.2.2.2.2.2.2.2.2.2.2.2.1 false bt316.2.2.2.2.2.2.2.2.2.2.2.2.2.2.2.2.2.2.2.2.2.2.1 bt316.2.2.2.2.2.2.2.2.2.2.2.2.2.2.2.2.2.2.2.2.2.2.2.1 bt316.2.2.2.2.2.2.2.2.2.2.2.2.2.2.2.2.2.2.2.2.2.2.2.2).bind fun bt342 => (if bt259.1.toList = ([48, 48] : List UInt8) then (if bt259.2.2.2.2.2.2.2.2.1 = true then (if bt259.2.2.2.2.2.1 = 30 then (if bt259.2.2.2.2.2.2.2.1 = true then (if bt259.2.2.2.2.2.2.2.2.2.2.2.2.2.2 = 30 then (if bt300.1.toList = ([54, 49] : List UInt8) then (if bt342.1.toList = ([48, 48] : List UInt8) then (if bt342.2.2.2.2.2.2.2.2.1 = true then (none) else (some (bt342.2.2.2.2.2.2.2.2.2.1 == 2))) else (none)) else (none)) else (none)) else (none)) else (none)) else (none)) else (none))))))) = some r := H
  have A1 := Aside0.mk A10
  clear A10
  replace H := Option.bind_eq_some_iff.mp H
  obtain ⟨⟨t259, t260, t261, t262, t263, t264, t265, t266, t267, t268, t269, t270, t271, t272, t273⟩, A20, H⟩ := H
  replace H : ((bursarlaw23_some.f 101 (⟨#[48, 48, 48, 48, 48, 48]⟩ : ByteArray)).bind fun bt275 => ((capture_Capture.f k bt275.1 bt275.2.1 bt275.2.2.1 bt275.2.2.2.1 bt275.2.2.2.2.1 bt275.2.2.2.2.2.1 bt275.2.2.2.2.2.2.1 bt275.2.2.2.2.2.2.2.1 bt275.2.2.2.2.2.2.2.2.1 bt275.2.2.2.2.2.2.2.2.2.1 bt275.2.2.2.2.2.2.2.2.2.2.1 bt275.2.2.2.2.2.2.2.2.2.2.2.1 bt275.2.2.2.2.2.2.2.2.2.2.2.2.1 bt275.2.2.2.2.2.2.2.2.2.2.2.2.2.1 bt275.2.2.2.2.2.2.2.2.2.2.2.2.2.2.1 bt275.2.2.2.2.2.2.2.2.2.2.2.2.2.2.2.1 bt275.2.2.2.2.2.2.2.2.2.2.2.2.2.2.2.2.1 bt275.2.2.2.2.2.2.2.2.2.2.2.2.2.2.2.2.2.1 bt275.2.2.2.2.2.2.2.2.2.2.2.2.2.2.2.2.2.2.1 bt275.2.2.2.2.2.2.2.2.2.2.2.2.2.2.2.2.2.2.2.1 bt275.2.2.2.2.2.2.2.2.2.2.2.2.2.2.2.2.2.2.2.2.1 bt275.2.2.2.2.2.2.2.2.2.2.2.2.2.2.2.2.2.2.2.2.2.1 bt275.2.2.2.2.2.2.2.2.2.2.2.2.2.2.2.2.2.2.2.2.2.2.1 bt275.2.2.2.2.2.2.2.2.2.2.2.2.2.2.2.2.2.2.2.2.2.2.2.1 bt275.2.2.2.2.2.2.2.2.2.2.2.2.2.2.2.2.2.2.2.2.2.2.2.2).bind fun bt300 => ((bursarlaw23_some.f 30 (⟨#[48, 48, 48, 48, 48, 48]⟩ : ByteArray)).bind fun bt316 => ((capture_Capture.f k bt316.1 bt316.2.1 bt316.2.2.1 bt316.2.2.2.1 bt316.2.2.2.2.1 bt316.2.2.2.2.2.1 bt316.2.2.2.2.2.2.1 bt316.2.2.2.2.2.2.2.1 bt316.2.2.2.2.2.2.2.2.1 bt316.2.2.2.2.2.2.2.2.2.1 bt316.2.2.2.2.2.2.2.2.2.2.1 bt316.2.2.2.2.2.2.2.2.2.2.2.1 bt316.2.2.2.2.2.2.2.2.2.2.2.2.1 50 bt316.2.2.2.2.2.2.2.2.2.2.2.2.2.2.1 bt316.2.2.2.2.2.2.2.2.2.2.2.2.2.2.2.1 bt316.2.2.2.2.2.2.2.2.2.2.2.2.2.2.2.2.1 bt316.2.2.2.2.2.2.2.2.2.2.2.2.2.2.2.2.2.1 bt316.2.2.2.2.2.2.2.2.2.2.2.2.2.2.2.2.2.2.1 bt316.2.2.2.2.2.2.2.2.2.2.2.2.2.2.2.2.2.2.2.1 bt316.2.2.2.2.2.2.2.2.2.2.2.2.2.2.2.2.2.2.2.2.1 false bt316.2.2.2.2.2.2.2.2.2.2.2.2.2.2.2.2.2.2.2.2.2.2.1 bt316.2.2.2.2.2.2.2.2.2.2.2.2.2.2.2.2.2.2.2.2.2.2.2.1 bt316.2.2.2.2.2.2.2.2.2.2.2.2.2.2.2.2.2.2.2.2.2.2.2.2).bind fun bt342 => (if t259.toList = ([48, 48] : List UInt8) then (if t267 = true then (if t264 = 30 then (if t266 = true then (if t273 = 30 then (if bt300.1.toList = ([54, 49] : List UInt8) then (if bt342.1.toList = ([48, 48] : List UInt8) then (if bt342.2.2.2.2.2.2.2.2.1 = true then (none) else (some (bt342.2.2.2.2.2.2.2.2.2.1 == 2))) else (none)) else (none)) else (none)) else (none)) else (none)) else (none)) else (none)))))) = some r := H
  have A2 := Aside0.mk A20
  clear A20
  replace H := Option.bind_eq_some_iff.mp H
  obtain ⟨⟨t275, t276, t277, t278, t279, t280, t281, t282, t283, t284, t285, t286, t287, t288, t289, t290, t291, t292, t293, t294, t295, t296, t297, t298, t299⟩, A30, H⟩ := H
  replace H : ((capture_Capture.f k t275 t276 t277 t278 t279 t280 t281 t282 t283 t284 t285 t286 t287 t288 t289 t290 t291 t292 t293 t294 t295 t296 t297 t298 t299).bind fun bt300 => ((bursarlaw23_some.f 30 (⟨#[48, 48, 48, 48, 48, 48]⟩ : ByteArray)).bind fun bt316 => ((capture_Capture.f k bt316.1 bt316.2.1 bt316.2.2.1 bt316.2.2.2.1 bt316.2.2.2.2.1 bt316.2.2.2.2.2.1 bt316.2.2.2.2.2.2.1 bt316.2.2.2.2.2.2.2.1 bt316.2.2.2.2.2.2.2.2.1 bt316.2.2.2.2.2.2.2.2.2.1 bt316.2.2.2.2.2.2.2.2.2.2.1 bt316.2.2.2.2.2.2.2.2.2.2.2.1 bt316.2.2.2.2.2.2.2.2.2.2.2.2.1 50 bt316.2.2.2.2.2.2.2.2.2.2.2.2.2.2.1 bt316.2.2.2.2.2.2.2.2.2.2.2.2.2.2.2.1 bt316.2.2.2.2.2.2.2.2.2.2.2.2.2.2.2.2.1 bt316.2.2.2.2.2.2.2.2.2.2.2.2.2.2.2.2.2.1 bt316.2.2.2.2.2.2.2.2.2.2.2.2.2.2.2.2.2.2.1 bt316.2.2.2.2.2.2.2.2.2.2.2.2.2.2.2.2.2.2.2.1 bt316.2.2.2.2.2.2.2.2.2.2.2.2.2.2.2.2.2.2.2.2.1 false bt316.2.2.2.2.2.2.2.2.2.2.2.2.2.2.2.2.2.2.2.2.2.2.1 bt316.2.2.2.2.2.2.2.2.2.2.2.2.2.2.2.2.2.2.2.2.2.2.2.1 bt316.2.2.2.2.2.2.2.2.2.2.2.2.2.2.2.2.2.2.2.2.2.2.2.2).bind fun bt342 => (if t259.toList = ([48, 48] : List UInt8) then (if t267 = true then (if t264 = 30 then (if t266 = true then (if t273 = 30 then (if bt300.1.toList = ([54, 49] : List UInt8) then (if bt342.1.toList = ([48, 48] : List UInt8) then (if bt342.2.2.2.2.2.2.2.2.1 = true then (none) else (some (bt342.2.2.2.2.2.2.2.2.2.1 == 2))) else (none)) else (none)) else (none)) else (none)) else (none)) else (none)) else (none))))) = some r := H
  have A3 := Aside0.mk A30
  clear A30
  replace H := Option.bind_eq_some_iff.mp H
  obtain ⟨⟨t300, t301, t302, t303, t304, t305, t306, t307, t308, t309, t310, t311, t312, t313, t314⟩, A40, H⟩ := H
  replace H : ((bursarlaw23_some.f 30 (⟨#[48, 48, 48, 48, 48, 48]⟩ : ByteArray)).bind fun bt316 => ((capture_Capture.f k bt316.1 bt316.2.1 bt316.2.2.1 bt316.2.2.2.1 bt316.2.2.2.2.1 bt316.2.2.2.2.2.1 bt316.2.2.2.2.2.2.1 bt316.2.2.2.2.2.2.2.1 bt316.2.2.2.2.2.2.2.2.1 bt316.2.2.2.2.2.2.2.2.2.1 bt316.2.2.2.2.2.2.2.2.2.2.1 bt316.2.2.2.2.2.2.2.2.2.2.2.1 bt316.2.2.2.2.2.2.2.2.2.2.2.2.1 50 bt316.2.2.2.2.2.2.2.2.2.2.2.2.2.2.1 bt316.2.2.2.2.2.2.2.2.2.2.2.2.2.2.2.1 bt316.2.2.2.2.2.2.2.2.2.2.2.2.2.2.2.2.1 bt316.2.2.2.2.2.2.2.2.2.2.2.2.2.2.2.2.2.1 bt316.2.2.2.2.2.2.2.2.2.2.2.2.2.2.2.2.2.2.1 bt316.2.2.2.2.2.2.2.2.2.2.2.2.2.2.2.2.2.2.2.1 bt316.2.2.2.2.2.2.2.2.2.2.2.2.2.2.2.2.2.2.2.2.1 false bt316.2.2.2.2.2.2.2.2.2.2.2.2.2.2.2.2.2.2.2.2.2.2.1 bt316.2.2.2.2.2.2.2.2.2.2.2.2.2.2.2.2.2.2.2.2.2.2.2.1 bt316.2.2.2.2.2.2.2.2.2.2.2.2.2.2.2.2.2.2.2.2.2.2.2.2).bind fun bt342 => (if t259.toList = ([48, 48] : List UInt8) then (if t267 = true then (if t264 = 30 then (if t266 = true then (if t273 = 30 then (if t300.toList = ([54, 49] : List UInt8) then (if bt342.1.toList = ([48, 48] : List UInt8) then (if bt342.2.2.2.2.2.2.2.2.1 = true then (none) else (some (bt342.2.2.2.2.2.2.2.2.2.1 == 2))) else (none)) else (none)) else (none)) else (none)) else (none)) else (none)) else (none)))) = some r := H
  have A4 := Aside0.mk A40
  clear A40
  replace H := Option.bind_eq_some_iff.mp H
  obtain ⟨⟨t316, t317, t318, t319, t320, t321, t322, t323, t324, t325, t326, t327, t328, t329, t330, t331, t332, t333, t334, t335, t336, t337, t338, t339, t340⟩, A50, H⟩ := H
  replace H : ((capture_Capture.f k t316 t317 t318 t319 t320 t321 t322 t323 t324 t325 t326 t327 t328 50 t330 t331 t332 t333 t334 t335 t336 false t338 t339 t340).bind fun bt342 => (if t259.toList = ([48, 48] : List UInt8) then (if t267 = true then (if t264 = 30 then (if t266 = true then (if t273 = 30 then (if t300.toList = ([54, 49] : List UInt8) then (if bt342.1.toList = ([48, 48] : List UInt8) then (if bt342.2.2.2.2.2.2.2.2.1 = true then (none) else (some (bt342.2.2.2.2.2.2.2.2.2.1 == 2))) else (none)) else (none)) else (none)) else (none)) else (none)) else (none)) else (none))) = some r := H
  have A5 := Aside0.mk A50
  clear A50
  replace H := Option.bind_eq_some_iff.mp H
  obtain ⟨⟨t342, t343, t344, t345, t346, t347, t348, t349, t350, t351, t352, t353, t354, t355, t356⟩, A60, H⟩ := H
  replace H : (if t259.toList = ([48, 48] : List UInt8) then (if t267 = true then (if t264 = 30 then (if t266 = true then (if t273 = 30 then (if t300.toList = ([54, 49] : List UInt8) then (if t342.toList = ([48, 48] : List UInt8) then (if t350 = true then (none) else (some (t351 == 2))) else (none)) else (none)) else (none)) else (none)) else (none)) else (none)) else (none)) = some r := H
  have A6 := Aside0.mk A60
  clear A60
  by_cases c7 : t259.toList = ([48, 48] : List UInt8)
  · rw [if_pos c7] at H
    have c7b0 : (t259.toList == ([48, 48] : List UInt8)) = true := beq_iff_eq.mpr c7
    have c7b1 : (t259.toList != ([48, 48] : List UInt8)) = false := bne_eq_false_iff_eq.mpr c7
    clear c7
    by_cases c8 : t267 = true
    · subst c8
      have H1 : (if t264 = 30 then (if t266 = true then (if t273 = 30 then (if t300.toList = ([54, 49] : List UInt8) then (if t342.toList = ([48, 48] : List UInt8) then (if t350 = true then (none) else (some (t351 == 2))) else (none)) else (none)) else (none)) else (none)) else (none)) = some r := by rw [if_pos rfl] at H; exact H
      clear H
      have H := H1
      clear H1
      by_cases c9 : t264 = 30
      · rw [if_pos c9] at H
        have c9b0 : (t264 == 30) = true := beq_iff_eq.mpr c9
        have c9b1 : (t264 != 30) = false := bne_eq_false_iff_eq.mpr c9
        clear c9
        by_cases c10 : t266 = true
        · subst c10
          have H1 : (if t273 = 30 then (if t300.toList = ([54, 49] : List UInt8) then (if t342.toList = ([48, 48] : List UInt8) then (if t350 = true then (none) else (some (t351 == 2))) else (none)) else (none)) else (none)) = some r := by rw [if_pos rfl] at H; exact H
          clear H
          have H := H1
          clear H1
          by_cases c11 : t273 = 30
          · rw [if_pos c11] at H
            have c11b0 : (t273 == 30) = true := beq_iff_eq.mpr c11
            have c11b1 : (t273 != 30) = false := bne_eq_false_iff_eq.mpr c11
            clear c11
            by_cases c12 : t300.toList = ([54, 49] : List UInt8)
            · rw [if_pos c12] at H
              have c12b0 : (t300.toList == ([54, 49] : List UInt8)) = true := beq_iff_eq.mpr c12
              have c12b1 : (t300.toList != ([54, 49] : List UInt8)) = false := bne_eq_false_iff_eq.mpr c12
              clear c12
              by_cases c13 : t342.toList = ([48, 48] : List UInt8)
              · rw [if_pos c13] at H
                have c13b0 : (t342.toList == ([48, 48] : List UInt8)) = true := beq_iff_eq.mpr c13
                have c13b1 : (t342.toList != ([48, 48] : List UInt8)) = false := bne_eq_false_iff_eq.mpr c13
                clear c13
                by_cases c14 : t350 = true
                · subst c14
                  have H1 : (none) = some r := by rw [if_pos rfl] at H; exact H
                  clear H
                  have H := H1
                  clear H1
                  exact absurd H (by simp)
                · replace c14 := Bool.eq_false_iff.mpr c14
                  subst c14
                  have H1 : (some (t351 == 2)) = some r := by rw [if_neg (show ¬ (false = true) by decide)] at H; exact H
                  clear H
                  have H := H1
                  clear H1
                  obtain rfl := Option.some.inj H
                  go_enter Try.func29, Try.ntmps29
                  obtain ⟨Q0, hQ0_⟩ : ∃ q_ : Array Value, q_ = (#[.string t234, .string t235, .string t236, .int .i64 t237, .string t238, .string t239, .string t240, .string t241, .string t242, .int .i64 t243, .int .i64 t244, .string t245, .bool t246, .int .i64 t247, .string t248, .string t249, .string t250, .int .i64 t251, .int .i64 t252, .int .i64 t253, .bool t254, .bool t255, .int .i64 t256, .int .i64 t257, .bool t258] : Array Value) := ⟨_, rfl⟩
                  try rw [← hQ0_]
                  have hQ0 := Aside0.mk hQ0_; have hq := Aside0.mk hQ0_; clear hQ0_
                  obtain ⟨Q1, hQ1_⟩ : ∃ q_ : Array Value, q_ = (#[.string t259, .string t260, .string t261, .string t262, .int .i64 t263, .int .i64 t264, .int .i64 t265, .bool true, .bool true, .int .i64 t268, .int .i64 t269, .string t270, .string t271, .string t272, .int .i64 t273] : Array Value) := ⟨_, rfl⟩
                  try rw [← hQ1_]
                  have hQ1 := Aside0.mk hQ1_; replace hq := Aside0.mk (And.intro hQ1_ hq.1); clear hQ1_
                  obtain ⟨Q2, hQ2_⟩ : ∃ q_ : Array Value, q_ = (#[.string t275, .string t276, .string t277, .int .i64 t278, .string t279, .string t280, .string t281, .string t282, .string t283, .int .i64 t284, .int .i64 t285, .string t286, .bool t287, .int .i64 t288, .string t289, .string t290, .string t291, .int .i64 t292, .int .i64 t293, .int .i64 t294, .bool t295, .bool t296, .int .i64 t297, .int .i64 t298, .bool t299] : Array Value) := ⟨_, rfl⟩
                  try rw [← hQ2_]
                  have hQ2 := Aside0.mk hQ2_; replace hq := Aside0.mk (And.intro hQ2_ hq.1); clear hQ2_
                  obtain ⟨Q3, hQ3_⟩ : ∃ q_ : Array Value, q_ = (#[.string t300, .string t301, .string t302, .string t303, .int .i64 t304, .int .i64 t305, .int .i64 t306, .bool t307, .bool t308, .int .i64 t309, .int .i64 t310, .string t311, .string t312, .string t313, .int .i64 t314] : Array Value) := ⟨_, rfl⟩
                  try rw [← hQ3_]
                  have hQ3 := Aside0.mk hQ3_; replace hq := Aside0.mk (And.intro hQ3_ hq.1); clear hQ3_
                  obtain ⟨Q4, hQ4_⟩ : ∃ q_ : Array Value, q_ = (#[.string t316, .string t317, .string t318, .int .i64 t319, .string t320, .string t321, .string t322, .string t323, .string t324, .int .i64 t325, .int .i64 t326, .string t327, .bool t328, .int .i64 t329, .string t330, .string t331, .string t332, .int .i64 t333, .int .i64 t334, .int .i64 t335, .bool t336, .bool t337, .int .i64 t338, .int .i64 t339, .bool t340] : Array Value) := ⟨_, rfl⟩
                  try rw [← hQ4_]
                  have hQ4 := Aside0.mk hQ4_; replace hq := Aside0.mk (And.intro hQ4_ hq.1); clear hQ4_
                  obtain ⟨Q5, hQ5_⟩ : ∃ q_ : Array Value, q_ = (#[.string t342, .string t343, .string t344, .string t345, .int .i64 t346, .int .i64 t347, .int .i64 t348, .bool t349, .bool false, .int .i64 t351, .int .i64 t352, .string t353, .string t354, .string t355, .int .i64 t356] : Array Value) := ⟨_, rfl⟩
                  try rw [← hQ5_]
                  have hQ5 := Aside0.mk hQ5_; replace hq := Aside0.mk (And.intro hQ5_ hq.1); clear hQ5_
                  obtain ⟨Q6, hQ6_⟩ : ∃ q_ : Array Value, q_ = (#[.string t316, .string t317, .string t318, .int .i64 t319, .string t320, .string t321, .string t322, .string t323, .string t324, .int .i64 t325, .int .i64 t326, .string t327, .bool t328, .int .i64 50, .string t330, .string t331, .string t332, .int .i64 t333, .int .i64 t334, .int .i64 t335, .bool t336, .bool false, .int .i64 t338, .int .i64 t339, .bool t340] : Array Value) := ⟨_, rfl⟩
                  try rw [← hQ6_]
                  have hQ6 := Aside0.mk hQ6_; replace hq := Aside0.mk (And.intro hQ6_ hq.1); clear hQ6_
                  go_wp2_with (first | ((with_reducible refine gate_callee (f := 58) rfl ?_); refine goesL_ (some 5) rfl rfl Try.func58 (by kernel_rfl) rfl #[.int .i64 30, .string (⟨#[48, 49, 48, 48, 48, 48]⟩ : ByteArray)] rfl (by (try simp only [List.map_toArray, List.map_cons, List.map_nil]); first | done | rfl | (simp only [hq.1]; done) | (simp only [hq.1]; rfl)) ?_; refine Calls.mono (calls_of_args (by first | ((try simp only [hq.1]) <;> rfl) | fail) (bursarlaw23_some.calls 30 (⟨#[48, 49, 48, 48, 48, 48]⟩ : ByteArray) t234 t235 t236 t237 t238 t239 t240 t241 t242 t243 t244 t245 t246 t247 t248 t249 t250 t251 t252 t253 t254 t255 t256 t257 t258 _ A1.out)) ?_; rintro e w15 ⟨he_, hb⟩; (try rw [← hQ0.out] at he_); subst he_; refine ⟨_, rfl, ?_⟩; replace HO := Aside0.mk (Ow.Own.call HO.out hb); clear hb) | ((with_reducible refine gate_callee (f := 27) rfl ?_); refine goesL_ (some 6) rfl rfl Try.func27 (by kernel_rfl) rfl #[.agg Q0] rfl (by (try simp only [List.map_toArray, List.map_cons, List.map_nil]); first | done | rfl | (simp only [hq.1]; done) | (simp only [hq.1]; rfl)) ?_; refine Calls.mono (calls_of_args (by first | ((try simp only [hq.1]) <;> rfl) | fail) (capture_Capture.calls k t234 t235 t236 t237 t238 t239 t240 t241 t242 t243 t244 t245 t246 t247 t248 t249 t250 t251 t252 t253 t254 t255 t256 t257 t258 t259 t260 t261 t262 t263 t264 t265 true true t268 t269 t270 t271 t272 t273 _ A2.out)) ?_; rintro e w16 ⟨he_, hb⟩; (try rw [← hQ1.out] at he_); subst he_; refine ⟨_, rfl, ?_⟩; replace HO := Aside0.mk (Ow.Own.call HO.out hb); clear hb) | ((with_reducible refine gate_dst (N := 1) rfl ?_); refine Ow.box rfl (N := 1) rfl (cs := bursarlaw23_awake.Z15) (t := 53) HO.out (by first | (go_simp; done) | (go_simp; rfl)) ?_; clear HO; intro gb274 w17 HO; simp only [List.cons_append, List.nil_append] at HO) | ((with_reducible refine gate_callee (f := 58) rfl ?_); refine goesL_ (some 7) rfl rfl Try.func58 (by kernel_rfl) rfl #[.int .i64 101, .string (⟨#[48, 48, 48, 48, 48, 48]⟩ : ByteArray)] rfl (by (try simp only [List.map_toArray, List.map_cons, List.map_nil]); first | done | rfl | (simp only [hq.1]; done) | (simp only [hq.1]; rfl)) ?_; refine Calls.mono (calls_of_args (by first | ((try simp only [hq.1]) <;> rfl) | fail) (bursarlaw23_some.calls 101 (⟨#[48, 48, 48, 48, 48, 48]⟩ : ByteArray) t275 t276 t277 t278 t279 t280 t281 t282 t283 t284 t285 t286 t287 t288 t289 t290 t291 t292 t293 t294 t295 t296 t297 t298 t299 _ A3.out)) ?_; rintro e w20 ⟨he_, hb⟩; (try rw [← hQ2.out] at he_); subst he_; refine ⟨_, rfl, ?_⟩; replace HO := Aside0.mk (Ow.Own.call HO.out hb); clear hb) | ((with_reducible refine gate_callee (f := 27) rfl ?_); refine goesL_ (some 8) rfl rfl Try.func27 (by kernel_rfl) rfl #[.agg Q2] rfl (by (try simp only [List.map_toArray, List.map_cons, List.map_nil]); first | done | rfl | (simp only [hq.1]; done) | (simp only [hq.1]; rfl)) ?_; refine Calls.mono (calls_of_args (by first | ((try simp only [hq.1]) <;> rfl) | fail) (capture_Capture.calls k t275 t276 t277 t278 t279 t280 t281 t282 t283 t284 t285 t286 t287 t288 t289 t290 t291 t292 t293 t294 t295 t296 t297 t298 t299 t300 t301 t302 t303 t304 t305 t306 t307 t308 t309 t310 t311 t312 t313 t314 _ A4.out)) ?_; rintro e w21 ⟨he_, hb⟩; (try rw [← hQ3.out] at he_); subst he_; refine ⟨_, rfl, ?_⟩; replace HO := Aside0.mk (Ow.Own.call HO.out hb); clear hb) | ((with_reducible refine gate_dst (N := 2) rfl ?_); refine Ow.box rfl (N := 2) rfl (cs := bursarlaw23_awake.Z15) (t := 53) HO.out (by first | (go_simp; done) | (go_simp; rfl)) ?_; clear HO; intro gb315 w22 HO; simp only [List.cons_append, List.nil_append] at HO) | ((with_reducible refine gate_callee (f := 58) rfl ?_); refine goesL_ (some 9) rfl rfl Try.func58 (by kernel_rfl) rfl #[.int .i64 30, .string (⟨#[48, 48, 48, 48, 48, 48]⟩ : ByteArray)] rfl (by (try simp only [List.map_toArray, List.map_cons, List.map_nil]); first | done | rfl | (simp only [hq.1]; done) | (simp only [hq.1]; rfl)) ?_; refine Calls.mono (calls_of_args (by first | ((try simp only [hq.1]) <;> rfl) | fail) (bursarlaw23_some.calls 30 (⟨#[48, 48, 48, 48, 48, 48]⟩ : ByteArray) t316 t317 t318 t319 t320 t321 t322 t323 t324 t325 t326 t327 t328 t329 t330 t331 t332 t333 t334 t335 t336 t337 t338 t339 t340 _ A5.out)) ?_; rintro e w26 ⟨he_, hb⟩; (try rw [← hQ4.out] at he_); subst he_; refine ⟨_, rfl, ?_⟩; replace HO := Aside0.mk (Ow.Own.call HO.out hb); clear hb) | ((with_reducible refine gate_dst (N := 3) rfl ?_); refine Ow.box rfl (N := 3) rfl (cs := bursarlaw23_awake.Z25) (t := 27) HO.out (by first | (go_simp; done) | (go_simp; rfl)) ?_; clear HO; intro gb341 w27 HO; simp only [List.cons_append, List.nil_append] at HO) | ((with_reducible refine gate_callee (f := 27) rfl ?_); refine goesL_ (some 13) rfl rfl Try.func27 (by kernel_rfl) rfl #[.agg Q6] rfl (by (try simp only [List.map_toArray, List.map_cons, List.map_nil]); first | done | rfl | (simp only [hq.1]; done) | (simp only [hq.1]; rfl)) ?_; refine Calls.mono (calls_of_args (by first | ((try simp only [hq.1]) <;> rfl) | fail) (capture_Capture.calls k t316 t317 t318 t319 t320 t321 t322 t323 t324 t325 t326 t327 t328 50 t330 t331 t332 t333 t334 t335 t336 false t338 t339 t340 t342 t343 t344 t345 t346 t347 t348 t349 false t351 t352 t353 t354 t355 t356 _ A6.out)) ?_; rintro e w33 ⟨he_, hb⟩; (try rw [← hQ5.out] at he_); subst he_; refine ⟨_, rfl, ?_⟩; replace HO := Aside0.mk (Ow.Own.call HO.out hb); clear hb) | ((with_reducible refine gate_dst (N := 4) rfl ?_); refine Ow.box rfl (N := 4) rfl (cs := bursarlaw23_awake.Z15) (t := 53) HO.out (by first | (go_simp; done) | (go_simp; rfl)) ?_; clear HO; intro gb357 w34 HO; simp only [List.cons_append, List.nil_append] at HO) | ((with_reducible refine Ow.gate_load rfl ?_); (try (refine gate_guard (by rfl) ?_; dsimp only)); (first | refine Ow.l1 Ot.ty HO.out rfl rfl rfl rfl (by first | ((try simp only [hq.1]) <;> rfl) | fail) ?_ | refine Ow.l0 Ot.ty HO.out rfl rfl rfl rfl (by first | ((try simp only [hq.1]) <;> rfl) | fail) ?_ | refine Ow.lp Ot.ty HO.out rfl rfl rfl rfl (by first | ((try simp only [hq.1]) <;> rfl) | fail) ?_)) | ((with_reducible refine gate_store rfl ?_); (try (refine gate_guard (by rfl) ?_; dsimp only)); (first | refine Ow.s0 Ot.ty HO.out rfl rfl rfl rfl rfl (by first | exact Ow.ev_tmp rfl | rfl) (by first | (refine ⟨?_, ?_, ?_⟩ <;> (first | ((try simp only [hq.1]) <;> rfl) | fail)) | fail) ?_ | refine Ow.sp Ot.ty HO.out rfl rfl rfl rfl rfl (by first | exact Ow.ev_tmp rfl | rfl) (by first | (refine ⟨?_, ?_, ?_⟩ <;> (first | ((try simp only [hq.1]) <;> rfl) | fail)) | fail) ?_); clear HO; intro wz_ HO; simp only [List.set_cons_zero, List.set_cons_succ] at HO))
                  all_goals go_ret
                  all_goals exact ⟨by first | rfl | (simp only [hq.1]; done) | (simp only [hq.1]; rfl) | (simp [errW_none, errW_some] <;> rfl) | (simp [*, errW_none, errW_some] <;> rfl), Ow.Own.below HO.out⟩
              · rw [if_neg c13] at H
                exact absurd H (by simp)
            · rw [if_neg c12] at H
              exact absurd H (by simp)
          · rw [if_neg c11] at H
            exact absurd H (by simp)
        · replace c10 := Bool.eq_false_iff.mpr c10
          subst c10
          have H1 : (none) = some r := by rw [if_neg (show ¬ (false = true) by decide)] at H; exact H
          clear H
          have H := H1
          clear H1
          exact absurd H (by simp)
      · rw [if_neg c9] at H
        exact absurd H (by simp)
    · replace c8 := Bool.eq_false_iff.mpr c8
      subst c8
      have H1 : (none) = some r := by rw [if_neg (show ¬ (false = true) by decide)] at H; exact H
      clear H
      have H := H1
      clear H1
      exact absurd H (by simp)
  · rw [if_neg c7] at H
    exact absurd H (by simp)

/-! ### bursarref14_Left: function 30 -/
def bursarref14_Left.f (a0_0 : ByteArray) (a0_1 : ByteArray) (a0_2 : ByteArray) (a0_3 : Int) (a0_4 : Int) (a0_5 : Int) (a0_6 : Bool) : Option (Int) := if a0_6 = true then (some (wrap64 (a0_3 - a0_4))) else (some 0)
set_option maxHeartbeats 8000000 in
set_option maxRecDepth 100000 in
theorem bursarref14_Left.calls (a0_0 : ByteArray) (a0_1 : ByteArray) (a0_2 : ByteArray) (a0_3 : Int) (a0_4 : Int) (a0_5 : Int) (a0_6 : Bool) (r : Int) (w : World) (h : bursarref14_Left.f a0_0 a0_1 a0_2 a0_3 a0_4 a0_5 a0_6 = some r) :
    Calls Try.prog 30 #[.agg #[.string a0_0, .string a0_1, .string a0_2, .int .i64 a0_3, .int .i64 a0_4, .int .i64 a0_5, .bool a0_6]] w fun e w' => e = .returned (.int .i64 r) ∧ Below w.heap.size w w' := by
  have hu25 := Try.underlying25
  have HO := Aside0.mk (Ow.Own.nil w)
  have hmf : ∀ (fn : Fn) (first cap : Array Value) (w : World), (Instr.makeFunc fn first cap).run Try.prog w = .ok (.func fn first cap) w := fun _ _ _ _ => rfl
  have H : (if a0_6 = true then (some (wrap64 (a0_3 - a0_4))) else (some 0)) = some r := h
  clear h
  by_cases c2 : a0_6 = true
  · subst c2
    have H1 : (some (wrap64 (a0_3 - a0_4))) = some r := by rw [if_pos rfl] at H; exact H
    clear H
    have H := H1
    clear H1
    obtain rfl := Option.some.inj H
    obtain ⟨Q0, hQ0_⟩ : ∃ q_ : Array Value, q_ = (#[.string a0_0, .string a0_1, .string a0_2, .int .i64 a0_3, .int .i64 a0_4, .int .i64 a0_5, .bool true] : Array Value) := ⟨_, rfl⟩
    try rw [← hQ0_]
    have hQ0 := Aside0.mk hQ0_; have hq := Aside0.mk hQ0_; clear hQ0_
    go_enter Try.func30, Try.ntmps30
    go_wp2_with (first | ((with_reducible refine gate_dst (N := 1) rfl ?_); refine Ow.box rfl (N := 1) rfl (cs := Q0) (t := 25) HO.out (by first | (go_simp; done) | (go_simp; rfl)) ?_; clear HO; intro gb358 w3 HO; simp only [List.cons_append, List.nil_append] at HO) | ((with_reducible refine Ow.gate_load rfl ?_); (try (refine gate_guard (by rfl) ?_; dsimp only)); (first | refine Ow.l1 Ot.ty HO.out rfl rfl rfl rfl (by first | ((try simp only [hq.1]) <;> rfl) | fail) ?_)))
    all_goals go_ret
    all_goals exact ⟨by first | rfl | (simp only [hq.1]; done) | (simp only [hq.1]; rfl) | (simp [errW_none, errW_some] <;> rfl) | (simp [*, errW_none, errW_some] <;> rfl), Ow.Own.below HO.out⟩
  · replace c2 := Bool.eq_false_iff.mpr c2
    subst c2
    have H1 : (some 0) = some r := by rw [if_neg (show ¬ (false = true) by decide)] at H; exact H
    clear H
    have H := H1
    clear H1
    obtain rfl := Option.some.inj H
    obtain ⟨Q1, hQ1_⟩ : ∃ q_ : Array Value, q_ = (#[.string a0_0, .string a0_1, .string a0_2, .int .i64 a0_3, .int .i64 a0_4, .int .i64 a0_5, .bool false] : Array Value) := ⟨_, rfl⟩
    try rw [← hQ1_]
    have hQ1 := Aside0.mk hQ1_; have hq := Aside0.mk hQ1_; clear hQ1_
    go_enter Try.func30, Try.ntmps30
    go_wp2_with (first | ((with_reducible refine gate_dst (N := 1) rfl ?_); refine Ow.box rfl (N := 1) rfl (cs := Q1) (t := 25) HO.out (by first | (go_simp; done) | (go_simp; rfl)) ?_; clear HO; intro gb358 w5 HO; simp only [List.cons_append, List.nil_append] at HO) | ((with_reducible refine Ow.gate_load rfl ?_); (try (refine gate_guard (by rfl) ?_; dsimp only)); (first | refine Ow.l1 Ot.ty HO.out rfl rfl rfl rfl (by first | ((try simp only [hq.1]) <;> rfl) | fail) ?_)))
    all_goals go_ret
    all_goals exact ⟨by first | rfl | (simp only [hq.1]; done) | (simp only [hq.1]; rfl) | (simp [errW_none, errW_some] <;> rfl) | (simp [*, errW_none, errW_some] <;> rfl), Ow.Own.below HO.out⟩

/-! ### bursarref02_All_p: function 68 -/
def bursarref02_All_p.l0 : Nat → ByteArray → Int → Option (Bool)
  | 0, _, _ => none
  | k + 1, x0, x3 => if x3 < (x0.size : Int) then (if 0 ≤ x3 then (if (bt x0 x3) < 48 then (some false) else (if (bt x0 x3) > 57 then (some false) else (bursarref02_All_p.l0 k x0 (wrap64 (x3 + 1))))) else (none)) else (some true)
def bursarref02_All_p.f (k : Nat) (a0 : ByteArray) : Option (Bool) := bursarref02_All_p.l0 k a0 0
theorem bursarref02_All_p.mono_l : ∀ k, (∀ y0 y1, LeO (bursarref02_All_p.l0 k y0 y1) (bursarref02_All_p.l0 (k + 1) y0 y1))
  | 0 => fun _ _ r h => by simp [bursarref02_All_p.l0] at h
  | k + 1 => by
    have ih0 := bursarref02_All_p.mono_l k
    · intro y0 y1
      unfold bursarref02_All_p.l0
      repeat' first
      | (with_reducible exact ih0 _ _)
      | (with_reducible exact LeO.refl _)
      | (with_reducible exact LeO.none _)
      | (with_reducible refine LeO.ite ?_ ?_)
      | (with_reducible refine LeO.bind ?_ (fun _ => ?_))
      | exact ih0 _ _
      | exact LeO.none _
      | refine LeO.ite ?_ ?_
      | refine LeO.bind ?_ (fun _ => ?_)
theorem bursarref02_All_p.mono : ∀ a0 k, LeO (bursarref02_All_p.f k a0) (bursarref02_All_p.f (k + 1) a0) := by
  intro a0 k
  have ih0 := bursarref02_All_p.mono_l k
  unfold bursarref02_All_p.f
  repeat' first
      | (with_reducible exact ih0 _ _)
      | (with_reducible exact LeO.refl _)
      | (with_reducible exact LeO.none _)
      | (with_reducible refine LeO.ite ?_ ?_)
      | (with_reducible refine LeO.bind ?_ (fun _ => ?_))
      | exact ih0 _ _
      | exact LeO.none _
      | refine LeO.ite ?_ ?_
      | refine LeO.bind ?_ (fun _ => ?_)
set_option maxHeartbeats 8000000 in
set_option maxRecDepth 100000 in
theorem bursarref02_All_p.calls (k : Nat) (a0 : ByteArray) (r : Bool) (w : World) (h : bursarref02_All_p.f k a0 = some r) :
    Calls Try.prog 68 #[.string a0] w fun e w' => e = .returned (.bool r) ∧ Drawn0 w w' := by
  have H : (bursarref02_All_p.l0 k a0 0) = some r := h
  clear h
  have H' := Aside0.mk H
  clear H
  go_enter Try.func68, Try.ntmps68
  go_wp2
  go_loopg [3] k (fun kq v3 w' => ∃ (x3_1 : Int), v3 = .int .i64 x3_1 ∧ Aside0 (bursarref02_All_p.l0 kq a0 x3_1 = some r) ∧ Aside0 (kq ≤ k) ∧ Drawn0 w w')
  case atStart => exact ⟨(0), (by first | rfl | (simp; done) | (simp [*]; done) | (simp [Pu.bne_nil, Pu.beq_nil]; done)), H', ⟨Nat.le_refl _⟩, by repeat (first | exact Drawn0.refl _ | apply Drawn0.step)⟩
  case round =>
    clear H'
    obtain ⟨x3_1, rfl, HA, HK1, ⟨m1, rfl⟩⟩ := hrel
    cases gk with
    | zero => exact absurd HA.out (by simp [bursarref02_All_p.l0])
    | succ k1 =>
      have H := HA.out
      clear HA
      simp only [bursarref02_All_p.l0] at H
      by_cases c2 : x3_1 < (a0.size : Int)
      · rw [if_pos c2] at H
        have c2b0 : decide (x3_1 < (a0.size : Int)) = true := decide_eq_true c2
        clear c2
        by_cases c3 : 0 ≤ x3_1
        · rw [if_pos c3] at H
          have c3b0 : decide (0 ≤ x3_1) = true := decide_eq_true c3
          clear c3
          by_cases c5 : (bt a0 x3_1) < 48
          · rw [if_pos c5] at H
            have c5b0 : decide ((bt a0 x3_1) < 48) = true := decide_eq_true c5
            clear c5
            obtain rfl := Option.some.inj H
            have p4 : 0 ≤ (x3_1 : Int) := of_decide_eq_true (by first | (with_reducible assumption) | assumption)
            have q4 : x3_1 < (a0.size : Int) := of_decide_eq_true (by first | (with_reducible assumption) | assumption)
            have hx4 := bt_at a0 x3_1
            replace p4 := eq_true p4
            replace q4 := eq_true q4
            go_wp2
            go_ret
            exact ⟨by first | rfl | (simp; done) | (simp [*]; done), by repeat (first | exact Drawn0.refl _ | apply Drawn0.step)⟩
          · rw [if_neg c5] at H
            have c5b0 : decide ((bt a0 x3_1) < 48) = false := decide_eq_false c5
            clear c5
            by_cases c7 : (bt a0 x3_1) > 57
            · rw [if_pos c7] at H
              have c7b0 : decide (57 < (bt a0 x3_1)) = true := decide_eq_true c7
              clear c7
              obtain rfl := Option.some.inj H
              have p4 : 0 ≤ (x3_1 : Int) := of_decide_eq_true (by first | (with_reducible assumption) | assumption)
              have q4 : x3_1 < (a0.size : Int) := of_decide_eq_true (by first | (with_reducible assumption) | assumption)
              have hx4 := bt_at a0 x3_1
              replace p4 := eq_true p4
              replace q4 := eq_true q4
              have p6 : 0 ≤ (x3_1 : Int) := of_decide_eq_true (by first | (with_reducible assumption) | assumption)
              have q6 : x3_1 < (a0.size : Int) := of_decide_eq_true (by first | (with_reducible assumption) | assumption)
              have hx6 := bt_at a0 x3_1
              replace p6 := eq_true p6
              replace q6 := eq_true q6
              go_wp2
              go_ret
              exact ⟨by first | rfl | (simp; done) | (simp [*]; done), by repeat (first | exact Drawn0.refl _ | apply Drawn0.step)⟩
            · rw [if_neg c7] at H
              have c7b0 : decide (57 < (bt a0 x3_1)) = false := decide_eq_false c7
              clear c7
              have H' := Aside0.mk H
              clear H
              have p4 : 0 ≤ (x3_1 : Int) := of_decide_eq_true (by first | (with_reducible assumption) | assumption)
              have q4 : x3_1 < (a0.size : Int) := of_decide_eq_true (by first | (with_reducible assumption) | assumption)
              have hx4 := bt_at a0 x3_1
              replace p4 := eq_true p4
              replace q4 := eq_true q4
              have p6 : 0 ≤ (x3_1 : Int) := of_decide_eq_true (by first | (with_reducible assumption) | assumption)
              have q6 : x3_1 < (a0.size : Int) := of_decide_eq_true (by first | (with_reducible assumption) | assumption)
              have hx6 := bt_at a0 x3_1
              replace p6 := eq_true p6
              replace q6 := eq_true q6
              go_wp2
              go_roundg k1
              case measure => have := HK1.out; omega
              case rel => exact ⟨(wrap64 (x3_1 + 1)), (by first | rfl | (simp; done) | (simp [*]; done) | (simp [Pu.bne_nil, Pu.beq_nil]; done)), H', ⟨by have := HK1.out; omega⟩, by repeat (first | exact Drawn0.refl _ | apply Drawn0.step)⟩
        · rw [if_neg c3] at H
          exact absurd H (by simp)
      · rw [if_neg c2] at H
        have c2b0 : decide (x3_1 < (a0.size : Int)) = false := decide_eq_false c2
        clear c2
        obtain rfl := Option.some.inj H
        go_wp2
        go_ret
        exact ⟨by first | rfl | (simp; done) | (simp [*]; done), by repeat (first | exact Drawn0.refl _ | apply Drawn0.step)⟩

/-! #### bursarref02_All, refined -/
theorem ref02_All_l (s : ByteArray) (hs : s.size ≤ 4096) : ∀ (d i k : Nat), i + d = s.size → d < k → bursarref02_All_p.l0 k s (i : Int) = some (((Pu.bs s).drop i).all Pu.dig) := by
  intro d
  induction d with
  | zero =>
    intro i k hi hk
    obtain ⟨k, rfl⟩ : ∃ m, k = m + 1 := ⟨k - 1, by omega⟩
    obtain rfl : i = s.size := by omega
    simp only [bursarref02_All_p.l0]
    rw [if_neg (by omega), Pu.bs_drop_all]; rfl
  | succ d ih =>
    intro i k hi hk
    obtain ⟨k, rfl⟩ : ∃ m, k = m + 1 := ⟨k - 1, by omega⟩
    simp only [bursarref02_All_p.l0]
    rw [if_pos (by omega), if_pos (by omega), Pu.bs_drop s i (by omega), List.all_cons]
    by_cases h1 : bt s i < 48
    · rw [if_pos h1, (Pu.dig_no _).mpr (.inl h1)]; rfl
    · rw [if_neg h1]
      by_cases h2 : bt s i > 57
      · rw [if_pos h2, (Pu.dig_no _).mpr (.inr h2)]; rfl
      · rw [if_neg h2, (Pu.dig_iff _).mpr ⟨by omega, by omega⟩, Bool.true_and, Pu.wrap_small (by omega) (by omega)]
        exact ih (i + 1) k (by omega) (by omega)
def bursarref02_All.f (a0 : ByteArray) : Option Bool := if a0.size ≤ 4096 then some (Pu.allD a0) else none
theorem bursarref02_All.calls (a0 : ByteArray) (r : Bool) (w : World) (h : bursarref02_All.f a0 = some r) :
    Calls Try.prog 68 #[.string a0] w fun e w' => e = .returned (.bool r) ∧ Drawn0 w w' := by
  unfold bursarref02_All.f at h
  split at h
  · exact bursarref02_All_p.calls (a0.size + 1) a0 r w ((ref02_All_l a0 ‹_› a0.size 0 (a0.size + 1) (by omega) (by omega)).trans h)
  · cases h


/-! ### bursarref02_Sound_p: function 67 -/
mutual
def bursarref02_Sound_p.j0 : Nat → ByteArray → Bool → Option (Bool)
  | 0, _, _ => none
  | k + 1, x0, x13 => if x13 = true then (some false) else (bursarref02_Sound_p.l0 k x0 0 0)
def bursarref02_Sound_p.l0 : Nat → ByteArray → Int → Int → Option (Bool)
  | 0, _, _, _ => none
  | k + 1, x0, x3, x4 => if x4 < (x0.size : Int) then (if 0 ≤ x4 then (if (Int.tmod (wrap64 ((x0.size : Int) - x4)) 2) = 0 then (if (wrap64 (2 * (wrap64 ((wrap64 (bt x0 x4)) - 48)))) > 9 then (bursarref02_Sound_p.l0 k x0 (wrap64 (x3 + (wrap64 ((wrap64 (2 * (wrap64 ((wrap64 (bt x0 x4)) - 48)))) - 9)))) (wrap64 (x4 + 1))) else (bursarref02_Sound_p.l0 k x0 (wrap64 (x3 + (wrap64 (2 * (wrap64 ((wrap64 (bt x0 x4)) - 48)))))) (wrap64 (x4 + 1)))) else (bursarref02_Sound_p.l0 k x0 (wrap64 (x3 + (wrap64 ((wrap64 (bt x0 x4)) - 48)))) (wrap64 (x4 + 1)))) else (none)) else (some ((Int.tmod x3 10) == 0))
end
def bursarref02_Sound_p.f (k : Nat) (a0 : ByteArray) : Option (Bool) := if (a0.size : Int) < 2 then (bursarref02_Sound_p.j0 k a0 true) else ((bursarref02_All.f a0).bind fun t359 => (bursarref02_Sound_p.j0 k a0 (!t359)))
theorem bursarref02_Sound_p.mono_l : ∀ k, (∀ y0 y1, LeO (bursarref02_Sound_p.j0 k y0 y1) (bursarref02_Sound_p.j0 (k + 1) y0 y1)) ∧ (∀ y0 y1 y2, LeO (bursarref02_Sound_p.l0 k y0 y1 y2) (bursarref02_Sound_p.l0 (k + 1) y0 y1 y2))
  | 0 => ⟨fun _ _ r h => by simp [bursarref02_Sound_p.j0] at h, fun _ _ _ r h => by simp [bursarref02_Sound_p.l0] at h⟩
  | k + 1 => by
    obtain ⟨ih0, ih1⟩ := bursarref02_Sound_p.mono_l k
    refine ⟨?_, ?_⟩
    · intro y0 y1
      unfold bursarref02_Sound_p.j0
      repeat' first
      | (with_reducible exact ih0 _ _)
      | (with_reducible exact ih1 _ _ _)
      | (with_reducible exact LeO.refl _)
      | (with_reducible exact LeO.none _)
      | (with_reducible refine LeO.ite ?_ ?_)
      | (with_reducible refine LeO.bind ?_ (fun _ => ?_))
      | exact ih0 _ _
      | exact ih1 _ _ _
      | exact LeO.none _
      | refine LeO.ite ?_ ?_
      | refine LeO.bind ?_ (fun _ => ?_)
    · intro y0 y1 y2
      unfold bursarref02_Sound_p.l0
      repeat' first
      | (with_reducible exact ih0 _ _)
      | (with_reducible exact ih1 _ _ _)
      | (with_reducible exact LeO.refl _)
      | (with_reducible exact LeO.none _)
      | (with_reducible refine LeO.ite ?_ ?_)
      | (with_reducible refine LeO.bind ?_ (fun _ => ?_))
      | exact ih0 _ _
      | exact ih1 _ _ _
      | exact LeO.none _
      | refine LeO.ite ?_ ?_
      | refine LeO.bind ?_ (fun _ => ?_)
theorem bursarref02_Sound_p.mono : ∀ a0 k, LeO (bursarref02_Sound_p.f k a0) (bursarref02_Sound_p.f (k + 1) a0) := by
  intro a0 k
  obtain ⟨ih0, ih1⟩ := bursarref02_Sound_p.mono_l k
  unfold bursarref02_Sound_p.f
  repeat' first
      | (with_reducible exact ih0 _ _)
      | (with_reducible exact ih1 _ _ _)
      | (with_reducible exact LeO.refl _)
      | (with_reducible exact LeO.none _)
      | (with_reducible refine LeO.ite ?_ ?_)
      | (with_reducible refine LeO.bind ?_ (fun _ => ?_))
      | exact ih0 _ _
      | exact ih1 _ _ _
      | exact LeO.none _
      | refine LeO.ite ?_ ?_
      | refine LeO.bind ?_ (fun _ => ?_)
set_option maxHeartbeats 8000000 in
set_option maxRecDepth 100000 in
theorem bursarref02_Sound_p.calls (k : Nat) (a0 : ByteArray) (r : Bool) (w : World) (h : bursarref02_Sound_p.f k a0 = some r) :
    Calls Try.prog 67 #[.string a0] w fun e w' => e = .returned (.bool r) ∧ Drawn0 w w' := by
  have H : (if (a0.size : Int) < 2 then (bursarref02_Sound_p.j0 k a0 true) else ((bursarref02_All.f a0).bind fun t359 => (bursarref02_Sound_p.j0 k a0 (!t359)))) = some r := h
  clear h
  have HC2 := Aside0.mk H
  clear H
  go_enter Try.func67, Try.ntmps67
  go_upto_region 1 with (fail)
  go_cut [13] (fun v13 wc => ∃ (kq : Nat) (x13_1 : Bool), v13 = .bool x13_1 ∧ Aside0 (bursarref02_Sound_p.j0 kq a0 x13_1 = some r) ∧ Aside0 (kq ≤ k) ∧ Drawn0 w wc)
  case first =>
    have H := HC2.out
    clear HC2
    by_cases c3 : (a0.size : Int) < 2
    · rw [if_pos c3] at H
      have c3b0 : decide ((a0.size : Int) < 2) = true := decide_eq_true c3
      have c3b1 : decide (a0.size < 2) = true := decide_eq_true (by omega)
      clear c3
      (first | rw [c3b0] | (simp only [i64_w, i32_w]; rw [c3b0]) | skip)
      have H' := Aside0.mk H
      clear H
      go_wp2
      go_meet
      case rel => exact ⟨_, (true), (by first | rfl | (simp; done) | (simp [*]; done) | (simp [Pu.bne_nil, Pu.beq_nil]; done)), H', ⟨by first | omega | exact Nat.le_refl _⟩, by repeat (first | exact Drawn0.refl _ | apply Drawn0.step)⟩
    · rw [if_neg c3] at H
      have c3b0 : decide ((a0.size : Int) < 2) = false := decide_eq_false c3
      have c3b1 : decide (a0.size < 2) = false := decide_eq_false (by omega)
      clear c3
      (first | rw [c3b0] | (simp only [i64_w, i32_w]; rw [c3b0]) | skip)
      replace H := Option.bind_eq_some_iff.mp H
      obtain ⟨t359, A40, H⟩ := H
      replace H : (bursarref02_Sound_p.j0 k a0 (!t359)) = some r := H
      have A4 := Aside0.mk A40
      clear A40
      have H' := Aside0.mk H
      clear H
      go_wp2_with (first | (go_at_call 68; (with_reducible refine (bursarref02_All.calls a0 t359 _ A4.out).mono ?_); rintro e w' ⟨rfl, ⟨nd, rfl⟩⟩))
      go_meet
      case rel => exact ⟨_, (!t359), (by first | rfl | (simp; done) | (simp [*]; done) | (simp [Pu.bne_nil, Pu.beq_nil]; done)), H', ⟨by first | omega | exact Nat.le_refl _⟩, by repeat (first | exact Drawn0.refl _ | apply Drawn0.step)⟩
  case rest =>
    clear HC2
    try clear p2
    try clear c3
    try clear c3b0
    try clear c3b1
    obtain ⟨kq, x13_1, rfl, HA, HJ1, ⟨mc1, rfl⟩⟩ := hcut
    cases kq with
    | zero => exact absurd HA.out (by simp [bursarref02_Sound_p.j0])
    | succ kj1 =>
      have H := HA.out
      clear HA
      simp only [bursarref02_Sound_p.j0] at H
      by_cases c5 : x13_1 = true
      · subst c5
        have H1 : (some false) = some r := by rw [if_pos rfl] at H; exact H
        clear H
        have H := H1
        clear H1
        obtain rfl := Option.some.inj H
        go_wp2
        go_ret
        exact ⟨by first | rfl | (simp; done) | (simp [*]; done), by repeat (first | exact Drawn0.refl _ | apply Drawn0.step)⟩
      · replace c5 := Bool.eq_false_iff.mpr c5
        subst c5
        have H1 : (bursarref02_Sound_p.l0 kj1 a0 0 0) = some r := by rw [if_neg (show ¬ (false = true) by decide)] at H; exact H
        clear H
        have H := H1
        clear H1
        have H' := Aside0.mk H
        clear H
        go_wp2
        go_loopg [3, 4] kj1 (fun kq v3 v4 w' => ∃ (x3_2 : Int) (x4_2 : Int), v3 = .int .i64 x3_2 ∧ v4 = .int .i64 x4_2 ∧ Aside0 (bursarref02_Sound_p.l0 kq a0 x3_2 x4_2 = some r) ∧ Aside0 (kq ≤ kj1) ∧ Drawn0 w w')
        case atStart => exact ⟨(0), (0), (by first | rfl | (simp; done) | (simp [*]; done) | (simp [Pu.bne_nil, Pu.beq_nil]; done)), (by first | rfl | (simp; done) | (simp [*]; done) | (simp [Pu.bne_nil, Pu.beq_nil]; done)), H', ⟨Nat.le_refl _⟩, by repeat (first | exact Drawn0.refl _ | apply Drawn0.step)⟩
        case round =>
          clear H'
          try clear c1
          try clear p2
          try clear c3
          try clear c3b0
          try clear c3b1
          try clear c5
          try clear p2
          obtain ⟨x3_2, x4_2, rfl, rfl, HA, HK2, ⟨m2, rfl⟩⟩ := hrel
          cases gk with
          | zero => exact absurd HA.out (by simp [bursarref02_Sound_p.l0])
          | succ k2 =>
            have H := HA.out
            clear HA
            simp only [bursarref02_Sound_p.l0] at H
            by_cases c6 : x4_2 < (a0.size : Int)
            · rw [if_pos c6] at H
              have c6b0 : decide (x4_2 < (a0.size : Int)) = true := decide_eq_true c6
              clear c6
              by_cases c7 : 0 ≤ x4_2
              · rw [if_pos c7] at H
                have c7b0 : decide (0 ≤ x4_2) = true := decide_eq_true c7
                clear c7
                by_cases c9 : (Int.tmod (wrap64 ((a0.size : Int) - x4_2)) 2) = 0
                · rw [if_pos c9] at H
                  have c9b0 : ((Int.tmod (wrap64 ((a0.size : Int) - x4_2)) 2) == 0) = true := beq_iff_eq.mpr c9
                  have c9b1 : ((Int.tmod (wrap64 ((a0.size : Int) - x4_2)) 2) != 0) = false := bne_eq_false_iff_eq.mpr c9
                  clear c9
                  by_cases c10 : (wrap64 (2 * (wrap64 ((wrap64 (bt a0 x4_2)) - 48)))) > 9
                  · rw [if_pos c10] at H
                    have c10b0 : decide (9 < (wrap64 (2 * (wrap64 ((wrap64 (bt a0 x4_2)) - 48))))) = true := decide_eq_true c10
                    clear c10
                    have H' := Aside0.mk H
                    clear H
                    have p8 : 0 ≤ (x4_2 : Int) := of_decide_eq_true (by first | (with_reducible assumption) | assumption)
                    have q8 : x4_2 < (a0.size : Int) := of_decide_eq_true (by first | (with_reducible assumption) | assumption)
                    have hx8 := bt_at a0 x4_2
                    replace p8 := eq_true p8
                    replace q8 := eq_true q8
                    go_wp2
                    go_roundg k2
                    case measure => have := HJ1.out; have := HK2.out; omega
                    case rel => exact ⟨(wrap64 (x3_2 + (wrap64 ((wrap64 (2 * (wrap64 ((wrap64 (bt a0 x4_2)) - 48)))) - 9)))), (wrap64 (x4_2 + 1)), (by first | rfl | (simp; done) | (simp [*]; done) | (simp [Pu.bne_nil, Pu.beq_nil]; done)), (by first | rfl | (simp; done) | (simp [*]; done) | (simp [Pu.bne_nil, Pu.beq_nil]; done)), H', ⟨by have := HJ1.out; have := HK2.out; omega⟩, by repeat (first | exact Drawn0.refl _ | apply Drawn0.step)⟩
                  · rw [if_neg c10] at H
                    have c10b0 : decide (9 < (wrap64 (2 * (wrap64 ((wrap64 (bt a0 x4_2)) - 48))))) = false := decide_eq_false c10
                    clear c10
                    have H' := Aside0.mk H
                    clear H
                    have p8 : 0 ≤ (x4_2 : Int) := of_decide_eq_true (by first | (with_reducible assumption) | assumption)
                    have q8 : x4_2 < (a0.size : Int) := of_decide_eq_true (by first | (with_reducible assumption) | assumption)
                    have hx8 := bt_at a0 x4_2
                    replace p8 := eq_true p8
                    replace q8 := eq_true q8
                    go_wp2
                    go_roundg k2
                    case measure => have := HJ1.out; have := HK2.out; omega
                    case rel => exact ⟨(wrap64 (x3_2 + (wrap64 (2 * (wrap64 ((wrap64 (bt a0 x4_2)) - 48)))))), (wrap64 (x4_2 + 1)), (by first | rfl | (simp; done) | (simp [*]; done) | (simp [Pu.bne_nil, Pu.beq_nil]; done)), (by first | rfl | (simp; done) | (simp [*]; done) | (simp [Pu.bne_nil, Pu.beq_nil]; done)), H', ⟨by have := HJ1.out; have := HK2.out; omega⟩, by repeat (first | exact Drawn0.refl _ | apply Drawn0.step)⟩
                · rw [if_neg c9] at H
                  have c9b0 : ((Int.tmod (wrap64 ((a0.size : Int) - x4_2)) 2) == 0) = false := beq_eq_false_iff_ne.mpr c9
                  have c9b1 : ((Int.tmod (wrap64 ((a0.size : Int) - x4_2)) 2) != 0) = true := bne_iff_ne.mpr c9
                  have H' := Aside0.mk H
                  clear H
                  have p8 : 0 ≤ (x4_2 : Int) := of_decide_eq_true (by first | (with_reducible assumption) | assumption)
                  have q8 : x4_2 < (a0.size : Int) := of_decide_eq_true (by first | (with_reducible assumption) | assumption)
                  have hx8 := bt_at a0 x4_2
                  replace p8 := eq_true p8
                  replace q8 := eq_true q8
                  go_wp2
                  go_roundg k2
                  case measure => have := HJ1.out; have := HK2.out; omega
                  case rel => exact ⟨(wrap64 (x3_2 + (wrap64 ((wrap64 (bt a0 x4_2)) - 48)))), (wrap64 (x4_2 + 1)), (by first | rfl | (simp; done) | (simp [*]; done) | (simp [Pu.bne_nil, Pu.beq_nil]; done)), (by first | rfl | (simp; done) | (simp [*]; done) | (simp [Pu.bne_nil, Pu.beq_nil]; done)), H', ⟨by have := HJ1.out; have := HK2.out; omega⟩, by repeat (first | exact Drawn0.refl _ | apply Drawn0.step)⟩
              · rw [if_neg c7] at H
                exact absurd H (by simp)
            · rw [if_neg c6] at H
              have c6b0 : decide (x4_2 < (a0.size : Int)) = false := decide_eq_false c6
              clear c6
              obtain rfl := Option.some.inj H
              go_wp2
              go_ret
              exact ⟨by first | rfl | (simp; done) | (simp [*]; done), by repeat (first | exact Drawn0.refl _ | apply Drawn0.step)⟩

/-! #### bursarref02_Sound, refined -/
theorem ref02_Sound_l (s : ByteArray) (hs : s.size ≤ 4096) (hd : Pu.allD s = true) : ∀ (d i k : Nat) (n : Int), i + d = s.size → d < k → 0 ≤ n → n ≤ 9 * i → bursarref02_Sound_p.l0 k s n (i : Int) = some (Int.tmod (n + Pu.luhn ((Pu.bs s).drop i)) 10 == 0) := by
  intro d
  induction d with
  | zero =>
    intro i k n hi hk h0 h9
    obtain ⟨k, rfl⟩ : ∃ m, k = m + 1 := ⟨k - 1, by omega⟩
    obtain rfl : i = s.size := by omega
    simp only [bursarref02_Sound_p.l0]
    rw [if_neg (by omega), Pu.bs_drop_all, Pu.luhn, Int.add_zero]
  | succ d ih =>
    intro i k n hi hk h0 h9
    obtain ⟨k, rfl⟩ : ∃ m, k = m + 1 := ⟨k - 1, by omega⟩
    have hb := Pu.bt_dig s hd i (by omega)
    have hst := Pu.luhn_step s i (by omega)
    simp only [bursarref02_Sound_p.l0]
    rw [if_pos (by omega), if_pos (by omega), Pu.wrap_small (i := bt s i) (by omega) (by omega), Pu.wrap_small (i := bt s i - 48) (by omega) (by omega), Pu.wrap_small (i := (s.size : Int) - i) (by omega) (by omega), Pu.wrap_small (i := 2 * (bt s i - 48)) (by omega) (by omega), Pu.wrap_small (i := (i : Int) + 1) (by omega) (by omega), Pu.tmod_pos (by omega)]
    by_cases hp : ((s.size : Int) - i) % 2 = 0
    · rw [if_pos hp]
      rw [if_pos (by omega)] at hst
      unfold Pu.dbl at hst
      by_cases h5 : 2 * (bt s i - 48) > 9
      · rw [if_pos h5, Pu.wrap_small (i := 2 * (bt s i - 48) - 9) (by omega) (by omega), Pu.wrap_small (by omega) (by omega)]
        rw [if_pos (by omega)] at hst
        have := ih (i + 1) k (n + (2 * (bt s i - 48) - 9)) (by omega) (by omega) (by omega) (by omega)
        rw [show ((i : Int) + 1) = ((i + 1 : Nat) : Int) by omega, this, hst]
        congr 3; omega
      · rw [if_neg h5, Pu.wrap_small (i := n + 2 * (bt s i - 48)) (by omega) (by omega)]
        rw [if_neg (by omega)] at hst
        have := ih (i + 1) k (n + 2 * (bt s i - 48)) (by omega) (by omega) (by omega) (by omega)
        rw [show ((i : Int) + 1) = ((i + 1 : Nat) : Int) by omega, this, hst]
        congr 3; omega
    · rw [if_neg hp, Pu.wrap_small (i := n + (bt s i - 48)) (by omega) (by omega)]
      rw [if_neg (by omega)] at hst
      have := ih (i + 1) k (n + (bt s i - 48)) (by omega) (by omega) (by omega) (by omega)
      rw [show ((i : Int) + 1) = ((i + 1 : Nat) : Int) by omega, this, hst]
      congr 3; omega
theorem ref02_Sound_e (s : ByteArray) (hs : s.size ≤ 4096) : bursarref02_Sound_p.f (s.size + 2) s = some (Pu.soundB s) := by
  unfold bursarref02_Sound_p.f bursarref02_All.f
  by_cases h2 : 2 ≤ s.size
  · rw [if_neg (by omega), if_pos hs, Option.bind_some]
    simp only [bursarref02_Sound_p.j0]
    cases ha : Pu.allD s with
    | false => rw [if_pos (by rfl), Pu.soundB_no ha]
    | true => rw [if_neg (by simp), Pu.soundB_yes h2 ha]; have := ref02_Sound_l s hs ha s.size 0 (s.size + 1) 0 (by omega) (by omega) (by omega) (by omega); rw [Int.zero_add] at this; exact this
  · rw [if_pos (by omega), Pu.soundB_short h2]
    simp only [bursarref02_Sound_p.j0]; rw [if_pos trivial]
def bursarref02_Sound.f (a0 : ByteArray) : Option Bool := if a0.size ≤ 4096 then some (Pu.soundB a0) else none
theorem bursarref02_Sound.calls (a0 : ByteArray) (r : Bool) (w : World) (h : bursarref02_Sound.f a0 = some r) :
    Calls Try.prog 67 #[.string a0] w fun e w' => e = .returned (.bool r) ∧ Drawn0 w w' := by
  unfold bursarref02_Sound.f at h
  split at h
  · exact bursarref02_Sound_p.calls (a0.size + 2) a0 r w ((ref02_Sound_e a0 ‹_›).trans h)
  · cases h


end Go.Proofs.Ytddlmcaclbkopaa.XCP
