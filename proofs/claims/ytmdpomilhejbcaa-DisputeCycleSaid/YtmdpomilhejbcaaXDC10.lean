-- Written by wip/xprint.py, a session's program: printed out of the translation, with hand-written functions. Lean checks it.
import Derived.Test.YtmdpomilhejbcaaXDC0
namespace Go.Proofs.Ytmdpomilhejbcaa.XDC
open Go.RowKit Go.Proofs.YtmdpomilhejbcaaW.PrintWords Go.Proofs.YtmdpomilhejbcaaW.PrintLast Go.Proofs.YtmdpomilhejbcaaW.PrintMore
attribute [local go_sem] max2_int min2_int max_two min_two max_three min_three max_four min_four   -- for this text's walks alone
set_option linter.unusedVariables false
set_option linter.unusedSimpArgs false

/-! ### bursarlaw26_some: function 18 -/
def bursarlaw26_some.f (a0 : ByteArray) (a1 : Int) (a2 : Int) : Option (ByteArray × ByteArray × ByteArray × Int × ByteArray × ByteArray × ByteArray × ByteArray × ByteArray × Int × Int × ByteArray × Bool × Int × ByteArray × ByteArray × ByteArray × Int × Int × Int × Bool × Bool × Int × Int × Bool) := some ((⟨#[48, 54, 48, 48]⟩ : ByteArray), (⟨#[]⟩ : ByteArray), a0, a1, (⟨#[]⟩ : ByteArray), (⟨#[]⟩ : ByteArray), (⟨#[49, 50, 51, 52, 53, 54]⟩ : ByteArray), (⟨#[65, 66, 67, 48, 48, 48, 48, 48, 48, 48, 48, 49]⟩ : ByteArray), (⟨#[]⟩ : ByteArray), 0, 0, (⟨#[]⟩ : ByteArray), false, 0, (⟨#[65, 66, 67, 48, 48, 48, 48, 48, 48, 48, 48, 49]⟩ : ByteArray), (⟨#[49, 50, 51, 52, 53, 54]⟩ : ByteArray), (⟨#[52, 49, 49, 49, 49, 49, 49, 49, 49, 49, 49, 49, 49, 49, 49, 49]⟩ : ByteArray), 100, 100, 9, false, true, a2, 0, false)
def bursarlaw26_some.Z25 : Array Value := #[.string (⟨#[]⟩ : ByteArray), .string (⟨#[]⟩ : ByteArray), .string (⟨#[]⟩ : ByteArray), .int .i64 0, .string (⟨#[]⟩ : ByteArray), .string (⟨#[]⟩ : ByteArray), .string (⟨#[]⟩ : ByteArray), .string (⟨#[]⟩ : ByteArray), .string (⟨#[]⟩ : ByteArray), .int .i64 0, .int .i64 0, .string (⟨#[]⟩ : ByteArray), .bool false, .int .i64 0, .string (⟨#[]⟩ : ByteArray), .string (⟨#[]⟩ : ByteArray), .string (⟨#[]⟩ : ByteArray), .int .i64 0, .int .i64 0, .int .i64 0, .bool false, .bool false, .int .i64 0, .int .i64 0, .bool false]
def bursarlaw26_some.Z7 : Array Value := #[.string (⟨#[]⟩ : ByteArray), .string (⟨#[]⟩ : ByteArray), .string (⟨#[]⟩ : ByteArray), .int .i64 0, .int .i64 0, .int .i64 0, .bool false]
set_option maxHeartbeats 8000000 in
set_option maxRecDepth 100000 in
theorem bursarlaw26_some.calls (a0 : ByteArray) (a1 : Int) (a2 : Int) (r1 : ByteArray) (r2 : ByteArray) (r3 : ByteArray) (r4 : Int) (r5 : ByteArray) (r6 : ByteArray) (r7 : ByteArray) (r8 : ByteArray) (r9 : ByteArray) (r10 : Int) (r11 : Int) (r12 : ByteArray) (r13 : Bool) (r14 : Int) (r15 : ByteArray) (r16 : ByteArray) (r17 : ByteArray) (r18 : Int) (r19 : Int) (r20 : Int) (r21 : Bool) (r22 : Bool) (r23 : Int) (r24 : Int) (r25 : Bool) (w : World) (h : bursarlaw26_some.f a0 a1 a2 = some (r1, r2, r3, r4, r5, r6, r7, r8, r9, r10, r11, r12, r13, r14, r15, r16, r17, r18, r19, r20, r21, r22, r23, r24, r25)) :
    Calls Try.prog 18 #[.string a0, .int .i64 a1, .int .i64 a2] w fun e w' => e = .returned (.agg #[.string r1, .string r2, .string r3, .int .i64 r4, .string r5, .string r6, .string r7, .string r8, .string r9, .int .i64 r10, .int .i64 r11, .string r12, .bool r13, .int .i64 r14, .string r15, .string r16, .string r17, .int .i64 r18, .int .i64 r19, .int .i64 r20, .bool r21, .bool r22, .int .i64 r23, .int .i64 r24, .bool r25]) ∧ Below w.heap.size w w' := by
  have hu27 := Try.underlying27
  have hu25 := Try.underlying25
  have hu23 := Try.underlying23
  have HO := Aside0.mk (Ow.Own.nil w)
  have hmf : ∀ (fn : Fn) (first cap : Array Value) (w : World), (Instr.makeFunc fn first cap).run Try.prog w = .ok (.func fn first cap) w := fun _ _ _ _ => rfl
  have H : (some ((⟨#[48, 54, 48, 48]⟩ : ByteArray), (⟨#[]⟩ : ByteArray), a0, a1, (⟨#[]⟩ : ByteArray), (⟨#[]⟩ : ByteArray), (⟨#[49, 50, 51, 52, 53, 54]⟩ : ByteArray), (⟨#[65, 66, 67, 48, 48, 48, 48, 48, 48, 48, 48, 49]⟩ : ByteArray), (⟨#[]⟩ : ByteArray), 0, 0, (⟨#[]⟩ : ByteArray), false, 0, (⟨#[65, 66, 67, 48, 48, 48, 48, 48, 48, 48, 48, 49]⟩ : ByteArray), (⟨#[49, 50, 51, 52, 53, 54]⟩ : ByteArray), (⟨#[52, 49, 49, 49, 49, 49, 49, 49, 49, 49, 49, 49, 49, 49, 49, 49]⟩ : ByteArray), 100, 100, 9, false, true, a2, 0, false)) = some (r1, r2, r3, r4, r5, r6, r7, r8, r9, r10, r11, r12, r13, r14, r15, r16, r17, r18, r19, r20, r21, r22, r23, r24, r25) := h
  clear h
  simp only [Option.some.injEq, Prod.mk.injEq] at H
  obtain ⟨rfl, rfl, rfl, rfl, rfl, rfl, rfl, rfl, rfl, rfl, rfl, rfl, rfl, rfl, rfl, rfl, rfl, rfl, rfl, rfl, rfl, rfl, rfl, rfl, rfl⟩ := H
  go_enter Try.func18, Try.ntmps18
  go_wp2_with (first | ((with_reducible refine gate_dst (N := 6) rfl ?_); refine Ow.box rfl (N := 6) rfl (cs := bursarlaw26_some.Z25) (t := 27) HO.out (by first | (go_simp; done) | (go_simp; rfl)) ?_; clear HO; intro gb130 w4 HO; simp only [List.cons_append, List.nil_append] at HO) | ((with_reducible refine gate_dst (N := 7) rfl ?_); refine Ow.box rfl (N := 7) rfl (cs := bursarlaw26_some.Z7) (t := 25) HO.out (by first | (go_simp; done) | (go_simp; rfl)) ?_; clear HO; intro gb131 w5 HO; simp only [List.cons_append, List.nil_append] at HO) | ((with_reducible refine Ow.gate_build rfl ?_); (try (refine gate_guard (by rfl) ?_; dsimp only)); refine' Ow.tbuild Ot.bd rfl rfl rfl ?hf_ ?_; (case hf_ => repeat (any_goals (first | exact Ow.Fills.nil | (refine' Ow.Fills.c ?hv_ rfl ?hz_ ?_; (case hv_ => first | exact Ow.ev_tmp rfl | rfl); (case hz_ => first | (refine ⟨?_, ?_⟩ <;> (rfl)) | fail)))))) | ((with_reducible refine Ow.gate_load rfl ?_); (try (refine gate_guard (by rfl) ?_; dsimp only)); (first | refine Ow.l1 Ot.ty HO.out rfl rfl rfl rfl (by rfl) ?_ | refine Ow.l0 Ot.ty HO.out rfl rfl rfl rfl (by rfl) ?_ | refine Ow.lp Ot.ty HO.out rfl rfl rfl rfl (by rfl) ?_)) | ((with_reducible refine gate_store rfl ?_); (try (refine gate_guard (by rfl) ?_; dsimp only)); (first | refine Ow.s0 Ot.ty HO.out rfl rfl rfl rfl rfl (by first | exact Ow.ev_tmp rfl | rfl) (by first | (refine ⟨?_, ?_, ?_⟩ <;> (rfl)) | fail) ?_ | refine Ow.sp Ot.ty HO.out rfl rfl rfl rfl rfl (by first | exact Ow.ev_tmp rfl | rfl) (by first | (refine ⟨?_, ?_, ?_⟩ <;> (rfl)) | fail) ?_); clear HO; intro wz_ HO; simp only [List.set_cons_zero, List.set_cons_succ] at HO))
  refine' bodyPost_ret (results_cell_row rfl _ _ gb130 27 _ (0, 0) _ rfl ?hb_ Try.underlying27 rfl ?hi_) rfl ?_
  case hb_ => refine' Ow.Own.get HO.out 0 ?hk_; (case hk_ => rfl)
  case hi_ => exact (Ot.ty.size 27 rfl).trans (congrArg some (by rfl))
  all_goals exact ⟨by first | rfl | (simp [errW_none, errW_some] <;> rfl) | (simp [*, errW_none, errW_some] <;> rfl), Ow.Own.below HO.out⟩

end Go.Proofs.Ytmdpomilhejbcaa.XDC
