-- Written by wip/xprint.py, a session's program: printed out of the translation, with hand-written functions. Lean checks it.
import Derived.Test.YtddlmcaclbkopaaXCD0
import Derived.Test.YtddlmcaclbkopaaXCD10
namespace Go.Proofs.Ytddlmcaclbkopaa.XCD
open Go.RowKit Go.Proofs.YtddlmcaclbkopaaW.PrintWords Go.Proofs.YtddlmcaclbkopaaW.PrintLast Go.Proofs.YtddlmcaclbkopaaW.PrintMore
attribute [local go_sem] max2_int min2_int max_two min_two max_three min_three max_four min_four   -- for this text's walks alone
set_option linter.unusedVariables false
set_option linter.unusedSimpArgs false

/-! ### bursarref23_no: function 56 -/
def bursarref23_no.f (a0 : ByteArray) : Option (ByteArray × ByteArray × ByteArray × ByteArray × Int × Int × Int × Bool × Bool × Int × Int × ByteArray × ByteArray × ByteArray × Int) := some (a0, (⟨#[]⟩ : ByteArray), (⟨#[]⟩ : ByteArray), (⟨#[]⟩ : ByteArray), 0, 0, 0, false, false, 0, 0, (⟨#[]⟩ : ByteArray), (⟨#[]⟩ : ByteArray), (⟨#[]⟩ : ByteArray), 0)
def bursarref23_no.Z15 : Array Value := #[.string (⟨#[]⟩ : ByteArray), .string (⟨#[]⟩ : ByteArray), .string (⟨#[]⟩ : ByteArray), .string (⟨#[]⟩ : ByteArray), .int .i64 0, .int .i64 0, .int .i64 0, .bool false, .bool false, .int .i64 0, .int .i64 0, .string (⟨#[]⟩ : ByteArray), .string (⟨#[]⟩ : ByteArray), .string (⟨#[]⟩ : ByteArray), .int .i64 0]
set_option maxHeartbeats 8000000 in
set_option maxRecDepth 100000 in
theorem bursarref23_no.calls (a0 : ByteArray) (r1 : ByteArray) (r2 : ByteArray) (r3 : ByteArray) (r4 : ByteArray) (r5 : Int) (r6 : Int) (r7 : Int) (r8 : Bool) (r9 : Bool) (r10 : Int) (r11 : Int) (r12 : ByteArray) (r13 : ByteArray) (r14 : ByteArray) (r15 : Int) (w : World) (h : bursarref23_no.f a0 = some (r1, r2, r3, r4, r5, r6, r7, r8, r9, r10, r11, r12, r13, r14, r15)) :
    Calls Try.prog 56 #[.string a0] w fun e w' => e = .returned (.agg #[.string r1, .string r2, .string r3, .string r4, .int .i64 r5, .int .i64 r6, .int .i64 r7, .bool r8, .bool r9, .int .i64 r10, .int .i64 r11, .string r12, .string r13, .string r14, .int .i64 r15]) ∧ Below w.heap.size w w' := by
  have hu53 := Try.underlying53
  have HO := Aside0.mk (Ow.Own.nil w)
  have hmf : ∀ (fn : Fn) (first cap : Array Value) (w : World), (Instr.makeFunc fn first cap).run Try.prog w = .ok (.func fn first cap) w := fun _ _ _ _ => rfl
  have H : (some (a0, (⟨#[]⟩ : ByteArray), (⟨#[]⟩ : ByteArray), (⟨#[]⟩ : ByteArray), 0, 0, 0, false, false, 0, 0, (⟨#[]⟩ : ByteArray), (⟨#[]⟩ : ByteArray), (⟨#[]⟩ : ByteArray), 0)) = some (r1, r2, r3, r4, r5, r6, r7, r8, r9, r10, r11, r12, r13, r14, r15) := h
  clear h
  simp only [Option.some.injEq, Prod.mk.injEq] at H
  obtain ⟨rfl, rfl, rfl, rfl, rfl, rfl, rfl, rfl, rfl, rfl, rfl, rfl, rfl, rfl, rfl⟩ := H
  go_enter Try.func56, Try.ntmps56
  go_wp2_with (first | ((with_reducible refine gate_dst (N := 2) rfl ?_); refine Ow.box rfl (N := 2) rfl (cs := bursarref23_no.Z15) (t := 53) HO.out (by first | (go_simp; done) | (go_simp; rfl)) ?_; clear HO; intro gb250 w2 HO; simp only [List.cons_append, List.nil_append] at HO) | ((with_reducible refine Ow.gate_build rfl ?_); (try (refine gate_guard (by rfl) ?_; dsimp only)); refine' Ow.tbuild Ot.bd rfl rfl rfl ?hf_ ?_; (case hf_ => repeat (any_goals (first | exact Ow.Fills.nil | (refine' Ow.Fills.c ?hv_ rfl ?hz_ ?_; (case hv_ => first | exact Ow.ev_tmp rfl | rfl); (case hz_ => first | (refine ⟨?_, ?_⟩ <;> (rfl)) | fail)))))) | ((with_reducible refine gate_store rfl ?_); (try (refine gate_guard (by rfl) ?_; dsimp only)); (first | refine Ow.s0 Ot.ty HO.out rfl rfl rfl rfl rfl (by first | exact Ow.ev_tmp rfl | rfl) (by first | (refine ⟨?_, ?_, ?_⟩ <;> (rfl)) | fail) ?_ | refine Ow.sp Ot.ty HO.out rfl rfl rfl rfl rfl (by first | exact Ow.ev_tmp rfl | rfl) (by first | (refine ⟨?_, ?_, ?_⟩ <;> (rfl)) | fail) ?_); clear HO; intro wz_ HO; simp only [List.set_cons_zero, List.set_cons_succ] at HO))
  refine' bodyPost_ret (results_cell_row rfl _ _ gb250 53 _ (0, 0) _ rfl ?hb_ Try.underlying53 rfl ?hi_) rfl ?_
  case hb_ => refine' Ow.Own.get HO.out 0 ?hk_; (case hk_ => rfl)
  case hi_ => exact (Ot.ty.size 53 rfl).trans (congrArg some (by rfl))
  all_goals exact ⟨by first | rfl | (simp [errW_none, errW_some] <;> rfl) | (simp [*, errW_none, errW_some] <;> rfl), Ow.Own.below HO.out⟩

/-! ### bursarref14_Left: function 30 -/
def bursarref14_Left.f (a0_0 : ByteArray) (a0_1 : ByteArray) (a0_2 : ByteArray) (a0_3 : Int) (a0_4 : Int) (a0_5 : Int) (a0_6 : Bool) : Option (Int) := if a0_6 = true then (some (wrap64 (a0_3 - a0_4))) else (some 0)
set_option maxHeartbeats 8000000 in
set_option maxRecDepth 100000 in
theorem bursarref14_Left.calls (a0_0 : ByteArray) (a0_1 : ByteArray) (a0_2 : ByteArray) (a0_3 : Int) (a0_4 : Int) (a0_5 : Int) (a0_6 : Bool) (r : Int) (w : World) (h : bursarref14_Left.f a0_0 a0_1 a0_2 a0_3 a0_4 a0_5 a0_6 = some r) :
    Calls Try.prog 30 #[.agg #[.string a0_0, .string a0_1, .string a0_2, .int .i64 a0_3, .int .i64 a0_4, .int .i64 a0_5, .bool a0_6]] w fun e w' => e = .returned (.int .i64 r) ∧ Below w.heap.size w w' := by
  have hu25 := Try.underlying25
  have HO := Aside0.mk (Ow.Own.nil w)
  have hmf : ∀ (fn : Fn) (first cap : Array Value) (w : World), (Instr.makeFunc fn first cap).run Try.prog w = .ok (.func fn first cap) w := fun _ _ _ _ => rfl
  have H : (if a0_6 = true then (some (wrap64 (a0_3 - a0_4))) else (some 0)) = some r := h
  clear h
  by_cases c2 : a0_6 = true
  · subst c2
    have H1 : (some (wrap64 (a0_3 - a0_4))) = some r := by rw [if_pos rfl] at H; exact H
    clear H
    have H := H1
    clear H1
    obtain rfl := Option.some.inj H
    obtain ⟨Q0, hQ0_⟩ : ∃ q_ : Array Value, q_ = (#[.string a0_0, .string a0_1, .string a0_2, .int .i64 a0_3, .int .i64 a0_4, .int .i64 a0_5, .bool true] : Array Value) := ⟨_, rfl⟩
    try rw [← hQ0_]
    have hQ0 := Aside0.mk hQ0_; have hq := Aside0.mk hQ0_; clear hQ0_
    go_enter Try.func30, Try.ntmps30
    go_wp2_with (first | ((with_reducible refine gate_dst (N := 1) rfl ?_); refine Ow.box rfl (N := 1) rfl (cs := Q0) (t := 25) HO.out (by first | (go_simp; done) | (go_simp; rfl)) ?_; clear HO; intro gb251 w3 HO; simp only [List.cons_append, List.nil_append] at HO) | ((with_reducible refine Ow.gate_load rfl ?_); (try (refine gate_guard (by rfl) ?_; dsimp only)); (first | refine Ow.l1 Ot.ty HO.out rfl rfl rfl rfl (by first | ((try simp only [hq.1]) <;> rfl) | fail) ?_)))
    all_goals go_ret
    all_goals exact ⟨by first | rfl | (simp only [hq.1]; done) | (simp only [hq.1]; rfl) | (simp [errW_none, errW_some] <;> rfl) | (simp [*, errW_none, errW_some] <;> rfl), Ow.Own.below HO.out⟩
  · replace c2 := Bool.eq_false_iff.mpr c2
    subst c2
    have H1 : (some 0) = some r := by rw [if_neg (show ¬ (false = true) by decide)] at H; exact H
    clear H
    have H := H1
    clear H1
    obtain rfl := Option.some.inj H
    obtain ⟨Q1, hQ1_⟩ : ∃ q_ : Array Value, q_ = (#[.string a0_0, .string a0_1, .string a0_2, .int .i64 a0_3, .int .i64 a0_4, .int .i64 a0_5, .bool false] : Array Value) := ⟨_, rfl⟩
    try rw [← hQ1_]
    have hQ1 := Aside0.mk hQ1_; have hq := Aside0.mk hQ1_; clear hQ1_
    go_enter Try.func30, Try.ntmps30
    go_wp2_with (first | ((with_reducible refine gate_dst (N := 1) rfl ?_); refine Ow.box rfl (N := 1) rfl (cs := Q1) (t := 25) HO.out (by first | (go_simp; done) | (go_simp; rfl)) ?_; clear HO; intro gb251 w5 HO; simp only [List.cons_append, List.nil_append] at HO) | ((with_reducible refine Ow.gate_load rfl ?_); (try (refine gate_guard (by rfl) ?_; dsimp only)); (first | refine Ow.l1 Ot.ty HO.out rfl rfl rfl rfl (by first | ((try simp only [hq.1]) <;> rfl) | fail) ?_)))
    all_goals go_ret
    all_goals exact ⟨by first | rfl | (simp only [hq.1]; done) | (simp only [hq.1]; rfl) | (simp [errW_none, errW_some] <;> rfl) | (simp [*, errW_none, errW_some] <;> rfl), Ow.Own.below HO.out⟩

/-! ### bursarref14_wrong: function 74 -/
def bursarref14_wrong.f (a0_0 : ByteArray) (a0_1 : ByteArray) (a0_2 : ByteArray) (a0_3 : Int) (a0_4 : Int) (a0_5 : Int) (a0_6 : Bool) (a1 : Int) : Option (Int) := (bursarref14_May.f a0_0 a0_1 a0_2 a0_3 a0_4 a0_5 a0_6).bind fun t253 => (if t253 = true then (if a0_6 = true then (if a1 ≤ 0 then (some 1) else (some 0)) else (some 14)) else (some 1))
set_option maxHeartbeats 8000000 in
set_option maxRecDepth 100000 in
theorem bursarref14_wrong.calls (a0_0 : ByteArray) (a0_1 : ByteArray) (a0_2 : ByteArray) (a0_3 : Int) (a0_4 : Int) (a0_5 : Int) (a0_6 : Bool) (a1 : Int) (r : Int) (w : World) (h : bursarref14_wrong.f a0_0 a0_1 a0_2 a0_3 a0_4 a0_5 a0_6 a1 = some r) :
    Calls Try.prog 74 #[.agg #[.string a0_0, .string a0_1, .string a0_2, .int .i64 a0_3, .int .i64 a0_4, .int .i64 a0_5, .bool a0_6], .int .i64 a1] w fun e w' => e = .returned (.int .i64 r) ∧ Below w.heap.size w w' := by
  have hu25 := Try.underlying25
  have HO := Aside0.mk (Ow.Own.nil w)
  have hmf : ∀ (fn : Fn) (first cap : Array Value) (w : World), (Instr.makeFunc fn first cap).run Try.prog w = .ok (.func fn first cap) w := fun _ _ _ _ => rfl
  have H : ((bursarref14_May.f a0_0 a0_1 a0_2 a0_3 a0_4 a0_5 a0_6).bind fun t253 => (if t253 = true then (if a0_6 = true then (if a1 ≤ 0 then (some 1) else (some 0)) else (some 14)) else (some 1))) = some r := h
  clear h
  replace H := Option.bind_eq_some_iff.mp H
  obtain ⟨t253, A30, H⟩ := H
  replace H : (if t253 = true then (if a0_6 = true then (if a1 ≤ 0 then (some 1) else (some 0)) else (some 14)) else (some 1)) = some r := H
  have A3 := Aside0.mk A30
  clear A30
  by_cases c4 : t253 = true
  · subst c4
    have H1 : (if a0_6 = true then (if a1 ≤ 0 then (some 1) else (some 0)) else (some 14)) = some r := by rw [if_pos rfl] at H; exact H
    clear H
    have H := H1
    clear H1
    by_cases c5 : a0_6 = true
    · subst c5
      have H1 : (if a1 ≤ 0 then (some 1) else (some 0)) = some r := by rw [if_pos rfl] at H; exact H
      clear H
      have H := H1
      clear H1
      by_cases c6 : a1 ≤ 0
      · rw [if_pos c6] at H
        have c6b0 : decide (a1 ≤ 0) = true := decide_eq_true c6
        clear c6
        obtain rfl := Option.some.inj H
        obtain ⟨Q0, hQ0_⟩ : ∃ q_ : Array Value, q_ = (#[.string a0_0, .string a0_1, .string a0_2, .int .i64 a0_3, .int .i64 a0_4, .int .i64 a0_5, .bool true] : Array Value) := ⟨_, rfl⟩
        try rw [← hQ0_]
        have hQ0 := Aside0.mk hQ0_; have hq := Aside0.mk hQ0_; clear hQ0_
        go_enter Try.func74, Try.ntmps74
        go_wp2_with (first | ((with_reducible refine gate_dst (N := 2) rfl ?_); refine Ow.box rfl (N := 2) rfl (cs := Q0) (t := 25) HO.out (by first | (go_simp; done) | (go_simp; rfl)) ?_; clear HO; intro gb252 w7 HO; simp only [List.cons_append, List.nil_append] at HO) | ((with_reducible refine gate_callee (f := 31) rfl ?_); refine goesL_ (some 6) rfl rfl Try.func31 (by kernel_rfl) rfl #[.agg #[.string a0_0, .string a0_1, .string a0_2, .int .i64 a0_3, .int .i64 a0_4, .int .i64 a0_5, .bool true]] rfl (by (try simp only [List.map_toArray, List.map_cons, List.map_nil]); first | done | rfl | (simp only [hq.1]; done) | (simp only [hq.1]; rfl)) ?_; refine Calls.mono (calls_of_args (by first | ((try simp only [hq.1]) <;> rfl) | fail) (bursarref14_May.calls a0_0 a0_1 a0_2 a0_3 a0_4 a0_5 true true _ A3.out)) ?_; rintro e w9 ⟨he_, hb⟩; subst he_; refine ⟨_, rfl, ?_⟩; replace HO := Aside0.mk (Ow.Own.call HO.out hb); clear hb) | ((with_reducible refine Ow.gate_load rfl ?_); (try (refine gate_guard (by rfl) ?_; dsimp only)); (first | refine Ow.l1 Ot.ty HO.out rfl rfl rfl rfl (by first | ((try simp only [hq.1]) <;> rfl) | fail) ?_ | refine Ow.l0 Ot.ty HO.out rfl rfl rfl rfl (by first | ((try simp only [hq.1]) <;> rfl) | fail) ?_ | refine Ow.lp Ot.ty HO.out rfl rfl rfl rfl (by first | ((try simp only [hq.1]) <;> rfl) | fail) ?_)))
        all_goals go_ret
        all_goals exact ⟨by first | rfl | (simp only [hq.1]; done) | (simp only [hq.1]; rfl) | (simp [errW_none, errW_some] <;> rfl) | (simp [*, errW_none, errW_some] <;> rfl), Ow.Own.below HO.out⟩
      · rw [if_neg c6] at H
        have c6b0 : decide (a1 ≤ 0) = false := decide_eq_false c6
        clear c6
        obtain rfl := Option.some.inj H
        obtain ⟨Q1, hQ1_⟩ : ∃ q_ : Array Value, q_ = (#[.string a0_0, .string a0_1, .string a0_2, .int .i64 a0_3, .int .i64 a0_4, .int .i64 a0_5, .bool true] : Array Value) := ⟨_, rfl⟩
        try rw [← hQ1_]
        have hQ1 := Aside0.mk hQ1_; have hq := Aside0.mk hQ1_; clear hQ1_
        go_enter Try.func74, Try.ntmps74
        go_wp2_with (first | ((with_reducible refine gate_dst (N := 2) rfl ?_); refine Ow.box rfl (N := 2) rfl (cs := Q1) (t := 25) HO.out (by first | (go_simp; done) | (go_simp; rfl)) ?_; clear HO; intro gb252 w11 HO; simp only [List.cons_append, List.nil_append] at HO) | ((with_reducible refine gate_callee (f := 31) rfl ?_); refine goesL_ (some 6) rfl rfl Try.func31 (by kernel_rfl) rfl #[.agg #[.string a0_0, .string a0_1, .string a0_2, .int .i64 a0_3, .int .i64 a0_4, .int .i64 a0_5, .bool true]] rfl (by (try simp only [List.map_toArray, List.map_cons, List.map_nil]); first | done | rfl | (simp only [hq.1]; done) | (simp only [hq.1]; rfl)) ?_; refine Calls.mono (calls_of_args (by first | ((try simp only [hq.1]) <;> rfl) | fail) (bursarref14_May.calls a0_0 a0_1 a0_2 a0_3 a0_4 a0_5 true true _ A3.out)) ?_; rintro e w13 ⟨he_, hb⟩; subst he_; refine ⟨_, rfl, ?_⟩; replace HO := Aside0.mk (Ow.Own.call HO.out hb); clear hb) | ((with_reducible refine Ow.gate_load rfl ?_); (try (refine gate_guard (by rfl) ?_; dsimp only)); (first | refine Ow.l1 Ot.ty HO.out rfl rfl rfl rfl (by first | ((try simp only [hq.1]) <;> rfl) | fail) ?_ | refine Ow.l0 Ot.ty HO.out rfl rfl rfl rfl (by first | ((try simp only [hq.1]) <;> rfl) | fail) ?_ | refine Ow.lp Ot.ty HO.out rfl rfl rfl rfl (by first | ((try simp only [hq.1]) <;> rfl) | fail) ?_)))
        all_goals go_ret
        all_goals exact ⟨by first | rfl | (simp only [hq.1]; done) | (simp only [hq.1]; rfl) | (simp [errW_none, errW_some] <;> rfl) | (simp [*, errW_none, errW_some] <;> rfl), Ow.Own.below HO.out⟩
    · replace c5 := Bool.eq_false_iff.mpr c5
      subst c5
      have H1 : (some 14) = some r := by rw [if_neg (show ¬ (false = true) by decide)] at H; exact H
      clear H
      have H := H1
      clear H1
      obtain rfl := Option.some.inj H
      obtain ⟨Q2, hQ2_⟩ : ∃ q_ : Array Value, q_ = (#[.string a0_0, .string a0_1, .string a0_2, .int .i64 a0_3, .int .i64 a0_4, .int .i64 a0_5, .bool false] : Array Value) := ⟨_, rfl⟩
      try rw [← hQ2_]
      have hQ2 := Aside0.mk hQ2_; have hq := Aside0.mk hQ2_; clear hQ2_
      go_enter Try.func74, Try.ntmps74
      go_wp2_with (first | ((with_reducible refine gate_dst (N := 2) rfl ?_); refine Ow.box rfl (N := 2) rfl (cs := Q2) (t := 25) HO.out (by first | (go_simp; done) | (go_simp; rfl)) ?_; clear HO; intro gb252 w15 HO; simp only [List.cons_append, List.nil_append] at HO) | ((with_reducible refine gate_callee (f := 31) rfl ?_); refine goesL_ (some 6) rfl rfl Try.func31 (by kernel_rfl) rfl #[.agg #[.string a0_0, .string a0_1, .string a0_2, .int .i64 a0_3, .int .i64 a0_4, .int .i64 a0_5, .bool false]] rfl (by (try simp only [List.map_toArray, List.map_cons, List.map_nil]); first | done | rfl | (simp only [hq.1]; done) | (simp only [hq.1]; rfl)) ?_; refine Calls.mono (calls_of_args (by first | ((try simp only [hq.1]) <;> rfl) | fail) (bursarref14_May.calls a0_0 a0_1 a0_2 a0_3 a0_4 a0_5 false true _ A3.out)) ?_; rintro e w17 ⟨he_, hb⟩; subst he_; refine ⟨_, rfl, ?_⟩; replace HO := Aside0.mk (Ow.Own.call HO.out hb); clear hb) | ((with_reducible refine Ow.gate_load rfl ?_); (try (refine gate_guard (by rfl) ?_; dsimp only)); (first | refine Ow.l1 Ot.ty HO.out rfl rfl rfl rfl (by first | ((try simp only [hq.1]) <;> rfl) | fail) ?_ | refine Ow.l0 Ot.ty HO.out rfl rfl rfl rfl (by first | ((try simp only [hq.1]) <;> rfl) | fail) ?_ | refine Ow.lp Ot.ty HO.out rfl rfl rfl rfl (by first | ((try simp only [hq.1]) <;> rfl) | fail) ?_)))
      all_goals go_ret
      all_goals exact ⟨by first | rfl | (simp only [hq.1]; done) | (simp only [hq.1]; rfl) | (simp [errW_none, errW_some] <;> rfl) | (simp [*, errW_none, errW_some] <;> rfl), Ow.Own.below HO.out⟩
  · replace c4 := Bool.eq_false_iff.mpr c4
    subst c4
    have H1 : (some 1) = some r := by rw [if_neg (show ¬ (false = true) by decide)] at H; exact H
    clear H
    have H := H1
    clear H1
    obtain rfl := Option.some.inj H
    obtain ⟨Q3, hQ3_⟩ : ∃ q_ : Array Value, q_ = (#[.string a0_0, .string a0_1, .string a0_2, .int .i64 a0_3, .int .i64 a0_4, .int .i64 a0_5, .bool a0_6] : Array Value) := ⟨_, rfl⟩
    try rw [← hQ3_]
    have hQ3 := Aside0.mk hQ3_; have hq := Aside0.mk hQ3_; clear hQ3_
    go_enter Try.func74, Try.ntmps74
    go_wp2_with (first | ((with_reducible refine gate_dst (N := 2) rfl ?_); refine Ow.box rfl (N := 2) rfl (cs := Q3) (t := 25) HO.out (by first | (go_simp; done) | (go_simp; rfl)) ?_; clear HO; intro gb252 w19 HO; simp only [List.cons_append, List.nil_append] at HO) | ((with_reducible refine gate_callee (f := 31) rfl ?_); refine goesL_ (some 6) rfl rfl Try.func31 (by kernel_rfl) rfl #[.agg #[.string a0_0, .string a0_1, .string a0_2, .int .i64 a0_3, .int .i64 a0_4, .int .i64 a0_5, .bool a0_6]] rfl (by (try simp only [List.map_toArray, List.map_cons, List.map_nil]); first | done | rfl | (simp only [hq.1]; done) | (simp only [hq.1]; rfl)) ?_; refine Calls.mono (calls_of_args (by first | ((try simp only [hq.1]) <;> rfl) | fail) (bursarref14_May.calls a0_0 a0_1 a0_2 a0_3 a0_4 a0_5 a0_6 false _ A3.out)) ?_; rintro e w21 ⟨he_, hb⟩; subst he_; refine ⟨_, rfl, ?_⟩; replace HO := Aside0.mk (Ow.Own.call HO.out hb); clear hb) | ((with_reducible refine Ow.gate_load rfl ?_); (try (refine gate_guard (by rfl) ?_; dsimp only)); (first | refine Ow.l1 Ot.ty HO.out rfl rfl rfl rfl (by first | ((try simp only [hq.1]) <;> rfl) | fail) ?_ | refine Ow.l0 Ot.ty HO.out rfl rfl rfl rfl (by first | ((try simp only [hq.1]) <;> rfl) | fail) ?_ | refine Ow.lp Ot.ty HO.out rfl rfl rfl rfl (by first | ((try simp only [hq.1]) <;> rfl) | fail) ?_)))
    all_goals go_ret
    all_goals exact ⟨by first | rfl | (simp only [hq.1]; done) | (simp only [hq.1]; rfl) | (simp [errW_none, errW_some] <;> rfl) | (simp [*, errW_none, errW_some] <;> rfl), Ow.Own.below HO.out⟩

/-! ### bursarref14_Take: function 57 -/
def bursarref14_Take.f (a0_0 : ByteArray) (a0_1 : ByteArray) (a0_2 : ByteArray) (a0_3 : Int) (a0_4 : Int) (a0_5 : Int) (a0_6 : Bool) (a1 : Int) (a2 : Bool) : Option (ByteArray × ByteArray × ByteArray × Int × Int × Int × Bool × Int) := (bursarref14_wrong.f a0_0 a0_1 a0_2 a0_3 a0_4 a0_5 a0_6 a1).bind fun t256 => (if t256 = 0 then ((bursarref14_Left.f a0_0 a0_1 a0_2 a0_3 a0_4 a0_5 a0_6).bind fun t257 => (if t257 < a1 then (some ((⟨#[]⟩ : ByteArray), (⟨#[]⟩ : ByteArray), (⟨#[]⟩ : ByteArray), 0, 0, 0, false, 13)) else (if a2 = true then (some (a0_0, a0_1, a0_2, a0_3, wrap64 (a0_4 + a1), a0_5, false, 0)) else (if (wrap64 (a0_4 + a1)) = a0_3 then (some (a0_0, a0_1, a0_2, a0_3, wrap64 (a0_4 + a1), a0_5, false, 0)) else (some (a0_0, a0_1, a0_2, a0_3, wrap64 (a0_4 + a1), a0_5, a0_6, 0)))))) else (some ((⟨#[]⟩ : ByteArray), (⟨#[]⟩ : ByteArray), (⟨#[]⟩ : ByteArray), 0, 0, 0, false, t256)))
def bursarref14_Take.Z7 : Array Value := #[.string (⟨#[]⟩ : ByteArray), .string (⟨#[]⟩ : ByteArray), .string (⟨#[]⟩ : ByteArray), .int .i64 0, .int .i64 0, .int .i64 0, .bool false]
set_option maxHeartbeats 8000000 in
set_option maxRecDepth 100000 in
theorem bursarref14_Take.calls (a0_0 : ByteArray) (a0_1 : ByteArray) (a0_2 : ByteArray) (a0_3 : Int) (a0_4 : Int) (a0_5 : Int) (a0_6 : Bool) (a1 : Int) (a2 : Bool) (r1 : ByteArray) (r2 : ByteArray) (r3 : ByteArray) (r4 : Int) (r5 : Int) (r6 : Int) (r7 : Bool) (r8 : Int) (w : World) (h : bursarref14_Take.f a0_0 a0_1 a0_2 a0_3 a0_4 a0_5 a0_6 a1 a2 = some (r1, r2, r3, r4, r5, r6, r7, r8)) :
    Calls Try.prog 57 #[.agg #[.string a0_0, .string a0_1, .string a0_2, .int .i64 a0_3, .int .i64 a0_4, .int .i64 a0_5, .bool a0_6], .int .i64 a1, .bool a2] w fun e w' => e = .returned (.tuple #[.agg #[.string r1, .string r2, .string r3, .int .i64 r4, .int .i64 r5, .int .i64 r6, .bool r7], .int .i64 r8]) ∧ Below w.heap.size w w' := by
  have hu25 := Try.underlying25
  have HO := Aside0.mk (Ow.Own.nil w)
  have hmf : ∀ (fn : Fn) (first cap : Array Value) (w : World), (Instr.makeFunc fn first cap).run Try.prog w = .ok (.func fn first cap) w := fun _ _ _ _ => rfl
  have H : ((bursarref14_wrong.f a0_0 a0_1 a0_2 a0_3 a0_4 a0_5 a0_6 a1).bind fun t256 => (if t256 = 0 then ((bursarref14_Left.f a0_0 a0_1 a0_2 a0_3 a0_4 a0_5 a0_6).bind fun t257 => (if t257 < a1 then (some ((⟨#[]⟩ : ByteArray), (⟨#[]⟩ : ByteArray), (⟨#[]⟩ : ByteArray), 0, 0, 0, false, 13)) else (if a2 = true then (some (a0_0, a0_1, a0_2, a0_3, wrap64 (a0_4 + a1), a0_5, false, 0)) else (if (wrap64 (a0_4 + a1)) = a0_3 then (some (a0_0, a0_1, a0_2, a0_3, wrap64 (a0_4 + a1), a0_5, false, 0)) else (some (a0_0, a0_1, a0_2, a0_3, wrap64 (a0_4 + a1), a0_5, a0_6, 0)))))) else (some ((⟨#[]⟩ : ByteArray), (⟨#[]⟩ : ByteArray), (⟨#[]⟩ : ByteArray), 0, 0, 0, false, t256)))) = some (r1, r2, r3, r4, r5, r6, r7, r8) := h
  clear h
  replace H := Option.bind_eq_some_iff.mp H
  obtain ⟨t256, A40, H⟩ := H
  replace H : (if t256 = 0 then ((bursarref14_Left.f a0_0 a0_1 a0_2 a0_3 a0_4 a0_5 a0_6).bind fun t257 => (if t257 < a1 then (some ((⟨#[]⟩ : ByteArray), (⟨#[]⟩ : ByteArray), (⟨#[]⟩ : ByteArray), 0, 0, 0, false, 13)) else (if a2 = true then (some (a0_0, a0_1, a0_2, a0_3, wrap64 (a0_4 + a1), a0_5, false, 0)) else (if (wrap64 (a0_4 + a1)) = a0_3 then (some (a0_0, a0_1, a0_2, a0_3, wrap64 (a0_4 + a1), a0_5, false, 0)) else (some (a0_0, a0_1, a0_2, a0_3, wrap64 (a0_4 + a1), a0_5, a0_6, 0)))))) else (some ((⟨#[]⟩ : ByteArray), (⟨#[]⟩ : ByteArray), (⟨#[]⟩ : ByteArray), 0, 0, 0, false, t256))) = some (r1, r2, r3, r4, r5, r6, r7, r8) := H
  have A4 := Aside0.mk A40
  clear A40
  by_cases c5 : t256 = 0
  · rw [if_pos c5] at H
    have c5b0 : (t256 == 0) = true := beq_iff_eq.mpr c5
    have c5b1 : (t256 != 0) = false := bne_eq_false_iff_eq.mpr c5
    clear c5
    replace H := Option.bind_eq_some_iff.mp H
    obtain ⟨t257, A60, H⟩ := H
    replace H : (if t257 < a1 then (some ((⟨#[]⟩ : ByteArray), (⟨#[]⟩ : ByteArray), (⟨#[]⟩ : ByteArray), 0, 0, 0, false, 13)) else (if a2 = true then (some (a0_0, a0_1, a0_2, a0_3, wrap64 (a0_4 + a1), a0_5, false, 0)) else (if (wrap64 (a0_4 + a1)) = a0_3 then (some (a0_0, a0_1, a0_2, a0_3, wrap64 (a0_4 + a1), a0_5, false, 0)) else (some (a0_0, a0_1, a0_2, a0_3, wrap64 (a0_4 + a1), a0_5, a0_6, 0))))) = some (r1, r2, r3, r4, r5, r6, r7, r8) := H
    have A6 := Aside0.mk A60
    clear A60
    by_cases c7 : t257 < a1
    · rw [if_pos c7] at H
      have c7b0 : decide (t257 < a1) = true := decide_eq_true c7
      clear c7
      simp only [Option.some.injEq, Prod.mk.injEq] at H
      obtain ⟨rfl, rfl, rfl, rfl, rfl, rfl, rfl, rfl⟩ := H
      obtain ⟨Q0, hQ0_⟩ : ∃ q_ : Array Value, q_ = (#[.string a0_0, .string a0_1, .string a0_2, .int .i64 a0_3, .int .i64 a0_4, .int .i64 a0_5, .bool a0_6] : Array Value) := ⟨_, rfl⟩
      try rw [← hQ0_]
      have hQ0 := Aside0.mk hQ0_; have hq := Aside0.mk hQ0_; clear hQ0_
      go_enter Try.func57, Try.ntmps57
      go_wp2_with (first | ((with_reducible refine gate_dst (N := 3) rfl ?_); refine Ow.box rfl (N := 3) rfl (cs := Q0) (t := 25) HO.out (by first | (go_simp; done) | (go_simp; rfl)) ?_; clear HO; intro gb254 w8 HO; simp only [List.cons_append, List.nil_append] at HO) | ((with_reducible refine gate_dst (N := 6) rfl ?_); refine Ow.box rfl (N := 6) rfl (cs := bursarref14_Take.Z7) (t := 25) HO.out (by first | (go_simp; done) | (go_simp; rfl)) ?_; clear HO; intro gb255 w9 HO; simp only [List.cons_append, List.nil_append] at HO) | ((with_reducible refine gate_callee (f := 74) rfl ?_); refine goesL_ (some 11) rfl rfl Try.func74 (by kernel_rfl) rfl #[.agg #[.string a0_0, .string a0_1, .string a0_2, .int .i64 a0_3, .int .i64 a0_4, .int .i64 a0_5, .bool a0_6], .int .i64 a1] rfl (by (try simp only [List.map_toArray, List.map_cons, List.map_nil]); first | done | rfl | (simp only [hq.1]; done) | (simp only [hq.1]; rfl)) ?_; refine Calls.mono (calls_of_args (by first | ((try simp only [hq.1]) <;> rfl) | fail) (bursarref14_wrong.calls a0_0 a0_1 a0_2 a0_3 a0_4 a0_5 a0_6 a1 t256 _ A4.out)) ?_; rintro e w12 ⟨he_, hb⟩; subst he_; refine ⟨_, rfl, ?_⟩; replace HO := Aside0.mk (Ow.Own.call HO.out hb); clear hb) | ((with_reducible refine gate_callee (f := 30) rfl ?_); refine goesL_ (some 17) rfl rfl Try.func30 (by kernel_rfl) rfl #[.agg #[.string a0_0, .string a0_1, .string a0_2, .int .i64 a0_3, .int .i64 a0_4, .int .i64 a0_5, .bool a0_6]] rfl (by (try simp only [List.map_toArray, List.map_cons, List.map_nil]); first | done | rfl | (simp only [hq.1]; done) | (simp only [hq.1]; rfl)) ?_; refine Calls.mono (calls_of_args (by first | ((try simp only [hq.1]) <;> rfl) | fail) (bursarref14_Left.calls a0_0 a0_1 a0_2 a0_3 a0_4 a0_5 a0_6 t257 _ A6.out)) ?_; rintro e w14 ⟨he_, hb⟩; subst he_; refine ⟨_, rfl, ?_⟩; replace HO := Aside0.mk (Ow.Own.call HO.out hb); clear hb) | ((with_reducible refine Ow.gate_build rfl ?_); (try (refine gate_guard (by rfl) ?_; dsimp only)); refine' Ow.tbuild Ot.bd rfl rfl rfl ?hf_ ?_; (case hf_ => repeat (any_goals (first | exact Ow.Fills.nil | (refine' Ow.Fills.c ?hv_ rfl ?hz_ ?_; (case hv_ => first | exact Ow.ev_tmp rfl | rfl); (case hz_ => first | (refine ⟨?_, ?_⟩ <;> (first | ((try simp only [hq.1]) <;> rfl) | fail)) | fail)))))) | ((with_reducible refine Ow.gate_load rfl ?_); (try (refine gate_guard (by rfl) ?_; dsimp only)); (first | refine Ow.l1 Ot.ty HO.out rfl rfl rfl rfl (by first | ((try simp only [hq.1]) <;> rfl) | fail) ?_ | refine Ow.l0 Ot.ty HO.out rfl rfl rfl rfl (by first | ((try simp only [hq.1]) <;> rfl) | fail) ?_ | refine Ow.lp Ot.ty HO.out rfl rfl rfl rfl (by first | ((try simp only [hq.1]) <;> rfl) | fail) ?_)) | ((with_reducible refine gate_store rfl ?_); (try (refine gate_guard (by rfl) ?_; dsimp only)); (first | refine Ow.s0 Ot.ty HO.out rfl rfl rfl rfl rfl (by first | exact Ow.ev_tmp rfl | rfl) (by first | (refine ⟨?_, ?_, ?_⟩ <;> (first | ((try simp only [hq.1]) <;> rfl) | fail)) | fail) ?_ | refine Ow.sp Ot.ty HO.out rfl rfl rfl rfl rfl (by first | exact Ow.ev_tmp rfl | rfl) (by first | (refine ⟨?_, ?_, ?_⟩ <;> (first | ((try simp only [hq.1]) <;> rfl) | fail)) | fail) ?_); clear HO; intro wz_ HO; simp only [List.set_cons_zero, List.set_cons_succ] at HO))
      refine' bodyPost_ret (results_ct rfl _ _ gb255 25 _ (0, 0) _ rfl ?hb_ Try.underlying25 rfl ?hi_) rfl ?_
      case hb_ => refine' Ow.Own.get HO.out 1 ?hk_; (case hk_ => rfl)
      case hi_ => exact (Ot.ty.size 25 rfl).trans (congrArg some (by first | ((try simp only [hq.1]) <;> rfl) | fail))
      all_goals exact ⟨by first | rfl | (simp only [hq.1]; done) | (simp only [hq.1]; rfl) | (simp [errW_none, errW_some] <;> rfl) | (simp [*, errW_none, errW_some] <;> rfl), Ow.Own.below HO.out⟩
    · rw [if_neg c7] at H
      have c7b0 : decide (t257 < a1) = false := decide_eq_false c7
      clear c7
      by_cases c17 : a2 = true
      · subst c17
        have H1 : (some (a0_0, a0_1, a0_2, a0_3, wrap64 (a0_4 + a1), a0_5, false, 0)) = some (r1, r2, r3, r4, r5, r6, r7, r8) := by rw [if_pos rfl] at H; exact H
        clear H
        have H := H1
        clear H1
        simp only [Option.some.injEq, Prod.mk.injEq] at H
        obtain ⟨rfl, rfl, rfl, rfl, rfl, rfl, rfl, rfl⟩ := H
        obtain ⟨Q1, hQ1_⟩ : ∃ q_ : Array Value, q_ = (#[.string a0_0, .string a0_1, .string a0_2, .int .i64 a0_3, .int .i64 a0_4, .int .i64 a0_5, .bool a0_6] : Array Value) := ⟨_, rfl⟩
        try rw [← hQ1_]
        have hQ1 := Aside0.mk hQ1_; have hq := Aside0.mk hQ1_; clear hQ1_
        go_enter Try.func57, Try.ntmps57
        go_wp2_with (first | ((with_reducible refine gate_dst (N := 3) rfl ?_); refine Ow.box rfl (N := 3) rfl (cs := Q1) (t := 25) HO.out (by first | (go_simp; done) | (go_simp; rfl)) ?_; clear HO; intro gb254 w18 HO; simp only [List.cons_append, List.nil_append] at HO) | ((with_reducible refine gate_dst (N := 6) rfl ?_); refine Ow.box rfl (N := 6) rfl (cs := bursarref14_Take.Z7) (t := 25) HO.out (by first | (go_simp; done) | (go_simp; rfl)) ?_; clear HO; intro gb255 w19 HO; simp only [List.cons_append, List.nil_append] at HO) | ((with_reducible refine gate_callee (f := 74) rfl ?_); refine goesL_ (some 11) rfl rfl Try.func74 (by kernel_rfl) rfl #[.agg #[.string a0_0, .string a0_1, .string a0_2, .int .i64 a0_3, .int .i64 a0_4, .int .i64 a0_5, .bool a0_6], .int .i64 a1] rfl (by (try simp only [List.map_toArray, List.map_cons, List.map_nil]); first | done | rfl | (simp only [hq.1]; done) | (simp only [hq.1]; rfl)) ?_; refine Calls.mono (calls_of_args (by first | ((try simp only [hq.1]) <;> rfl) | fail) (bursarref14_wrong.calls a0_0 a0_1 a0_2 a0_3 a0_4 a0_5 a0_6 a1 t256 _ A4.out)) ?_; rintro e w22 ⟨he_, hb⟩; subst he_; refine ⟨_, rfl, ?_⟩; replace HO := Aside0.mk (Ow.Own.call HO.out hb); clear hb) | ((with_reducible refine gate_callee (f := 30) rfl ?_); refine goesL_ (some 17) rfl rfl Try.func30 (by kernel_rfl) rfl #[.agg #[.string a0_0, .string a0_1, .string a0_2, .int .i64 a0_3, .int .i64 a0_4, .int .i64 a0_5, .bool a0_6]] rfl (by (try simp only [List.map_toArray, List.map_cons, List.map_nil]); first | done | rfl | (simp only [hq.1]; done) | (simp only [hq.1]; rfl)) ?_; refine Calls.mono (calls_of_args (by first | ((try simp only [hq.1]) <;> rfl) | fail) (bursarref14_Left.calls a0_0 a0_1 a0_2 a0_3 a0_4 a0_5 a0_6 t257 _ A6.out)) ?_; rintro e w24 ⟨he_, hb⟩; subst he_; refine ⟨_, rfl, ?_⟩; replace HO := Aside0.mk (Ow.Own.call HO.out hb); clear hb) | ((with_reducible refine Ow.gate_build rfl ?_); (try (refine gate_guard (by rfl) ?_; dsimp only)); refine' Ow.tbuild Ot.bd rfl rfl rfl ?hf_ ?_; (case hf_ => repeat (any_goals (first | exact Ow.Fills.nil | (refine' Ow.Fills.c ?hv_ rfl ?hz_ ?_; (case hv_ => first | exact Ow.ev_tmp rfl | rfl); (case hz_ => first | (refine ⟨?_, ?_⟩ <;> (first | ((try simp only [hq.1]) <;> rfl) | fail)) | fail)))))) | ((with_reducible refine Ow.gate_load rfl ?_); (try (refine gate_guard (by rfl) ?_; dsimp only)); (first | refine Ow.l1 Ot.ty HO.out rfl rfl rfl rfl (by first | ((try simp only [hq.1]) <;> rfl) | fail) ?_ | refine Ow.l0 Ot.ty HO.out rfl rfl rfl rfl (by first | ((try simp only [hq.1]) <;> rfl) | fail) ?_ | refine Ow.lp Ot.ty HO.out rfl rfl rfl rfl (by first | ((try simp only [hq.1]) <;> rfl) | fail) ?_)) | ((with_reducible refine gate_store rfl ?_); (try (refine gate_guard (by rfl) ?_; dsimp only)); (first | refine Ow.s0 Ot.ty HO.out rfl rfl rfl rfl rfl (by first | exact Ow.ev_tmp rfl | rfl) (by first | (refine ⟨?_, ?_, ?_⟩ <;> (first | ((try simp only [hq.1]) <;> rfl) | fail)) | fail) ?_ | refine Ow.sp Ot.ty HO.out rfl rfl rfl rfl rfl (by first | exact Ow.ev_tmp rfl | rfl) (by first | (refine ⟨?_, ?_, ?_⟩ <;> (first | ((try simp only [hq.1]) <;> rfl) | fail)) | fail) ?_); clear HO; intro wz_ HO; simp only [List.set_cons_zero, List.set_cons_succ] at HO))
        refine' bodyPost_ret (results_ct rfl _ _ gb255 25 _ (0, 0) _ rfl ?hb_ Try.underlying25 rfl ?hi_) rfl ?_
        case hb_ => refine' Ow.Own.get HO.out 1 ?hk_; (case hk_ => rfl)
        case hi_ => exact (Ot.ty.size 25 rfl).trans (congrArg some (by first | ((try simp only [hq.1]) <;> rfl) | fail))
        all_goals exact ⟨by first | rfl | (simp only [hq.1]; done) | (simp only [hq.1]; rfl) | (simp [errW_none, errW_some] <;> rfl) | (simp [*, errW_none, errW_some] <;> rfl), Ow.Own.below HO.out⟩
      · replace c17 := Bool.eq_false_iff.mpr c17
        subst c17
        have H1 : (if (wrap64 (a0_4 + a1)) = a0_3 then (some (a0_0, a0_1, a0_2, a0_3, wrap64 (a0_4 + a1), a0_5, false, 0)) else (some (a0_0, a0_1, a0_2, a0_3, wrap64 (a0_4 + a1), a0_5, a0_6, 0))) = some (r1, r2, r3, r4, r5, r6, r7, r8) := by rw [if_neg (show ¬ (false = true) by decide)] at H; exact H
        clear H
        have H := H1
        clear H1
        by_cases c27 : (wrap64 (a0_4 + a1)) = a0_3
        · rw [if_pos c27] at H
          have c27b0 : ((wrap64 (a0_4 + a1)) == a0_3) = true := beq_iff_eq.mpr c27
          have c27b1 : ((wrap64 (a0_4 + a1)) != a0_3) = false := bne_eq_false_iff_eq.mpr c27
          clear c27
          simp only [Option.some.injEq, Prod.mk.injEq] at H
          obtain ⟨rfl, rfl, rfl, rfl, rfl, rfl, rfl, rfl⟩ := H
          obtain ⟨Q2, hQ2_⟩ : ∃ q_ : Array Value, q_ = (#[.string a0_0, .string a0_1, .string a0_2, .int .i64 a0_3, .int .i64 a0_4, .int .i64 a0_5, .bool a0_6] : Array Value) := ⟨_, rfl⟩
          try rw [← hQ2_]
          have hQ2 := Aside0.mk hQ2_; have hq := Aside0.mk hQ2_; clear hQ2_
          go_enter Try.func57, Try.ntmps57
          go_wp2_with (first | ((with_reducible refine gate_dst (N := 3) rfl ?_); refine Ow.box rfl (N := 3) rfl (cs := Q2) (t := 25) HO.out (by first | (go_simp; done) | (go_simp; rfl)) ?_; clear HO; intro gb254 w28 HO; simp only [List.cons_append, List.nil_append] at HO) | ((with_reducible refine gate_dst (N := 6) rfl ?_); refine Ow.box rfl (N := 6) rfl (cs := bursarref14_Take.Z7) (t := 25) HO.out (by first | (go_simp; done) | (go_simp; rfl)) ?_; clear HO; intro gb255 w29 HO; simp only [List.cons_append, List.nil_append] at HO) | ((with_reducible refine gate_callee (f := 74) rfl ?_); refine goesL_ (some 11) rfl rfl Try.func74 (by kernel_rfl) rfl #[.agg #[.string a0_0, .string a0_1, .string a0_2, .int .i64 a0_3, .int .i64 a0_4, .int .i64 a0_5, .bool a0_6], .int .i64 a1] rfl (by (try simp only [List.map_toArray, List.map_cons, List.map_nil]); first | done | rfl | (simp only [hq.1]; done) | (simp only [hq.1]; rfl)) ?_; refine Calls.mono (calls_of_args (by first | ((try simp only [hq.1]) <;> rfl) | fail) (bursarref14_wrong.calls a0_0 a0_1 a0_2 a0_3 a0_4 a0_5 a0_6 a1 t256 _ A4.out)) ?_; rintro e w32 ⟨he_, hb⟩; subst he_; refine ⟨_, rfl, ?_⟩; replace HO := Aside0.mk (Ow.Own.call HO.out hb); clear hb) | ((with_reducible refine gate_callee (f := 30) rfl ?_); refine goesL_ (some 17) rfl rfl Try.func30 (by kernel_rfl) rfl #[.agg #[.string a0_0, .string a0_1, .string a0_2, .int .i64 a0_3, .int .i64 a0_4, .int .i64 a0_5, .bool a0_6]] rfl (by (try simp only [List.map_toArray, List.map_cons, List.map_nil]); first | done | rfl | (simp only [hq.1]; done) | (simp only [hq.1]; rfl)) ?_; refine Calls.mono (calls_of_args (by first | ((try simp only [hq.1]) <;> rfl) | fail) (bursarref14_Left.calls a0_0 a0_1 a0_2 a0_3 a0_4 a0_5 a0_6 t257 _ A6.out)) ?_; rintro e w34 ⟨he_, hb⟩; subst he_; refine ⟨_, rfl, ?_⟩; replace HO := Aside0.mk (Ow.Own.call HO.out hb); clear hb) | ((with_reducible refine Ow.gate_build rfl ?_); (try (refine gate_guard (by rfl) ?_; dsimp only)); refine' Ow.tbuild Ot.bd rfl rfl rfl ?hf_ ?_; (case hf_ => repeat (any_goals (first | exact Ow.Fills.nil | (refine' Ow.Fills.c ?hv_ rfl ?hz_ ?_; (case hv_ => first | exact Ow.ev_tmp rfl | rfl); (case hz_ => first | (refine ⟨?_, ?_⟩ <;> (first | ((try simp only [hq.1]) <;> rfl) | fail)) | fail)))))) | ((with_reducible refine Ow.gate_load rfl ?_); (try (refine gate_guard (by rfl) ?_; dsimp only)); (first | refine Ow.l1 Ot.ty HO.out rfl rfl rfl rfl (by first | ((try simp only [hq.1]) <;> rfl) | fail) ?_ | refine Ow.l0 Ot.ty HO.out rfl rfl rfl rfl (by first | ((try simp only [hq.1]) <;> rfl) | fail) ?_ | refine Ow.lp Ot.ty HO.out rfl rfl rfl rfl (by first | ((try simp only [hq.1]) <;> rfl) | fail) ?_)) | ((with_reducible refine gate_store rfl ?_); (try (refine gate_guard (by rfl) ?_; dsimp only)); (first | refine Ow.s0 Ot.ty HO.out rfl rfl rfl rfl rfl (by first | exact Ow.ev_tmp rfl | rfl) (by first | (refine ⟨?_, ?_, ?_⟩ <;> (first | ((try simp only [hq.1]) <;> rfl) | fail)) | fail) ?_ | refine Ow.sp Ot.ty HO.out rfl rfl rfl rfl rfl (by first | exact Ow.ev_tmp rfl | rfl) (by first | (refine ⟨?_, ?_, ?_⟩ <;> (first | ((try simp only [hq.1]) <;> rfl) | fail)) | fail) ?_); clear HO; intro wz_ HO; simp only [List.set_cons_zero, List.set_cons_succ] at HO))
          refine' bodyPost_ret (results_ct rfl _ _ gb255 25 _ (0, 0) _ rfl ?hb_ Try.underlying25 rfl ?hi_) rfl ?_
          case hb_ => refine' Ow.Own.get HO.out 1 ?hk_; (case hk_ => rfl)
          case hi_ => exact (Ot.ty.size 25 rfl).trans (congrArg some (by first | ((try simp only [hq.1]) <;> rfl) | fail))
          all_goals exact ⟨by first | rfl | (simp only [hq.1]; done) | (simp only [hq.1]; rfl) | (simp [errW_none, errW_some] <;> rfl) | (simp [*, errW_none, errW_some] <;> rfl), Ow.Own.below HO.out⟩
        · rw [if_neg c27] at H
          have c27b0 : ((wrap64 (a0_4 + a1)) == a0_3) = false := beq_eq_false_iff_ne.mpr c27
          have c27b1 : ((wrap64 (a0_4 + a1)) != a0_3) = true := bne_iff_ne.mpr c27
          simp only [Option.some.injEq, Prod.mk.injEq] at H
          obtain ⟨rfl, rfl, rfl, rfl, rfl, rfl, rfl, rfl⟩ := H
          obtain ⟨Q3, hQ3_⟩ : ∃ q_ : Array Value, q_ = (#[.string a0_0, .string a0_1, .string a0_2, .int .i64 a0_3, .int .i64 a0_4, .int .i64 a0_5, .bool a0_6] : Array Value) := ⟨_, rfl⟩
          try rw [← hQ3_]
          have hQ3 := Aside0.mk hQ3_; have hq := Aside0.mk hQ3_; clear hQ3_
          go_enter Try.func57, Try.ntmps57
          go_wp2_with (first | ((with_reducible refine gate_dst (N := 3) rfl ?_); refine Ow.box rfl (N := 3) rfl (cs := Q3) (t := 25) HO.out (by first | (go_simp; done) | (go_simp; rfl)) ?_; clear HO; intro gb254 w37 HO; simp only [List.cons_append, List.nil_append] at HO) | ((with_reducible refine gate_dst (N := 6) rfl ?_); refine Ow.box rfl (N := 6) rfl (cs := bursarref14_Take.Z7) (t := 25) HO.out (by first | (go_simp; done) | (go_simp; rfl)) ?_; clear HO; intro gb255 w38 HO; simp only [List.cons_append, List.nil_append] at HO) | ((with_reducible refine gate_callee (f := 74) rfl ?_); refine goesL_ (some 11) rfl rfl Try.func74 (by kernel_rfl) rfl #[.agg #[.string a0_0, .string a0_1, .string a0_2, .int .i64 a0_3, .int .i64 a0_4, .int .i64 a0_5, .bool a0_6], .int .i64 a1] rfl (by (try simp only [List.map_toArray, List.map_cons, List.map_nil]); first | done | rfl | (simp only [hq.1]; done) | (simp only [hq.1]; rfl)) ?_; refine Calls.mono (calls_of_args (by first | ((try simp only [hq.1]) <;> rfl) | fail) (bursarref14_wrong.calls a0_0 a0_1 a0_2 a0_3 a0_4 a0_5 a0_6 a1 t256 _ A4.out)) ?_; rintro e w41 ⟨he_, hb⟩; subst he_; refine ⟨_, rfl, ?_⟩; replace HO := Aside0.mk (Ow.Own.call HO.out hb); clear hb) | ((with_reducible refine gate_callee (f := 30) rfl ?_); refine goesL_ (some 17) rfl rfl Try.func30 (by kernel_rfl) rfl #[.agg #[.string a0_0, .string a0_1, .string a0_2, .int .i64 a0_3, .int .i64 a0_4, .int .i64 a0_5, .bool a0_6]] rfl (by (try simp only [List.map_toArray, List.map_cons, List.map_nil]); first | done | rfl | (simp only [hq.1]; done) | (simp only [hq.1]; rfl)) ?_; refine Calls.mono (calls_of_args (by first | ((try simp only [hq.1]) <;> rfl) | fail) (bursarref14_Left.calls a0_0 a0_1 a0_2 a0_3 a0_4 a0_5 a0_6 t257 _ A6.out)) ?_; rintro e w43 ⟨he_, hb⟩; subst he_; refine ⟨_, rfl, ?_⟩; replace HO := Aside0.mk (Ow.Own.call HO.out hb); clear hb) | ((with_reducible refine Ow.gate_build rfl ?_); (try (refine gate_guard (by rfl) ?_; dsimp only)); refine' Ow.tbuild Ot.bd rfl rfl rfl ?hf_ ?_; (case hf_ => repeat (any_goals (first | exact Ow.Fills.nil | (refine' Ow.Fills.c ?hv_ rfl ?hz_ ?_; (case hv_ => first | exact Ow.ev_tmp rfl | rfl); (case hz_ => first | (refine ⟨?_, ?_⟩ <;> (first | ((try simp only [hq.1]) <;> rfl) | fail)) | fail)))))) | ((with_reducible refine Ow.gate_load rfl ?_); (try (refine gate_guard (by rfl) ?_; dsimp only)); (first | refine Ow.l1 Ot.ty HO.out rfl rfl rfl rfl (by first | ((try simp only [hq.1]) <;> rfl) | fail) ?_ | refine Ow.l0 Ot.ty HO.out rfl rfl rfl rfl (by first | ((try simp only [hq.1]) <;> rfl) | fail) ?_ | refine Ow.lp Ot.ty HO.out rfl rfl rfl rfl (by first | ((try simp only [hq.1]) <;> rfl) | fail) ?_)) | ((with_reducible refine gate_store rfl ?_); (try (refine gate_guard (by rfl) ?_; dsimp only)); (first | refine Ow.s0 Ot.ty HO.out rfl rfl rfl rfl rfl (by first | exact Ow.ev_tmp rfl | rfl) (by first | (refine ⟨?_, ?_, ?_⟩ <;> (first | ((try simp only [hq.1]) <;> rfl) | fail)) | fail) ?_ | refine Ow.sp Ot.ty HO.out rfl rfl rfl rfl rfl (by first | exact Ow.ev_tmp rfl | rfl) (by first | (refine ⟨?_, ?_, ?_⟩ <;> (first | ((try simp only [hq.1]) <;> rfl) | fail)) | fail) ?_); clear HO; intro wz_ HO; simp only [List.set_cons_zero, List.set_cons_succ] at HO))
          refine' bodyPost_ret (results_ct rfl _ _ gb255 25 _ (0, 0) _ rfl ?hb_ Try.underlying25 rfl ?hi_) rfl ?_
          case hb_ => refine' Ow.Own.get HO.out 1 ?hk_; (case hk_ => rfl)
          case hi_ => exact (Ot.ty.size 25 rfl).trans (congrArg some (by first | ((try simp only [hq.1]) <;> rfl) | fail))
          all_goals exact ⟨by first | rfl | (simp only [hq.1]; done) | (simp only [hq.1]; rfl) | (simp [errW_none, errW_some] <;> rfl) | (simp [*, errW_none, errW_some] <;> rfl), Ow.Own.below HO.out⟩
  · rw [if_neg c5] at H
    have c5b0 : (t256 == 0) = false := beq_eq_false_iff_ne.mpr c5
    have c5b1 : (t256 != 0) = true := bne_iff_ne.mpr c5
    simp only [Option.some.injEq, Prod.mk.injEq] at H
    obtain ⟨rfl, rfl, rfl, rfl, rfl, rfl, rfl, rfl⟩ := H
    obtain ⟨Q4, hQ4_⟩ : ∃ q_ : Array Value, q_ = (#[.string a0_0, .string a0_1, .string a0_2, .int .i64 a0_3, .int .i64 a0_4, .int .i64 a0_5, .bool a0_6] : Array Value) := ⟨_, rfl⟩
    try rw [← hQ4_]
    have hQ4 := Aside0.mk hQ4_; have hq := Aside0.mk hQ4_; clear hQ4_
    go_enter Try.func57, Try.ntmps57
    go_wp2_with (first | ((with_reducible refine gate_dst (N := 3) rfl ?_); refine Ow.box rfl (N := 3) rfl (cs := Q4) (t := 25) HO.out (by first | (go_simp; done) | (go_simp; rfl)) ?_; clear HO; intro gb254 w46 HO; simp only [List.cons_append, List.nil_append] at HO) | ((with_reducible refine gate_dst (N := 6) rfl ?_); refine Ow.box rfl (N := 6) rfl (cs := bursarref14_Take.Z7) (t := 25) HO.out (by first | (go_simp; done) | (go_simp; rfl)) ?_; clear HO; intro gb255 w47 HO; simp only [List.cons_append, List.nil_append] at HO) | ((with_reducible refine gate_callee (f := 74) rfl ?_); refine goesL_ (some 11) rfl rfl Try.func74 (by kernel_rfl) rfl #[.agg #[.string a0_0, .string a0_1, .string a0_2, .int .i64 a0_3, .int .i64 a0_4, .int .i64 a0_5, .bool a0_6], .int .i64 a1] rfl (by (try simp only [List.map_toArray, List.map_cons, List.map_nil]); first | done | rfl | (simp only [hq.1]; done) | (simp only [hq.1]; rfl)) ?_; refine Calls.mono (calls_of_args (by first | ((try simp only [hq.1]) <;> rfl) | fail) (bursarref14_wrong.calls a0_0 a0_1 a0_2 a0_3 a0_4 a0_5 a0_6 a1 t256 _ A4.out)) ?_; rintro e w50 ⟨he_, hb⟩; subst he_; refine ⟨_, rfl, ?_⟩; replace HO := Aside0.mk (Ow.Own.call HO.out hb); clear hb) | ((with_reducible refine Ow.gate_build rfl ?_); (try (refine gate_guard (by rfl) ?_; dsimp only)); refine' Ow.tbuild Ot.bd rfl rfl rfl ?hf_ ?_; (case hf_ => repeat (any_goals (first | exact Ow.Fills.nil | (refine' Ow.Fills.c ?hv_ rfl ?hz_ ?_; (case hv_ => first | exact Ow.ev_tmp rfl | rfl); (case hz_ => first | (refine ⟨?_, ?_⟩ <;> (first | ((try simp only [hq.1]) <;> rfl) | fail)) | fail)))))) | ((with_reducible refine Ow.gate_load rfl ?_); (try (refine gate_guard (by rfl) ?_; dsimp only)); (first | refine Ow.l1 Ot.ty HO.out rfl rfl rfl rfl (by first | ((try simp only [hq.1]) <;> rfl) | fail) ?_ | refine Ow.l0 Ot.ty HO.out rfl rfl rfl rfl (by first | ((try simp only [hq.1]) <;> rfl) | fail) ?_ | refine Ow.lp Ot.ty HO.out rfl rfl rfl rfl (by first | ((try simp only [hq.1]) <;> rfl) | fail) ?_)) | ((with_reducible refine gate_store rfl ?_); (try (refine gate_guard (by rfl) ?_; dsimp only)); (first | refine Ow.s0 Ot.ty HO.out rfl rfl rfl rfl rfl (by first | exact Ow.ev_tmp rfl | rfl) (by first | (refine ⟨?_, ?_, ?_⟩ <;> (first | ((try simp only [hq.1]) <;> rfl) | fail)) | fail) ?_ | refine Ow.sp Ot.ty HO.out rfl rfl rfl rfl rfl (by first | exact Ow.ev_tmp rfl | rfl) (by first | (refine ⟨?_, ?_, ?_⟩ <;> (first | ((try simp only [hq.1]) <;> rfl) | fail)) | fail) ?_); clear HO; intro wz_ HO; simp only [List.set_cons_zero, List.set_cons_succ] at HO))
    refine' bodyPost_ret (results_ct rfl _ _ gb255 25 _ (0, 0) _ rfl ?hb_ Try.underlying25 rfl ?hi_) rfl ?_
    case hb_ => refine' Ow.Own.get HO.out 1 ?hk_; (case hk_ => rfl)
    case hi_ => exact (Ot.ty.size 25 rfl).trans (congrArg some (by first | ((try simp only [hq.1]) <;> rfl) | fail))
    all_goals exact ⟨by first | rfl | (simp only [hq.1]; done) | (simp only [hq.1]; rfl) | (simp [errW_none, errW_some] <;> rfl) | (simp [*, errW_none, errW_some] <;> rfl), Ow.Own.below HO.out⟩

/-! ### bursarref23_Capture: function 28 -/
mutual
def bursarref23_Capture.j0 : Nat → Bool → ByteArray → ByteArray → ByteArray → Int → ByteArray → ByteArray → ByteArray → ByteArray → ByteArray → Int → Int → ByteArray → Bool → Int → ByteArray → ByteArray → ByteArray → Int → Int → Int → Bool → Bool → Int → Int → Bool → Option (ByteArray × ByteArray × ByteArray × ByteArray × Int × Int × Int × Bool × Bool × Int × Int × ByteArray × ByteArray × ByteArray × Int)
  | 0, _, _, _, _, _, _, _, _, _, _, _, _, _, _, _, _, _, _, _, _, _, _, _, _, _, _ => none
  | k + 1, x19, x259000, x259001, x259002, x259003, x259004, x259005, x259006, x259007, x259008, x259009, x259010, x259011, x259012, x259013, x259014, x259015, x259016, x259017, x259018, x259019, x259020, x259021, x259022, x259023, x259024 => if x19 = true then ((bursarref23_no.f (⟨#[51, 48]⟩ : ByteArray)).bind fun bt261 => (some (bt261.1, bt261.2.1, bt261.2.2.1, bt261.2.2.2.1, bt261.2.2.2.2.1, bt261.2.2.2.2.2.1, bt261.2.2.2.2.2.2.1, bt261.2.2.2.2.2.2.2.1, bt261.2.2.2.2.2.2.2.2.1, bt261.2.2.2.2.2.2.2.2.2.1, bt261.2.2.2.2.2.2.2.2.2.2.1, bt261.2.2.2.2.2.2.2.2.2.2.2.1, bt261.2.2.2.2.2.2.2.2.2.2.2.2.1, bt261.2.2.2.2.2.2.2.2.2.2.2.2.2.1, bt261.2.2.2.2.2.2.2.2.2.2.2.2.2.2))) else (if (x259002.size : Int) ≥ 2 then (if 2 ≤ (x259002.size : Int) then (bursarref23_Capture.j1 k (x259002.extract 0 2) x259000 x259001 x259002 x259003 x259004 x259005 x259006 x259007 x259008 x259009 x259010 x259011 x259012 x259013 x259014 x259015 x259016 x259017 x259018 x259019 x259020 x259021 x259022 x259023 x259024) else (none)) else (bursarref23_Capture.j1 k (⟨#[]⟩ : ByteArray) x259000 x259001 x259002 x259003 x259004 x259005 x259006 x259007 x259008 x259009 x259010 x259011 x259012 x259013 x259014 x259015 x259016 x259017 x259018 x259019 x259020 x259021 x259022 x259023 x259024))
def bursarref23_Capture.j1 : Nat → ByteArray → ByteArray → ByteArray → ByteArray → Int → ByteArray → ByteArray → ByteArray → ByteArray → ByteArray → Int → Int → ByteArray → Bool → Int → ByteArray → ByteArray → ByteArray → Int → Int → Int → Bool → Bool → Int → Int → Bool → Option (ByteArray × ByteArray × ByteArray × ByteArray × Int × Int × Int × Bool × Bool × Int × Int × ByteArray × ByteArray × ByteArray × Int)
  | 0, _, _, _, _, _, _, _, _, _, _, _, _, _, _, _, _, _, _, _, _, _, _, _, _, _, _ => none
  | k + 1, x3, x259000, x259001, x259002, x259003, x259004, x259005, x259006, x259007, x259008, x259009, x259010, x259011, x259012, x259013, x259014, x259015, x259016, x259017, x259018, x259019, x259020, x259021, x259022, x259023, x259024 => if x259024 = true then (bursarref23_Capture.j2 k x3 true x259000 x259001 x259002 x259003 x259004 x259005 x259006 x259007 x259008 x259009 x259010 x259011 x259012 x259013 x259014 x259015 x259016 x259017 x259018 x259019 x259020 x259021 x259022 x259023 x259024) else (if x3.toList = ([48, 48] : List UInt8) then (bursarref23_Capture.j2 k x3 false x259000 x259001 x259002 x259003 x259004 x259005 x259006 x259007 x259008 x259009 x259010 x259011 x259012 x259013 x259014 x259015 x259016 x259017 x259018 x259019 x259020 x259021 x259022 x259023 x259024) else (bursarref23_Capture.j2 k x3 (x3.toList != ([48, 49] : List UInt8)) x259000 x259001 x259002 x259003 x259004 x259005 x259006 x259007 x259008 x259009 x259010 x259011 x259012 x259013 x259014 x259015 x259016 x259017 x259018 x259019 x259020 x259021 x259022 x259023 x259024))
def bursarref23_Capture.j2 : Nat → ByteArray → Bool → ByteArray → ByteArray → ByteArray → Int → ByteArray → ByteArray → ByteArray → ByteArray → ByteArray → Int → Int → ByteArray → Bool → Int → ByteArray → ByteArray → ByteArray → Int → Int → Int → Bool → Bool → Int → Int → Bool → Option (ByteArray × ByteArray × ByteArray × ByteArray × Int × Int × Int × Bool × Bool × Int × Int × ByteArray × ByteArray × ByteArray × Int)
  | 0, _, _, _, _, _, _, _, _, _, _, _, _, _, _, _, _, _, _, _, _, _, _, _, _, _, _, _ => none
  | k + 1, x3, x39, x259000, x259001, x259002, x259003, x259004, x259005, x259006, x259007, x259008, x259009, x259010, x259011, x259012, x259013, x259014, x259015, x259016, x259017, x259018, x259019, x259020, x259021, x259022, x259023, x259024 => if x39 = true then ((bursarref23_no.f (⟨#[49, 50]⟩ : ByteArray)).bind fun bt276 => (some (bt276.1, bt276.2.1, bt276.2.2.1, bt276.2.2.2.1, bt276.2.2.2.2.1, bt276.2.2.2.2.2.1, bt276.2.2.2.2.2.2.1, bt276.2.2.2.2.2.2.2.1, bt276.2.2.2.2.2.2.2.2.1, bt276.2.2.2.2.2.2.2.2.2.1, bt276.2.2.2.2.2.2.2.2.2.2.1, bt276.2.2.2.2.2.2.2.2.2.2.2.1, bt276.2.2.2.2.2.2.2.2.2.2.2.2.1, bt276.2.2.2.2.2.2.2.2.2.2.2.2.2.1, bt276.2.2.2.2.2.2.2.2.2.2.2.2.2.2))) else (if x259012 = true then (if x259003 > 9999999999999 then ((bursarref23_no.f (⟨#[57, 54]⟩ : ByteArray)).bind fun bt306 => (some (bt306.1, bt306.2.1, bt306.2.2.1, bt306.2.2.2.1, bt306.2.2.2.2.1, bt306.2.2.2.2.2.1, bt306.2.2.2.2.2.2.1, bt306.2.2.2.2.2.2.2.1, bt306.2.2.2.2.2.2.2.2.1, bt306.2.2.2.2.2.2.2.2.2.1, bt306.2.2.2.2.2.2.2.2.2.2.1, bt306.2.2.2.2.2.2.2.2.2.2.2.1, bt306.2.2.2.2.2.2.2.2.2.2.2.2.1, bt306.2.2.2.2.2.2.2.2.2.2.2.2.2.1, bt306.2.2.2.2.2.2.2.2.2.2.2.2.2.2))) else (if x259021 = true then (if x259016.toList = x259001.toList then (if x259020 = true then ((bursarref14_Take.f x259014 x259015 x259016 x259017 x259018 x259019 x259020 x259003 (x3.toList == ([48, 48] : List UInt8))).bind fun bt368 => (if bt368.2.2.2.2.2.2.2 = 0 then (some ((⟨#[48, 48]⟩ : ByteArray), bt368.1, bt368.2.1, bt368.2.2.1, bt368.2.2.2.1, bt368.2.2.2.2.1, bt368.2.2.2.2.2.1, bt368.2.2.2.2.2.2.1, true, 2, x259023, x259001, x259006, x259007, x259003)) else ((bursarref23_no.f (⟨#[54, 49]⟩ : ByteArray)).bind fun bt377 => (some (bt377.1, bt377.2.1, bt377.2.2.1, bt377.2.2.2.1, bt377.2.2.2.2.1, bt377.2.2.2.2.2.1, bt377.2.2.2.2.2.2.1, bt377.2.2.2.2.2.2.2.1, bt377.2.2.2.2.2.2.2.2.1, bt377.2.2.2.2.2.2.2.2.2.1, bt377.2.2.2.2.2.2.2.2.2.2.1, bt377.2.2.2.2.2.2.2.2.2.2.2.1, bt377.2.2.2.2.2.2.2.2.2.2.2.2.1, bt377.2.2.2.2.2.2.2.2.2.2.2.2.2.1, bt377.2.2.2.2.2.2.2.2.2.2.2.2.2.2))))) else ((bursarref23_no.f (⟨#[53, 52]⟩ : ByteArray)).bind fun bt353 => (some (bt353.1, bt353.2.1, bt353.2.2.1, bt353.2.2.2.1, bt353.2.2.2.2.1, bt353.2.2.2.2.2.1, bt353.2.2.2.2.2.2.1, bt353.2.2.2.2.2.2.2.1, bt353.2.2.2.2.2.2.2.2.1, bt353.2.2.2.2.2.2.2.2.2.1, bt353.2.2.2.2.2.2.2.2.2.2.1, bt353.2.2.2.2.2.2.2.2.2.2.2.1, bt353.2.2.2.2.2.2.2.2.2.2.2.2.1, bt353.2.2.2.2.2.2.2.2.2.2.2.2.2.1, bt353.2.2.2.2.2.2.2.2.2.2.2.2.2.2)))) else ((bursarref23_no.f (⟨#[49, 52]⟩ : ByteArray)).bind fun bt338 => (some (bt338.1, bt338.2.1, bt338.2.2.1, bt338.2.2.2.1, bt338.2.2.2.2.1, bt338.2.2.2.2.2.1, bt338.2.2.2.2.2.2.1, bt338.2.2.2.2.2.2.2.1, bt338.2.2.2.2.2.2.2.2.1, bt338.2.2.2.2.2.2.2.2.2.1, bt338.2.2.2.2.2.2.2.2.2.2.1, bt338.2.2.2.2.2.2.2.2.2.2.2.1, bt338.2.2.2.2.2.2.2.2.2.2.2.2.1, bt338.2.2.2.2.2.2.2.2.2.2.2.2.2.1, bt338.2.2.2.2.2.2.2.2.2.2.2.2.2.2)))) else ((bursarref22_Advice.f x259000 x259001 x259002 x259003 x259004 x259005 x259006 x259007 x259008 x259009 x259010 x259011).bind fun t322 => (if t322 = true then (some ((⟨#[48, 48]⟩ : ByteArray), (⟨#[]⟩ : ByteArray), (⟨#[]⟩ : ByteArray), (⟨#[]⟩ : ByteArray), 0, 0, 0, false, false, 2, x259023, x259001, x259006, x259007, x259003)) else (if x259003 > x259013 then ((bursarref23_no.f (⟨#[53, 49]⟩ : ByteArray)).bind fun bt323 => (some (bt323.1, bt323.2.1, bt323.2.2.1, bt323.2.2.2.1, bt323.2.2.2.2.1, bt323.2.2.2.2.2.1, bt323.2.2.2.2.2.2.1, bt323.2.2.2.2.2.2.2.1, bt323.2.2.2.2.2.2.2.2.1, bt323.2.2.2.2.2.2.2.2.2.1, bt323.2.2.2.2.2.2.2.2.2.2.1, bt323.2.2.2.2.2.2.2.2.2.2.2.1, bt323.2.2.2.2.2.2.2.2.2.2.2.2.1, bt323.2.2.2.2.2.2.2.2.2.2.2.2.2.1, bt323.2.2.2.2.2.2.2.2.2.2.2.2.2.2))) else (some ((⟨#[48, 48]⟩ : ByteArray), (⟨#[]⟩ : ByteArray), (⟨#[]⟩ : ByteArray), (⟨#[]⟩ : ByteArray), 0, 0, 0, false, false, 2, x259023, x259001, x259006, x259007, x259003))))))) else ((bursarref23_no.f (⟨#[49, 52]⟩ : ByteArray)).bind fun bt291 => (some (bt291.1, bt291.2.1, bt291.2.2.1, bt291.2.2.2.1, bt291.2.2.2.2.1, bt291.2.2.2.2.2.1, bt291.2.2.2.2.2.2.1, bt291.2.2.2.2.2.2.2.1, bt291.2.2.2.2.2.2.2.2.1, bt291.2.2.2.2.2.2.2.2.2.1, bt291.2.2.2.2.2.2.2.2.2.2.1, bt291.2.2.2.2.2.2.2.2.2.2.2.1, bt291.2.2.2.2.2.2.2.2.2.2.2.2.1, bt291.2.2.2.2.2.2.2.2.2.2.2.2.2.1, bt291.2.2.2.2.2.2.2.2.2.2.2.2.2.2))))
end
def bursarref23_Capture.f (k : Nat) (a0_0 : ByteArray) (a0_1 : ByteArray) (a0_2 : ByteArray) (a0_3 : Int) (a0_4 : ByteArray) (a0_5 : ByteArray) (a0_6 : ByteArray) (a0_7 : ByteArray) (a0_8 : ByteArray) (a0_9 : Int) (a0_10 : Int) (a0_11 : ByteArray) (a0_12 : Bool) (a0_13 : Int) (a0_14 : ByteArray) (a0_15 : ByteArray) (a0_16 : ByteArray) (a0_17 : Int) (a0_18 : Int) (a0_19 : Int) (a0_20 : Bool) (a0_21 : Bool) (a0_22 : Int) (a0_23 : Int) (a0_24 : Bool) : Option (ByteArray × ByteArray × ByteArray × ByteArray × Int × Int × Int × Bool × Bool × Int × Int × ByteArray × ByteArray × ByteArray × Int) := (bursarref22_May.f k a0_0 a0_1 a0_2 a0_3 a0_4 a0_5 a0_6 a0_7 a0_8 a0_9 a0_10 a0_11 a0_12 a0_13 a0_14 a0_15 a0_16 a0_17 a0_18 a0_19 a0_20 a0_21 a0_22 a0_23 a0_24).bind fun t260 => (if t260 = true then (if a0_23 < 0 then (bursarref23_Capture.j0 k true a0_0 a0_1 a0_2 a0_3 a0_4 a0_5 a0_6 a0_7 a0_8 a0_9 a0_10 a0_11 a0_12 a0_13 a0_14 a0_15 a0_16 a0_17 a0_18 a0_19 a0_20 a0_21 a0_22 a0_23 a0_24) else (bursarref23_Capture.j0 k (decide (a0_23 > 2147483647)) a0_0 a0_1 a0_2 a0_3 a0_4 a0_5 a0_6 a0_7 a0_8 a0_9 a0_10 a0_11 a0_12 a0_13 a0_14 a0_15 a0_16 a0_17 a0_18 a0_19 a0_20 a0_21 a0_22 a0_23 a0_24)) else (bursarref23_Capture.j0 k true a0_0 a0_1 a0_2 a0_3 a0_4 a0_5 a0_6 a0_7 a0_8 a0_9 a0_10 a0_11 a0_12 a0_13 a0_14 a0_15 a0_16 a0_17 a0_18 a0_19 a0_20 a0_21 a0_22 a0_23 a0_24))
theorem bursarref23_Capture.mono_l : ∀ k, (∀ y0 y1 y2 y3 y4 y5 y6 y7 y8 y9 y10 y11 y12 y13 y14 y15 y16 y17 y18 y19 y20 y21 y22 y23 y24 y25, LeO (bursarref23_Capture.j0 k y0 y1 y2 y3 y4 y5 y6 y7 y8 y9 y10 y11 y12 y13 y14 y15 y16 y17 y18 y19 y20 y21 y22 y23 y24 y25) (bursarref23_Capture.j0 (k + 1) y0 y1 y2 y3 y4 y5 y6 y7 y8 y9 y10 y11 y12 y13 y14 y15 y16 y17 y18 y19 y20 y21 y22 y23 y24 y25)) ∧ (∀ y0 y1 y2 y3 y4 y5 y6 y7 y8 y9 y10 y11 y12 y13 y14 y15 y16 y17 y18 y19 y20 y21 y22 y23 y24 y25, LeO (bursarref23_Capture.j1 k y0 y1 y2 y3 y4 y5 y6 y7 y8 y9 y10 y11 y12 y13 y14 y15 y16 y17 y18 y19 y20 y21 y22 y23 y24 y25) (bursarref23_Capture.j1 (k + 1) y0 y1 y2 y3 y4 y5 y6 y7 y8 y9 y10 y11 y12 y13 y14 y15 y16 y17 y18 y19 y20 y21 y22 y23 y24 y25)) ∧ (∀ y0 y1 y2 y3 y4 y5 y6 y7 y8 y9 y10 y11 y12 y13 y14 y15 y16 y17 y18 y19 y20 y21 y22 y23 y24 y25 y26, LeO (bursarref23_Capture.j2 k y0 y1 y2 y3 y4 y5 y6 y7 y8 y9 y10 y11 y12 y13 y14 y15 y16 y17 y18 y19 y20 y21 y22 y23 y24 y25 y26) (bursarref23_Capture.j2 (k + 1) y0 y1 y2 y3 y4 y5 y6 y7 y8 y9 y10 y11 y12 y13 y14 y15 y16 y17 y18 y19 y20 y21 y22 y23 y24 y25 y26))
  | 0 => ⟨fun _ _ _ _ _ _ _ _ _ _ _ _ _ _ _ _ _ _ _ _ _ _ _ _ _ _ r h => by simp [bursarref23_Capture.j0] at h, fun _ _ _ _ _ _ _ _ _ _ _ _ _ _ _ _ _ _ _ _ _ _ _ _ _ _ r h => by simp [bursarref23_Capture.j1] at h, fun _ _ _ _ _ _ _ _ _ _ _ _ _ _ _ _ _ _ _ _ _ _ _ _ _ _ _ r h => by simp [bursarref23_Capture.j2] at h⟩
  | k + 1 => by
    obtain ⟨ih0, ih1, ih2⟩ := bursarref23_Capture.mono_l k
    refine ⟨?_, ?_, ?_⟩
    · intro y0 y1 y2 y3 y4 y5 y6 y7 y8 y9 y10 y11 y12 y13 y14 y15 y16 y17 y18 y19 y20 y21 y22 y23 y24 y25
      unfold bursarref23_Capture.j0
      repeat' first
      | (with_reducible exact ih0 _ _ _ _ _ _ _ _ _ _ _ _ _ _ _ _ _ _ _ _ _ _ _ _ _ _)
      | (with_reducible exact ih1 _ _ _ _ _ _ _ _ _ _ _ _ _ _ _ _ _ _ _ _ _ _ _ _ _ _)
      | (with_reducible exact ih2 _ _ _ _ _ _ _ _ _ _ _ _ _ _ _ _ _ _ _ _ _ _ _ _ _ _ _)
      | (with_reducible exact bursarref22_May.mono _ _ _ _ _ _ _ _ _ _ _ _ _ _ _ _ _ _ _ _ _ _ _ _ _ _)
      | (with_reducible exact LeO.refl _)
      | (with_reducible exact LeO.none _)
      | (with_reducible refine LeO.ite ?_ ?_)
      | (with_reducible refine LeO.bind ?_ (fun _ => ?_))
      | exact ih0 _ _ _ _ _ _ _ _ _ _ _ _ _ _ _ _ _ _ _ _ _ _ _ _ _ _
      | exact ih1 _ _ _ _ _ _ _ _ _ _ _ _ _ _ _ _ _ _ _ _ _ _ _ _ _ _
      | exact ih2 _ _ _ _ _ _ _ _ _ _ _ _ _ _ _ _ _ _ _ _ _ _ _ _ _ _ _
      | exact bursarref22_May.mono _ _ _ _ _ _ _ _ _ _ _ _ _ _ _ _ _ _ _ _ _ _ _ _ _ _
      | exact LeO.none _
      | refine LeO.ite ?_ ?_
      | refine LeO.bind ?_ (fun _ => ?_)
    · intro y0 y1 y2 y3 y4 y5 y6 y7 y8 y9 y10 y11 y12 y13 y14 y15 y16 y17 y18 y19 y20 y21 y22 y23 y24 y25
      unfold bursarref23_Capture.j1
      repeat' first
      | (with_reducible exact ih0 _ _ _ _ _ _ _ _ _ _ _ _ _ _ _ _ _ _ _ _ _ _ _ _ _ _)
      | (with_reducible exact ih1 _ _ _ _ _ _ _ _ _ _ _ _ _ _ _ _ _ _ _ _ _ _ _ _ _ _)
      | (with_reducible exact ih2 _ _ _ _ _ _ _ _ _ _ _ _ _ _ _ _ _ _ _ _ _ _ _ _ _ _ _)
      | (with_reducible exact bursarref22_May.mono _ _ _ _ _ _ _ _ _ _ _ _ _ _ _ _ _ _ _ _ _ _ _ _ _ _)
      | (with_reducible exact LeO.refl _)
      | (with_reducible exact LeO.none _)
      | (with_reducible refine LeO.ite ?_ ?_)
      | (with_reducible refine LeO.bind ?_ (fun _ => ?_))
      | exact ih0 _ _ _ _ _ _ _ _ _ _ _ _ _ _ _ _ _ _ _ _ _ _ _ _ _ _
      | exact ih1 _ _ _ _ _ _ _ _ _ _ _ _ _ _ _ _ _ _ _ _ _ _ _ _ _ _
      | exact ih2 _ _ _ _ _ _ _ _ _ _ _ _ _ _ _ _ _ _ _ _ _ _ _ _ _ _ _
      | exact bursarref22_May.mono _ _ _ _ _ _ _ _ _ _ _ _ _ _ _ _ _ _ _ _ _ _ _ _ _ _
      | exact LeO.none _
      | refine LeO.ite ?_ ?_
      | refine LeO.bind ?_ (fun _ => ?_)
    · intro y0 y1 y2 y3 y4 y5 y6 y7 y8 y9 y10 y11 y12 y13 y14 y15 y16 y17 y18 y19 y20 y21 y22 y23 y24 y25 y26
      unfold bursarref23_Capture.j2
      repeat' first
      | (with_reducible exact ih0 _ _ _ _ _ _ _ _ _ _ _ _ _ _ _ _ _ _ _ _ _ _ _ _ _ _)
      | (with_reducible exact ih1 _ _ _ _ _ _ _ _ _ _ _ _ _ _ _ _ _ _ _ _ _ _ _ _ _ _)
      | (with_reducible exact ih2 _ _ _ _ _ _ _ _ _ _ _ _ _ _ _ _ _ _ _ _ _ _ _ _ _ _ _)
      | (with_reducible exact bursarref22_May.mono _ _ _ _ _ _ _ _ _ _ _ _ _ _ _ _ _ _ _ _ _ _ _ _ _ _)
      | (with_reducible exact LeO.refl _)
      | (with_reducible exact LeO.none _)
      | (with_reducible refine LeO.ite ?_ ?_)
      | (with_reducible refine LeO.bind ?_ (fun _ => ?_))
      | exact ih0 _ _ _ _ _ _ _ _ _ _ _ _ _ _ _ _ _ _ _ _ _ _ _ _ _ _
      | exact ih1 _ _ _ _ _ _ _ _ _ _ _ _ _ _ _ _ _ _ _ _ _ _ _ _ _ _
      | exact ih2 _ _ _ _ _ _ _ _ _ _ _ _ _ _ _ _ _ _ _ _ _ _ _ _ _ _ _
      | exact bursarref22_May.mono _ _ _ _ _ _ _ _ _ _ _ _ _ _ _ _ _ _ _ _ _ _ _ _ _ _
      | exact LeO.none _
      | refine LeO.ite ?_ ?_
      | refine LeO.bind ?_ (fun _ => ?_)
theorem bursarref23_Capture.mono : ∀ a0 a1 a2 a3 a4 a5 a6 a7 a8 a9 a10 a11 a12 a13 a14 a15 a16 a17 a18 a19 a20 a21 a22 a23 a24 k, LeO (bursarref23_Capture.f k a0 a1 a2 a3 a4 a5 a6 a7 a8 a9 a10 a11 a12 a13 a14 a15 a16 a17 a18 a19 a20 a21 a22 a23 a24) (bursarref23_Capture.f (k + 1) a0 a1 a2 a3 a4 a5 a6 a7 a8 a9 a10 a11 a12 a13 a14 a15 a16 a17 a18 a19 a20 a21 a22 a23 a24) := by
  intro a0 a1 a2 a3 a4 a5 a6 a7 a8 a9 a10 a11 a12 a13 a14 a15 a16 a17 a18 a19 a20 a21 a22 a23 a24 k
  obtain ⟨ih0, ih1, ih2⟩ := bursarref23_Capture.mono_l k
  unfold bursarref23_Capture.f
  repeat' first
      | (with_reducible exact ih0 _ _ _ _ _ _ _ _ _ _ _ _ _ _ _ _ _ _ _ _ _ _ _ _ _ _)
      | (with_reducible exact ih1 _ _ _ _ _ _ _ _ _ _ _ _ _ _ _ _ _ _ _ _ _ _ _ _ _ _)
      | (with_reducible exact ih2 _ _ _ _ _ _ _ _ _ _ _ _ _ _ _ _ _ _ _ _ _ _ _ _ _ _ _)
      | (with_reducible exact bursarref22_May.mono _ _ _ _ _ _ _ _ _ _ _ _ _ _ _ _ _ _ _ _ _ _ _ _ _ _)
      | (with_reducible exact LeO.refl _)
      | (with_reducible exact LeO.none _)
      | (with_reducible refine LeO.ite ?_ ?_)
      | (with_reducible refine LeO.bind ?_ (fun _ => ?_))
      | exact ih0 _ _ _ _ _ _ _ _ _ _ _ _ _ _ _ _ _ _ _ _ _ _ _ _ _ _
      | exact ih1 _ _ _ _ _ _ _ _ _ _ _ _ _ _ _ _ _ _ _ _ _ _ _ _ _ _
      | exact ih2 _ _ _ _ _ _ _ _ _ _ _ _ _ _ _ _ _ _ _ _ _ _ _ _ _ _ _
      | exact bursarref22_May.mono _ _ _ _ _ _ _ _ _ _ _ _ _ _ _ _ _ _ _ _ _ _ _ _ _ _
      | exact LeO.none _
      | refine LeO.ite ?_ ?_
      | refine LeO.bind ?_ (fun _ => ?_)
def bursarref23_Capture.Z15 : Array Value := #[.string (⟨#[]⟩ : ByteArray), .string (⟨#[]⟩ : ByteArray), .string (⟨#[]⟩ : ByteArray), .string (⟨#[]⟩ : ByteArray), .int .i64 0, .int .i64 0, .int .i64 0, .bool false, .bool false, .int .i64 0, .int .i64 0, .string (⟨#[]⟩ : ByteArray), .string (⟨#[]⟩ : ByteArray), .string (⟨#[]⟩ : ByteArray), .int .i64 0]
def bursarref23_Capture.Z7 : Array Value := #[.string (⟨#[]⟩ : ByteArray), .string (⟨#[]⟩ : ByteArray), .string (⟨#[]⟩ : ByteArray), .int .i64 0, .int .i64 0, .int .i64 0, .bool false]
set_option maxHeartbeats 8000000 in
set_option maxRecDepth 100000 in
theorem bursarref23_Capture.calls (k : Nat) (a0_0 : ByteArray) (a0_1 : ByteArray) (a0_2 : ByteArray) (a0_3 : Int) (a0_4 : ByteArray) (a0_5 : ByteArray) (a0_6 : ByteArray) (a0_7 : ByteArray) (a0_8 : ByteArray) (a0_9 : Int) (a0_10 : Int) (a0_11 : ByteArray) (a0_12 : Bool) (a0_13 : Int) (a0_14 : ByteArray) (a0_15 : ByteArray) (a0_16 : ByteArray) (a0_17 : Int) (a0_18 : Int) (a0_19 : Int) (a0_20 : Bool) (a0_21 : Bool) (a0_22 : Int) (a0_23 : Int) (a0_24 : Bool) (r1 : ByteArray) (r2 : ByteArray) (r3 : ByteArray) (r4 : ByteArray) (r5 : Int) (r6 : Int) (r7 : Int) (r8 : Bool) (r9 : Bool) (r10 : Int) (r11 : Int) (r12 : ByteArray) (r13 : ByteArray) (r14 : ByteArray) (r15 : Int) (w : World) (h : bursarref23_Capture.f k a0_0 a0_1 a0_2 a0_3 a0_4 a0_5 a0_6 a0_7 a0_8 a0_9 a0_10 a0_11 a0_12 a0_13 a0_14 a0_15 a0_16 a0_17 a0_18 a0_19 a0_20 a0_21 a0_22 a0_23 a0_24 = some (r1, r2, r3, r4, r5, r6, r7, r8, r9, r10, r11, r12, r13, r14, r15)) :
    Calls Try.prog 28 #[.agg #[.string a0_0, .string a0_1, .string a0_2, .int .i64 a0_3, .string a0_4, .string a0_5, .string a0_6, .string a0_7, .string a0_8, .int .i64 a0_9, .int .i64 a0_10, .string a0_11, .bool a0_12, .int .i64 a0_13, .string a0_14, .string a0_15, .string a0_16, .int .i64 a0_17, .int .i64 a0_18, .int .i64 a0_19, .bool a0_20, .bool a0_21, .int .i64 a0_22, .int .i64 a0_23, .bool a0_24]] w fun e w' => e = .returned (.agg #[.string r1, .string r2, .string r3, .string r4, .int .i64 r5, .int .i64 r6, .int .i64 r7, .bool r8, .bool r9, .int .i64 r10, .int .i64 r11, .string r12, .string r13, .string r14, .int .i64 r15]) ∧ Below w.heap.size w w' := by
  have hu27 := Try.underlying27
  have hu53 := Try.underlying53
  have hu36 := Try.underlying36
  have hu23 := Try.underlying23
  have hu25 := Try.underlying25
  have HO := Aside0.mk (Ow.Own.nil w)
  have hmf : ∀ (fn : Fn) (first cap : Array Value) (w : World), (Instr.makeFunc fn first cap).run Try.prog w = .ok (.func fn first cap) w := fun _ _ _ _ => rfl
  have H : ((bursarref22_May.f k a0_0 a0_1 a0_2 a0_3 a0_4 a0_5 a0_6 a0_7 a0_8 a0_9 a0_10 a0_11 a0_12 a0_13 a0_14 a0_15 a0_16 a0_17 a0_18 a0_19 a0_20 a0_21 a0_22 a0_23 a0_24).bind fun t260 => (if t260 = true then (if a0_23 < 0 then (bursarref23_Capture.j0 k true a0_0 a0_1 a0_2 a0_3 a0_4 a0_5 a0_6 a0_7 a0_8 a0_9 a0_10 a0_11 a0_12 a0_13 a0_14 a0_15 a0_16 a0_17 a0_18 a0_19 a0_20 a0_21 a0_22 a0_23 a0_24) else (bursarref23_Capture.j0 k (decide (a0_23 > 2147483647)) a0_0 a0_1 a0_2 a0_3 a0_4 a0_5 a0_6 a0_7 a0_8 a0_9 a0_10 a0_11 a0_12 a0_13 a0_14 a0_15 a0_16 a0_17 a0_18 a0_19 a0_20 a0_21 a0_22 a0_23 a0_24)) else (bursarref23_Capture.j0 k true a0_0 a0_1 a0_2 a0_3 a0_4 a0_5 a0_6 a0_7 a0_8 a0_9 a0_10 a0_11 a0_12 a0_13 a0_14 a0_15 a0_16 a0_17 a0_18 a0_19 a0_20 a0_21 a0_22 a0_23 a0_24))) = some (r1, r2, r3, r4, r5, r6, r7, r8, r9, r10, r11, r12, r13, r14, r15) := h
  clear h
  have HC2 := Aside0.mk H
  clear H
  obtain ⟨Q0, hQ0_⟩ : ∃ q_ : Array Value, q_ = (#[.string a0_0, .string a0_1, .string a0_2, .int .i64 a0_3, .string a0_4, .string a0_5, .string a0_6, .string a0_7, .string a0_8, .int .i64 a0_9, .int .i64 a0_10, .string a0_11, .bool a0_12, .int .i64 a0_13, .string a0_14, .string a0_15, .string a0_16, .int .i64 a0_17, .int .i64 a0_18, .int .i64 a0_19, .bool a0_20, .bool a0_21, .int .i64 a0_22, .int .i64 a0_23, .bool a0_24] : Array Value) := ⟨_, rfl⟩
  try rw [← hQ0_]
  have hQ0 := Aside0.mk hQ0_; have hq := Aside0.mk hQ0_; clear hQ0_
  go_enter Try.func28, Try.ntmps28
  go_upto_region 1 with (first | ((with_reducible refine gate_dst (N := 1) rfl ?_); refine Ow.box rfl (N := 1) rfl (cs := Q0) (t := 27) HO.out (by first | (go_simp; done) | (go_simp; rfl)) ?_; clear HO; intro gb258 w3 HO; simp only [List.cons_append, List.nil_append] at HO) | ((with_reducible refine gate_dst (N := 2) rfl ?_); refine Ow.box rfl (N := 2) rfl (cs := bursarref23_Capture.Z15) (t := 53) HO.out (by first | (go_simp; done) | (go_simp; rfl)) ?_; clear HO; intro gb259 w4 HO; simp only [List.cons_append, List.nil_append] at HO) | ((with_reducible refine Ow.gate_build rfl ?_); (try (refine gate_guard (by rfl) ?_; dsimp only)); refine' Ow.tbuild Ot.bd rfl rfl rfl ?hf_ ?_; (case hf_ => repeat (any_goals (first | exact Ow.Fills.nil | (refine' Ow.Fills.c ?hv_ rfl ?hz_ ?_; (case hv_ => first | exact Ow.ev_tmp rfl | rfl); (case hz_ => first | (refine ⟨?_, ?_⟩ <;> (first | ((try simp only [hq.1]) <;> rfl) | fail)) | fail)))))) | ((with_reducible refine Ow.gate_load rfl ?_); (try (refine gate_guard (by rfl) ?_; dsimp only)); (first | refine Ow.l1 Ot.ty HO.out rfl rfl rfl rfl (by first | ((try simp only [hq.1]) <;> rfl) | fail) ?_ | refine Ow.l0 Ot.ty HO.out rfl rfl rfl rfl (by first | ((try simp only [hq.1]) <;> rfl) | fail) ?_ | refine Ow.lp Ot.ty HO.out rfl rfl rfl rfl (by first | ((try simp only [hq.1]) <;> rfl) | fail) ?_)) | ((with_reducible refine gate_store rfl ?_); (try (refine gate_guard (by rfl) ?_; dsimp only)); (first | refine Ow.s0 Ot.ty HO.out rfl rfl rfl rfl rfl (by first | exact Ow.ev_tmp rfl | rfl) (by first | (refine ⟨?_, ?_, ?_⟩ <;> (first | ((try simp only [hq.1]) <;> rfl) | fail)) | fail) ?_ | refine Ow.sp Ot.ty HO.out rfl rfl rfl rfl rfl (by first | exact Ow.ev_tmp rfl | rfl) (by first | (refine ⟨?_, ?_, ?_⟩ <;> (first | ((try simp only [hq.1]) <;> rfl) | fail)) | fail) ?_); clear HO; intro wz_ HO; simp only [List.set_cons_zero, List.set_cons_succ] at HO))
  (try simp only [Act.put, List.setIfInBounds_toArray, List.set_cons_zero, List.set_cons_succ])
  (try simp only [Act.put, List.setIfInBounds_toArray, List.set_cons_zero, List.set_cons_succ])
  go_cut [19] (fun v19 wc => ∃ (kq : Nat) (x19_1 : Bool), v19 = .bool x19_1 ∧ Aside0 (bursarref23_Capture.j0 kq x19_1 a0_0 a0_1 a0_2 a0_3 a0_4 a0_5 a0_6 a0_7 a0_8 a0_9 a0_10 a0_11 a0_12 a0_13 a0_14 a0_15 a0_16 a0_17 a0_18 a0_19 a0_20 a0_21 a0_22 a0_23 a0_24 = some (r1, r2, r3, r4, r5, r6, r7, r8, r9, r10, r11, r12, r13, r14, r15)) ∧ Aside0 (kq ≤ k) ∧ Aside0 (Ow.Own w wc [(gb258, Q0, 27), (gb259, bursarref23_Capture.Z15, 53)]))
  case first =>
    have H := HC2.out
    clear HC2
    replace H := Option.bind_eq_some_iff.mp H
    obtain ⟨t260, A50, H⟩ := H
    replace H : (if t260 = true then (if a0_23 < 0 then (bursarref23_Capture.j0 k true a0_0 a0_1 a0_2 a0_3 a0_4 a0_5 a0_6 a0_7 a0_8 a0_9 a0_10 a0_11 a0_12 a0_13 a0_14 a0_15 a0_16 a0_17 a0_18 a0_19 a0_20 a0_21 a0_22 a0_23 a0_24) else (bursarref23_Capture.j0 k (decide (a0_23 > 2147483647)) a0_0 a0_1 a0_2 a0_3 a0_4 a0_5 a0_6 a0_7 a0_8 a0_9 a0_10 a0_11 a0_12 a0_13 a0_14 a0_15 a0_16 a0_17 a0_18 a0_19 a0_20 a0_21 a0_22 a0_23 a0_24)) else (bursarref23_Capture.j0 k true a0_0 a0_1 a0_2 a0_3 a0_4 a0_5 a0_6 a0_7 a0_8 a0_9 a0_10 a0_11 a0_12 a0_13 a0_14 a0_15 a0_16 a0_17 a0_18 a0_19 a0_20 a0_21 a0_22 a0_23 a0_24)) = some (r1, r2, r3, r4, r5, r6, r7, r8, r9, r10, r11, r12, r13, r14, r15) := H
    have A5 := Aside0.mk A50
    clear A50
    by_cases c6 : t260 = true
    · subst c6
      have H1 : (if a0_23 < 0 then (bursarref23_Capture.j0 k true a0_0 a0_1 a0_2 a0_3 a0_4 a0_5 a0_6 a0_7 a0_8 a0_9 a0_10 a0_11 a0_12 a0_13 a0_14 a0_15 a0_16 a0_17 a0_18 a0_19 a0_20 a0_21 a0_22 a0_23 a0_24) else (bursarref23_Capture.j0 k (decide (a0_23 > 2147483647)) a0_0 a0_1 a0_2 a0_3 a0_4 a0_5 a0_6 a0_7 a0_8 a0_9 a0_10 a0_11 a0_12 a0_13 a0_14 a0_15 a0_16 a0_17 a0_18 a0_19 a0_20 a0_21 a0_22 a0_23 a0_24)) = some (r1, r2, r3, r4, r5, r6, r7, r8, r9, r10, r11, r12, r13, r14, r15) := by rw [if_pos rfl] at H; exact H
      clear H
      have H := H1
      clear H1
      by_cases c7 : a0_23 < 0
      · rw [if_pos c7] at H
        have c7b0 : decide (a0_23 < 0) = true := decide_eq_true c7
        clear c7
        (first | rw [c7b0] | (simp only [i64_w, i32_w]; rw [c7b0]) | skip)
        have H' := Aside0.mk H
        clear H
        go_wp2_with (first | ((with_reducible refine gate_callee (f := 35) rfl ?_); refine goesL_ (some 8) rfl rfl Try.func35 (by kernel_rfl) rfl #[.agg Q0] rfl (by (try simp only [List.map_toArray, List.map_cons, List.map_nil]); first | done | rfl | (simp only [hq.1]; done) | (simp only [hq.1]; rfl)) ?_; refine Calls.mono (calls_of_args (by first | ((try simp only [hq.1]) <;> rfl) | fail) (bursarref22_May.calls k a0_0 a0_1 a0_2 a0_3 a0_4 a0_5 a0_6 a0_7 a0_8 a0_9 a0_10 a0_11 a0_12 a0_13 a0_14 a0_15 a0_16 a0_17 a0_18 a0_19 a0_20 a0_21 a0_22 a0_23 a0_24 true _ A5.out)) ?_; rintro e w10 ⟨he_, hb⟩; subst he_; refine ⟨_, rfl, ?_⟩; replace HO := Aside0.mk (Ow.Own.call HO.out hb); clear hb) | ((with_reducible refine Ow.gate_build rfl ?_); (try (refine gate_guard (by rfl) ?_; dsimp only)); refine' Ow.tbuild Ot.bd rfl rfl rfl ?hf_ ?_; (case hf_ => repeat (any_goals (first | exact Ow.Fills.nil | (refine' Ow.Fills.c ?hv_ rfl ?hz_ ?_; (case hv_ => first | exact Ow.ev_tmp rfl | rfl); (case hz_ => first | (refine ⟨?_, ?_⟩ <;> (first | ((try simp only [hq.1]) <;> rfl) | fail)) | fail)))))) | ((with_reducible refine Ow.gate_load rfl ?_); (try (refine gate_guard (by rfl) ?_; dsimp only)); (first | refine Ow.l1 Ot.ty HO.out rfl rfl rfl rfl (by first | ((try simp only [hq.1]) <;> rfl) | fail) ?_ | refine Ow.l0 Ot.ty HO.out rfl rfl rfl rfl (by first | ((try simp only [hq.1]) <;> rfl) | fail) ?_ | refine Ow.lp Ot.ty HO.out rfl rfl rfl rfl (by first | ((try simp only [hq.1]) <;> rfl) | fail) ?_)) | ((with_reducible refine gate_store rfl ?_); (try (refine gate_guard (by rfl) ?_; dsimp only)); (first | refine Ow.s0 Ot.ty HO.out rfl rfl rfl rfl rfl (by first | exact Ow.ev_tmp rfl | rfl) (by first | (refine ⟨?_, ?_, ?_⟩ <;> (first | ((try simp only [hq.1]) <;> rfl) | fail)) | fail) ?_ | refine Ow.sp Ot.ty HO.out rfl rfl rfl rfl rfl (by first | exact Ow.ev_tmp rfl | rfl) (by first | (refine ⟨?_, ?_, ?_⟩ <;> (first | ((try simp only [hq.1]) <;> rfl) | fail)) | fail) ?_); clear HO; intro wz_ HO; simp only [List.set_cons_zero, List.set_cons_succ] at HO))
        go_meet
        case rel => exact ⟨_, (true), (by first | rfl | (simp; done) | (simp [*]; done) | (simp [Pu.bne_nil, Pu.beq_nil]; done)), H', ⟨by first | omega | exact Nat.le_refl _⟩, ⟨Ow.Own.cong (by first | exact HO.out | (have h_ := HO.out; simp only [World.drewN_drewN] at h_; exact h_)) (by first | ((try simp only [hq.1]) <;> rfl) | fail)⟩⟩
      · rw [if_neg c7] at H
        have c7b0 : decide (a0_23 < 0) = false := decide_eq_false c7
        clear c7
        (first | rw [c7b0] | (simp only [i64_w, i32_w]; rw [c7b0]) | skip)
        have H' := Aside0.mk H
        clear H
        go_wp2_with (first | ((with_reducible refine gate_callee (f := 35) rfl ?_); refine goesL_ (some 8) rfl rfl Try.func35 (by kernel_rfl) rfl #[.agg Q0] rfl (by (try simp only [List.map_toArray, List.map_cons, List.map_nil]); first | done | rfl | (simp only [hq.1]; done) | (simp only [hq.1]; rfl)) ?_; refine Calls.mono (calls_of_args (by first | ((try simp only [hq.1]) <;> rfl) | fail) (bursarref22_May.calls k a0_0 a0_1 a0_2 a0_3 a0_4 a0_5 a0_6 a0_7 a0_8 a0_9 a0_10 a0_11 a0_12 a0_13 a0_14 a0_15 a0_16 a0_17 a0_18 a0_19 a0_20 a0_21 a0_22 a0_23 a0_24 true _ A5.out)) ?_; rintro e w14 ⟨he_, hb⟩; subst he_; refine ⟨_, rfl, ?_⟩; replace HO := Aside0.mk (Ow.Own.call HO.out hb); clear hb) | ((with_reducible refine Ow.gate_build rfl ?_); (try (refine gate_guard (by rfl) ?_; dsimp only)); refine' Ow.tbuild Ot.bd rfl rfl rfl ?hf_ ?_; (case hf_ => repeat (any_goals (first | exact Ow.Fills.nil | (refine' Ow.Fills.c ?hv_ rfl ?hz_ ?_; (case hv_ => first | exact Ow.ev_tmp rfl | rfl); (case hz_ => first | (refine ⟨?_, ?_⟩ <;> (first | ((try simp only [hq.1]) <;> rfl) | fail)) | fail)))))) | ((with_reducible refine Ow.gate_load rfl ?_); (try (refine gate_guard (by rfl) ?_; dsimp only)); (first | refine Ow.l1 Ot.ty HO.out rfl rfl rfl rfl (by first | ((try simp only [hq.1]) <;> rfl) | fail) ?_ | refine Ow.l0 Ot.ty HO.out rfl rfl rfl rfl (by first | ((try simp only [hq.1]) <;> rfl) | fail) ?_ | refine Ow.lp Ot.ty HO.out rfl rfl rfl rfl (by first | ((try simp only [hq.1]) <;> rfl) | fail) ?_)) | ((with_reducible refine gate_store rfl ?_); (try (refine gate_guard (by rfl) ?_; dsimp only)); (first | refine Ow.s0 Ot.ty HO.out rfl rfl rfl rfl rfl (by first | exact Ow.ev_tmp rfl | rfl) (by first | (refine ⟨?_, ?_, ?_⟩ <;> (first | ((try simp only [hq.1]) <;> rfl) | fail)) | fail) ?_ | refine Ow.sp Ot.ty HO.out rfl rfl rfl rfl rfl (by first | exact Ow.ev_tmp rfl | rfl) (by first | (refine ⟨?_, ?_, ?_⟩ <;> (first | ((try simp only [hq.1]) <;> rfl) | fail)) | fail) ?_); clear HO; intro wz_ HO; simp only [List.set_cons_zero, List.set_cons_succ] at HO))
        go_meet
        case rel => exact ⟨_, (decide (a0_23 > 2147483647)), (by first | rfl | (simp; done) | (simp [*]; done) | (simp [Pu.bne_nil, Pu.beq_nil]; done)), H', ⟨by first | omega | exact Nat.le_refl _⟩, ⟨Ow.Own.cong (by first | exact HO.out | (have h_ := HO.out; simp only [World.drewN_drewN] at h_; exact h_)) (by first | ((try simp only [hq.1]) <;> rfl) | fail)⟩⟩
    · replace c6 := Bool.eq_false_iff.mpr c6
      subst c6
      have H1 : (bursarref23_Capture.j0 k true a0_0 a0_1 a0_2 a0_3 a0_4 a0_5 a0_6 a0_7 a0_8 a0_9 a0_10 a0_11 a0_12 a0_13 a0_14 a0_15 a0_16 a0_17 a0_18 a0_19 a0_20 a0_21 a0_22 a0_23 a0_24) = some (r1, r2, r3, r4, r5, r6, r7, r8, r9, r10, r11, r12, r13, r14, r15) := by rw [if_neg (show ¬ (false = true) by decide)] at H; exact H
      clear H
      have H := H1
      clear H1
      have H' := Aside0.mk H
      clear H
      go_wp2_with (first | ((with_reducible refine gate_callee (f := 35) rfl ?_); refine goesL_ (some 8) rfl rfl Try.func35 (by kernel_rfl) rfl #[.agg Q0] rfl (by (try simp only [List.map_toArray, List.map_cons, List.map_nil]); first | done | rfl | (simp only [hq.1]; done) | (simp only [hq.1]; rfl)) ?_; refine Calls.mono (calls_of_args (by first | ((try simp only [hq.1]) <;> rfl) | fail) (bursarref22_May.calls k a0_0 a0_1 a0_2 a0_3 a0_4 a0_5 a0_6 a0_7 a0_8 a0_9 a0_10 a0_11 a0_12 a0_13 a0_14 a0_15 a0_16 a0_17 a0_18 a0_19 a0_20 a0_21 a0_22 a0_23 a0_24 false _ A5.out)) ?_; rintro e w18 ⟨he_, hb⟩; subst he_; refine ⟨_, rfl, ?_⟩; replace HO := Aside0.mk (Ow.Own.call HO.out hb); clear hb) | ((with_reducible refine Ow.gate_build rfl ?_); (try (refine gate_guard (by rfl) ?_; dsimp only)); refine' Ow.tbuild Ot.bd rfl rfl rfl ?hf_ ?_; (case hf_ => repeat (any_goals (first | exact Ow.Fills.nil | (refine' Ow.Fills.c ?hv_ rfl ?hz_ ?_; (case hv_ => first | exact Ow.ev_tmp rfl | rfl); (case hz_ => first | (refine ⟨?_, ?_⟩ <;> (first | ((try simp only [hq.1]) <;> rfl) | fail)) | fail)))))) | ((with_reducible refine Ow.gate_load rfl ?_); (try (refine gate_guard (by rfl) ?_; dsimp only)); (first | refine Ow.l1 Ot.ty HO.out rfl rfl rfl rfl (by first | ((try simp only [hq.1]) <;> rfl) | fail) ?_ | refine Ow.l0 Ot.ty HO.out rfl rfl rfl rfl (by first | ((try simp only [hq.1]) <;> rfl) | fail) ?_ | refine Ow.lp Ot.ty HO.out rfl rfl rfl rfl (by first | ((try simp only [hq.1]) <;> rfl) | fail) ?_)) | ((with_reducible refine gate_store rfl ?_); (try (refine gate_guard (by rfl) ?_; dsimp only)); (first | refine Ow.s0 Ot.ty HO.out rfl rfl rfl rfl rfl (by first | exact Ow.ev_tmp rfl | rfl) (by first | (refine ⟨?_, ?_, ?_⟩ <;> (first | ((try simp only [hq.1]) <;> rfl) | fail)) | fail) ?_ | refine Ow.sp Ot.ty HO.out rfl rfl rfl rfl rfl (by first | exact Ow.ev_tmp rfl | rfl) (by first | (refine ⟨?_, ?_, ?_⟩ <;> (first | ((try simp only [hq.1]) <;> rfl) | fail)) | fail) ?_); clear HO; intro wz_ HO; simp only [List.set_cons_zero, List.set_cons_succ] at HO))
      go_meet
      case rel => exact ⟨_, (true), (by first | rfl | (simp; done) | (simp [*]; done) | (simp [Pu.bne_nil, Pu.beq_nil]; done)), H', ⟨by first | omega | exact Nat.le_refl _⟩, ⟨Ow.Own.cong (by first | exact HO.out | (have h_ := HO.out; simp only [World.drewN_drewN] at h_; exact h_)) (by first | ((try simp only [hq.1]) <;> rfl) | fail)⟩⟩
  case rest =>
    clear HC2
    try clear c1
    try clear c2
    try clear p2
    try clear c3
    try clear c6
    try clear c7
    try clear c7b0
    try clear c8
    try clear c12
    try clear c16
    try clear hcz11_0
    try clear hcz13_0
    try clear hcz15_0
    try clear hcz17_0
    try clear hcz9_0
    try clear hfz11_0
    try clear hfz13_0
    try clear hfz15_0
    try clear hfz17_0
    try clear hfz9_0
    clear HO
    obtain ⟨kq, x19_1, rfl, HA, HJ1, HO⟩ := hcut
    cases kq with
    | zero => exact absurd HA.out (by simp [bursarref23_Capture.j0])
    | succ kj1 =>
      have H := HA.out
      clear HA
      simp only [bursarref23_Capture.j0] at H
      by_cases c19 : x19_1 = true
      · subst c19
        have H1 : ((bursarref23_no.f (⟨#[51, 48]⟩ : ByteArray)).bind fun bt261 => (some (bt261.1, bt261.2.1, bt261.2.2.1, bt261.2.2.2.1, bt261.2.2.2.2.1, bt261.2.2.2.2.2.1, bt261.2.2.2.2.2.2.1, bt261.2.2.2.2.2.2.2.1, bt261.2.2.2.2.2.2.2.2.1, bt261.2.2.2.2.2.2.2.2.2.1, bt261.2.2.2.2.2.2.2.2.2.2.1, bt261.2.2.2.2.2.2.2.2.2.2.2.1, bt261.2.2.2.2.2.2.2.2.2.2.2.2.1, bt261.2.2.2.2.2.2.2.2.2.2.2.2.2.1, bt261.2.2.2.2.2.2.2.2.2.2.2.2.2.2))) = some (r1, r2, r3, r4, r5, r6, r7, r8, r9, r10, r11, r12, r13, r14, r15) := by rw [if_pos rfl] at H; exact H
        clear H
        have H := H1
        clear H1
        replace H := Option.bind_eq_some_iff.mp H
        obtain ⟨⟨t261, t262, t263, t264, t265, t266, t267, t268, t269, t270, t271, t272, t273, t274, t275⟩, A200, H⟩ := H
        replace H : (some (t261, t262, t263, t264, t265, t266, t267, t268, t269, t270, t271, t272, t273, t274, t275)) = some (r1, r2, r3, r4, r5, r6, r7, r8, r9, r10, r11, r12, r13, r14, r15) := H
        have A20 := Aside0.mk A200
        clear A200
        simp only [Option.some.injEq, Prod.mk.injEq] at H
        obtain ⟨rfl, rfl, rfl, rfl, rfl, rfl, rfl, rfl, rfl, rfl, rfl, rfl, rfl, rfl, rfl⟩ := H
        obtain ⟨Q1, hQ1_⟩ : ∃ q_ : Array Value, q_ = (#[.string t261, .string t262, .string t263, .string t264, .int .i64 t265, .int .i64 t266, .int .i64 t267, .bool t268, .bool t269, .int .i64 t270, .int .i64 t271, .string t272, .string t273, .string t274, .int .i64 t275] : Array Value) := ⟨_, rfl⟩
        try rw [← hQ1_]
        have hQ1 := Aside0.mk hQ1_; replace hq := Aside0.mk (And.intro hQ1_ hq.1); clear hQ1_
        go_wp2_with (first | ((with_reducible refine gate_callee (f := 56) rfl ?_); refine goesL_ (some 20) rfl rfl Try.func56 (by kernel_rfl) rfl #[.string (⟨#[51, 48]⟩ : ByteArray)] rfl (by (try simp only [List.map_toArray, List.map_cons, List.map_nil]); first | done | rfl | (simp only [hq.1]; done) | (simp only [hq.1]; rfl)) ?_; refine Calls.mono (calls_of_args (by first | ((try simp only [hq.1]) <;> rfl) | fail) (bursarref23_no.calls (⟨#[51, 48]⟩ : ByteArray) t261 t262 t263 t264 t265 t266 t267 t268 t269 t270 t271 t272 t273 t274 t275 _ A20.out)) ?_; rintro e w21 ⟨he_, hb⟩; (try rw [← hQ1.out] at he_); subst he_; refine ⟨_, rfl, ?_⟩; replace HO := Aside0.mk (Ow.Own.call HO.out hb); clear hb) | ((with_reducible refine Ow.gate_build rfl ?_); (try (refine gate_guard (by rfl) ?_; dsimp only)); refine' Ow.tbuild Ot.bd rfl rfl rfl ?hf_ ?_; (case hf_ => repeat (any_goals (first | exact Ow.Fills.nil | (refine' Ow.Fills.c ?hv_ rfl ?hz_ ?_; (case hv_ => first | exact Ow.ev_tmp rfl | rfl); (case hz_ => first | (refine ⟨?_, ?_⟩ <;> (first | ((try simp only [hq.1]) <;> rfl) | fail)) | fail)))))) | ((with_reducible refine Ow.gate_load rfl ?_); (try (refine gate_guard (by rfl) ?_; dsimp only)); (first | refine Ow.l1 Ot.ty HO.out rfl rfl rfl rfl (by first | ((try simp only [hq.1]) <;> rfl) | fail) ?_ | refine Ow.l0 Ot.ty HO.out rfl rfl rfl rfl (by first | ((try simp only [hq.1]) <;> rfl) | fail) ?_ | refine Ow.lp Ot.ty HO.out rfl rfl rfl rfl (by first | ((try simp only [hq.1]) <;> rfl) | fail) ?_)) | ((with_reducible refine gate_store rfl ?_); (try (refine gate_guard (by rfl) ?_; dsimp only)); (first | refine Ow.s0 Ot.ty HO.out rfl rfl rfl rfl rfl (by first | exact Ow.ev_tmp rfl | rfl) (by first | (refine ⟨?_, ?_, ?_⟩ <;> (first | ((try simp only [hq.1]) <;> rfl) | fail)) | fail) ?_ | refine Ow.sp Ot.ty HO.out rfl rfl rfl rfl rfl (by first | exact Ow.ev_tmp rfl | rfl) (by first | (refine ⟨?_, ?_, ?_⟩ <;> (first | ((try simp only [hq.1]) <;> rfl) | fail)) | fail) ?_); clear HO; intro wz_ HO; simp only [List.set_cons_zero, List.set_cons_succ] at HO))
        refine' bodyPost_ret (results_cell_row rfl _ _ gb259 53 _ (0, 0) _ rfl ?hb_ Try.underlying53 rfl ?hi_) rfl ?_
        case hb_ => refine' Ow.Own.get HO.out 1 ?hk_; (case hk_ => rfl)
        case hi_ => exact (Ot.ty.size 53 rfl).trans (congrArg some (by first | ((try simp only [hq.1]) <;> rfl) | fail))
        all_goals exact ⟨by first | rfl | (simp only [hq.1]; done) | (simp only [hq.1]; rfl) | (simp [errW_none, errW_some] <;> rfl) | (simp [*, errW_none, errW_some] <;> rfl), Ow.Own.below HO.out⟩
      · replace c19 := Bool.eq_false_iff.mpr c19
        subst c19
        have H1 : (if (a0_2.size : Int) ≥ 2 then (if 2 ≤ (a0_2.size : Int) then (bursarref23_Capture.j1 kj1 (a0_2.extract 0 2) a0_0 a0_1 a0_2 a0_3 a0_4 a0_5 a0_6 a0_7 a0_8 a0_9 a0_10 a0_11 a0_12 a0_13 a0_14 a0_15 a0_16 a0_17 a0_18 a0_19 a0_20 a0_21 a0_22 a0_23 a0_24) else (none)) else (bursarref23_Capture.j1 kj1 (⟨#[]⟩ : ByteArray) a0_0 a0_1 a0_2 a0_3 a0_4 a0_5 a0_6 a0_7 a0_8 a0_9 a0_10 a0_11 a0_12 a0_13 a0_14 a0_15 a0_16 a0_17 a0_18 a0_19 a0_20 a0_21 a0_22 a0_23 a0_24)) = some (r1, r2, r3, r4, r5, r6, r7, r8, r9, r10, r11, r12, r13, r14, r15) := by rw [if_neg (show ¬ (false = true) by decide)] at H; exact H
        clear H
        have H := H1
        clear H1
        have HC25 := Aside0.mk H
        clear H
        go_upto_if 25 with (first | ((with_reducible refine Ow.gate_build rfl ?_); (try (refine gate_guard (by rfl) ?_; dsimp only)); refine' Ow.tbuild Ot.bd rfl rfl rfl ?hf_ ?_; (case hf_ => repeat (any_goals (first | exact Ow.Fills.nil | (refine' Ow.Fills.c ?hv_ rfl ?hz_ ?_; (case hv_ => first | exact Ow.ev_tmp rfl | rfl); (case hz_ => first | (refine ⟨?_, ?_⟩ <;> (first | ((try simp only [hq.1]) <;> rfl) | fail)) | fail)))))) | ((with_reducible refine Ow.gate_load rfl ?_); (try (refine gate_guard (by rfl) ?_; dsimp only)); (first | refine Ow.l1 Ot.ty HO.out rfl rfl rfl rfl (by first | ((try simp only [hq.1]) <;> rfl) | fail) ?_ | refine Ow.l0 Ot.ty HO.out rfl rfl rfl rfl (by first | ((try simp only [hq.1]) <;> rfl) | fail) ?_ | refine Ow.lp Ot.ty HO.out rfl rfl rfl rfl (by first | ((try simp only [hq.1]) <;> rfl) | fail) ?_)) | ((with_reducible refine gate_store rfl ?_); (try (refine gate_guard (by rfl) ?_; dsimp only)); (first | refine Ow.s0 Ot.ty HO.out rfl rfl rfl rfl rfl (by first | exact Ow.ev_tmp rfl | rfl) (by first | (refine ⟨?_, ?_, ?_⟩ <;> (first | ((try simp only [hq.1]) <;> rfl) | fail)) | fail) ?_ | refine Ow.sp Ot.ty HO.out rfl rfl rfl rfl rfl (by first | exact Ow.ev_tmp rfl | rfl) (by first | (refine ⟨?_, ?_, ?_⟩ <;> (first | ((try simp only [hq.1]) <;> rfl) | fail)) | fail) ?_); clear HO; intro wz_ HO; simp only [List.set_cons_zero, List.set_cons_succ] at HO))
        (try simp only [Act.put, List.setIfInBounds_toArray, List.set_cons_zero, List.set_cons_succ])
        go_cut [3] (fun v3 wc => ∃ (kq : Nat) (x3_24 : ByteArray), v3 = .string x3_24 ∧ Aside0 (bursarref23_Capture.j1 kq x3_24 a0_0 a0_1 a0_2 a0_3 a0_4 a0_5 a0_6 a0_7 a0_8 a0_9 a0_10 a0_11 a0_12 a0_13 a0_14 a0_15 a0_16 a0_17 a0_18 a0_19 a0_20 a0_21 a0_22 a0_23 a0_24 = some (r1, r2, r3, r4, r5, r6, r7, r8, r9, r10, r11, r12, r13, r14, r15)) ∧ Aside0 (kq ≤ kj1) ∧ Aside0 (Ow.Own w wc [(gb258, Q0, 27), (gb259, bursarref23_Capture.Z15, 53)]))
        case first =>
          have H := HC25.out
          clear HC25
          by_cases c28 : (a0_2.size : Int) ≥ 2
          · rw [if_pos c28] at H
            have c28b0 : decide (2 ≤ (a0_2.size : Int)) = true := decide_eq_true c28
            have c28b1 : decide (2 ≤ a0_2.size) = true := decide_eq_true (by omega)
            clear c28
            (first | rw [c28b0] | (simp only [i64_w, i32_w]; rw [c28b0]) | skip)
            by_cases c29 : 2 ≤ (a0_2.size : Int)
            · rw [if_pos c29] at H
              have c29b0 := eq_true c29
              have c29b1 : decide (2 ≤ (a0_2.size : Int)) = true := decide_eq_true c29
              clear c29
              have H' := Aside0.mk H
              clear H
              go_wp2_with (first | ((with_reducible refine Ow.gate_build rfl ?_); (try (refine gate_guard (by rfl) ?_; dsimp only)); refine' Ow.tbuild Ot.bd rfl rfl rfl ?hf_ ?_; (case hf_ => repeat (any_goals (first | exact Ow.Fills.nil | (refine' Ow.Fills.c ?hv_ rfl ?hz_ ?_; (case hv_ => first | exact Ow.ev_tmp rfl | rfl); (case hz_ => first | (refine ⟨?_, ?_⟩ <;> (first | ((try simp only [hq.1]) <;> rfl) | fail)) | fail)))))) | ((with_reducible refine Ow.gate_load rfl ?_); (try (refine gate_guard (by rfl) ?_; dsimp only)); (first | refine Ow.l1 Ot.ty HO.out rfl rfl rfl rfl (by first | ((try simp only [hq.1]) <;> rfl) | fail) ?_ | refine Ow.l0 Ot.ty HO.out rfl rfl rfl rfl (by first | ((try simp only [hq.1]) <;> rfl) | fail) ?_ | refine Ow.lp Ot.ty HO.out rfl rfl rfl rfl (by first | ((try simp only [hq.1]) <;> rfl) | fail) ?_)) | ((with_reducible refine gate_store rfl ?_); (try (refine gate_guard (by rfl) ?_; dsimp only)); (first | refine Ow.s0 Ot.ty HO.out rfl rfl rfl rfl rfl (by first | exact Ow.ev_tmp rfl | rfl) (by first | (refine ⟨?_, ?_, ?_⟩ <;> (first | ((try simp only [hq.1]) <;> rfl) | fail)) | fail) ?_ | refine Ow.sp Ot.ty HO.out rfl rfl rfl rfl rfl (by first | exact Ow.ev_tmp rfl | rfl) (by first | (refine ⟨?_, ?_, ?_⟩ <;> (first | ((try simp only [hq.1]) <;> rfl) | fail)) | fail) ?_); clear HO; intro wz_ HO; simp only [List.set_cons_zero, List.set_cons_succ] at HO))
              go_meet
              case rel => exact ⟨_, (a0_2.extract 0 2), (by first | rfl | (simp; done) | (simp [*]; done) | (simp [Pu.bne_nil, Pu.beq_nil]; done)), H', ⟨by have := HJ1.out; first | omega | exact Nat.le_refl _⟩, ⟨Ow.Own.cong (by first | exact HO.out | (have h_ := HO.out; simp only [World.drewN_drewN] at h_; exact h_)) (by first | ((try simp only [hq.1]) <;> rfl) | fail)⟩⟩
            · rw [if_neg c29] at H
              exact absurd H (by simp)
          · rw [if_neg c28] at H
            have c28b0 : decide (2 ≤ (a0_2.size : Int)) = false := decide_eq_false c28
            have c28b1 : decide (2 ≤ a0_2.size) = false := decide_eq_false (by omega)
            clear c28
            (first | rw [c28b0] | (simp only [i64_w, i32_w]; rw [c28b0]) | skip)
            have H' := Aside0.mk H
            clear H
            go_wp2_with (first | ((with_reducible refine Ow.gate_build rfl ?_); (try (refine gate_guard (by rfl) ?_; dsimp only)); refine' Ow.tbuild Ot.bd rfl rfl rfl ?hf_ ?_; (case hf_ => repeat (any_goals (first | exact Ow.Fills.nil | (refine' Ow.Fills.c ?hv_ rfl ?hz_ ?_; (case hv_ => first | exact Ow.ev_tmp rfl | rfl); (case hz_ => first | (refine ⟨?_, ?_⟩ <;> (first | ((try simp only [hq.1]) <;> rfl) | fail)) | fail)))))) | ((with_reducible refine Ow.gate_load rfl ?_); (try (refine gate_guard (by rfl) ?_; dsimp only)); (first | refine Ow.l1 Ot.ty HO.out rfl rfl rfl rfl (by first | ((try simp only [hq.1]) <;> rfl) | fail) ?_ | refine Ow.l0 Ot.ty HO.out rfl rfl rfl rfl (by first | ((try simp only [hq.1]) <;> rfl) | fail) ?_ | refine Ow.lp Ot.ty HO.out rfl rfl rfl rfl (by first | ((try simp only [hq.1]) <;> rfl) | fail) ?_)) | ((with_reducible refine gate_store rfl ?_); (try (refine gate_guard (by rfl) ?_; dsimp only)); (first | refine Ow.s0 Ot.ty HO.out rfl rfl rfl rfl rfl (by first | exact Ow.ev_tmp rfl | rfl) (by first | (refine ⟨?_, ?_, ?_⟩ <;> (first | ((try simp only [hq.1]) <;> rfl) | fail)) | fail) ?_ | refine Ow.sp Ot.ty HO.out rfl rfl rfl rfl rfl (by first | exact Ow.ev_tmp rfl | rfl) (by first | (refine ⟨?_, ?_, ?_⟩ <;> (first | ((try simp only [hq.1]) <;> rfl) | fail)) | fail) ?_); clear HO; intro wz_ HO; simp only [List.set_cons_zero, List.set_cons_succ] at HO))
            go_meet
            case rel => exact ⟨_, ((⟨#[]⟩ : ByteArray)), (by first | rfl | (simp; done) | (simp [*]; done) | (simp [Pu.bne_nil, Pu.beq_nil]; done)), H', ⟨by have := HJ1.out; first | omega | exact Nat.le_refl _⟩, ⟨Ow.Own.cong (by first | exact HO.out | (have h_ := HO.out; simp only [World.drewN_drewN] at h_; exact h_)) (by first | ((try simp only [hq.1]) <;> rfl) | fail)⟩⟩
        case rest =>
          clear HC25
          try clear c1
          try clear c2
          try clear p2
          try clear c3
          try clear c5
          try clear c6
          try clear c7
          try clear c7b0
          try clear c8
          try clear c12
          try clear c16
          try clear c19
          try clear c22
          try clear c26
          try clear c28
          try clear c28b0
          try clear c28b1
          try clear c29
          try clear c29b0
          try clear c29b1
          try clear c30
          try clear hcz11_0
          try clear hcz13_0
          try clear hcz15_0
          try clear hcz17_0
          try clear hcz23_0
          try clear hcz27_0
          try clear hcz31_0
          try clear hcz9_0
          try clear hfz11_0
          try clear hfz13_0
          try clear hfz15_0
          try clear hfz17_0
          try clear hfz23_0
          try clear hfz27_0
          try clear hfz31_0
          try clear hfz9_0
          try clear p2
          clear HO
          obtain ⟨kq, x3_24, rfl, HA, HJ24, HO⟩ := hcut
          cases kq with
          | zero => exact absurd HA.out (by simp [bursarref23_Capture.j1])
          | succ kj24 =>
            have H := HA.out
            clear HA
            simp only [bursarref23_Capture.j1] at H
            have HC32 := Aside0.mk H
            clear H
            go_upto_region 6 with (first | ((with_reducible refine Ow.gate_build rfl ?_); (try (refine gate_guard (by rfl) ?_; dsimp only)); refine' Ow.tbuild Ot.bd rfl rfl rfl ?hf_ ?_; (case hf_ => repeat (any_goals (first | exact Ow.Fills.nil | (refine' Ow.Fills.c ?hv_ rfl ?hz_ ?_; (case hv_ => first | exact Ow.ev_tmp rfl | rfl); (case hz_ => first | (refine ⟨?_, ?_⟩ <;> (first | ((try simp only [hq.1]) <;> rfl) | fail)) | fail)))))) | ((with_reducible refine Ow.gate_load rfl ?_); (try (refine gate_guard (by rfl) ?_; dsimp only)); (first | refine Ow.l1 Ot.ty HO.out rfl rfl rfl rfl (by first | ((try simp only [hq.1]) <;> rfl) | fail) ?_ | refine Ow.l0 Ot.ty HO.out rfl rfl rfl rfl (by first | ((try simp only [hq.1]) <;> rfl) | fail) ?_ | refine Ow.lp Ot.ty HO.out rfl rfl rfl rfl (by first | ((try simp only [hq.1]) <;> rfl) | fail) ?_)) | ((with_reducible refine gate_store rfl ?_); (try (refine gate_guard (by rfl) ?_; dsimp only)); (first | refine Ow.s0 Ot.ty HO.out rfl rfl rfl rfl rfl (by first | exact Ow.ev_tmp rfl | rfl) (by first | (refine ⟨?_, ?_, ?_⟩ <;> (first | ((try simp only [hq.1]) <;> rfl) | fail)) | fail) ?_ | refine Ow.sp Ot.ty HO.out rfl rfl rfl rfl rfl (by first | exact Ow.ev_tmp rfl | rfl) (by first | (refine ⟨?_, ?_, ?_⟩ <;> (first | ((try simp only [hq.1]) <;> rfl) | fail)) | fail) ?_); clear HO; intro wz_ HO; simp only [List.set_cons_zero, List.set_cons_succ] at HO))
            (try simp only [Act.put, List.setIfInBounds_toArray, List.set_cons_zero, List.set_cons_succ])
            go_cut [39] (fun v39 wc => ∃ (kq : Nat) (x39_31 : Bool), v39 = .bool x39_31 ∧ Aside0 (bursarref23_Capture.j2 kq x3_24 x39_31 a0_0 a0_1 a0_2 a0_3 a0_4 a0_5 a0_6 a0_7 a0_8 a0_9 a0_10 a0_11 a0_12 a0_13 a0_14 a0_15 a0_16 a0_17 a0_18 a0_19 a0_20 a0_21 a0_22 a0_23 a0_24 = some (r1, r2, r3, r4, r5, r6, r7, r8, r9, r10, r11, r12, r13, r14, r15)) ∧ Aside0 (kq ≤ kj24) ∧ Aside0 (Ow.Own w wc [(gb258, Q0, 27), (gb259, bursarref23_Capture.Z15, 53)]))
            case first =>
              have H := HC32.out
              clear HC32
              by_cases c33 : a0_24 = true
              · subst c33
                have H1 : (bursarref23_Capture.j2 kj24 x3_24 true a0_0 a0_1 a0_2 a0_3 a0_4 a0_5 a0_6 a0_7 a0_8 a0_9 a0_10 a0_11 a0_12 a0_13 a0_14 a0_15 a0_16 a0_17 a0_18 a0_19 a0_20 a0_21 a0_22 a0_23 true) = some (r1, r2, r3, r4, r5, r6, r7, r8, r9, r10, r11, r12, r13, r14, r15) := by rw [if_pos rfl] at H; exact H
                clear H
                have H := H1
                clear H1
                have H' := Aside0.mk H
                clear H
                go_wp2_with (first | ((with_reducible refine Ow.gate_build rfl ?_); (try (refine gate_guard (by rfl) ?_; dsimp only)); refine' Ow.tbuild Ot.bd rfl rfl rfl ?hf_ ?_; (case hf_ => repeat (any_goals (first | exact Ow.Fills.nil | (refine' Ow.Fills.c ?hv_ rfl ?hz_ ?_; (case hv_ => first | exact Ow.ev_tmp rfl | rfl); (case hz_ => first | (refine ⟨?_, ?_⟩ <;> (first | ((try simp only [hq.1]) <;> rfl) | fail)) | fail)))))) | ((with_reducible refine Ow.gate_load rfl ?_); (try (refine gate_guard (by rfl) ?_; dsimp only)); (first | refine Ow.l1 Ot.ty HO.out rfl rfl rfl rfl (by first | ((try simp only [hq.1]) <;> rfl) | fail) ?_ | refine Ow.l0 Ot.ty HO.out rfl rfl rfl rfl (by first | ((try simp only [hq.1]) <;> rfl) | fail) ?_ | refine Ow.lp Ot.ty HO.out rfl rfl rfl rfl (by first | ((try simp only [hq.1]) <;> rfl) | fail) ?_)) | ((with_reducible refine gate_store rfl ?_); (try (refine gate_guard (by rfl) ?_; dsimp only)); (first | refine Ow.s0 Ot.ty HO.out rfl rfl rfl rfl rfl (by first | exact Ow.ev_tmp rfl | rfl) (by first | (refine ⟨?_, ?_, ?_⟩ <;> (first | ((try simp only [hq.1]) <;> rfl) | fail)) | fail) ?_ | refine Ow.sp Ot.ty HO.out rfl rfl rfl rfl rfl (by first | exact Ow.ev_tmp rfl | rfl) (by first | (refine ⟨?_, ?_, ?_⟩ <;> (first | ((try simp only [hq.1]) <;> rfl) | fail)) | fail) ?_); clear HO; intro wz_ HO; simp only [List.set_cons_zero, List.set_cons_succ] at HO))
                go_meet
                case rel => exact ⟨_, (true), (by first | rfl | (simp; done) | (simp [*]; done) | (simp [Pu.bne_nil, Pu.beq_nil]; done)), H', ⟨by have := HJ1.out; have := HJ24.out; first | omega | exact Nat.le_refl _⟩, ⟨Ow.Own.cong (by first | exact HO.out | (have h_ := HO.out; simp only [World.drewN_drewN] at h_; exact h_)) (by first | ((try simp only [hq.1]) <;> rfl) | fail)⟩⟩
              · replace c33 := Bool.eq_false_iff.mpr c33
                subst c33
                have H1 : (if x3_24.toList = ([48, 48] : List UInt8) then (bursarref23_Capture.j2 kj24 x3_24 false a0_0 a0_1 a0_2 a0_3 a0_4 a0_5 a0_6 a0_7 a0_8 a0_9 a0_10 a0_11 a0_12 a0_13 a0_14 a0_15 a0_16 a0_17 a0_18 a0_19 a0_20 a0_21 a0_22 a0_23 false) else (bursarref23_Capture.j2 kj24 x3_24 (x3_24.toList != ([48, 49] : List UInt8)) a0_0 a0_1 a0_2 a0_3 a0_4 a0_5 a0_6 a0_7 a0_8 a0_9 a0_10 a0_11 a0_12 a0_13 a0_14 a0_15 a0_16 a0_17 a0_18 a0_19 a0_20 a0_21 a0_22 a0_23 false)) = some (r1, r2, r3, r4, r5, r6, r7, r8, r9, r10, r11, r12, r13, r14, r15) := by rw [if_neg (show ¬ (false = true) by decide)] at H; exact H
                clear H
                have H := H1
                clear H1
                by_cases c36 : x3_24.toList = ([48, 48] : List UInt8)
                · rw [if_pos c36] at H
                  have c36b0 : (x3_24.toList == ([48, 48] : List UInt8)) = true := beq_iff_eq.mpr c36
                  have c36b1 : (x3_24.toList != ([48, 48] : List UInt8)) = false := bne_eq_false_iff_eq.mpr c36
                  clear c36
                  (first | rw [c36b0] | (simp only [i64_w, i32_w]; rw [c36b0]) | skip)
                  have H' := Aside0.mk H
                  clear H
                  go_wp2_with (first | ((with_reducible refine Ow.gate_build rfl ?_); (try (refine gate_guard (by rfl) ?_; dsimp only)); refine' Ow.tbuild Ot.bd rfl rfl rfl ?hf_ ?_; (case hf_ => repeat (any_goals (first | exact Ow.Fills.nil | (refine' Ow.Fills.c ?hv_ rfl ?hz_ ?_; (case hv_ => first | exact Ow.ev_tmp rfl | rfl); (case hz_ => first | (refine ⟨?_, ?_⟩ <;> (first | ((try simp only [hq.1]) <;> rfl) | fail)) | fail)))))) | ((with_reducible refine Ow.gate_load rfl ?_); (try (refine gate_guard (by rfl) ?_; dsimp only)); (first | refine Ow.l1 Ot.ty HO.out rfl rfl rfl rfl (by first | ((try simp only [hq.1]) <;> rfl) | fail) ?_ | refine Ow.l0 Ot.ty HO.out rfl rfl rfl rfl (by first | ((try simp only [hq.1]) <;> rfl) | fail) ?_ | refine Ow.lp Ot.ty HO.out rfl rfl rfl rfl (by first | ((try simp only [hq.1]) <;> rfl) | fail) ?_)) | ((with_reducible refine gate_store rfl ?_); (try (refine gate_guard (by rfl) ?_; dsimp only)); (first | refine Ow.s0 Ot.ty HO.out rfl rfl rfl rfl rfl (by first | exact Ow.ev_tmp rfl | rfl) (by first | (refine ⟨?_, ?_, ?_⟩ <;> (first | ((try simp only [hq.1]) <;> rfl) | fail)) | fail) ?_ | refine Ow.sp Ot.ty HO.out rfl rfl rfl rfl rfl (by first | exact Ow.ev_tmp rfl | rfl) (by first | (refine ⟨?_, ?_, ?_⟩ <;> (first | ((try simp only [hq.1]) <;> rfl) | fail)) | fail) ?_); clear HO; intro wz_ HO; simp only [List.set_cons_zero, List.set_cons_succ] at HO))
                  go_meet
                  case rel => exact ⟨_, (false), (by first | rfl | (simp; done) | (simp [*]; done) | (simp [Pu.bne_nil, Pu.beq_nil]; done)), H', ⟨by have := HJ1.out; have := HJ24.out; first | omega | exact Nat.le_refl _⟩, ⟨Ow.Own.cong (by first | exact HO.out | (have h_ := HO.out; simp only [World.drewN_drewN] at h_; exact h_)) (by first | ((try simp only [hq.1]) <;> rfl) | fail)⟩⟩
                · rw [if_neg c36] at H
                  have c36b0 : (x3_24.toList == ([48, 48] : List UInt8)) = false := beq_eq_false_iff_ne.mpr c36
                  have c36b1 : (x3_24.toList != ([48, 48] : List UInt8)) = true := bne_iff_ne.mpr c36
                  (first | rw [c36b0] | (simp only [i64_w, i32_w]; rw [c36b0]) | skip)
                  have H' := Aside0.mk H
                  clear H
                  go_wp2_with (first | ((with_reducible refine Ow.gate_build rfl ?_); (try (refine gate_guard (by rfl) ?_; dsimp only)); refine' Ow.tbuild Ot.bd rfl rfl rfl ?hf_ ?_; (case hf_ => repeat (any_goals (first | exact Ow.Fills.nil | (refine' Ow.Fills.c ?hv_ rfl ?hz_ ?_; (case hv_ => first | exact Ow.ev_tmp rfl | rfl); (case hz_ => first | (refine ⟨?_, ?_⟩ <;> (first | ((try simp only [hq.1]) <;> rfl) | fail)) | fail)))))) | ((with_reducible refine Ow.gate_load rfl ?_); (try (refine gate_guard (by rfl) ?_; dsimp only)); (first | refine Ow.l1 Ot.ty HO.out rfl rfl rfl rfl (by first | ((try simp only [hq.1]) <;> rfl) | fail) ?_ | refine Ow.l0 Ot.ty HO.out rfl rfl rfl rfl (by first | ((try simp only [hq.1]) <;> rfl) | fail) ?_ | refine Ow.lp Ot.ty HO.out rfl rfl rfl rfl (by first | ((try simp only [hq.1]) <;> rfl) | fail) ?_)) | ((with_reducible refine gate_store rfl ?_); (try (refine gate_guard (by rfl) ?_; dsimp only)); (first | refine Ow.s0 Ot.ty HO.out rfl rfl rfl rfl rfl (by first | exact Ow.ev_tmp rfl | rfl) (by first | (refine ⟨?_, ?_, ?_⟩ <;> (first | ((try simp only [hq.1]) <;> rfl) | fail)) | fail) ?_ | refine Ow.sp Ot.ty HO.out rfl rfl rfl rfl rfl (by first | exact Ow.ev_tmp rfl | rfl) (by first | (refine ⟨?_, ?_, ?_⟩ <;> (first | ((try simp only [hq.1]) <;> rfl) | fail)) | fail) ?_); clear HO; intro wz_ HO; simp only [List.set_cons_zero, List.set_cons_succ] at HO))
                  go_meet
                  case rel => exact ⟨_, ((x3_24.toList != ([48, 49] : List UInt8))), (by first | rfl | (simp; done) | (simp [*]; done) | (simp [Pu.bne_nil, Pu.beq_nil]; done)), H', ⟨by have := HJ1.out; have := HJ24.out; first | omega | exact Nat.le_refl _⟩, ⟨Ow.Own.cong (by first | exact HO.out | (have h_ := HO.out; simp only [World.drewN_drewN] at h_; exact h_)) (by first | ((try simp only [hq.1]) <;> rfl) | fail)⟩⟩
            case rest =>
              clear HC32
              try clear c1
              try clear c2
              try clear p2
              try clear c3
              try clear c5
              try clear c6
              try clear c7
              try clear c7b0
              try clear c8
              try clear c12
              try clear c16
              try clear c19
              try clear c22
              try clear c26
              try clear c28
              try clear c28b0
              try clear c28b1
              try clear c29
              try clear c29b0
              try clear c29b1
              try clear c30
              try clear c33
              try clear c34
              try clear c35
              try clear c36
              try clear c36b0
              try clear c36b1
              try clear c37
              try clear c39
              try clear hcz11_0
              try clear hcz13_0
              try clear hcz15_0
              try clear hcz17_0
              try clear hcz23_0
              try clear hcz27_0
              try clear hcz31_0
              try clear hcz35_0
              try clear hcz38_0
              try clear hcz40_0
              try clear hcz9_0
              try clear hfz11_0
              try clear hfz13_0
              try clear hfz15_0
              try clear hfz17_0
              try clear hfz23_0
              try clear hfz27_0
              try clear hfz31_0
              try clear hfz35_0
              try clear hfz38_0
              try clear hfz40_0
              try clear hfz9_0
              try clear p2
              clear HO
              obtain ⟨kq, x39_31, rfl, HA, HJ31, HO⟩ := hcut
              cases kq with
              | zero => exact absurd HA.out (by simp [bursarref23_Capture.j2])
              | succ kj31 =>
                have H := HA.out
                clear HA
                simp only [bursarref23_Capture.j2] at H
                by_cases c41 : x39_31 = true
                · subst c41
                  have H1 : ((bursarref23_no.f (⟨#[49, 50]⟩ : ByteArray)).bind fun bt276 => (some (bt276.1, bt276.2.1, bt276.2.2.1, bt276.2.2.2.1, bt276.2.2.2.2.1, bt276.2.2.2.2.2.1, bt276.2.2.2.2.2.2.1, bt276.2.2.2.2.2.2.2.1, bt276.2.2.2.2.2.2.2.2.1, bt276.2.2.2.2.2.2.2.2.2.1, bt276.2.2.2.2.2.2.2.2.2.2.1, bt276.2.2.2.2.2.2.2.2.2.2.2.1, bt276.2.2.2.2.2.2.2.2.2.2.2.2.1, bt276.2.2.2.2.2.2.2.2.2.2.2.2.2.1, bt276.2.2.2.2.2.2.2.2.2.2.2.2.2.2))) = some (r1, r2, r3, r4, r5, r6, r7, r8, r9, r10, r11, r12, r13, r14, r15) := by rw [if_pos rfl] at H; exact H
                  clear H
                  have H := H1
                  clear H1
                  replace H := Option.bind_eq_some_iff.mp H
                  obtain ⟨⟨t276, t277, t278, t279, t280, t281, t282, t283, t284, t285, t286, t287, t288, t289, t290⟩, A420, H⟩ := H
                  replace H : (some (t276, t277, t278, t279, t280, t281, t282, t283, t284, t285, t286, t287, t288, t289, t290)) = some (r1, r2, r3, r4, r5, r6, r7, r8, r9, r10, r11, r12, r13, r14, r15) := H
                  have A42 := Aside0.mk A420
                  clear A420
                  simp only [Option.some.injEq, Prod.mk.injEq] at H
                  obtain ⟨rfl, rfl, rfl, rfl, rfl, rfl, rfl, rfl, rfl, rfl, rfl, rfl, rfl, rfl, rfl⟩ := H
                  obtain ⟨Q2, hQ2_⟩ : ∃ q_ : Array Value, q_ = (#[.string t276, .string t277, .string t278, .string t279, .int .i64 t280, .int .i64 t281, .int .i64 t282, .bool t283, .bool t284, .int .i64 t285, .int .i64 t286, .string t287, .string t288, .string t289, .int .i64 t290] : Array Value) := ⟨_, rfl⟩
                  try rw [← hQ2_]
                  have hQ2 := Aside0.mk hQ2_; replace hq := Aside0.mk (And.intro hQ2_ hq.1); clear hQ2_
                  go_wp2_with (first | ((with_reducible refine gate_callee (f := 56) rfl ?_); refine goesL_ (some 40) rfl rfl Try.func56 (by kernel_rfl) rfl #[.string (⟨#[49, 50]⟩ : ByteArray)] rfl (by (try simp only [List.map_toArray, List.map_cons, List.map_nil]); first | done | rfl | (simp only [hq.1]; done) | (simp only [hq.1]; rfl)) ?_; refine Calls.mono (calls_of_args (by first | ((try simp only [hq.1]) <;> rfl) | fail) (bursarref23_no.calls (⟨#[49, 50]⟩ : ByteArray) t276 t277 t278 t279 t280 t281 t282 t283 t284 t285 t286 t287 t288 t289 t290 _ A42.out)) ?_; rintro e w43 ⟨he_, hb⟩; (try rw [← hQ2.out] at he_); subst he_; refine ⟨_, rfl, ?_⟩; replace HO := Aside0.mk (Ow.Own.call HO.out hb); clear hb) | ((with_reducible refine Ow.gate_build rfl ?_); (try (refine gate_guard (by rfl) ?_; dsimp only)); refine' Ow.tbuild Ot.bd rfl rfl rfl ?hf_ ?_; (case hf_ => repeat (any_goals (first | exact Ow.Fills.nil | (refine' Ow.Fills.c ?hv_ rfl ?hz_ ?_; (case hv_ => first | exact Ow.ev_tmp rfl | rfl); (case hz_ => first | (refine ⟨?_, ?_⟩ <;> (first | ((try simp only [hq.1]) <;> rfl) | fail)) | fail)))))) | ((with_reducible refine Ow.gate_load rfl ?_); (try (refine gate_guard (by rfl) ?_; dsimp only)); (first | refine Ow.l1 Ot.ty HO.out rfl rfl rfl rfl (by first | ((try simp only [hq.1]) <;> rfl) | fail) ?_ | refine Ow.l0 Ot.ty HO.out rfl rfl rfl rfl (by first | ((try simp only [hq.1]) <;> rfl) | fail) ?_ | refine Ow.lp Ot.ty HO.out rfl rfl rfl rfl (by first | ((try simp only [hq.1]) <;> rfl) | fail) ?_)) | ((with_reducible refine gate_store rfl ?_); (try (refine gate_guard (by rfl) ?_; dsimp only)); (first | refine Ow.s0 Ot.ty HO.out rfl rfl rfl rfl rfl (by first | exact Ow.ev_tmp rfl | rfl) (by first | (refine ⟨?_, ?_, ?_⟩ <;> (first | ((try simp only [hq.1]) <;> rfl) | fail)) | fail) ?_ | refine Ow.sp Ot.ty HO.out rfl rfl rfl rfl rfl (by first | exact Ow.ev_tmp rfl | rfl) (by first | (refine ⟨?_, ?_, ?_⟩ <;> (first | ((try simp only [hq.1]) <;> rfl) | fail)) | fail) ?_); clear HO; intro wz_ HO; simp only [List.set_cons_zero, List.set_cons_succ] at HO))
                  refine' bodyPost_ret (results_cell_row rfl _ _ gb259 53 _ (0, 0) _ rfl ?hb_ Try.underlying53 rfl ?hi_) rfl ?_
                  case hb_ => refine' Ow.Own.get HO.out 1 ?hk_; (case hk_ => rfl)
                  case hi_ => exact (Ot.ty.size 53 rfl).trans (congrArg some (by first | ((try simp only [hq.1]) <;> rfl) | fail))
                  all_goals exact ⟨by first | rfl | (simp only [hq.1]; done) | (simp only [hq.1]; rfl) | (simp [errW_none, errW_some] <;> rfl) | (simp [*, errW_none, errW_some] <;> rfl), Ow.Own.below HO.out⟩
                · replace c41 := Bool.eq_false_iff.mpr c41
                  subst c41
                  have H1 : (if a0_12 = true then (if a0_3 > 9999999999999 then ((bursarref23_no.f (⟨#[57, 54]⟩ : ByteArray)).bind fun bt306 => (some (bt306.1, bt306.2.1, bt306.2.2.1, bt306.2.2.2.1, bt306.2.2.2.2.1, bt306.2.2.2.2.2.1, bt306.2.2.2.2.2.2.1, bt306.2.2.2.2.2.2.2.1, bt306.2.2.2.2.2.2.2.2.1, bt306.2.2.2.2.2.2.2.2.2.1, bt306.2.2.2.2.2.2.2.2.2.2.1, bt306.2.2.2.2.2.2.2.2.2.2.2.1, bt306.2.2.2.2.2.2.2.2.2.2.2.2.1, bt306.2.2.2.2.2.2.2.2.2.2.2.2.2.1, bt306.2.2.2.2.2.2.2.2.2.2.2.2.2.2))) else (if a0_21 = true then (if a0_16.toList = a0_1.toList then (if a0_20 = true then ((bursarref14_Take.f a0_14 a0_15 a0_16 a0_17 a0_18 a0_19 a0_20 a0_3 (x3_24.toList == ([48, 48] : List UInt8))).bind fun bt368 => (if bt368.2.2.2.2.2.2.2 = 0 then (some ((⟨#[48, 48]⟩ : ByteArray), bt368.1, bt368.2.1, bt368.2.2.1, bt368.2.2.2.1, bt368.2.2.2.2.1, bt368.2.2.2.2.2.1, bt368.2.2.2.2.2.2.1, true, 2, a0_23, a0_1, a0_6, a0_7, a0_3)) else ((bursarref23_no.f (⟨#[54, 49]⟩ : ByteArray)).bind fun bt377 => (some (bt377.1, bt377.2.1, bt377.2.2.1, bt377.2.2.2.1, bt377.2.2.2.2.1, bt377.2.2.2.2.2.1, bt377.2.2.2.2.2.2.1, bt377.2.2.2.2.2.2.2.1, bt377.2.2.2.2.2.2.2.2.1, bt377.2.2.2.2.2.2.2.2.2.1, bt377.2.2.2.2.2.2.2.2.2.2.1, bt377.2.2.2.2.2.2.2.2.2.2.2.1, bt377.2.2.2.2.2.2.2.2.2.2.2.2.1, bt377.2.2.2.2.2.2.2.2.2.2.2.2.2.1, bt377.2.2.2.2.2.2.2.2.2.2.2.2.2.2))))) else ((bursarref23_no.f (⟨#[53, 52]⟩ : ByteArray)).bind fun bt353 => (some (bt353.1, bt353.2.1, bt353.2.2.1, bt353.2.2.2.1, bt353.2.2.2.2.1, bt353.2.2.2.2.2.1, bt353.2.2.2.2.2.2.1, bt353.2.2.2.2.2.2.2.1, bt353.2.2.2.2.2.2.2.2.1, bt353.2.2.2.2.2.2.2.2.2.1, bt353.2.2.2.2.2.2.2.2.2.2.1, bt353.2.2.2.2.2.2.2.2.2.2.2.1, bt353.2.2.2.2.2.2.2.2.2.2.2.2.1, bt353.2.2.2.2.2.2.2.2.2.2.2.2.2.1, bt353.2.2.2.2.2.2.2.2.2.2.2.2.2.2)))) else ((bursarref23_no.f (⟨#[49, 52]⟩ : ByteArray)).bind fun bt338 => (some (bt338.1, bt338.2.1, bt338.2.2.1, bt338.2.2.2.1, bt338.2.2.2.2.1, bt338.2.2.2.2.2.1, bt338.2.2.2.2.2.2.1, bt338.2.2.2.2.2.2.2.1, bt338.2.2.2.2.2.2.2.2.1, bt338.2.2.2.2.2.2.2.2.2.1, bt338.2.2.2.2.2.2.2.2.2.2.1, bt338.2.2.2.2.2.2.2.2.2.2.2.1, bt338.2.2.2.2.2.2.2.2.2.2.2.2.1, bt338.2.2.2.2.2.2.2.2.2.2.2.2.2.1, bt338.2.2.2.2.2.2.2.2.2.2.2.2.2.2)))) else ((bursarref22_Advice.f a0_0 a0_1 a0_2 a0_3 a0_4 a0_5 a0_6 a0_7 a0_8 a0_9 a0_10 a0_11).bind fun t322 => (if t322 = true then (some ((⟨#[48, 48]⟩ : ByteArray), (⟨#[]⟩ : ByteArray), (⟨#[]⟩ : ByteArray), (⟨#[]⟩ : ByteArray), 0, 0, 0, false, false, 2, a0_23, a0_1, a0_6, a0_7, a0_3)) else (if a0_3 > a0_13 then ((bursarref23_no.f (⟨#[53, 49]⟩ : ByteArray)).bind fun bt323 => (some (bt323.1, bt323.2.1, bt323.2.2.1, bt323.2.2.2.1, bt323.2.2.2.2.1, bt323.2.2.2.2.2.1, bt323.2.2.2.2.2.2.1, bt323.2.2.2.2.2.2.2.1, bt323.2.2.2.2.2.2.2.2.1, bt323.2.2.2.2.2.2.2.2.2.1, bt323.2.2.2.2.2.2.2.2.2.2.1, bt323.2.2.2.2.2.2.2.2.2.2.2.1, bt323.2.2.2.2.2.2.2.2.2.2.2.2.1, bt323.2.2.2.2.2.2.2.2.2.2.2.2.2.1, bt323.2.2.2.2.2.2.2.2.2.2.2.2.2.2))) else (some ((⟨#[48, 48]⟩ : ByteArray), (⟨#[]⟩ : ByteArray), (⟨#[]⟩ : ByteArray), (⟨#[]⟩ : ByteArray), 0, 0, 0, false, false, 2, a0_23, a0_1, a0_6, a0_7, a0_3))))))) else ((bursarref23_no.f (⟨#[49, 52]⟩ : ByteArray)).bind fun bt291 => (some (bt291.1, bt291.2.1, bt291.2.2.1, bt291.2.2.2.1, bt291.2.2.2.2.1, bt291.2.2.2.2.2.1, bt291.2.2.2.2.2.2.1, bt291.2.2.2.2.2.2.2.1, bt291.2.2.2.2.2.2.2.2.1, bt291.2.2.2.2.2.2.2.2.2.1, bt291.2.2.2.2.2.2.2.2.2.2.1, bt291.2.2.2.2.2.2.2.2.2.2.2.1, bt291.2.2.2.2.2.2.2.2.2.2.2.2.1, bt291.2.2.2.2.2.2.2.2.2.2.2.2.2.1, bt291.2.2.2.2.2.2.2.2.2.2.2.2.2.2)))) = some (r1, r2, r3, r4, r5, r6, r7, r8, r9, r10, r11, r12, r13, r14, r15) := by rw [if_neg (show ¬ (false = true) by decide)] at H; exact H
                  clear H
                  have H := H1
                  clear H1
                  by_cases c47 : a0_12 = true
                  · subst c47
                    have H1 : (if a0_3 > 9999999999999 then ((bursarref23_no.f (⟨#[57, 54]⟩ : ByteArray)).bind fun bt306 => (some (bt306.1, bt306.2.1, bt306.2.2.1, bt306.2.2.2.1, bt306.2.2.2.2.1, bt306.2.2.2.2.2.1, bt306.2.2.2.2.2.2.1, bt306.2.2.2.2.2.2.2.1, bt306.2.2.2.2.2.2.2.2.1, bt306.2.2.2.2.2.2.2.2.2.1, bt306.2.2.2.2.2.2.2.2.2.2.1, bt306.2.2.2.2.2.2.2.2.2.2.2.1, bt306.2.2.2.2.2.2.2.2.2.2.2.2.1, bt306.2.2.2.2.2.2.2.2.2.2.2.2.2.1, bt306.2.2.2.2.2.2.2.2.2.2.2.2.2.2))) else (if a0_21 = true then (if a0_16.toList = a0_1.toList then (if a0_20 = true then ((bursarref14_Take.f a0_14 a0_15 a0_16 a0_17 a0_18 a0_19 a0_20 a0_3 (x3_24.toList == ([48, 48] : List UInt8))).bind fun bt368 => (if bt368.2.2.2.2.2.2.2 = 0 then (some ((⟨#[48, 48]⟩ : ByteArray), bt368.1, bt368.2.1, bt368.2.2.1, bt368.2.2.2.1, bt368.2.2.2.2.1, bt368.2.2.2.2.2.1, bt368.2.2.2.2.2.2.1, true, 2, a0_23, a0_1, a0_6, a0_7, a0_3)) else ((bursarref23_no.f (⟨#[54, 49]⟩ : ByteArray)).bind fun bt377 => (some (bt377.1, bt377.2.1, bt377.2.2.1, bt377.2.2.2.1, bt377.2.2.2.2.1, bt377.2.2.2.2.2.1, bt377.2.2.2.2.2.2.1, bt377.2.2.2.2.2.2.2.1, bt377.2.2.2.2.2.2.2.2.1, bt377.2.2.2.2.2.2.2.2.2.1, bt377.2.2.2.2.2.2.2.2.2.2.1, bt377.2.2.2.2.2.2.2.2.2.2.2.1, bt377.2.2.2.2.2.2.2.2.2.2.2.2.1, bt377.2.2.2.2.2.2.2.2.2.2.2.2.2.1, bt377.2.2.2.2.2.2.2.2.2.2.2.2.2.2))))) else ((bursarref23_no.f (⟨#[53, 52]⟩ : ByteArray)).bind fun bt353 => (some (bt353.1, bt353.2.1, bt353.2.2.1, bt353.2.2.2.1, bt353.2.2.2.2.1, bt353.2.2.2.2.2.1, bt353.2.2.2.2.2.2.1, bt353.2.2.2.2.2.2.2.1, bt353.2.2.2.2.2.2.2.2.1, bt353.2.2.2.2.2.2.2.2.2.1, bt353.2.2.2.2.2.2.2.2.2.2.1, bt353.2.2.2.2.2.2.2.2.2.2.2.1, bt353.2.2.2.2.2.2.2.2.2.2.2.2.1, bt353.2.2.2.2.2.2.2.2.2.2.2.2.2.1, bt353.2.2.2.2.2.2.2.2.2.2.2.2.2.2)))) else ((bursarref23_no.f (⟨#[49, 52]⟩ : ByteArray)).bind fun bt338 => (some (bt338.1, bt338.2.1, bt338.2.2.1, bt338.2.2.2.1, bt338.2.2.2.2.1, bt338.2.2.2.2.2.1, bt338.2.2.2.2.2.2.1, bt338.2.2.2.2.2.2.2.1, bt338.2.2.2.2.2.2.2.2.1, bt338.2.2.2.2.2.2.2.2.2.1, bt338.2.2.2.2.2.2.2.2.2.2.1, bt338.2.2.2.2.2.2.2.2.2.2.2.1, bt338.2.2.2.2.2.2.2.2.2.2.2.2.1, bt338.2.2.2.2.2.2.2.2.2.2.2.2.2.1, bt338.2.2.2.2.2.2.2.2.2.2.2.2.2.2)))) else ((bursarref22_Advice.f a0_0 a0_1 a0_2 a0_3 a0_4 a0_5 a0_6 a0_7 a0_8 a0_9 a0_10 a0_11).bind fun t322 => (if t322 = true then (some ((⟨#[48, 48]⟩ : ByteArray), (⟨#[]⟩ : ByteArray), (⟨#[]⟩ : ByteArray), (⟨#[]⟩ : ByteArray), 0, 0, 0, false, false, 2, a0_23, a0_1, a0_6, a0_7, a0_3)) else (if a0_3 > a0_13 then ((bursarref23_no.f (⟨#[53, 49]⟩ : ByteArray)).bind fun bt323 => (some (bt323.1, bt323.2.1, bt323.2.2.1, bt323.2.2.2.1, bt323.2.2.2.2.1, bt323.2.2.2.2.2.1, bt323.2.2.2.2.2.2.1, bt323.2.2.2.2.2.2.2.1, bt323.2.2.2.2.2.2.2.2.1, bt323.2.2.2.2.2.2.2.2.2.1, bt323.2.2.2.2.2.2.2.2.2.2.1, bt323.2.2.2.2.2.2.2.2.2.2.2.1, bt323.2.2.2.2.2.2.2.2.2.2.2.2.1, bt323.2.2.2.2.2.2.2.2.2.2.2.2.2.1, bt323.2.2.2.2.2.2.2.2.2.2.2.2.2.2))) else (some ((⟨#[48, 48]⟩ : ByteArray), (⟨#[]⟩ : ByteArray), (⟨#[]⟩ : ByteArray), (⟨#[]⟩ : ByteArray), 0, 0, 0, false, false, 2, a0_23, a0_1, a0_6, a0_7, a0_3))))))) = some (r1, r2, r3, r4, r5, r6, r7, r8, r9, r10, r11, r12, r13, r14, r15) := by rw [if_pos rfl] at H; exact H
                    clear H
                    have H := H1
                    clear H1
                    by_cases c48 : a0_3 > 9999999999999
                    · rw [if_pos c48] at H
                      have c48b0 : decide (9999999999999 < a0_3) = true := decide_eq_true c48
                      clear c48
                      replace H := Option.bind_eq_some_iff.mp H
                      obtain ⟨⟨t306, t307, t308, t309, t310, t311, t312, t313, t314, t315, t316, t317, t318, t319, t320⟩, A490, H⟩ := H
                      replace H : (some (t306, t307, t308, t309, t310, t311, t312, t313, t314, t315, t316, t317, t318, t319, t320)) = some (r1, r2, r3, r4, r5, r6, r7, r8, r9, r10, r11, r12, r13, r14, r15) := H
                      have A49 := Aside0.mk A490
                      clear A490
                      simp only [Option.some.injEq, Prod.mk.injEq] at H
                      obtain ⟨rfl, rfl, rfl, rfl, rfl, rfl, rfl, rfl, rfl, rfl, rfl, rfl, rfl, rfl, rfl⟩ := H
                      obtain ⟨Q3, hQ3_⟩ : ∃ q_ : Array Value, q_ = (#[.string t306, .string t307, .string t308, .string t309, .int .i64 t310, .int .i64 t311, .int .i64 t312, .bool t313, .bool t314, .int .i64 t315, .int .i64 t316, .string t317, .string t318, .string t319, .int .i64 t320] : Array Value) := ⟨_, rfl⟩
                      try rw [← hQ3_]
                      have hQ3 := Aside0.mk hQ3_; replace hq := Aside0.mk (And.intro hQ3_ hq.1); clear hQ3_
                      go_wp2_with (first | ((with_reducible refine gate_callee (f := 56) rfl ?_); refine goesL_ (some 49) rfl rfl Try.func56 (by kernel_rfl) rfl #[.string (⟨#[57, 54]⟩ : ByteArray)] rfl (by (try simp only [List.map_toArray, List.map_cons, List.map_nil]); first | done | rfl | (simp only [hq.1]; done) | (simp only [hq.1]; rfl)) ?_; refine Calls.mono (calls_of_args (by first | ((try simp only [hq.1]) <;> rfl) | fail) (bursarref23_no.calls (⟨#[57, 54]⟩ : ByteArray) t306 t307 t308 t309 t310 t311 t312 t313 t314 t315 t316 t317 t318 t319 t320 _ A49.out)) ?_; rintro e w52 ⟨he_, hb⟩; (try rw [← hQ3.out] at he_); subst he_; refine ⟨_, rfl, ?_⟩; replace HO := Aside0.mk (Ow.Own.call HO.out hb); clear hb) | ((with_reducible refine Ow.gate_build rfl ?_); (try (refine gate_guard (by rfl) ?_; dsimp only)); refine' Ow.tbuild Ot.bd rfl rfl rfl ?hf_ ?_; (case hf_ => repeat (any_goals (first | exact Ow.Fills.nil | (refine' Ow.Fills.c ?hv_ rfl ?hz_ ?_; (case hv_ => first | exact Ow.ev_tmp rfl | rfl); (case hz_ => first | (refine ⟨?_, ?_⟩ <;> (first | ((try simp only [hq.1]) <;> rfl) | fail)) | fail)))))) | ((with_reducible refine Ow.gate_load rfl ?_); (try (refine gate_guard (by rfl) ?_; dsimp only)); (first | refine Ow.l1 Ot.ty HO.out rfl rfl rfl rfl (by first | ((try simp only [hq.1]) <;> rfl) | fail) ?_ | refine Ow.l0 Ot.ty HO.out rfl rfl rfl rfl (by first | ((try simp only [hq.1]) <;> rfl) | fail) ?_ | refine Ow.lp Ot.ty HO.out rfl rfl rfl rfl (by first | ((try simp only [hq.1]) <;> rfl) | fail) ?_)) | ((with_reducible refine gate_store rfl ?_); (try (refine gate_guard (by rfl) ?_; dsimp only)); (first | refine Ow.s0 Ot.ty HO.out rfl rfl rfl rfl rfl (by first | exact Ow.ev_tmp rfl | rfl) (by first | (refine ⟨?_, ?_, ?_⟩ <;> (first | ((try simp only [hq.1]) <;> rfl) | fail)) | fail) ?_ | refine Ow.sp Ot.ty HO.out rfl rfl rfl rfl rfl (by first | exact Ow.ev_tmp rfl | rfl) (by first | (refine ⟨?_, ?_, ?_⟩ <;> (first | ((try simp only [hq.1]) <;> rfl) | fail)) | fail) ?_); clear HO; intro wz_ HO; simp only [List.set_cons_zero, List.set_cons_succ] at HO))
                      refine' bodyPost_ret (results_cell_row rfl _ _ gb259 53 _ (0, 0) _ rfl ?hb_ Try.underlying53 rfl ?hi_) rfl ?_
                      case hb_ => refine' Ow.Own.get HO.out 1 ?hk_; (case hk_ => rfl)
                      case hi_ => exact (Ot.ty.size 53 rfl).trans (congrArg some (by first | ((try simp only [hq.1]) <;> rfl) | fail))
                      all_goals exact ⟨by first | rfl | (simp only [hq.1]; done) | (simp only [hq.1]; rfl) | (simp [errW_none, errW_some] <;> rfl) | (simp [*, errW_none, errW_some] <;> rfl), Ow.Own.below HO.out⟩
                    · rw [if_neg c48] at H
                      have c48b0 : decide (9999999999999 < a0_3) = false := decide_eq_false c48
                      clear c48
                      by_cases c55 : a0_21 = true
                      · subst c55
                        have H1 : (if a0_16.toList = a0_1.toList then (if a0_20 = true then ((bursarref14_Take.f a0_14 a0_15 a0_16 a0_17 a0_18 a0_19 a0_20 a0_3 (x3_24.toList == ([48, 48] : List UInt8))).bind fun bt368 => (if bt368.2.2.2.2.2.2.2 = 0 then (some ((⟨#[48, 48]⟩ : ByteArray), bt368.1, bt368.2.1, bt368.2.2.1, bt368.2.2.2.1, bt368.2.2.2.2.1, bt368.2.2.2.2.2.1, bt368.2.2.2.2.2.2.1, true, 2, a0_23, a0_1, a0_6, a0_7, a0_3)) else ((bursarref23_no.f (⟨#[54, 49]⟩ : ByteArray)).bind fun bt377 => (some (bt377.1, bt377.2.1, bt377.2.2.1, bt377.2.2.2.1, bt377.2.2.2.2.1, bt377.2.2.2.2.2.1, bt377.2.2.2.2.2.2.1, bt377.2.2.2.2.2.2.2.1, bt377.2.2.2.2.2.2.2.2.1, bt377.2.2.2.2.2.2.2.2.2.1, bt377.2.2.2.2.2.2.2.2.2.2.1, bt377.2.2.2.2.2.2.2.2.2.2.2.1, bt377.2.2.2.2.2.2.2.2.2.2.2.2.1, bt377.2.2.2.2.2.2.2.2.2.2.2.2.2.1, bt377.2.2.2.2.2.2.2.2.2.2.2.2.2.2))))) else ((bursarref23_no.f (⟨#[53, 52]⟩ : ByteArray)).bind fun bt353 => (some (bt353.1, bt353.2.1, bt353.2.2.1, bt353.2.2.2.1, bt353.2.2.2.2.1, bt353.2.2.2.2.2.1, bt353.2.2.2.2.2.2.1, bt353.2.2.2.2.2.2.2.1, bt353.2.2.2.2.2.2.2.2.1, bt353.2.2.2.2.2.2.2.2.2.1, bt353.2.2.2.2.2.2.2.2.2.2.1, bt353.2.2.2.2.2.2.2.2.2.2.2.1, bt353.2.2.2.2.2.2.2.2.2.2.2.2.1, bt353.2.2.2.2.2.2.2.2.2.2.2.2.2.1, bt353.2.2.2.2.2.2.2.2.2.2.2.2.2.2)))) else ((bursarref23_no.f (⟨#[49, 52]⟩ : ByteArray)).bind fun bt338 => (some (bt338.1, bt338.2.1, bt338.2.2.1, bt338.2.2.2.1, bt338.2.2.2.2.1, bt338.2.2.2.2.2.1, bt338.2.2.2.2.2.2.1, bt338.2.2.2.2.2.2.2.1, bt338.2.2.2.2.2.2.2.2.1, bt338.2.2.2.2.2.2.2.2.2.1, bt338.2.2.2.2.2.2.2.2.2.2.1, bt338.2.2.2.2.2.2.2.2.2.2.2.1, bt338.2.2.2.2.2.2.2.2.2.2.2.2.1, bt338.2.2.2.2.2.2.2.2.2.2.2.2.2.1, bt338.2.2.2.2.2.2.2.2.2.2.2.2.2.2)))) = some (r1, r2, r3, r4, r5, r6, r7, r8, r9, r10, r11, r12, r13, r14, r15) := by rw [if_pos rfl] at H; exact H
                        clear H
                        have H := H1
                        clear H1
                        by_cases c56 : a0_16.toList = a0_1.toList
                        · rw [if_pos c56] at H
                          have c56b0 : (a0_16.toList == a0_1.toList) = true := beq_iff_eq.mpr c56
                          have c56b1 : (a0_16.toList != a0_1.toList) = false := bne_eq_false_iff_eq.mpr c56
                          clear c56
                          by_cases c57 : a0_20 = true
                          · subst c57
                            have H1 : ((bursarref14_Take.f a0_14 a0_15 a0_16 a0_17 a0_18 a0_19 true a0_3 (x3_24.toList == ([48, 48] : List UInt8))).bind fun bt368 => (if bt368.2.2.2.2.2.2.2 = 0 then (some ((⟨#[48, 48]⟩ : ByteArray), bt368.1, bt368.2.1, bt368.2.2.1, bt368.2.2.2.1, bt368.2.2.2.2.1, bt368.2.2.2.2.2.1, bt368.2.2.2.2.2.2.1, true, 2, a0_23, a0_1, a0_6, a0_7, a0_3)) else ((bursarref23_no.f (⟨#[54, 49]⟩ : ByteArray)).bind fun bt377 => (some (bt377.1, bt377.2.1, bt377.2.2.1, bt377.2.2.2.1, bt377.2.2.2.2.1, bt377.2.2.2.2.2.1, bt377.2.2.2.2.2.2.1, bt377.2.2.2.2.2.2.2.1, bt377.2.2.2.2.2.2.2.2.1, bt377.2.2.2.2.2.2.2.2.2.1, bt377.2.2.2.2.2.2.2.2.2.2.1, bt377.2.2.2.2.2.2.2.2.2.2.2.1, bt377.2.2.2.2.2.2.2.2.2.2.2.2.1, bt377.2.2.2.2.2.2.2.2.2.2.2.2.2.1, bt377.2.2.2.2.2.2.2.2.2.2.2.2.2.2))))) = some (r1, r2, r3, r4, r5, r6, r7, r8, r9, r10, r11, r12, r13, r14, r15) := by rw [if_pos rfl] at H; exact H
                            clear H
                            have H := H1
                            clear H1
                            replace H := Option.bind_eq_some_iff.mp H
                            obtain ⟨⟨t368, t369, t370, t371, t372, t373, t374, t375⟩, A580, H⟩ := H
                            replace H : (if t375 = 0 then (some ((⟨#[48, 48]⟩ : ByteArray), t368, t369, t370, t371, t372, t373, t374, true, 2, a0_23, a0_1, a0_6, a0_7, a0_3)) else ((bursarref23_no.f (⟨#[54, 49]⟩ : ByteArray)).bind fun bt377 => (some (bt377.1, bt377.2.1, bt377.2.2.1, bt377.2.2.2.1, bt377.2.2.2.2.1, bt377.2.2.2.2.2.1, bt377.2.2.2.2.2.2.1, bt377.2.2.2.2.2.2.2.1, bt377.2.2.2.2.2.2.2.2.1, bt377.2.2.2.2.2.2.2.2.2.1, bt377.2.2.2.2.2.2.2.2.2.2.1, bt377.2.2.2.2.2.2.2.2.2.2.2.1, bt377.2.2.2.2.2.2.2.2.2.2.2.2.1, bt377.2.2.2.2.2.2.2.2.2.2.2.2.2.1, bt377.2.2.2.2.2.2.2.2.2.2.2.2.2.2)))) = some (r1, r2, r3, r4, r5, r6, r7, r8, r9, r10, r11, r12, r13, r14, r15) := H
                            have A58 := Aside0.mk A580
                            clear A580
                            by_cases c59 : t375 = 0
                            · rw [if_pos c59] at H
                              have c59b0 : (t375 == 0) = true := beq_iff_eq.mpr c59
                              have c59b1 : (t375 != 0) = false := bne_eq_false_iff_eq.mpr c59
                              clear c59
                              simp only [Option.some.injEq, Prod.mk.injEq] at H
                              obtain ⟨rfl, rfl, rfl, rfl, rfl, rfl, rfl, rfl, rfl, rfl, rfl, rfl, rfl, rfl, rfl⟩ := H
                              go_wp2_with (first | ((with_reducible refine gate_dst (N := 4) rfl ?_); refine Ow.box rfl (N := 4) rfl (cs := bursarref23_Capture.Z15) (t := 53) HO.out (by first | (go_simp; done) | (go_simp; rfl)) ?_; clear HO; intro gb321 w62 HO; simp only [List.cons_append, List.nil_append] at HO) | ((with_reducible refine gate_callee (f := 57) rfl ?_); refine goesL_ (some 104) rfl rfl Try.func57 (by kernel_rfl) rfl #[.agg #[.string a0_14, .string a0_15, .string a0_16, .int .i64 a0_17, .int .i64 a0_18, .int .i64 a0_19, .bool true], .int .i64 a0_3, .bool (x3_24.toList == ([48, 48] : List UInt8))] rfl (by (try simp only [List.map_toArray, List.map_cons, List.map_nil]); first | done | rfl | (simp only [hq.1]; done) | (simp only [hq.1]; rfl)) ?_; refine Calls.mono (calls_of_args (by first | ((try simp only [hq.1]) <;> rfl) | fail) (bursarref14_Take.calls a0_14 a0_15 a0_16 a0_17 a0_18 a0_19 true a0_3 (x3_24.toList == ([48, 48] : List UInt8)) t368 t369 t370 t371 t372 t373 t374 t375 _ A58.out)) ?_; rintro e w68 ⟨he_, hb⟩; subst he_; refine ⟨_, rfl, ?_⟩; replace HO := Aside0.mk (Ow.Own.call HO.out hb); clear hb) | ((with_reducible refine gate_dst (N := 5) rfl ?_); refine Ow.box rfl (N := 5) rfl (cs := bursarref23_Capture.Z7) (t := 25) HO.out (by first | (go_simp; done) | (go_simp; rfl)) ?_; clear HO; intro gb376 w69 HO; simp only [List.cons_append, List.nil_append] at HO) | ((with_reducible refine Ow.gate_build rfl ?_); (try (refine gate_guard (by rfl) ?_; dsimp only)); refine' Ow.tbuild Ot.bd rfl rfl rfl ?hf_ ?_; (case hf_ => repeat (any_goals (first | exact Ow.Fills.nil | (refine' Ow.Fills.c ?hv_ rfl ?hz_ ?_; (case hv_ => first | exact Ow.ev_tmp rfl | rfl); (case hz_ => first | (refine ⟨?_, ?_⟩ <;> (first | ((try simp only [hq.1]) <;> rfl) | fail)) | fail)))))) | ((with_reducible refine Ow.gate_load rfl ?_); (try (refine gate_guard (by rfl) ?_; dsimp only)); (first | refine Ow.l1 Ot.ty HO.out rfl rfl rfl rfl (by first | ((try simp only [hq.1]) <;> rfl) | fail) ?_ | refine Ow.l0 Ot.ty HO.out rfl rfl rfl rfl (by first | ((try simp only [hq.1]) <;> rfl) | fail) ?_ | refine Ow.lp Ot.ty HO.out rfl rfl rfl rfl (by first | ((try simp only [hq.1]) <;> rfl) | fail) ?_)) | ((with_reducible refine gate_store rfl ?_); (try (refine gate_guard (by rfl) ?_; dsimp only)); (first | refine Ow.s0 Ot.ty HO.out rfl rfl rfl rfl rfl (by first | exact Ow.ev_tmp rfl | rfl) (by first | (refine ⟨?_, ?_, ?_⟩ <;> (first | ((try simp only [hq.1]) <;> rfl) | fail)) | fail) ?_ | refine Ow.sp Ot.ty HO.out rfl rfl rfl rfl rfl (by first | exact Ow.ev_tmp rfl | rfl) (by first | (refine ⟨?_, ?_, ?_⟩ <;> (first | ((try simp only [hq.1]) <;> rfl) | fail)) | fail) ?_); clear HO; intro wz_ HO; simp only [List.set_cons_zero, List.set_cons_succ] at HO))
                              refine' bodyPost_ret (results_cell_row rfl _ _ gb259 53 _ (0, 0) _ rfl ?hb_ Try.underlying53 rfl ?hi_) rfl ?_
                              case hb_ => refine' Ow.Own.get HO.out 1 ?hk_; (case hk_ => rfl)
                              case hi_ => exact (Ot.ty.size 53 rfl).trans (congrArg some (by first | ((try simp only [hq.1]) <;> rfl) | fail))
                              all_goals exact ⟨by first | rfl | (simp only [hq.1]; done) | (simp only [hq.1]; rfl) | (simp [errW_none, errW_some] <;> rfl) | (simp [*, errW_none, errW_some] <;> rfl), Ow.Own.below HO.out⟩
                            · rw [if_neg c59] at H
                              have c59b0 : (t375 == 0) = false := beq_eq_false_iff_ne.mpr c59
                              have c59b1 : (t375 != 0) = true := bne_iff_ne.mpr c59
                              replace H := Option.bind_eq_some_iff.mp H
                              obtain ⟨⟨t377, t378, t379, t380, t381, t382, t383, t384, t385, t386, t387, t388, t389, t390, t391⟩, A780, H⟩ := H
                              replace H : (some (t377, t378, t379, t380, t381, t382, t383, t384, t385, t386, t387, t388, t389, t390, t391)) = some (r1, r2, r3, r4, r5, r6, r7, r8, r9, r10, r11, r12, r13, r14, r15) := H
                              have A78 := Aside0.mk A780
                              clear A780
                              simp only [Option.some.injEq, Prod.mk.injEq] at H
                              obtain ⟨rfl, rfl, rfl, rfl, rfl, rfl, rfl, rfl, rfl, rfl, rfl, rfl, rfl, rfl, rfl⟩ := H
                              obtain ⟨Q4, hQ4_⟩ : ∃ q_ : Array Value, q_ = (#[.string t377, .string t378, .string t379, .string t380, .int .i64 t381, .int .i64 t382, .int .i64 t383, .bool t384, .bool t385, .int .i64 t386, .int .i64 t387, .string t388, .string t389, .string t390, .int .i64 t391] : Array Value) := ⟨_, rfl⟩
                              try rw [← hQ4_]
                              have hQ4 := Aside0.mk hQ4_; replace hq := Aside0.mk (And.intro hQ4_ hq.1); clear hQ4_
                              go_wp2_with (first | ((with_reducible refine gate_dst (N := 4) rfl ?_); refine Ow.box rfl (N := 4) rfl (cs := bursarref23_Capture.Z15) (t := 53) HO.out (by first | (go_simp; done) | (go_simp; rfl)) ?_; clear HO; intro gb321 w81 HO; simp only [List.cons_append, List.nil_append] at HO) | ((with_reducible refine gate_callee (f := 57) rfl ?_); refine goesL_ (some 104) rfl rfl Try.func57 (by kernel_rfl) rfl #[.agg #[.string a0_14, .string a0_15, .string a0_16, .int .i64 a0_17, .int .i64 a0_18, .int .i64 a0_19, .bool true], .int .i64 a0_3, .bool (x3_24.toList == ([48, 48] : List UInt8))] rfl (by (try simp only [List.map_toArray, List.map_cons, List.map_nil]); first | done | rfl | (simp only [hq.1]; done) | (simp only [hq.1]; rfl)) ?_; refine Calls.mono (calls_of_args (by first | ((try simp only [hq.1]) <;> rfl) | fail) (bursarref14_Take.calls a0_14 a0_15 a0_16 a0_17 a0_18 a0_19 true a0_3 (x3_24.toList == ([48, 48] : List UInt8)) t368 t369 t370 t371 t372 t373 t374 t375 _ A58.out)) ?_; rintro e w87 ⟨he_, hb⟩; subst he_; refine ⟨_, rfl, ?_⟩; replace HO := Aside0.mk (Ow.Own.call HO.out hb); clear hb) | ((with_reducible refine gate_dst (N := 5) rfl ?_); refine Ow.box rfl (N := 5) rfl (cs := bursarref23_Capture.Z7) (t := 25) HO.out (by first | (go_simp; done) | (go_simp; rfl)) ?_; clear HO; intro gb376 w88 HO; simp only [List.cons_append, List.nil_append] at HO) | ((with_reducible refine gate_callee (f := 56) rfl ?_); refine goesL_ (some 109) rfl rfl Try.func56 (by kernel_rfl) rfl #[.string (⟨#[54, 49]⟩ : ByteArray)] rfl (by (try simp only [List.map_toArray, List.map_cons, List.map_nil]); first | done | rfl | (simp only [hq.1]; done) | (simp only [hq.1]; rfl)) ?_; refine Calls.mono (calls_of_args (by first | ((try simp only [hq.1]) <;> rfl) | fail) (bursarref23_no.calls (⟨#[54, 49]⟩ : ByteArray) t377 t378 t379 t380 t381 t382 t383 t384 t385 t386 t387 t388 t389 t390 t391 _ A78.out)) ?_; rintro e w94 ⟨he_, hb⟩; (try rw [← hQ4.out] at he_); subst he_; refine ⟨_, rfl, ?_⟩; replace HO := Aside0.mk (Ow.Own.call HO.out hb); clear hb) | ((with_reducible refine Ow.gate_build rfl ?_); (try (refine gate_guard (by rfl) ?_; dsimp only)); refine' Ow.tbuild Ot.bd rfl rfl rfl ?hf_ ?_; (case hf_ => repeat (any_goals (first | exact Ow.Fills.nil | (refine' Ow.Fills.c ?hv_ rfl ?hz_ ?_; (case hv_ => first | exact Ow.ev_tmp rfl | rfl); (case hz_ => first | (refine ⟨?_, ?_⟩ <;> (first | ((try simp only [hq.1]) <;> rfl) | fail)) | fail)))))) | ((with_reducible refine Ow.gate_load rfl ?_); (try (refine gate_guard (by rfl) ?_; dsimp only)); (first | refine Ow.l1 Ot.ty HO.out rfl rfl rfl rfl (by first | ((try simp only [hq.1]) <;> rfl) | fail) ?_ | refine Ow.l0 Ot.ty HO.out rfl rfl rfl rfl (by first | ((try simp only [hq.1]) <;> rfl) | fail) ?_ | refine Ow.lp Ot.ty HO.out rfl rfl rfl rfl (by first | ((try simp only [hq.1]) <;> rfl) | fail) ?_)) | ((with_reducible refine gate_store rfl ?_); (try (refine gate_guard (by rfl) ?_; dsimp only)); (first | refine Ow.s0 Ot.ty HO.out rfl rfl rfl rfl rfl (by first | exact Ow.ev_tmp rfl | rfl) (by first | (refine ⟨?_, ?_, ?_⟩ <;> (first | ((try simp only [hq.1]) <;> rfl) | fail)) | fail) ?_ | refine Ow.sp Ot.ty HO.out rfl rfl rfl rfl rfl (by first | exact Ow.ev_tmp rfl | rfl) (by first | (refine ⟨?_, ?_, ?_⟩ <;> (first | ((try simp only [hq.1]) <;> rfl) | fail)) | fail) ?_); clear HO; intro wz_ HO; simp only [List.set_cons_zero, List.set_cons_succ] at HO))
                              refine' bodyPost_ret (results_cell_row rfl _ _ gb259 53 _ (0, 0) _ rfl ?hb_ Try.underlying53 rfl ?hi_) rfl ?_
                              case hb_ => refine' Ow.Own.get HO.out 1 ?hk_; (case hk_ => rfl)
                              case hi_ => exact (Ot.ty.size 53 rfl).trans (congrArg some (by first | ((try simp only [hq.1]) <;> rfl) | fail))
                              all_goals exact ⟨by first | rfl | (simp only [hq.1]; done) | (simp only [hq.1]; rfl) | (simp [errW_none, errW_some] <;> rfl) | (simp [*, errW_none, errW_some] <;> rfl), Ow.Own.below HO.out⟩
                          · replace c57 := Bool.eq_false_iff.mpr c57
                            subst c57
                            have H1 : ((bursarref23_no.f (⟨#[53, 52]⟩ : ByteArray)).bind fun bt353 => (some (bt353.1, bt353.2.1, bt353.2.2.1, bt353.2.2.2.1, bt353.2.2.2.2.1, bt353.2.2.2.2.2.1, bt353.2.2.2.2.2.2.1, bt353.2.2.2.2.2.2.2.1, bt353.2.2.2.2.2.2.2.2.1, bt353.2.2.2.2.2.2.2.2.2.1, bt353.2.2.2.2.2.2.2.2.2.2.1, bt353.2.2.2.2.2.2.2.2.2.2.2.1, bt353.2.2.2.2.2.2.2.2.2.2.2.2.1, bt353.2.2.2.2.2.2.2.2.2.2.2.2.2.1, bt353.2.2.2.2.2.2.2.2.2.2.2.2.2.2))) = some (r1, r2, r3, r4, r5, r6, r7, r8, r9, r10, r11, r12, r13, r14, r15) := by rw [if_neg (show ¬ (false = true) by decide)] at H; exact H
                            clear H
                            have H := H1
                            clear H1
                            replace H := Option.bind_eq_some_iff.mp H
                            obtain ⟨⟨t353, t354, t355, t356, t357, t358, t359, t360, t361, t362, t363, t364, t365, t366, t367⟩, A970, H⟩ := H
                            replace H : (some (t353, t354, t355, t356, t357, t358, t359, t360, t361, t362, t363, t364, t365, t366, t367)) = some (r1, r2, r3, r4, r5, r6, r7, r8, r9, r10, r11, r12, r13, r14, r15) := H
                            have A97 := Aside0.mk A970
                            clear A970
                            simp only [Option.some.injEq, Prod.mk.injEq] at H
                            obtain ⟨rfl, rfl, rfl, rfl, rfl, rfl, rfl, rfl, rfl, rfl, rfl, rfl, rfl, rfl, rfl⟩ := H
                            obtain ⟨Q5, hQ5_⟩ : ∃ q_ : Array Value, q_ = (#[.string t353, .string t354, .string t355, .string t356, .int .i64 t357, .int .i64 t358, .int .i64 t359, .bool t360, .bool t361, .int .i64 t362, .int .i64 t363, .string t364, .string t365, .string t366, .int .i64 t367] : Array Value) := ⟨_, rfl⟩
                            try rw [← hQ5_]
                            have hQ5 := Aside0.mk hQ5_; replace hq := Aside0.mk (And.intro hQ5_ hq.1); clear hQ5_
                            go_wp2_with (first | ((with_reducible refine gate_dst (N := 4) rfl ?_); refine Ow.box rfl (N := 4) rfl (cs := bursarref23_Capture.Z15) (t := 53) HO.out (by first | (go_simp; done) | (go_simp; rfl)) ?_; clear HO; intro gb321 w100 HO; simp only [List.cons_append, List.nil_append] at HO) | ((with_reducible refine gate_callee (f := 56) rfl ?_); refine goesL_ (some 95) rfl rfl Try.func56 (by kernel_rfl) rfl #[.string (⟨#[53, 52]⟩ : ByteArray)] rfl (by (try simp only [List.map_toArray, List.map_cons, List.map_nil]); first | done | rfl | (simp only [hq.1]; done) | (simp only [hq.1]; rfl)) ?_; refine Calls.mono (calls_of_args (by first | ((try simp only [hq.1]) <;> rfl) | fail) (bursarref23_no.calls (⟨#[53, 52]⟩ : ByteArray) t353 t354 t355 t356 t357 t358 t359 t360 t361 t362 t363 t364 t365 t366 t367 _ A97.out)) ?_; rintro e w106 ⟨he_, hb⟩; (try rw [← hQ5.out] at he_); subst he_; refine ⟨_, rfl, ?_⟩; replace HO := Aside0.mk (Ow.Own.call HO.out hb); clear hb) | ((with_reducible refine Ow.gate_build rfl ?_); (try (refine gate_guard (by rfl) ?_; dsimp only)); refine' Ow.tbuild Ot.bd rfl rfl rfl ?hf_ ?_; (case hf_ => repeat (any_goals (first | exact Ow.Fills.nil | (refine' Ow.Fills.c ?hv_ rfl ?hz_ ?_; (case hv_ => first | exact Ow.ev_tmp rfl | rfl); (case hz_ => first | (refine ⟨?_, ?_⟩ <;> (first | ((try simp only [hq.1]) <;> rfl) | fail)) | fail)))))) | ((with_reducible refine Ow.gate_load rfl ?_); (try (refine gate_guard (by rfl) ?_; dsimp only)); (first | refine Ow.l1 Ot.ty HO.out rfl rfl rfl rfl (by first | ((try simp only [hq.1]) <;> rfl) | fail) ?_ | refine Ow.l0 Ot.ty HO.out rfl rfl rfl rfl (by first | ((try simp only [hq.1]) <;> rfl) | fail) ?_ | refine Ow.lp Ot.ty HO.out rfl rfl rfl rfl (by first | ((try simp only [hq.1]) <;> rfl) | fail) ?_)) | ((with_reducible refine gate_store rfl ?_); (try (refine gate_guard (by rfl) ?_; dsimp only)); (first | refine Ow.s0 Ot.ty HO.out rfl rfl rfl rfl rfl (by first | exact Ow.ev_tmp rfl | rfl) (by first | (refine ⟨?_, ?_, ?_⟩ <;> (first | ((try simp only [hq.1]) <;> rfl) | fail)) | fail) ?_ | refine Ow.sp Ot.ty HO.out rfl rfl rfl rfl rfl (by first | exact Ow.ev_tmp rfl | rfl) (by first | (refine ⟨?_, ?_, ?_⟩ <;> (first | ((try simp only [hq.1]) <;> rfl) | fail)) | fail) ?_); clear HO; intro wz_ HO; simp only [List.set_cons_zero, List.set_cons_succ] at HO))
                            refine' bodyPost_ret (results_cell_row rfl _ _ gb259 53 _ (0, 0) _ rfl ?hb_ Try.underlying53 rfl ?hi_) rfl ?_
                            case hb_ => refine' Ow.Own.get HO.out 1 ?hk_; (case hk_ => rfl)
                            case hi_ => exact (Ot.ty.size 53 rfl).trans (congrArg some (by first | ((try simp only [hq.1]) <;> rfl) | fail))
                            all_goals exact ⟨by first | rfl | (simp only [hq.1]; done) | (simp only [hq.1]; rfl) | (simp [errW_none, errW_some] <;> rfl) | (simp [*, errW_none, errW_some] <;> rfl), Ow.Own.below HO.out⟩
                        · rw [if_neg c56] at H
                          have c56b0 : (a0_16.toList == a0_1.toList) = false := beq_eq_false_iff_ne.mpr c56
                          have c56b1 : (a0_16.toList != a0_1.toList) = true := bne_iff_ne.mpr c56
                          replace H := Option.bind_eq_some_iff.mp H
                          obtain ⟨⟨t338, t339, t340, t341, t342, t343, t344, t345, t346, t347, t348, t349, t350, t351, t352⟩, A1090, H⟩ := H
                          replace H : (some (t338, t339, t340, t341, t342, t343, t344, t345, t346, t347, t348, t349, t350, t351, t352)) = some (r1, r2, r3, r4, r5, r6, r7, r8, r9, r10, r11, r12, r13, r14, r15) := H
                          have A109 := Aside0.mk A1090
                          clear A1090
                          simp only [Option.some.injEq, Prod.mk.injEq] at H
                          obtain ⟨rfl, rfl, rfl, rfl, rfl, rfl, rfl, rfl, rfl, rfl, rfl, rfl, rfl, rfl, rfl⟩ := H
                          obtain ⟨Q6, hQ6_⟩ : ∃ q_ : Array Value, q_ = (#[.string t338, .string t339, .string t340, .string t341, .int .i64 t342, .int .i64 t343, .int .i64 t344, .bool t345, .bool t346, .int .i64 t347, .int .i64 t348, .string t349, .string t350, .string t351, .int .i64 t352] : Array Value) := ⟨_, rfl⟩
                          try rw [← hQ6_]
                          have hQ6 := Aside0.mk hQ6_; replace hq := Aside0.mk (And.intro hQ6_ hq.1); clear hQ6_
                          go_wp2_with (first | ((with_reducible refine gate_dst (N := 4) rfl ?_); refine Ow.box rfl (N := 4) rfl (cs := bursarref23_Capture.Z15) (t := 53) HO.out (by first | (go_simp; done) | (go_simp; rfl)) ?_; clear HO; intro gb321 w112 HO; simp only [List.cons_append, List.nil_append] at HO) | ((with_reducible refine gate_callee (f := 56) rfl ?_); refine goesL_ (some 90) rfl rfl Try.func56 (by kernel_rfl) rfl #[.string (⟨#[49, 52]⟩ : ByteArray)] rfl (by (try simp only [List.map_toArray, List.map_cons, List.map_nil]); first | done | rfl | (simp only [hq.1]; done) | (simp only [hq.1]; rfl)) ?_; refine Calls.mono (calls_of_args (by first | ((try simp only [hq.1]) <;> rfl) | fail) (bursarref23_no.calls (⟨#[49, 52]⟩ : ByteArray) t338 t339 t340 t341 t342 t343 t344 t345 t346 t347 t348 t349 t350 t351 t352 _ A109.out)) ?_; rintro e w118 ⟨he_, hb⟩; (try rw [← hQ6.out] at he_); subst he_; refine ⟨_, rfl, ?_⟩; replace HO := Aside0.mk (Ow.Own.call HO.out hb); clear hb) | ((with_reducible refine Ow.gate_build rfl ?_); (try (refine gate_guard (by rfl) ?_; dsimp only)); refine' Ow.tbuild Ot.bd rfl rfl rfl ?hf_ ?_; (case hf_ => repeat (any_goals (first | exact Ow.Fills.nil | (refine' Ow.Fills.c ?hv_ rfl ?hz_ ?_; (case hv_ => first | exact Ow.ev_tmp rfl | rfl); (case hz_ => first | (refine ⟨?_, ?_⟩ <;> (first | ((try simp only [hq.1]) <;> rfl) | fail)) | fail)))))) | ((with_reducible refine Ow.gate_load rfl ?_); (try (refine gate_guard (by rfl) ?_; dsimp only)); (first | refine Ow.l1 Ot.ty HO.out rfl rfl rfl rfl (by first | ((try simp only [hq.1]) <;> rfl) | fail) ?_ | refine Ow.l0 Ot.ty HO.out rfl rfl rfl rfl (by first | ((try simp only [hq.1]) <;> rfl) | fail) ?_ | refine Ow.lp Ot.ty HO.out rfl rfl rfl rfl (by first | ((try simp only [hq.1]) <;> rfl) | fail) ?_)) | ((with_reducible refine gate_store rfl ?_); (try (refine gate_guard (by rfl) ?_; dsimp only)); (first | refine Ow.s0 Ot.ty HO.out rfl rfl rfl rfl rfl (by first | exact Ow.ev_tmp rfl | rfl) (by first | (refine ⟨?_, ?_, ?_⟩ <;> (first | ((try simp only [hq.1]) <;> rfl) | fail)) | fail) ?_ | refine Ow.sp Ot.ty HO.out rfl rfl rfl rfl rfl (by first | exact Ow.ev_tmp rfl | rfl) (by first | (refine ⟨?_, ?_, ?_⟩ <;> (first | ((try simp only [hq.1]) <;> rfl) | fail)) | fail) ?_); clear HO; intro wz_ HO; simp only [List.set_cons_zero, List.set_cons_succ] at HO))
                          refine' bodyPost_ret (results_cell_row rfl _ _ gb259 53 _ (0, 0) _ rfl ?hb_ Try.underlying53 rfl ?hi_) rfl ?_
                          case hb_ => refine' Ow.Own.get HO.out 1 ?hk_; (case hk_ => rfl)
                          case hi_ => exact (Ot.ty.size 53 rfl).trans (congrArg some (by first | ((try simp only [hq.1]) <;> rfl) | fail))
                          all_goals exact ⟨by first | rfl | (simp only [hq.1]; done) | (simp only [hq.1]; rfl) | (simp [errW_none, errW_some] <;> rfl) | (simp [*, errW_none, errW_some] <;> rfl), Ow.Own.below HO.out⟩
                      · replace c55 := Bool.eq_false_iff.mpr c55
                        subst c55
                        have H1 : ((bursarref22_Advice.f a0_0 a0_1 a0_2 a0_3 a0_4 a0_5 a0_6 a0_7 a0_8 a0_9 a0_10 a0_11).bind fun t322 => (if t322 = true then (some ((⟨#[48, 48]⟩ : ByteArray), (⟨#[]⟩ : ByteArray), (⟨#[]⟩ : ByteArray), (⟨#[]⟩ : ByteArray), 0, 0, 0, false, false, 2, a0_23, a0_1, a0_6, a0_7, a0_3)) else (if a0_3 > a0_13 then ((bursarref23_no.f (⟨#[53, 49]⟩ : ByteArray)).bind fun bt323 => (some (bt323.1, bt323.2.1, bt323.2.2.1, bt323.2.2.2.1, bt323.2.2.2.2.1, bt323.2.2.2.2.2.1, bt323.2.2.2.2.2.2.1, bt323.2.2.2.2.2.2.2.1, bt323.2.2.2.2.2.2.2.2.1, bt323.2.2.2.2.2.2.2.2.2.1, bt323.2.2.2.2.2.2.2.2.2.2.1, bt323.2.2.2.2.2.2.2.2.2.2.2.1, bt323.2.2.2.2.2.2.2.2.2.2.2.2.1, bt323.2.2.2.2.2.2.2.2.2.2.2.2.2.1, bt323.2.2.2.2.2.2.2.2.2.2.2.2.2.2))) else (some ((⟨#[48, 48]⟩ : ByteArray), (⟨#[]⟩ : ByteArray), (⟨#[]⟩ : ByteArray), (⟨#[]⟩ : ByteArray), 0, 0, 0, false, false, 2, a0_23, a0_1, a0_6, a0_7, a0_3))))) = some (r1, r2, r3, r4, r5, r6, r7, r8, r9, r10, r11, r12, r13, r14, r15) := by rw [if_neg (show ¬ (false = true) by decide)] at H; exact H
                        clear H
                        have H := H1
                        clear H1
                        replace H := Option.bind_eq_some_iff.mp H
                        obtain ⟨t322, A1210, H⟩ := H
                        replace H : (if t322 = true then (some ((⟨#[48, 48]⟩ : ByteArray), (⟨#[]⟩ : ByteArray), (⟨#[]⟩ : ByteArray), (⟨#[]⟩ : ByteArray), 0, 0, 0, false, false, 2, a0_23, a0_1, a0_6, a0_7, a0_3)) else (if a0_3 > a0_13 then ((bursarref23_no.f (⟨#[53, 49]⟩ : ByteArray)).bind fun bt323 => (some (bt323.1, bt323.2.1, bt323.2.2.1, bt323.2.2.2.1, bt323.2.2.2.2.1, bt323.2.2.2.2.2.1, bt323.2.2.2.2.2.2.1, bt323.2.2.2.2.2.2.2.1, bt323.2.2.2.2.2.2.2.2.1, bt323.2.2.2.2.2.2.2.2.2.1, bt323.2.2.2.2.2.2.2.2.2.2.1, bt323.2.2.2.2.2.2.2.2.2.2.2.1, bt323.2.2.2.2.2.2.2.2.2.2.2.2.1, bt323.2.2.2.2.2.2.2.2.2.2.2.2.2.1, bt323.2.2.2.2.2.2.2.2.2.2.2.2.2.2))) else (some ((⟨#[48, 48]⟩ : ByteArray), (⟨#[]⟩ : ByteArray), (⟨#[]⟩ : ByteArray), (⟨#[]⟩ : ByteArray), 0, 0, 0, false, false, 2, a0_23, a0_1, a0_6, a0_7, a0_3)))) = some (r1, r2, r3, r4, r5, r6, r7, r8, r9, r10, r11, r12, r13, r14, r15) := H
                        have A121 := Aside0.mk A1210
                        clear A1210
                        by_cases c122 : t322 = true
                        · subst c122
                          have H1 : (some ((⟨#[48, 48]⟩ : ByteArray), (⟨#[]⟩ : ByteArray), (⟨#[]⟩ : ByteArray), (⟨#[]⟩ : ByteArray), 0, 0, 0, false, false, 2, a0_23, a0_1, a0_6, a0_7, a0_3)) = some (r1, r2, r3, r4, r5, r6, r7, r8, r9, r10, r11, r12, r13, r14, r15) := by rw [if_pos rfl] at H; exact H
                          clear H
                          have H := H1
                          clear H1
                          simp only [Option.some.injEq, Prod.mk.injEq] at H
                          obtain ⟨rfl, rfl, rfl, rfl, rfl, rfl, rfl, rfl, rfl, rfl, rfl, rfl, rfl, rfl, rfl⟩ := H
                          obtain ⟨Q7, hQ7_⟩ : ∃ q_ : Array Value, q_ = (#[.string a0_0, .string a0_1, .string a0_2, .int .i64 a0_3, .string a0_4, .string a0_5, .string a0_6, .string a0_7, .string a0_8, .int .i64 a0_9, .int .i64 a0_10, .string a0_11] : Array Value) := ⟨_, rfl⟩
                          try rw [← hQ7_]
                          have hQ7 := Aside0.mk hQ7_; replace hq := Aside0.mk (And.intro hQ7_ hq.1); clear hQ7_
                          go_wp2_with (first | ((with_reducible refine gate_dst (N := 4) rfl ?_); refine Ow.box rfl (N := 4) rfl (cs := bursarref23_Capture.Z15) (t := 53) HO.out (by first | (go_simp; done) | (go_simp; rfl)) ?_; clear HO; intro gb321 w125 HO; simp only [List.cons_append, List.nil_append] at HO) | ((with_reducible refine gate_callee (f := 37) rfl ?_); refine goesL_ (some 71) rfl rfl Try.func37 (by kernel_rfl) rfl #[.agg Q7] rfl (by (try simp only [List.map_toArray, List.map_cons, List.map_nil]); first | done | rfl | (simp only [hq.1]; done) | (simp only [hq.1]; rfl)) ?_; refine Calls.mono (calls_of_args (by first | ((try simp only [hq.1]) <;> rfl) | fail) (bursarref22_Advice.calls a0_0 a0_1 a0_2 a0_3 a0_4 a0_5 a0_6 a0_7 a0_8 a0_9 a0_10 a0_11 true _ A121.out)) ?_; rintro e w131 ⟨he_, hb⟩; subst he_; refine ⟨_, rfl, ?_⟩; replace HO := Aside0.mk (Ow.Own.call HO.out hb); clear hb) | ((with_reducible refine Ow.gate_build rfl ?_); (try (refine gate_guard (by rfl) ?_; dsimp only)); refine' Ow.tbuild Ot.bd rfl rfl rfl ?hf_ ?_; (case hf_ => repeat (any_goals (first | exact Ow.Fills.nil | (refine' Ow.Fills.c ?hv_ rfl ?hz_ ?_; (case hv_ => first | exact Ow.ev_tmp rfl | rfl); (case hz_ => first | (refine ⟨?_, ?_⟩ <;> (first | ((try simp only [hq.1]) <;> rfl) | fail)) | fail)))))) | ((with_reducible refine Ow.gate_load rfl ?_); (try (refine gate_guard (by rfl) ?_; dsimp only)); (first | refine Ow.l1 Ot.ty HO.out rfl rfl rfl rfl (by first | ((try simp only [hq.1]) <;> rfl) | fail) ?_ | refine Ow.l0 Ot.ty HO.out rfl rfl rfl rfl (by first | ((try simp only [hq.1]) <;> rfl) | fail) ?_ | refine Ow.lp Ot.ty HO.out rfl rfl rfl rfl (by first | ((try simp only [hq.1]) <;> rfl) | fail) ?_)) | ((with_reducible refine gate_store rfl ?_); (try (refine gate_guard (by rfl) ?_; dsimp only)); (first | refine Ow.s0 Ot.ty HO.out rfl rfl rfl rfl rfl (by first | exact Ow.ev_tmp rfl | rfl) (by first | (refine ⟨?_, ?_, ?_⟩ <;> (first | ((try simp only [hq.1]) <;> rfl) | fail)) | fail) ?_ | refine Ow.sp Ot.ty HO.out rfl rfl rfl rfl rfl (by first | exact Ow.ev_tmp rfl | rfl) (by first | (refine ⟨?_, ?_, ?_⟩ <;> (first | ((try simp only [hq.1]) <;> rfl) | fail)) | fail) ?_); clear HO; intro wz_ HO; simp only [List.set_cons_zero, List.set_cons_succ] at HO))
                          refine' bodyPost_ret (results_cell_row rfl _ _ gb259 53 _ (0, 0) _ rfl ?hb_ Try.underlying53 rfl ?hi_) rfl ?_
                          case hb_ => refine' Ow.Own.get HO.out 1 ?hk_; (case hk_ => rfl)
                          case hi_ => exact (Ot.ty.size 53 rfl).trans (congrArg some (by first | ((try simp only [hq.1]) <;> rfl) | fail))
                          all_goals exact ⟨by first | rfl | (simp only [hq.1]; done) | (simp only [hq.1]; rfl) | (simp [errW_none, errW_some] <;> rfl) | (simp [*, errW_none, errW_some] <;> rfl), Ow.Own.below HO.out⟩
                        · replace c122 := Bool.eq_false_iff.mpr c122
                          subst c122
                          have H1 : (if a0_3 > a0_13 then ((bursarref23_no.f (⟨#[53, 49]⟩ : ByteArray)).bind fun bt323 => (some (bt323.1, bt323.2.1, bt323.2.2.1, bt323.2.2.2.1, bt323.2.2.2.2.1, bt323.2.2.2.2.2.1, bt323.2.2.2.2.2.2.1, bt323.2.2.2.2.2.2.2.1, bt323.2.2.2.2.2.2.2.2.1, bt323.2.2.2.2.2.2.2.2.2.1, bt323.2.2.2.2.2.2.2.2.2.2.1, bt323.2.2.2.2.2.2.2.2.2.2.2.1, bt323.2.2.2.2.2.2.2.2.2.2.2.2.1, bt323.2.2.2.2.2.2.2.2.2.2.2.2.2.1, bt323.2.2.2.2.2.2.2.2.2.2.2.2.2.2))) else (some ((⟨#[48, 48]⟩ : ByteArray), (⟨#[]⟩ : ByteArray), (⟨#[]⟩ : ByteArray), (⟨#[]⟩ : ByteArray), 0, 0, 0, false, false, 2, a0_23, a0_1, a0_6, a0_7, a0_3))) = some (r1, r2, r3, r4, r5, r6, r7, r8, r9, r10, r11, r12, r13, r14, r15) := by rw [if_neg (show ¬ (false = true) by decide)] at H; exact H
                          clear H
                          have H := H1
                          clear H1
                          by_cases c135 : a0_3 > a0_13
                          · rw [if_pos c135] at H
                            have c135b0 : decide (a0_13 < a0_3) = true := decide_eq_true c135
                            clear c135
                            replace H := Option.bind_eq_some_iff.mp H
                            obtain ⟨⟨t323, t324, t325, t326, t327, t328, t329, t330, t331, t332, t333, t334, t335, t336, t337⟩, A1360, H⟩ := H
                            replace H : (some (t323, t324, t325, t326, t327, t328, t329, t330, t331, t332, t333, t334, t335, t336, t337)) = some (r1, r2, r3, r4, r5, r6, r7, r8, r9, r10, r11, r12, r13, r14, r15) := H
                            have A136 := Aside0.mk A1360
                            clear A1360
                            simp only [Option.some.injEq, Prod.mk.injEq] at H
                            obtain ⟨rfl, rfl, rfl, rfl, rfl, rfl, rfl, rfl, rfl, rfl, rfl, rfl, rfl, rfl, rfl⟩ := H
                            obtain ⟨Q8, hQ8_⟩ : ∃ q_ : Array Value, q_ = (#[.string a0_0, .string a0_1, .string a0_2, .int .i64 a0_3, .string a0_4, .string a0_5, .string a0_6, .string a0_7, .string a0_8, .int .i64 a0_9, .int .i64 a0_10, .string a0_11] : Array Value) := ⟨_, rfl⟩
                            try rw [← hQ8_]
                            have hQ8 := Aside0.mk hQ8_; replace hq := Aside0.mk (And.intro hQ8_ hq.1); clear hQ8_
                            obtain ⟨Q9, hQ9_⟩ : ∃ q_ : Array Value, q_ = (#[.string t323, .string t324, .string t325, .string t326, .int .i64 t327, .int .i64 t328, .int .i64 t329, .bool t330, .bool t331, .int .i64 t332, .int .i64 t333, .string t334, .string t335, .string t336, .int .i64 t337] : Array Value) := ⟨_, rfl⟩
                            try rw [← hQ9_]
                            have hQ9 := Aside0.mk hQ9_; replace hq := Aside0.mk (And.intro hQ9_ hq.1); clear hQ9_
                            go_wp2_with (first | ((with_reducible refine gate_dst (N := 4) rfl ?_); refine Ow.box rfl (N := 4) rfl (cs := bursarref23_Capture.Z15) (t := 53) HO.out (by first | (go_simp; done) | (go_simp; rfl)) ?_; clear HO; intro gb321 w139 HO; simp only [List.cons_append, List.nil_append] at HO) | ((with_reducible refine gate_callee (f := 37) rfl ?_); refine goesL_ (some 71) rfl rfl Try.func37 (by kernel_rfl) rfl #[.agg Q8] rfl (by (try simp only [List.map_toArray, List.map_cons, List.map_nil]); first | done | rfl | (simp only [hq.1]; done) | (simp only [hq.1]; rfl)) ?_; refine Calls.mono (calls_of_args (by first | ((try simp only [hq.1]) <;> rfl) | fail) (bursarref22_Advice.calls a0_0 a0_1 a0_2 a0_3 a0_4 a0_5 a0_6 a0_7 a0_8 a0_9 a0_10 a0_11 false _ A121.out)) ?_; rintro e w145 ⟨he_, hb⟩; subst he_; refine ⟨_, rfl, ?_⟩; replace HO := Aside0.mk (Ow.Own.call HO.out hb); clear hb) | ((with_reducible refine gate_callee (f := 56) rfl ?_); refine goesL_ (some 81) rfl rfl Try.func56 (by kernel_rfl) rfl #[.string (⟨#[53, 49]⟩ : ByteArray)] rfl (by (try simp only [List.map_toArray, List.map_cons, List.map_nil]); first | done | rfl | (simp only [hq.1]; done) | (simp only [hq.1]; rfl)) ?_; refine Calls.mono (calls_of_args (by first | ((try simp only [hq.1]) <;> rfl) | fail) (bursarref23_no.calls (⟨#[53, 49]⟩ : ByteArray) t323 t324 t325 t326 t327 t328 t329 t330 t331 t332 t333 t334 t335 t336 t337 _ A136.out)) ?_; rintro e w147 ⟨he_, hb⟩; (try rw [← hQ9.out] at he_); subst he_; refine ⟨_, rfl, ?_⟩; replace HO := Aside0.mk (Ow.Own.call HO.out hb); clear hb) | ((with_reducible refine Ow.gate_build rfl ?_); (try (refine gate_guard (by rfl) ?_; dsimp only)); refine' Ow.tbuild Ot.bd rfl rfl rfl ?hf_ ?_; (case hf_ => repeat (any_goals (first | exact Ow.Fills.nil | (refine' Ow.Fills.c ?hv_ rfl ?hz_ ?_; (case hv_ => first | exact Ow.ev_tmp rfl | rfl); (case hz_ => first | (refine ⟨?_, ?_⟩ <;> (first | ((try simp only [hq.1]) <;> rfl) | fail)) | fail)))))) | ((with_reducible refine Ow.gate_load rfl ?_); (try (refine gate_guard (by rfl) ?_; dsimp only)); (first | refine Ow.l1 Ot.ty HO.out rfl rfl rfl rfl (by first | ((try simp only [hq.1]) <;> rfl) | fail) ?_ | refine Ow.l0 Ot.ty HO.out rfl rfl rfl rfl (by first | ((try simp only [hq.1]) <;> rfl) | fail) ?_ | refine Ow.lp Ot.ty HO.out rfl rfl rfl rfl (by first | ((try simp only [hq.1]) <;> rfl) | fail) ?_)) | ((with_reducible refine gate_store rfl ?_); (try (refine gate_guard (by rfl) ?_; dsimp only)); (first | refine Ow.s0 Ot.ty HO.out rfl rfl rfl rfl rfl (by first | exact Ow.ev_tmp rfl | rfl) (by first | (refine ⟨?_, ?_, ?_⟩ <;> (first | ((try simp only [hq.1]) <;> rfl) | fail)) | fail) ?_ | refine Ow.sp Ot.ty HO.out rfl rfl rfl rfl rfl (by first | exact Ow.ev_tmp rfl | rfl) (by first | (refine ⟨?_, ?_, ?_⟩ <;> (first | ((try simp only [hq.1]) <;> rfl) | fail)) | fail) ?_); clear HO; intro wz_ HO; simp only [List.set_cons_zero, List.set_cons_succ] at HO))
                            refine' bodyPost_ret (results_cell_row rfl _ _ gb259 53 _ (0, 0) _ rfl ?hb_ Try.underlying53 rfl ?hi_) rfl ?_
                            case hb_ => refine' Ow.Own.get HO.out 1 ?hk_; (case hk_ => rfl)
                            case hi_ => exact (Ot.ty.size 53 rfl).trans (congrArg some (by first | ((try simp only [hq.1]) <;> rfl) | fail))
                            all_goals exact ⟨by first | rfl | (simp only [hq.1]; done) | (simp only [hq.1]; rfl) | (simp [errW_none, errW_some] <;> rfl) | (simp [*, errW_none, errW_some] <;> rfl), Ow.Own.below HO.out⟩
                          · rw [if_neg c135] at H
                            have c135b0 : decide (a0_13 < a0_3) = false := decide_eq_false c135
                            clear c135
                            simp only [Option.some.injEq, Prod.mk.injEq] at H
                            obtain ⟨rfl, rfl, rfl, rfl, rfl, rfl, rfl, rfl, rfl, rfl, rfl, rfl, rfl, rfl, rfl⟩ := H
                            obtain ⟨Q10, hQ10_⟩ : ∃ q_ : Array Value, q_ = (#[.string a0_0, .string a0_1, .string a0_2, .int .i64 a0_3, .string a0_4, .string a0_5, .string a0_6, .string a0_7, .string a0_8, .int .i64 a0_9, .int .i64 a0_10, .string a0_11] : Array Value) := ⟨_, rfl⟩
                            try rw [← hQ10_]
                            have hQ10 := Aside0.mk hQ10_; replace hq := Aside0.mk (And.intro hQ10_ hq.1); clear hQ10_
                            go_wp2_with (first | ((with_reducible refine gate_dst (N := 4) rfl ?_); refine Ow.box rfl (N := 4) rfl (cs := bursarref23_Capture.Z15) (t := 53) HO.out (by first | (go_simp; done) | (go_simp; rfl)) ?_; clear HO; intro gb321 w152 HO; simp only [List.cons_append, List.nil_append] at HO) | ((with_reducible refine gate_callee (f := 37) rfl ?_); refine goesL_ (some 71) rfl rfl Try.func37 (by kernel_rfl) rfl #[.agg Q10] rfl (by (try simp only [List.map_toArray, List.map_cons, List.map_nil]); first | done | rfl | (simp only [hq.1]; done) | (simp only [hq.1]; rfl)) ?_; refine Calls.mono (calls_of_args (by first | ((try simp only [hq.1]) <;> rfl) | fail) (bursarref22_Advice.calls a0_0 a0_1 a0_2 a0_3 a0_4 a0_5 a0_6 a0_7 a0_8 a0_9 a0_10 a0_11 false _ A121.out)) ?_; rintro e w158 ⟨he_, hb⟩; subst he_; refine ⟨_, rfl, ?_⟩; replace HO := Aside0.mk (Ow.Own.call HO.out hb); clear hb) | ((with_reducible refine Ow.gate_build rfl ?_); (try (refine gate_guard (by rfl) ?_; dsimp only)); refine' Ow.tbuild Ot.bd rfl rfl rfl ?hf_ ?_; (case hf_ => repeat (any_goals (first | exact Ow.Fills.nil | (refine' Ow.Fills.c ?hv_ rfl ?hz_ ?_; (case hv_ => first | exact Ow.ev_tmp rfl | rfl); (case hz_ => first | (refine ⟨?_, ?_⟩ <;> (first | ((try simp only [hq.1]) <;> rfl) | fail)) | fail)))))) | ((with_reducible refine Ow.gate_load rfl ?_); (try (refine gate_guard (by rfl) ?_; dsimp only)); (first | refine Ow.l1 Ot.ty HO.out rfl rfl rfl rfl (by first | ((try simp only [hq.1]) <;> rfl) | fail) ?_ | refine Ow.l0 Ot.ty HO.out rfl rfl rfl rfl (by first | ((try simp only [hq.1]) <;> rfl) | fail) ?_ | refine Ow.lp Ot.ty HO.out rfl rfl rfl rfl (by first | ((try simp only [hq.1]) <;> rfl) | fail) ?_)) | ((with_reducible refine gate_store rfl ?_); (try (refine gate_guard (by rfl) ?_; dsimp only)); (first | refine Ow.s0 Ot.ty HO.out rfl rfl rfl rfl rfl (by first | exact Ow.ev_tmp rfl | rfl) (by first | (refine ⟨?_, ?_, ?_⟩ <;> (first | ((try simp only [hq.1]) <;> rfl) | fail)) | fail) ?_ | refine Ow.sp Ot.ty HO.out rfl rfl rfl rfl rfl (by first | exact Ow.ev_tmp rfl | rfl) (by first | (refine ⟨?_, ?_, ?_⟩ <;> (first | ((try simp only [hq.1]) <;> rfl) | fail)) | fail) ?_); clear HO; intro wz_ HO; simp only [List.set_cons_zero, List.set_cons_succ] at HO))
                            refine' bodyPost_ret (results_cell_row rfl _ _ gb259 53 _ (0, 0) _ rfl ?hb_ Try.underlying53 rfl ?hi_) rfl ?_
                            case hb_ => refine' Ow.Own.get HO.out 1 ?hk_; (case hk_ => rfl)
                            case hi_ => exact (Ot.ty.size 53 rfl).trans (congrArg some (by first | ((try simp only [hq.1]) <;> rfl) | fail))
                            all_goals exact ⟨by first | rfl | (simp only [hq.1]; done) | (simp only [hq.1]; rfl) | (simp [errW_none, errW_some] <;> rfl) | (simp [*, errW_none, errW_some] <;> rfl), Ow.Own.below HO.out⟩
                  · replace c47 := Bool.eq_false_iff.mpr c47
                    subst c47
                    have H1 : ((bursarref23_no.f (⟨#[49, 52]⟩ : ByteArray)).bind fun bt291 => (some (bt291.1, bt291.2.1, bt291.2.2.1, bt291.2.2.2.1, bt291.2.2.2.2.1, bt291.2.2.2.2.2.1, bt291.2.2.2.2.2.2.1, bt291.2.2.2.2.2.2.2.1, bt291.2.2.2.2.2.2.2.2.1, bt291.2.2.2.2.2.2.2.2.2.1, bt291.2.2.2.2.2.2.2.2.2.2.1, bt291.2.2.2.2.2.2.2.2.2.2.2.1, bt291.2.2.2.2.2.2.2.2.2.2.2.2.1, bt291.2.2.2.2.2.2.2.2.2.2.2.2.2.1, bt291.2.2.2.2.2.2.2.2.2.2.2.2.2.2))) = some (r1, r2, r3, r4, r5, r6, r7, r8, r9, r10, r11, r12, r13, r14, r15) := by rw [if_neg (show ¬ (false = true) by decide)] at H; exact H
                    clear H
                    have H := H1
                    clear H1
                    replace H := Option.bind_eq_some_iff.mp H
                    obtain ⟨⟨t291, t292, t293, t294, t295, t296, t297, t298, t299, t300, t301, t302, t303, t304, t305⟩, A1630, H⟩ := H
                    replace H : (some (t291, t292, t293, t294, t295, t296, t297, t298, t299, t300, t301, t302, t303, t304, t305)) = some (r1, r2, r3, r4, r5, r6, r7, r8, r9, r10, r11, r12, r13, r14, r15) := H
                    have A163 := Aside0.mk A1630
                    clear A1630
                    simp only [Option.some.injEq, Prod.mk.injEq] at H
                    obtain ⟨rfl, rfl, rfl, rfl, rfl, rfl, rfl, rfl, rfl, rfl, rfl, rfl, rfl, rfl, rfl⟩ := H
                    obtain ⟨Q11, hQ11_⟩ : ∃ q_ : Array Value, q_ = (#[.string t291, .string t292, .string t293, .string t294, .int .i64 t295, .int .i64 t296, .int .i64 t297, .bool t298, .bool t299, .int .i64 t300, .int .i64 t301, .string t302, .string t303, .string t304, .int .i64 t305] : Array Value) := ⟨_, rfl⟩
                    try rw [← hQ11_]
                    have hQ11 := Aside0.mk hQ11_; replace hq := Aside0.mk (And.intro hQ11_ hq.1); clear hQ11_
                    go_wp2_with (first | ((with_reducible refine gate_callee (f := 56) rfl ?_); refine goesL_ (some 44) rfl rfl Try.func56 (by kernel_rfl) rfl #[.string (⟨#[49, 52]⟩ : ByteArray)] rfl (by (try simp only [List.map_toArray, List.map_cons, List.map_nil]); first | done | rfl | (simp only [hq.1]; done) | (simp only [hq.1]; rfl)) ?_; refine Calls.mono (calls_of_args (by first | ((try simp only [hq.1]) <;> rfl) | fail) (bursarref23_no.calls (⟨#[49, 52]⟩ : ByteArray) t291 t292 t293 t294 t295 t296 t297 t298 t299 t300 t301 t302 t303 t304 t305 _ A163.out)) ?_; rintro e w166 ⟨he_, hb⟩; (try rw [← hQ11.out] at he_); subst he_; refine ⟨_, rfl, ?_⟩; replace HO := Aside0.mk (Ow.Own.call HO.out hb); clear hb) | ((with_reducible refine Ow.gate_build rfl ?_); (try (refine gate_guard (by rfl) ?_; dsimp only)); refine' Ow.tbuild Ot.bd rfl rfl rfl ?hf_ ?_; (case hf_ => repeat (any_goals (first | exact Ow.Fills.nil | (refine' Ow.Fills.c ?hv_ rfl ?hz_ ?_; (case hv_ => first | exact Ow.ev_tmp rfl | rfl); (case hz_ => first | (refine ⟨?_, ?_⟩ <;> (first | ((try simp only [hq.1]) <;> rfl) | fail)) | fail)))))) | ((with_reducible refine Ow.gate_load rfl ?_); (try (refine gate_guard (by rfl) ?_; dsimp only)); (first | refine Ow.l1 Ot.ty HO.out rfl rfl rfl rfl (by first | ((try simp only [hq.1]) <;> rfl) | fail) ?_ | refine Ow.l0 Ot.ty HO.out rfl rfl rfl rfl (by first | ((try simp only [hq.1]) <;> rfl) | fail) ?_ | refine Ow.lp Ot.ty HO.out rfl rfl rfl rfl (by first | ((try simp only [hq.1]) <;> rfl) | fail) ?_)) | ((with_reducible refine gate_store rfl ?_); (try (refine gate_guard (by rfl) ?_; dsimp only)); (first | refine Ow.s0 Ot.ty HO.out rfl rfl rfl rfl rfl (by first | exact Ow.ev_tmp rfl | rfl) (by first | (refine ⟨?_, ?_, ?_⟩ <;> (first | ((try simp only [hq.1]) <;> rfl) | fail)) | fail) ?_ | refine Ow.sp Ot.ty HO.out rfl rfl rfl rfl rfl (by first | exact Ow.ev_tmp rfl | rfl) (by first | (refine ⟨?_, ?_, ?_⟩ <;> (first | ((try simp only [hq.1]) <;> rfl) | fail)) | fail) ?_); clear HO; intro wz_ HO; simp only [List.set_cons_zero, List.set_cons_succ] at HO))
                    refine' bodyPost_ret (results_cell_row rfl _ _ gb259 53 _ (0, 0) _ rfl ?hb_ Try.underlying53 rfl ?hi_) rfl ?_
                    case hb_ => refine' Ow.Own.get HO.out 1 ?hk_; (case hk_ => rfl)
                    case hi_ => exact (Ot.ty.size 53 rfl).trans (congrArg some (by first | ((try simp only [hq.1]) <;> rfl) | fail))
                    all_goals exact ⟨by first | rfl | (simp only [hq.1]; done) | (simp only [hq.1]; rfl) | (simp [errW_none, errW_some] <;> rfl) | (simp [*, errW_none, errW_some] <;> rfl), Ow.Own.below HO.out⟩

/-! ### bursarlaw23_some: function 58 -/
def bursarlaw23_some.f (a0 : Int) (a1 : ByteArray) : Option (ByteArray × ByteArray × ByteArray × Int × ByteArray × ByteArray × ByteArray × ByteArray × ByteArray × Int × Int × ByteArray × Bool × Int × ByteArray × ByteArray × ByteArray × Int × Int × Int × Bool × Bool × Int × Int × Bool) := some ((⟨#[48, 50, 48, 48]⟩ : ByteArray), (⟨#[52, 49, 49, 49, 49, 49, 49, 49, 49, 49, 49, 49, 49, 49, 49, 49]⟩ : ByteArray), a1, a0, (⟨#[]⟩ : ByteArray), (⟨#[]⟩ : ByteArray), (⟨#[49, 50, 51, 52, 53, 54]⟩ : ByteArray), (⟨#[65, 66, 67, 48, 48, 48, 48, 48, 48, 48, 48, 49]⟩ : ByteArray), (⟨#[]⟩ : ByteArray), 0, 0, (⟨#[]⟩ : ByteArray), true, 0, (⟨#[65, 66, 67, 48, 48, 48, 48, 48, 48, 48, 48, 49]⟩ : ByteArray), (⟨#[49, 50, 51, 52, 53, 54]⟩ : ByteArray), (⟨#[52, 49, 49, 49, 49, 49, 49, 49, 49, 49, 49, 49, 49, 49, 49, 49]⟩ : ByteArray), 100, 0, 9, true, true, 0, 0, false)
def bursarlaw23_some.Z25 : Array Value := #[.string (⟨#[]⟩ : ByteArray), .string (⟨#[]⟩ : ByteArray), .string (⟨#[]⟩ : ByteArray), .int .i64 0, .string (⟨#[]⟩ : ByteArray), .string (⟨#[]⟩ : ByteArray), .string (⟨#[]⟩ : ByteArray), .string (⟨#[]⟩ : ByteArray), .string (⟨#[]⟩ : ByteArray), .int .i64 0, .int .i64 0, .string (⟨#[]⟩ : ByteArray), .bool false, .int .i64 0, .string (⟨#[]⟩ : ByteArray), .string (⟨#[]⟩ : ByteArray), .string (⟨#[]⟩ : ByteArray), .int .i64 0, .int .i64 0, .int .i64 0, .bool false, .bool false, .int .i64 0, .int .i64 0, .bool false]
def bursarlaw23_some.Z7 : Array Value := #[.string (⟨#[]⟩ : ByteArray), .string (⟨#[]⟩ : ByteArray), .string (⟨#[]⟩ : ByteArray), .int .i64 0, .int .i64 0, .int .i64 0, .bool false]
set_option maxHeartbeats 8000000 in
set_option maxRecDepth 100000 in
theorem bursarlaw23_some.calls (a0 : Int) (a1 : ByteArray) (r1 : ByteArray) (r2 : ByteArray) (r3 : ByteArray) (r4 : Int) (r5 : ByteArray) (r6 : ByteArray) (r7 : ByteArray) (r8 : ByteArray) (r9 : ByteArray) (r10 : Int) (r11 : Int) (r12 : ByteArray) (r13 : Bool) (r14 : Int) (r15 : ByteArray) (r16 : ByteArray) (r17 : ByteArray) (r18 : Int) (r19 : Int) (r20 : Int) (r21 : Bool) (r22 : Bool) (r23 : Int) (r24 : Int) (r25 : Bool) (w : World) (h : bursarlaw23_some.f a0 a1 = some (r1, r2, r3, r4, r5, r6, r7, r8, r9, r10, r11, r12, r13, r14, r15, r16, r17, r18, r19, r20, r21, r22, r23, r24, r25)) :
    Calls Try.prog 58 #[.int .i64 a0, .string a1] w fun e w' => e = .returned (.agg #[.string r1, .string r2, .string r3, .int .i64 r4, .string r5, .string r6, .string r7, .string r8, .string r9, .int .i64 r10, .int .i64 r11, .string r12, .bool r13, .int .i64 r14, .string r15, .string r16, .string r17, .int .i64 r18, .int .i64 r19, .int .i64 r20, .bool r21, .bool r22, .int .i64 r23, .int .i64 r24, .bool r25]) ∧ Below w.heap.size w w' := by
  have hu27 := Try.underlying27
  have hu25 := Try.underlying25
  have hu23 := Try.underlying23
  have HO := Aside0.mk (Ow.Own.nil w)
  have hmf : ∀ (fn : Fn) (first cap : Array Value) (w : World), (Instr.makeFunc fn first cap).run Try.prog w = .ok (.func fn first cap) w := fun _ _ _ _ => rfl
  have H : (some ((⟨#[48, 50, 48, 48]⟩ : ByteArray), (⟨#[52, 49, 49, 49, 49, 49, 49, 49, 49, 49, 49, 49, 49, 49, 49, 49]⟩ : ByteArray), a1, a0, (⟨#[]⟩ : ByteArray), (⟨#[]⟩ : ByteArray), (⟨#[49, 50, 51, 52, 53, 54]⟩ : ByteArray), (⟨#[65, 66, 67, 48, 48, 48, 48, 48, 48, 48, 48, 49]⟩ : ByteArray), (⟨#[]⟩ : ByteArray), 0, 0, (⟨#[]⟩ : ByteArray), true, 0, (⟨#[65, 66, 67, 48, 48, 48, 48, 48, 48, 48, 48, 49]⟩ : ByteArray), (⟨#[49, 50, 51, 52, 53, 54]⟩ : ByteArray), (⟨#[52, 49, 49, 49, 49, 49, 49, 49, 49, 49, 49, 49, 49, 49, 49, 49]⟩ : ByteArray), 100, 0, 9, true, true, 0, 0, false)) = some (r1, r2, r3, r4, r5, r6, r7, r8, r9, r10, r11, r12, r13, r14, r15, r16, r17, r18, r19, r20, r21, r22, r23, r24, r25) := h
  clear h
  simp only [Option.some.injEq, Prod.mk.injEq] at H
  obtain ⟨rfl, rfl, rfl, rfl, rfl, rfl, rfl, rfl, rfl, rfl, rfl, rfl, rfl, rfl, rfl, rfl, rfl, rfl, rfl, rfl, rfl, rfl, rfl, rfl, rfl⟩ := H
  go_enter Try.func58, Try.ntmps58
  go_wp2_with (first | ((with_reducible refine gate_dst (N := 4) rfl ?_); refine Ow.box rfl (N := 4) rfl (cs := bursarlaw23_some.Z25) (t := 27) HO.out (by first | (go_simp; done) | (go_simp; rfl)) ?_; clear HO; intro gb392 w3 HO; simp only [List.cons_append, List.nil_append] at HO) | ((with_reducible refine gate_dst (N := 5) rfl ?_); refine Ow.box rfl (N := 5) rfl (cs := bursarlaw23_some.Z7) (t := 25) HO.out (by first | (go_simp; done) | (go_simp; rfl)) ?_; clear HO; intro gb393 w4 HO; simp only [List.cons_append, List.nil_append] at HO) | ((with_reducible refine Ow.gate_build rfl ?_); (try (refine gate_guard (by rfl) ?_; dsimp only)); refine' Ow.tbuild Ot.bd rfl rfl rfl ?hf_ ?_; (case hf_ => repeat (any_goals (first | exact Ow.Fills.nil | (refine' Ow.Fills.c ?hv_ rfl ?hz_ ?_; (case hv_ => first | exact Ow.ev_tmp rfl | rfl); (case hz_ => first | (refine ⟨?_, ?_⟩ <;> (rfl)) | fail)))))) | ((with_reducible refine Ow.gate_load rfl ?_); (try (refine gate_guard (by rfl) ?_; dsimp only)); (first | refine Ow.l1 Ot.ty HO.out rfl rfl rfl rfl (by rfl) ?_ | refine Ow.l0 Ot.ty HO.out rfl rfl rfl rfl (by rfl) ?_ | refine Ow.lp Ot.ty HO.out rfl rfl rfl rfl (by rfl) ?_)) | ((with_reducible refine gate_store rfl ?_); (try (refine gate_guard (by rfl) ?_; dsimp only)); (first | refine Ow.s0 Ot.ty HO.out rfl rfl rfl rfl rfl (by first | exact Ow.ev_tmp rfl | rfl) (by first | (refine ⟨?_, ?_, ?_⟩ <;> (rfl)) | fail) ?_ | refine Ow.sp Ot.ty HO.out rfl rfl rfl rfl rfl (by first | exact Ow.ev_tmp rfl | rfl) (by first | (refine ⟨?_, ?_, ?_⟩ <;> (rfl)) | fail) ?_); clear HO; intro wz_ HO; simp only [List.set_cons_zero, List.set_cons_succ] at HO))
  refine' bodyPost_ret (results_cell_row rfl _ _ gb392 27 _ (0, 0) _ rfl ?hb_ Try.underlying27 rfl ?hi_) rfl ?_
  case hb_ => refine' Ow.Own.get HO.out 0 ?hk_; (case hk_ => rfl)
  case hi_ => exact (Ot.ty.size 27 rfl).trans (congrArg some (by rfl))
  all_goals exact ⟨by first | rfl | (simp [errW_none, errW_some] <;> rfl) | (simp [*, errW_none, errW_some] <;> rfl), Ow.Own.below HO.out⟩

end Go.Proofs.Ytddlmcaclbkopaa.XCD
