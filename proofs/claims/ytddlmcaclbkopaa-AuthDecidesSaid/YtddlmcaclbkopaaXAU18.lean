-- Written by wip/xprint.py, a session's program: printed out of the translation, with hand-written functions. Lean checks it.
import Derived.Test.YtddlmcaclbkopaaXAU0
import Derived.Test.YtddlmcaclbkopaaXAU17
namespace Go.Proofs.Ytddlmcaclbkopaa.XAU
open Go.RowKit Go.Proofs.YtddlmcaclbkopaaW.PrintWords Go.Proofs.YtddlmcaclbkopaaW.PrintLast Go.Proofs.YtddlmcaclbkopaaW.PrintMore
attribute [local go_sem] max2_int min2_int max_two min_two max_three min_three max_four min_four   -- for this text's walks alone
set_option linter.unusedVariables false
set_option linter.unusedSimpArgs false

/-! ### bursarref14_wrong: function 74 -/
def bursarref14_wrong.f (a0_0 : ByteArray) (a0_1 : ByteArray) (a0_2 : ByteArray) (a0_3 : Int) (a0_4 : Int) (a0_5 : Int) (a0_6 : Bool) (a1 : Int) : Option (Int) := (bursarref14_May.f a0_0 a0_1 a0_2 a0_3 a0_4 a0_5 a0_6).bind fun t148 => (if t148 = true then (if a0_6 = true then (if a1 ≤ 0 then (some 1) else (some 0)) else (some 14)) else (some 1))
set_option maxHeartbeats 8000000 in
set_option maxRecDepth 100000 in
theorem bursarref14_wrong.calls (a0_0 : ByteArray) (a0_1 : ByteArray) (a0_2 : ByteArray) (a0_3 : Int) (a0_4 : Int) (a0_5 : Int) (a0_6 : Bool) (a1 : Int) (r : Int) (w : World) (h : bursarref14_wrong.f a0_0 a0_1 a0_2 a0_3 a0_4 a0_5 a0_6 a1 = some r) :
    Calls Try.prog 74 #[.agg #[.string a0_0, .string a0_1, .string a0_2, .int .i64 a0_3, .int .i64 a0_4, .int .i64 a0_5, .bool a0_6], .int .i64 a1] w fun e w' => e = .returned (.int .i64 r) ∧ Below w.heap.size w w' := by
  have hu25 := Try.underlying25
  have HO := Aside0.mk (Ow.Own.nil w)
  have hmf : ∀ (fn : Fn) (first cap : Array Value) (w : World), (Instr.makeFunc fn first cap).run Try.prog w = .ok (.func fn first cap) w := fun _ _ _ _ => rfl
  have H : ((bursarref14_May.f a0_0 a0_1 a0_2 a0_3 a0_4 a0_5 a0_6).bind fun t148 => (if t148 = true then (if a0_6 = true then (if a1 ≤ 0 then (some 1) else (some 0)) else (some 14)) else (some 1))) = some r := h
  clear h
  replace H := Option.bind_eq_some_iff.mp H
  obtain ⟨t148, A30, H⟩ := H
  replace H : (if t148 = true then (if a0_6 = true then (if a1 ≤ 0 then (some 1) else (some 0)) else (some 14)) else (some 1)) = some r := H
  have A3 := Aside0.mk A30
  clear A30
  by_cases c4 : t148 = true
  · subst c4
    have H1 : (if a0_6 = true then (if a1 ≤ 0 then (some 1) else (some 0)) else (some 14)) = some r := by rw [if_pos rfl] at H; exact H
    clear H
    have H := H1
    clear H1
    by_cases c5 : a0_6 = true
    · subst c5
      have H1 : (if a1 ≤ 0 then (some 1) else (some 0)) = some r := by rw [if_pos rfl] at H; exact H
      clear H
      have H := H1
      clear H1
      by_cases c6 : a1 ≤ 0
      · rw [if_pos c6] at H
        have c6b0 : decide (a1 ≤ 0) = true := decide_eq_true c6
        clear c6
        obtain rfl := Option.some.inj H
        obtain ⟨Q0, hQ0_⟩ : ∃ q_ : Array Value, q_ = (#[.string a0_0, .string a0_1, .string a0_2, .int .i64 a0_3, .int .i64 a0_4, .int .i64 a0_5, .bool true] : Array Value) := ⟨_, rfl⟩
        try rw [← hQ0_]
        have hQ0 := Aside0.mk hQ0_; have hq := Aside0.mk hQ0_; clear hQ0_
        go_enter Try.func74, Try.ntmps74
        go_wp2_with (first | ((with_reducible refine gate_dst (N := 2) rfl ?_); refine Ow.box rfl (N := 2) rfl (cs := Q0) (t := 25) HO.out (by first | (go_simp; done) | (go_simp; rfl)) ?_; clear HO; intro gb147 w7 HO; simp only [List.cons_append, List.nil_append] at HO) | ((with_reducible refine gate_callee (f := 31) rfl ?_); refine goesL_ (some 6) rfl rfl Try.func31 (by kernel_rfl) rfl #[.agg #[.string a0_0, .string a0_1, .string a0_2, .int .i64 a0_3, .int .i64 a0_4, .int .i64 a0_5, .bool true]] rfl (by (try simp only [List.map_toArray, List.map_cons, List.map_nil]); first | done | rfl | (simp only [hq.1]; done) | (simp only [hq.1]; rfl)) ?_; refine Calls.mono (calls_of_args (by first | ((try simp only [hq.1]) <;> rfl) | fail) (bursarref14_May.calls a0_0 a0_1 a0_2 a0_3 a0_4 a0_5 true true _ A3.out)) ?_; rintro e w9 ⟨he_, hb⟩; subst he_; refine ⟨_, rfl, ?_⟩; replace HO := Aside0.mk (Ow.Own.call HO.out hb); clear hb) | ((with_reducible refine Ow.gate_load rfl ?_); (try (refine gate_guard (by rfl) ?_; dsimp only)); (first | refine Ow.l1 Ot.ty HO.out rfl rfl rfl rfl (by first | ((try simp only [hq.1]) <;> rfl) | fail) ?_ | refine Ow.l0 Ot.ty HO.out rfl rfl rfl rfl (by first | ((try simp only [hq.1]) <;> rfl) | fail) ?_ | refine Ow.lp Ot.ty HO.out rfl rfl rfl rfl (by first | ((try simp only [hq.1]) <;> rfl) | fail) ?_)))
        all_goals go_ret
        all_goals exact ⟨by first | rfl | (simp only [hq.1]; done) | (simp only [hq.1]; rfl) | (simp [errW_none, errW_some] <;> rfl) | (simp [*, errW_none, errW_some] <;> rfl), Ow.Own.below HO.out⟩
      · rw [if_neg c6] at H
        have c6b0 : decide (a1 ≤ 0) = false := decide_eq_false c6
        clear c6
        obtain rfl := Option.some.inj H
        obtain ⟨Q1, hQ1_⟩ : ∃ q_ : Array Value, q_ = (#[.string a0_0, .string a0_1, .string a0_2, .int .i64 a0_3, .int .i64 a0_4, .int .i64 a0_5, .bool true] : Array Value) := ⟨_, rfl⟩
        try rw [← hQ1_]
        have hQ1 := Aside0.mk hQ1_; have hq := Aside0.mk hQ1_; clear hQ1_
        go_enter Try.func74, Try.ntmps74
        go_wp2_with (first | ((with_reducible refine gate_dst (N := 2) rfl ?_); refine Ow.box rfl (N := 2) rfl (cs := Q1) (t := 25) HO.out (by first | (go_simp; done) | (go_simp; rfl)) ?_; clear HO; intro gb147 w11 HO; simp only [List.cons_append, List.nil_append] at HO) | ((with_reducible refine gate_callee (f := 31) rfl ?_); refine goesL_ (some 6) rfl rfl Try.func31 (by kernel_rfl) rfl #[.agg #[.string a0_0, .string a0_1, .string a0_2, .int .i64 a0_3, .int .i64 a0_4, .int .i64 a0_5, .bool true]] rfl (by (try simp only [List.map_toArray, List.map_cons, List.map_nil]); first | done | rfl | (simp only [hq.1]; done) | (simp only [hq.1]; rfl)) ?_; refine Calls.mono (calls_of_args (by first | ((try simp only [hq.1]) <;> rfl) | fail) (bursarref14_May.calls a0_0 a0_1 a0_2 a0_3 a0_4 a0_5 true true _ A3.out)) ?_; rintro e w13 ⟨he_, hb⟩; subst he_; refine ⟨_, rfl, ?_⟩; replace HO := Aside0.mk (Ow.Own.call HO.out hb); clear hb) | ((with_reducible refine Ow.gate_load rfl ?_); (try (refine gate_guard (by rfl) ?_; dsimp only)); (first | refine Ow.l1 Ot.ty HO.out rfl rfl rfl rfl (by first | ((try simp only [hq.1]) <;> rfl) | fail) ?_ | refine Ow.l0 Ot.ty HO.out rfl rfl rfl rfl (by first | ((try simp only [hq.1]) <;> rfl) | fail) ?_ | refine Ow.lp Ot.ty HO.out rfl rfl rfl rfl (by first | ((try simp only [hq.1]) <;> rfl) | fail) ?_)))
        all_goals go_ret
        all_goals exact ⟨by first | rfl | (simp only [hq.1]; done) | (simp only [hq.1]; rfl) | (simp [errW_none, errW_some] <;> rfl) | (simp [*, errW_none, errW_some] <;> rfl), Ow.Own.below HO.out⟩
    · replace c5 := Bool.eq_false_iff.mpr c5
      subst c5
      have H1 : (some 14) = some r := by rw [if_neg (show ¬ (false = true) by decide)] at H; exact H
      clear H
      have H := H1
      clear H1
      obtain rfl := Option.some.inj H
      obtain ⟨Q2, hQ2_⟩ : ∃ q_ : Array Value, q_ = (#[.string a0_0, .string a0_1, .string a0_2, .int .i64 a0_3, .int .i64 a0_4, .int .i64 a0_5, .bool false] : Array Value) := ⟨_, rfl⟩
      try rw [← hQ2_]
      have hQ2 := Aside0.mk hQ2_; have hq := Aside0.mk hQ2_; clear hQ2_
      go_enter Try.func74, Try.ntmps74
      go_wp2_with (first | ((with_reducible refine gate_dst (N := 2) rfl ?_); refine Ow.box rfl (N := 2) rfl (cs := Q2) (t := 25) HO.out (by first | (go_simp; done) | (go_simp; rfl)) ?_; clear HO; intro gb147 w15 HO; simp only [List.cons_append, List.nil_append] at HO) | ((with_reducible refine gate_callee (f := 31) rfl ?_); refine goesL_ (some 6) rfl rfl Try.func31 (by kernel_rfl) rfl #[.agg #[.string a0_0, .string a0_1, .string a0_2, .int .i64 a0_3, .int .i64 a0_4, .int .i64 a0_5, .bool false]] rfl (by (try simp only [List.map_toArray, List.map_cons, List.map_nil]); first | done | rfl | (simp only [hq.1]; done) | (simp only [hq.1]; rfl)) ?_; refine Calls.mono (calls_of_args (by first | ((try simp only [hq.1]) <;> rfl) | fail) (bursarref14_May.calls a0_0 a0_1 a0_2 a0_3 a0_4 a0_5 false true _ A3.out)) ?_; rintro e w17 ⟨he_, hb⟩; subst he_; refine ⟨_, rfl, ?_⟩; replace HO := Aside0.mk (Ow.Own.call HO.out hb); clear hb) | ((with_reducible refine Ow.gate_load rfl ?_); (try (refine gate_guard (by rfl) ?_; dsimp only)); (first | refine Ow.l1 Ot.ty HO.out rfl rfl rfl rfl (by first | ((try simp only [hq.1]) <;> rfl) | fail) ?_ | refine Ow.l0 Ot.ty HO.out rfl rfl rfl rfl (by first | ((try simp only [hq.1]) <;> rfl) | fail) ?_ | refine Ow.lp Ot.ty HO.out rfl rfl rfl rfl (by first | ((try simp only [hq.1]) <;> rfl) | fail) ?_)))
      all_goals go_ret
      all_goals exact ⟨by first | rfl | (simp only [hq.1]; done) | (simp only [hq.1]; rfl) | (simp [errW_none, errW_some] <;> rfl) | (simp [*, errW_none, errW_some] <;> rfl), Ow.Own.below HO.out⟩
  · replace c4 := Bool.eq_false_iff.mpr c4
    subst c4
    have H1 : (some 1) = some r := by rw [if_neg (show ¬ (false = true) by decide)] at H; exact H
    clear H
    have H := H1
    clear H1
    obtain rfl := Option.some.inj H
    obtain ⟨Q3, hQ3_⟩ : ∃ q_ : Array Value, q_ = (#[.string a0_0, .string a0_1, .string a0_2, .int .i64 a0_3, .int .i64 a0_4, .int .i64 a0_5, .bool a0_6] : Array Value) := ⟨_, rfl⟩
    try rw [← hQ3_]
    have hQ3 := Aside0.mk hQ3_; have hq := Aside0.mk hQ3_; clear hQ3_
    go_enter Try.func74, Try.ntmps74
    go_wp2_with (first | ((with_reducible refine gate_dst (N := 2) rfl ?_); refine Ow.box rfl (N := 2) rfl (cs := Q3) (t := 25) HO.out (by first | (go_simp; done) | (go_simp; rfl)) ?_; clear HO; intro gb147 w19 HO; simp only [List.cons_append, List.nil_append] at HO) | ((with_reducible refine gate_callee (f := 31) rfl ?_); refine goesL_ (some 6) rfl rfl Try.func31 (by kernel_rfl) rfl #[.agg #[.string a0_0, .string a0_1, .string a0_2, .int .i64 a0_3, .int .i64 a0_4, .int .i64 a0_5, .bool a0_6]] rfl (by (try simp only [List.map_toArray, List.map_cons, List.map_nil]); first | done | rfl | (simp only [hq.1]; done) | (simp only [hq.1]; rfl)) ?_; refine Calls.mono (calls_of_args (by first | ((try simp only [hq.1]) <;> rfl) | fail) (bursarref14_May.calls a0_0 a0_1 a0_2 a0_3 a0_4 a0_5 a0_6 false _ A3.out)) ?_; rintro e w21 ⟨he_, hb⟩; subst he_; refine ⟨_, rfl, ?_⟩; replace HO := Aside0.mk (Ow.Own.call HO.out hb); clear hb) | ((with_reducible refine Ow.gate_load rfl ?_); (try (refine gate_guard (by rfl) ?_; dsimp only)); (first | refine Ow.l1 Ot.ty HO.out rfl rfl rfl rfl (by first | ((try simp only [hq.1]) <;> rfl) | fail) ?_ | refine Ow.l0 Ot.ty HO.out rfl rfl rfl rfl (by first | ((try simp only [hq.1]) <;> rfl) | fail) ?_ | refine Ow.lp Ot.ty HO.out rfl rfl rfl rfl (by first | ((try simp only [hq.1]) <;> rfl) | fail) ?_)))
    all_goals go_ret
    all_goals exact ⟨by first | rfl | (simp only [hq.1]; done) | (simp only [hq.1]; rfl) | (simp [errW_none, errW_some] <;> rfl) | (simp [*, errW_none, errW_some] <;> rfl), Ow.Own.below HO.out⟩

end Go.Proofs.Ytddlmcaclbkopaa.XAU
