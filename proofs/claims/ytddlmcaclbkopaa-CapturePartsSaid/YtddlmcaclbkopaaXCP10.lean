-- Written by wip/xprint.py, a session's program: printed out of the translation, with hand-written functions. Lean checks it.
import Derived.Test.YtddlmcaclbkopaaXCP0
import Derived.Test.YtddlmcaclbkopaaXCP1
import Derived.Test.YtddlmcaclbkopaaXCP7
import Derived.Test.YtddlmcaclbkopaaXCP8
import Derived.Test.YtddlmcaclbkopaaXCP9
namespace Go.Proofs.Ytddlmcaclbkopaa.XCP
open Go.RowKit Go.Proofs.YtddlmcaclbkopaaW.PrintWords Go.Proofs.YtddlmcaclbkopaaW.PrintLast Go.Proofs.YtddlmcaclbkopaaW.PrintMore
attribute [local go_sem] max2_int min2_int max_two min_two max_three min_three max_four min_four   -- for this text's walks alone
set_option linter.unusedVariables false
set_option linter.unusedSimpArgs false

/-! ### bursarref14_May_p: function 31 -/
def bursarref14_May_p.f (a0_0 : ByteArray) (a0_1 : ByteArray) (a0_2 : ByteArray) (a0_3 : Int) (a0_4 : Int) (a0_5 : Int) (a0_6 : Bool) : Option (Bool) := (bursarref11_Name.f 1 a0_2).bind fun bt364 => ((bursarref11_Name.f 2 a0_1).bind fun bt366 => ((bursarref14_Ref.f a0_0).bind fun t368 => (if t368 = true then (if bt364.2 = true then (if bt366.2 = true then (if 0 ≤ a0_4 then (if a0_4 ≤ a0_3 then (if 0 ≤ a0_5 then (if a0_5 ≤ 2147483647 then (if a0_6 = true then (some (decide (a0_3 > a0_4))) else (some true)) else (some false)) else (some false)) else (some false)) else (some false)) else (some false)) else (some false)) else (some false))))
set_option maxHeartbeats 8000000 in
set_option maxRecDepth 100000 in
theorem bursarref14_May_p.calls (a0_0 : ByteArray) (a0_1 : ByteArray) (a0_2 : ByteArray) (a0_3 : Int) (a0_4 : Int) (a0_5 : Int) (a0_6 : Bool) (r : Bool) (w : World) (h : bursarref14_May_p.f a0_0 a0_1 a0_2 a0_3 a0_4 a0_5 a0_6 = some r) :
    Calls Try.prog 31 #[.agg #[.string a0_0, .string a0_1, .string a0_2, .int .i64 a0_3, .int .i64 a0_4, .int .i64 a0_5, .bool a0_6]] w fun e w' => e = .returned (.bool r) ∧ Below w.heap.size w w' := by
  have hu25 := Try.underlying25
  have hu73 := Try.underlying73
  have HO := Aside0.mk (Ow.Own.nil w)
  have hmf : ∀ (fn : Fn) (first cap : Array Value) (w : World), (Instr.makeFunc fn first cap).run Try.prog w = .ok (.func fn first cap) w := fun _ _ _ _ => rfl
  have H : ((bursarref11_Name.f 1 a0_2).bind fun bt364 => ((bursarref11_Name.f 2 a0_1).bind fun bt366 => ((bursarref14_Ref.f a0_0).bind fun t368 => (if t368 = true then (if bt364.2 = true then (if bt366.2 = true then (if 0 ≤ a0_4 then (if a0_4 ≤ a0_3 then (if 0 ≤ a0_5 then (if a0_5 ≤ 2147483647 then (if a0_6 = true then (some (decide (a0_3 > a0_4))) else (some true)) else (some false)) else (some false)) else (some false)) else (some false)) else (some false)) else (some false)) else (some false))))) = some r := h
  clear h
  replace H := Option.bind_eq_some_iff.mp H
  obtain ⟨⟨t364, t365⟩, A20, H⟩ := H
  replace H : ((bursarref11_Name.f 2 a0_1).bind fun bt366 => ((bursarref14_Ref.f a0_0).bind fun t368 => (if t368 = true then (if t365 = true then (if bt366.2 = true then (if 0 ≤ a0_4 then (if a0_4 ≤ a0_3 then (if 0 ≤ a0_5 then (if a0_5 ≤ 2147483647 then (if a0_6 = true then (some (decide (a0_3 > a0_4))) else (some true)) else (some false)) else (some false)) else (some false)) else (some false)) else (some false)) else (some false)) else (some false)))) = some r := H
  have A2 := Aside0.mk A20
  clear A20
  replace H := Option.bind_eq_some_iff.mp H
  obtain ⟨⟨t366, t367⟩, A30, H⟩ := H
  replace H : ((bursarref14_Ref.f a0_0).bind fun t368 => (if t368 = true then (if t365 = true then (if t367 = true then (if 0 ≤ a0_4 then (if a0_4 ≤ a0_3 then (if 0 ≤ a0_5 then (if a0_5 ≤ 2147483647 then (if a0_6 = true then (some (decide (a0_3 > a0_4))) else (some true)) else (some false)) else (some false)) else (some false)) else (some false)) else (some false)) else (some false)) else (some false))) = some r := H
  have A3 := Aside0.mk A30
  clear A30
  replace H := Option.bind_eq_some_iff.mp H
  obtain ⟨t368, A40, H⟩ := H
  replace H : (if t368 = true then (if t365 = true then (if t367 = true then (if 0 ≤ a0_4 then (if a0_4 ≤ a0_3 then (if 0 ≤ a0_5 then (if a0_5 ≤ 2147483647 then (if a0_6 = true then (some (decide (a0_3 > a0_4))) else (some true)) else (some false)) else (some false)) else (some false)) else (some false)) else (some false)) else (some false)) else (some false)) = some r := H
  have A4 := Aside0.mk A40
  clear A40
  by_cases c5 : t368 = true
  · subst c5
    have H1 : (if t365 = true then (if t367 = true then (if 0 ≤ a0_4 then (if a0_4 ≤ a0_3 then (if 0 ≤ a0_5 then (if a0_5 ≤ 2147483647 then (if a0_6 = true then (some (decide (a0_3 > a0_4))) else (some true)) else (some false)) else (some false)) else (some false)) else (some false)) else (some false)) else (some false)) = some r := by rw [if_pos rfl] at H; exact H
    clear H
    have H := H1
    clear H1
    by_cases c6 : t365 = true
    · subst c6
      have H1 : (if t367 = true then (if 0 ≤ a0_4 then (if a0_4 ≤ a0_3 then (if 0 ≤ a0_5 then (if a0_5 ≤ 2147483647 then (if a0_6 = true then (some (decide (a0_3 > a0_4))) else (some true)) else (some false)) else (some false)) else (some false)) else (some false)) else (some false)) = some r := by rw [if_pos rfl] at H; exact H
      clear H
      have H := H1
      clear H1
      by_cases c7 : t367 = true
      · subst c7
        have H1 : (if 0 ≤ a0_4 then (if a0_4 ≤ a0_3 then (if 0 ≤ a0_5 then (if a0_5 ≤ 2147483647 then (if a0_6 = true then (some (decide (a0_3 > a0_4))) else (some true)) else (some false)) else (some false)) else (some false)) else (some false)) = some r := by rw [if_pos rfl] at H; exact H
        clear H
        have H := H1
        clear H1
        by_cases c8 : 0 ≤ a0_4
        · rw [if_pos c8] at H
          have c8b0 : decide (0 ≤ a0_4) = true := decide_eq_true c8
          clear c8
          by_cases c9 : a0_4 ≤ a0_3
          · rw [if_pos c9] at H
            have c9b0 : decide (a0_4 ≤ a0_3) = true := decide_eq_true c9
            clear c9
            by_cases c10 : 0 ≤ a0_5
            · rw [if_pos c10] at H
              have c10b0 : decide (0 ≤ a0_5) = true := decide_eq_true c10
              clear c10
              by_cases c11 : a0_5 ≤ 2147483647
              · rw [if_pos c11] at H
                have c11b0 : decide (a0_5 ≤ 2147483647) = true := decide_eq_true c11
                clear c11
                by_cases c12 : a0_6 = true
                · subst c12
                  have H1 : (some (decide (a0_3 > a0_4))) = some r := by rw [if_pos rfl] at H; exact H
                  clear H
                  have H := H1
                  clear H1
                  obtain rfl := Option.some.inj H
                  obtain ⟨Q0, hQ0_⟩ : ∃ q_ : Array Value, q_ = (#[.string a0_0, .string a0_1, .string a0_2, .int .i64 a0_3, .int .i64 a0_4, .int .i64 a0_5, .bool true] : Array Value) := ⟨_, rfl⟩
                  try rw [← hQ0_]
                  have hQ0 := Aside0.mk hQ0_; have hq := Aside0.mk hQ0_; clear hQ0_
                  go_enter Try.func31, Try.ntmps31
                  go_wp2_with (first | ((with_reducible refine gate_dst (N := 1) rfl ?_); refine Ow.box rfl (N := 1) rfl (cs := Q0) (t := 25) HO.out (by first | (go_simp; done) | (go_simp; rfl)) ?_; clear HO; intro gb363 w13 HO; simp only [List.cons_append, List.nil_append] at HO) | ((with_reducible refine gate_callee (f := 45) rfl ?_); refine goesL_ (some 11) rfl rfl Try.func45 (by kernel_rfl) rfl #[.agg #[.int .i64 1, .string a0_2]] rfl (by (try simp only [List.map_toArray, List.map_cons, List.map_nil]); first | done | rfl | (simp only [hq.1]; done) | (simp only [hq.1]; rfl)) ?_; refine Calls.mono (calls_of_args (by first | ((try simp only [hq.1]) <;> rfl) | fail) (bursarref11_Name.calls 1 a0_2 t364 true _ A2.out)) ?_; rintro e w15 ⟨he_, hb⟩; subst he_; refine ⟨_, rfl, ?_⟩; replace HO := Aside0.mk (Ow.Own.call HO.out hb); clear hb) | ((with_reducible refine gate_callee (f := 45) rfl ?_); refine goesL_ (some 18) rfl rfl Try.func45 (by kernel_rfl) rfl #[.agg #[.int .i64 2, .string a0_1]] rfl (by (try simp only [List.map_toArray, List.map_cons, List.map_nil]); first | done | rfl | (simp only [hq.1]; done) | (simp only [hq.1]; rfl)) ?_; refine Calls.mono (calls_of_args (by first | ((try simp only [hq.1]) <;> rfl) | fail) (bursarref11_Name.calls 2 a0_1 t366 true _ A3.out)) ?_; rintro e w17 ⟨he_, hb⟩; subst he_; refine ⟨_, rfl, ?_⟩; replace HO := Aside0.mk (Ow.Own.call HO.out hb); clear hb) | ((with_reducible refine gate_callee (f := 46) rfl ?_); refine goesL_ (some 23) rfl rfl Try.func46 (by kernel_rfl) rfl #[.string a0_0] rfl (by (try simp only [List.map_toArray, List.map_cons, List.map_nil]); first | done | rfl | (simp only [hq.1]; done) | (simp only [hq.1]; rfl)) ?_; refine Calls.mono (calls_of_args (by first | ((try simp only [hq.1]) <;> rfl) | fail) (bursarref14_Ref.calls a0_0 true _ A4.out)) ?_; rintro e w' ⟨he_, ⟨nd, rfl⟩⟩; subst he_; refine ⟨_, rfl, ?_⟩; replace HO := Aside0.mk (Ow.Own.drewN HO.out nd); (try simp only [World.drewN_drewN] at HO)) | ((with_reducible refine Ow.gate_build rfl ?_); (try (refine gate_guard (by rfl) ?_; dsimp only)); refine' Ow.tbuild Ot.bd rfl rfl rfl ?hf_ ?_; (case hf_ => repeat (any_goals (first | exact Ow.Fills.nil | (refine' Ow.Fills.c ?hv_ rfl ?hz_ ?_; (case hv_ => first | exact Ow.ev_tmp rfl | rfl); (case hz_ => first | (refine ⟨?_, ?_⟩ <;> (first | ((try simp only [hq.1]) <;> rfl) | fail)) | fail)))))) | ((with_reducible refine Ow.gate_load rfl ?_); (try (refine gate_guard (by rfl) ?_; dsimp only)); (first | refine Ow.l1 Ot.ty HO.out rfl rfl rfl rfl (by first | ((try simp only [hq.1]) <;> rfl) | fail) ?_)))
                  all_goals go_ret
                  all_goals exact ⟨by first | rfl | (simp only [hq.1]; done) | (simp only [hq.1]; rfl) | (simp [errW_none, errW_some] <;> rfl) | (simp [*, errW_none, errW_some] <;> rfl), Ow.Own.below HO.out⟩
                · replace c12 := Bool.eq_false_iff.mpr c12
                  subst c12
                  have H1 : (some true) = some r := by rw [if_neg (show ¬ (false = true) by decide)] at H; exact H
                  clear H
                  have H := H1
                  clear H1
                  obtain rfl := Option.some.inj H
                  obtain ⟨Q1, hQ1_⟩ : ∃ q_ : Array Value, q_ = (#[.string a0_0, .string a0_1, .string a0_2, .int .i64 a0_3, .int .i64 a0_4, .int .i64 a0_5, .bool false] : Array Value) := ⟨_, rfl⟩
                  try rw [← hQ1_]
                  have hQ1 := Aside0.mk hQ1_; have hq := Aside0.mk hQ1_; clear hQ1_
                  go_enter Try.func31, Try.ntmps31
                  go_wp2_with (first | ((with_reducible refine gate_dst (N := 1) rfl ?_); refine Ow.box rfl (N := 1) rfl (cs := Q1) (t := 25) HO.out (by first | (go_simp; done) | (go_simp; rfl)) ?_; clear HO; intro gb363 w19 HO; simp only [List.cons_append, List.nil_append] at HO) | ((with_reducible refine gate_callee (f := 45) rfl ?_); refine goesL_ (some 11) rfl rfl Try.func45 (by kernel_rfl) rfl #[.agg #[.int .i64 1, .string a0_2]] rfl (by (try simp only [List.map_toArray, List.map_cons, List.map_nil]); first | done | rfl | (simp only [hq.1]; done) | (simp only [hq.1]; rfl)) ?_; refine Calls.mono (calls_of_args (by first | ((try simp only [hq.1]) <;> rfl) | fail) (bursarref11_Name.calls 1 a0_2 t364 true _ A2.out)) ?_; rintro e w21 ⟨he_, hb⟩; subst he_; refine ⟨_, rfl, ?_⟩; replace HO := Aside0.mk (Ow.Own.call HO.out hb); clear hb) | ((with_reducible refine gate_callee (f := 45) rfl ?_); refine goesL_ (some 18) rfl rfl Try.func45 (by kernel_rfl) rfl #[.agg #[.int .i64 2, .string a0_1]] rfl (by (try simp only [List.map_toArray, List.map_cons, List.map_nil]); first | done | rfl | (simp only [hq.1]; done) | (simp only [hq.1]; rfl)) ?_; refine Calls.mono (calls_of_args (by first | ((try simp only [hq.1]) <;> rfl) | fail) (bursarref11_Name.calls 2 a0_1 t366 true _ A3.out)) ?_; rintro e w23 ⟨he_, hb⟩; subst he_; refine ⟨_, rfl, ?_⟩; replace HO := Aside0.mk (Ow.Own.call HO.out hb); clear hb) | ((with_reducible refine gate_callee (f := 46) rfl ?_); refine goesL_ (some 23) rfl rfl Try.func46 (by kernel_rfl) rfl #[.string a0_0] rfl (by (try simp only [List.map_toArray, List.map_cons, List.map_nil]); first | done | rfl | (simp only [hq.1]; done) | (simp only [hq.1]; rfl)) ?_; refine Calls.mono (calls_of_args (by first | ((try simp only [hq.1]) <;> rfl) | fail) (bursarref14_Ref.calls a0_0 true _ A4.out)) ?_; rintro e w' ⟨he_, ⟨nd, rfl⟩⟩; subst he_; refine ⟨_, rfl, ?_⟩; replace HO := Aside0.mk (Ow.Own.drewN HO.out nd); (try simp only [World.drewN_drewN] at HO)) | ((with_reducible refine Ow.gate_build rfl ?_); (try (refine gate_guard (by rfl) ?_; dsimp only)); refine' Ow.tbuild Ot.bd rfl rfl rfl ?hf_ ?_; (case hf_ => repeat (any_goals (first | exact Ow.Fills.nil | (refine' Ow.Fills.c ?hv_ rfl ?hz_ ?_; (case hv_ => first | exact Ow.ev_tmp rfl | rfl); (case hz_ => first | (refine ⟨?_, ?_⟩ <;> (first | ((try simp only [hq.1]) <;> rfl) | fail)) | fail)))))) | ((with_reducible refine Ow.gate_load rfl ?_); (try (refine gate_guard (by rfl) ?_; dsimp only)); (first | refine Ow.l1 Ot.ty HO.out rfl rfl rfl rfl (by first | ((try simp only [hq.1]) <;> rfl) | fail) ?_)))
                  all_goals go_ret
                  all_goals exact ⟨by first | rfl | (simp only [hq.1]; done) | (simp only [hq.1]; rfl) | (simp [errW_none, errW_some] <;> rfl) | (simp [*, errW_none, errW_some] <;> rfl), Ow.Own.below HO.out⟩
              · rw [if_neg c11] at H
                have c11b0 : decide (a0_5 ≤ 2147483647) = false := decide_eq_false c11
                clear c11
                obtain rfl := Option.some.inj H
                obtain ⟨Q2, hQ2_⟩ : ∃ q_ : Array Value, q_ = (#[.string a0_0, .string a0_1, .string a0_2, .int .i64 a0_3, .int .i64 a0_4, .int .i64 a0_5, .bool a0_6] : Array Value) := ⟨_, rfl⟩
                try rw [← hQ2_]
                have hQ2 := Aside0.mk hQ2_; have hq := Aside0.mk hQ2_; clear hQ2_
                go_enter Try.func31, Try.ntmps31
                go_wp2_with (first | ((with_reducible refine gate_dst (N := 1) rfl ?_); refine Ow.box rfl (N := 1) rfl (cs := Q2) (t := 25) HO.out (by first | (go_simp; done) | (go_simp; rfl)) ?_; clear HO; intro gb363 w25 HO; simp only [List.cons_append, List.nil_append] at HO) | ((with_reducible refine gate_callee (f := 45) rfl ?_); refine goesL_ (some 11) rfl rfl Try.func45 (by kernel_rfl) rfl #[.agg #[.int .i64 1, .string a0_2]] rfl (by (try simp only [List.map_toArray, List.map_cons, List.map_nil]); first | done | rfl | (simp only [hq.1]; done) | (simp only [hq.1]; rfl)) ?_; refine Calls.mono (calls_of_args (by first | ((try simp only [hq.1]) <;> rfl) | fail) (bursarref11_Name.calls 1 a0_2 t364 true _ A2.out)) ?_; rintro e w27 ⟨he_, hb⟩; subst he_; refine ⟨_, rfl, ?_⟩; replace HO := Aside0.mk (Ow.Own.call HO.out hb); clear hb) | ((with_reducible refine gate_callee (f := 45) rfl ?_); refine goesL_ (some 18) rfl rfl Try.func45 (by kernel_rfl) rfl #[.agg #[.int .i64 2, .string a0_1]] rfl (by (try simp only [List.map_toArray, List.map_cons, List.map_nil]); first | done | rfl | (simp only [hq.1]; done) | (simp only [hq.1]; rfl)) ?_; refine Calls.mono (calls_of_args (by first | ((try simp only [hq.1]) <;> rfl) | fail) (bursarref11_Name.calls 2 a0_1 t366 true _ A3.out)) ?_; rintro e w29 ⟨he_, hb⟩; subst he_; refine ⟨_, rfl, ?_⟩; replace HO := Aside0.mk (Ow.Own.call HO.out hb); clear hb) | ((with_reducible refine gate_callee (f := 46) rfl ?_); refine goesL_ (some 23) rfl rfl Try.func46 (by kernel_rfl) rfl #[.string a0_0] rfl (by (try simp only [List.map_toArray, List.map_cons, List.map_nil]); first | done | rfl | (simp only [hq.1]; done) | (simp only [hq.1]; rfl)) ?_; refine Calls.mono (calls_of_args (by first | ((try simp only [hq.1]) <;> rfl) | fail) (bursarref14_Ref.calls a0_0 true _ A4.out)) ?_; rintro e w' ⟨he_, ⟨nd, rfl⟩⟩; subst he_; refine ⟨_, rfl, ?_⟩; replace HO := Aside0.mk (Ow.Own.drewN HO.out nd); (try simp only [World.drewN_drewN] at HO)) | ((with_reducible refine Ow.gate_build rfl ?_); (try (refine gate_guard (by rfl) ?_; dsimp only)); refine' Ow.tbuild Ot.bd rfl rfl rfl ?hf_ ?_; (case hf_ => repeat (any_goals (first | exact Ow.Fills.nil | (refine' Ow.Fills.c ?hv_ rfl ?hz_ ?_; (case hv_ => first | exact Ow.ev_tmp rfl | rfl); (case hz_ => first | (refine ⟨?_, ?_⟩ <;> (first | ((try simp only [hq.1]) <;> rfl) | fail)) | fail)))))) | ((with_reducible refine Ow.gate_load rfl ?_); (try (refine gate_guard (by rfl) ?_; dsimp only)); (first | refine Ow.l1 Ot.ty HO.out rfl rfl rfl rfl (by first | ((try simp only [hq.1]) <;> rfl) | fail) ?_)))
                all_goals go_ret
                all_goals exact ⟨by first | rfl | (simp only [hq.1]; done) | (simp only [hq.1]; rfl) | (simp [errW_none, errW_some] <;> rfl) | (simp [*, errW_none, errW_some] <;> rfl), Ow.Own.below HO.out⟩
            · rw [if_neg c10] at H
              have c10b0 : decide (0 ≤ a0_5) = false := decide_eq_false c10
              clear c10
              obtain rfl := Option.some.inj H
              obtain ⟨Q3, hQ3_⟩ : ∃ q_ : Array Value, q_ = (#[.string a0_0, .string a0_1, .string a0_2, .int .i64 a0_3, .int .i64 a0_4, .int .i64 a0_5, .bool a0_6] : Array Value) := ⟨_, rfl⟩
              try rw [← hQ3_]
              have hQ3 := Aside0.mk hQ3_; have hq := Aside0.mk hQ3_; clear hQ3_
              go_enter Try.func31, Try.ntmps31
              go_wp2_with (first | ((with_reducible refine gate_dst (N := 1) rfl ?_); refine Ow.box rfl (N := 1) rfl (cs := Q3) (t := 25) HO.out (by first | (go_simp; done) | (go_simp; rfl)) ?_; clear HO; intro gb363 w31 HO; simp only [List.cons_append, List.nil_append] at HO) | ((with_reducible refine gate_callee (f := 45) rfl ?_); refine goesL_ (some 11) rfl rfl Try.func45 (by kernel_rfl) rfl #[.agg #[.int .i64 1, .string a0_2]] rfl (by (try simp only [List.map_toArray, List.map_cons, List.map_nil]); first | done | rfl | (simp only [hq.1]; done) | (simp only [hq.1]; rfl)) ?_; refine Calls.mono (calls_of_args (by first | ((try simp only [hq.1]) <;> rfl) | fail) (bursarref11_Name.calls 1 a0_2 t364 true _ A2.out)) ?_; rintro e w33 ⟨he_, hb⟩; subst he_; refine ⟨_, rfl, ?_⟩; replace HO := Aside0.mk (Ow.Own.call HO.out hb); clear hb) | ((with_reducible refine gate_callee (f := 45) rfl ?_); refine goesL_ (some 18) rfl rfl Try.func45 (by kernel_rfl) rfl #[.agg #[.int .i64 2, .string a0_1]] rfl (by (try simp only [List.map_toArray, List.map_cons, List.map_nil]); first | done | rfl | (simp only [hq.1]; done) | (simp only [hq.1]; rfl)) ?_; refine Calls.mono (calls_of_args (by first | ((try simp only [hq.1]) <;> rfl) | fail) (bursarref11_Name.calls 2 a0_1 t366 true _ A3.out)) ?_; rintro e w35 ⟨he_, hb⟩; subst he_; refine ⟨_, rfl, ?_⟩; replace HO := Aside0.mk (Ow.Own.call HO.out hb); clear hb) | ((with_reducible refine gate_callee (f := 46) rfl ?_); refine goesL_ (some 23) rfl rfl Try.func46 (by kernel_rfl) rfl #[.string a0_0] rfl (by (try simp only [List.map_toArray, List.map_cons, List.map_nil]); first | done | rfl | (simp only [hq.1]; done) | (simp only [hq.1]; rfl)) ?_; refine Calls.mono (calls_of_args (by first | ((try simp only [hq.1]) <;> rfl) | fail) (bursarref14_Ref.calls a0_0 true _ A4.out)) ?_; rintro e w' ⟨he_, ⟨nd, rfl⟩⟩; subst he_; refine ⟨_, rfl, ?_⟩; replace HO := Aside0.mk (Ow.Own.drewN HO.out nd); (try simp only [World.drewN_drewN] at HO)) | ((with_reducible refine Ow.gate_build rfl ?_); (try (refine gate_guard (by rfl) ?_; dsimp only)); refine' Ow.tbuild Ot.bd rfl rfl rfl ?hf_ ?_; (case hf_ => repeat (any_goals (first | exact Ow.Fills.nil | (refine' Ow.Fills.c ?hv_ rfl ?hz_ ?_; (case hv_ => first | exact Ow.ev_tmp rfl | rfl); (case hz_ => first | (refine ⟨?_, ?_⟩ <;> (first | ((try simp only [hq.1]) <;> rfl) | fail)) | fail)))))) | ((with_reducible refine Ow.gate_load rfl ?_); (try (refine gate_guard (by rfl) ?_; dsimp only)); (first | refine Ow.l1 Ot.ty HO.out rfl rfl rfl rfl (by first | ((try simp only [hq.1]) <;> rfl) | fail) ?_)))
              all_goals go_ret
              all_goals exact ⟨by first | rfl | (simp only [hq.1]; done) | (simp only [hq.1]; rfl) | (simp [errW_none, errW_some] <;> rfl) | (simp [*, errW_none, errW_some] <;> rfl), Ow.Own.below HO.out⟩
          · rw [if_neg c9] at H
            have c9b0 : decide (a0_4 ≤ a0_3) = false := decide_eq_false c9
            clear c9
            obtain rfl := Option.some.inj H
            obtain ⟨Q4, hQ4_⟩ : ∃ q_ : Array Value, q_ = (#[.string a0_0, .string a0_1, .string a0_2, .int .i64 a0_3, .int .i64 a0_4, .int .i64 a0_5, .bool a0_6] : Array Value) := ⟨_, rfl⟩
            try rw [← hQ4_]
            have hQ4 := Aside0.mk hQ4_; have hq := Aside0.mk hQ4_; clear hQ4_
            go_enter Try.func31, Try.ntmps31
            go_wp2_with (first | ((with_reducible refine gate_dst (N := 1) rfl ?_); refine Ow.box rfl (N := 1) rfl (cs := Q4) (t := 25) HO.out (by first | (go_simp; done) | (go_simp; rfl)) ?_; clear HO; intro gb363 w37 HO; simp only [List.cons_append, List.nil_append] at HO) | ((with_reducible refine gate_callee (f := 45) rfl ?_); refine goesL_ (some 11) rfl rfl Try.func45 (by kernel_rfl) rfl #[.agg #[.int .i64 1, .string a0_2]] rfl (by (try simp only [List.map_toArray, List.map_cons, List.map_nil]); first | done | rfl | (simp only [hq.1]; done) | (simp only [hq.1]; rfl)) ?_; refine Calls.mono (calls_of_args (by first | ((try simp only [hq.1]) <;> rfl) | fail) (bursarref11_Name.calls 1 a0_2 t364 true _ A2.out)) ?_; rintro e w39 ⟨he_, hb⟩; subst he_; refine ⟨_, rfl, ?_⟩; replace HO := Aside0.mk (Ow.Own.call HO.out hb); clear hb) | ((with_reducible refine gate_callee (f := 45) rfl ?_); refine goesL_ (some 18) rfl rfl Try.func45 (by kernel_rfl) rfl #[.agg #[.int .i64 2, .string a0_1]] rfl (by (try simp only [List.map_toArray, List.map_cons, List.map_nil]); first | done | rfl | (simp only [hq.1]; done) | (simp only [hq.1]; rfl)) ?_; refine Calls.mono (calls_of_args (by first | ((try simp only [hq.1]) <;> rfl) | fail) (bursarref11_Name.calls 2 a0_1 t366 true _ A3.out)) ?_; rintro e w41 ⟨he_, hb⟩; subst he_; refine ⟨_, rfl, ?_⟩; replace HO := Aside0.mk (Ow.Own.call HO.out hb); clear hb) | ((with_reducible refine gate_callee (f := 46) rfl ?_); refine goesL_ (some 23) rfl rfl Try.func46 (by kernel_rfl) rfl #[.string a0_0] rfl (by (try simp only [List.map_toArray, List.map_cons, List.map_nil]); first | done | rfl | (simp only [hq.1]; done) | (simp only [hq.1]; rfl)) ?_; refine Calls.mono (calls_of_args (by first | ((try simp only [hq.1]) <;> rfl) | fail) (bursarref14_Ref.calls a0_0 true _ A4.out)) ?_; rintro e w' ⟨he_, ⟨nd, rfl⟩⟩; subst he_; refine ⟨_, rfl, ?_⟩; replace HO := Aside0.mk (Ow.Own.drewN HO.out nd); (try simp only [World.drewN_drewN] at HO)) | ((with_reducible refine Ow.gate_build rfl ?_); (try (refine gate_guard (by rfl) ?_; dsimp only)); refine' Ow.tbuild Ot.bd rfl rfl rfl ?hf_ ?_; (case hf_ => repeat (any_goals (first | exact Ow.Fills.nil | (refine' Ow.Fills.c ?hv_ rfl ?hz_ ?_; (case hv_ => first | exact Ow.ev_tmp rfl | rfl); (case hz_ => first | (refine ⟨?_, ?_⟩ <;> (first | ((try simp only [hq.1]) <;> rfl) | fail)) | fail)))))) | ((with_reducible refine Ow.gate_load rfl ?_); (try (refine gate_guard (by rfl) ?_; dsimp only)); (first | refine Ow.l1 Ot.ty HO.out rfl rfl rfl rfl (by first | ((try simp only [hq.1]) <;> rfl) | fail) ?_)))
            all_goals go_ret
            all_goals exact ⟨by first | rfl | (simp only [hq.1]; done) | (simp only [hq.1]; rfl) | (simp [errW_none, errW_some] <;> rfl) | (simp [*, errW_none, errW_some] <;> rfl), Ow.Own.below HO.out⟩
        · rw [if_neg c8] at H
          have c8b0 : decide (0 ≤ a0_4) = false := decide_eq_false c8
          clear c8
          obtain rfl := Option.some.inj H
          obtain ⟨Q5, hQ5_⟩ : ∃ q_ : Array Value, q_ = (#[.string a0_0, .string a0_1, .string a0_2, .int .i64 a0_3, .int .i64 a0_4, .int .i64 a0_5, .bool a0_6] : Array Value) := ⟨_, rfl⟩
          try rw [← hQ5_]
          have hQ5 := Aside0.mk hQ5_; have hq := Aside0.mk hQ5_; clear hQ5_
          go_enter Try.func31, Try.ntmps31
          go_wp2_with (first | ((with_reducible refine gate_dst (N := 1) rfl ?_); refine Ow.box rfl (N := 1) rfl (cs := Q5) (t := 25) HO.out (by first | (go_simp; done) | (go_simp; rfl)) ?_; clear HO; intro gb363 w43 HO; simp only [List.cons_append, List.nil_append] at HO) | ((with_reducible refine gate_callee (f := 45) rfl ?_); refine goesL_ (some 11) rfl rfl Try.func45 (by kernel_rfl) rfl #[.agg #[.int .i64 1, .string a0_2]] rfl (by (try simp only [List.map_toArray, List.map_cons, List.map_nil]); first | done | rfl | (simp only [hq.1]; done) | (simp only [hq.1]; rfl)) ?_; refine Calls.mono (calls_of_args (by first | ((try simp only [hq.1]) <;> rfl) | fail) (bursarref11_Name.calls 1 a0_2 t364 true _ A2.out)) ?_; rintro e w45 ⟨he_, hb⟩; subst he_; refine ⟨_, rfl, ?_⟩; replace HO := Aside0.mk (Ow.Own.call HO.out hb); clear hb) | ((with_reducible refine gate_callee (f := 45) rfl ?_); refine goesL_ (some 18) rfl rfl Try.func45 (by kernel_rfl) rfl #[.agg #[.int .i64 2, .string a0_1]] rfl (by (try simp only [List.map_toArray, List.map_cons, List.map_nil]); first | done | rfl | (simp only [hq.1]; done) | (simp only [hq.1]; rfl)) ?_; refine Calls.mono (calls_of_args (by first | ((try simp only [hq.1]) <;> rfl) | fail) (bursarref11_Name.calls 2 a0_1 t366 true _ A3.out)) ?_; rintro e w47 ⟨he_, hb⟩; subst he_; refine ⟨_, rfl, ?_⟩; replace HO := Aside0.mk (Ow.Own.call HO.out hb); clear hb) | ((with_reducible refine gate_callee (f := 46) rfl ?_); refine goesL_ (some 23) rfl rfl Try.func46 (by kernel_rfl) rfl #[.string a0_0] rfl (by (try simp only [List.map_toArray, List.map_cons, List.map_nil]); first | done | rfl | (simp only [hq.1]; done) | (simp only [hq.1]; rfl)) ?_; refine Calls.mono (calls_of_args (by first | ((try simp only [hq.1]) <;> rfl) | fail) (bursarref14_Ref.calls a0_0 true _ A4.out)) ?_; rintro e w' ⟨he_, ⟨nd, rfl⟩⟩; subst he_; refine ⟨_, rfl, ?_⟩; replace HO := Aside0.mk (Ow.Own.drewN HO.out nd); (try simp only [World.drewN_drewN] at HO)) | ((with_reducible refine Ow.gate_build rfl ?_); (try (refine gate_guard (by rfl) ?_; dsimp only)); refine' Ow.tbuild Ot.bd rfl rfl rfl ?hf_ ?_; (case hf_ => repeat (any_goals (first | exact Ow.Fills.nil | (refine' Ow.Fills.c ?hv_ rfl ?hz_ ?_; (case hv_ => first | exact Ow.ev_tmp rfl | rfl); (case hz_ => first | (refine ⟨?_, ?_⟩ <;> (first | ((try simp only [hq.1]) <;> rfl) | fail)) | fail)))))) | ((with_reducible refine Ow.gate_load rfl ?_); (try (refine gate_guard (by rfl) ?_; dsimp only)); (first | refine Ow.l1 Ot.ty HO.out rfl rfl rfl rfl (by first | ((try simp only [hq.1]) <;> rfl) | fail) ?_)))
          all_goals go_ret
          all_goals exact ⟨by first | rfl | (simp only [hq.1]; done) | (simp only [hq.1]; rfl) | (simp [errW_none, errW_some] <;> rfl) | (simp [*, errW_none, errW_some] <;> rfl), Ow.Own.below HO.out⟩
      · replace c7 := Bool.eq_false_iff.mpr c7
        subst c7
        have H1 : (some false) = some r := by rw [if_neg (show ¬ (false = true) by decide)] at H; exact H
        clear H
        have H := H1
        clear H1
        obtain rfl := Option.some.inj H
        obtain ⟨Q6, hQ6_⟩ : ∃ q_ : Array Value, q_ = (#[.string a0_0, .string a0_1, .string a0_2, .int .i64 a0_3, .int .i64 a0_4, .int .i64 a0_5, .bool a0_6] : Array Value) := ⟨_, rfl⟩
        try rw [← hQ6_]
        have hQ6 := Aside0.mk hQ6_; have hq := Aside0.mk hQ6_; clear hQ6_
        go_enter Try.func31, Try.ntmps31
        go_wp2_with (first | ((with_reducible refine gate_dst (N := 1) rfl ?_); refine Ow.box rfl (N := 1) rfl (cs := Q6) (t := 25) HO.out (by first | (go_simp; done) | (go_simp; rfl)) ?_; clear HO; intro gb363 w49 HO; simp only [List.cons_append, List.nil_append] at HO) | ((with_reducible refine gate_callee (f := 45) rfl ?_); refine goesL_ (some 11) rfl rfl Try.func45 (by kernel_rfl) rfl #[.agg #[.int .i64 1, .string a0_2]] rfl (by (try simp only [List.map_toArray, List.map_cons, List.map_nil]); first | done | rfl | (simp only [hq.1]; done) | (simp only [hq.1]; rfl)) ?_; refine Calls.mono (calls_of_args (by first | ((try simp only [hq.1]) <;> rfl) | fail) (bursarref11_Name.calls 1 a0_2 t364 true _ A2.out)) ?_; rintro e w51 ⟨he_, hb⟩; subst he_; refine ⟨_, rfl, ?_⟩; replace HO := Aside0.mk (Ow.Own.call HO.out hb); clear hb) | ((with_reducible refine gate_callee (f := 45) rfl ?_); refine goesL_ (some 18) rfl rfl Try.func45 (by kernel_rfl) rfl #[.agg #[.int .i64 2, .string a0_1]] rfl (by (try simp only [List.map_toArray, List.map_cons, List.map_nil]); first | done | rfl | (simp only [hq.1]; done) | (simp only [hq.1]; rfl)) ?_; refine Calls.mono (calls_of_args (by first | ((try simp only [hq.1]) <;> rfl) | fail) (bursarref11_Name.calls 2 a0_1 t366 false _ A3.out)) ?_; rintro e w53 ⟨he_, hb⟩; subst he_; refine ⟨_, rfl, ?_⟩; replace HO := Aside0.mk (Ow.Own.call HO.out hb); clear hb) | ((with_reducible refine gate_callee (f := 46) rfl ?_); refine goesL_ (some 23) rfl rfl Try.func46 (by kernel_rfl) rfl #[.string a0_0] rfl (by (try simp only [List.map_toArray, List.map_cons, List.map_nil]); first | done | rfl | (simp only [hq.1]; done) | (simp only [hq.1]; rfl)) ?_; refine Calls.mono (calls_of_args (by first | ((try simp only [hq.1]) <;> rfl) | fail) (bursarref14_Ref.calls a0_0 true _ A4.out)) ?_; rintro e w' ⟨he_, ⟨nd, rfl⟩⟩; subst he_; refine ⟨_, rfl, ?_⟩; replace HO := Aside0.mk (Ow.Own.drewN HO.out nd); (try simp only [World.drewN_drewN] at HO)) | ((with_reducible refine Ow.gate_build rfl ?_); (try (refine gate_guard (by rfl) ?_; dsimp only)); refine' Ow.tbuild Ot.bd rfl rfl rfl ?hf_ ?_; (case hf_ => repeat (any_goals (first | exact Ow.Fills.nil | (refine' Ow.Fills.c ?hv_ rfl ?hz_ ?_; (case hv_ => first | exact Ow.ev_tmp rfl | rfl); (case hz_ => first | (refine ⟨?_, ?_⟩ <;> (first | ((try simp only [hq.1]) <;> rfl) | fail)) | fail)))))) | ((with_reducible refine Ow.gate_load rfl ?_); (try (refine gate_guard (by rfl) ?_; dsimp only)); (first | refine Ow.l1 Ot.ty HO.out rfl rfl rfl rfl (by first | ((try simp only [hq.1]) <;> rfl) | fail) ?_)))
        all_goals go_ret
        all_goals exact ⟨by first | rfl | (simp only [hq.1]; done) | (simp only [hq.1]; rfl) | (simp [errW_none, errW_some] <;> rfl) | (simp [*, errW_none, errW_some] <;> rfl), Ow.Own.below HO.out⟩
    · replace c6 := Bool.eq_false_iff.mpr c6
      subst c6
      have H1 : (some false) = some r := by rw [if_neg (show ¬ (false = true) by decide)] at H; exact H
      clear H
      have H := H1
      clear H1
      obtain rfl := Option.some.inj H
      obtain ⟨Q7, hQ7_⟩ : ∃ q_ : Array Value, q_ = (#[.string a0_0, .string a0_1, .string a0_2, .int .i64 a0_3, .int .i64 a0_4, .int .i64 a0_5, .bool a0_6] : Array Value) := ⟨_, rfl⟩
      try rw [← hQ7_]
      have hQ7 := Aside0.mk hQ7_; have hq := Aside0.mk hQ7_; clear hQ7_
      go_enter Try.func31, Try.ntmps31
      go_wp2_with (first | ((with_reducible refine gate_dst (N := 1) rfl ?_); refine Ow.box rfl (N := 1) rfl (cs := Q7) (t := 25) HO.out (by first | (go_simp; done) | (go_simp; rfl)) ?_; clear HO; intro gb363 w55 HO; simp only [List.cons_append, List.nil_append] at HO) | ((with_reducible refine gate_callee (f := 45) rfl ?_); refine goesL_ (some 11) rfl rfl Try.func45 (by kernel_rfl) rfl #[.agg #[.int .i64 1, .string a0_2]] rfl (by (try simp only [List.map_toArray, List.map_cons, List.map_nil]); first | done | rfl | (simp only [hq.1]; done) | (simp only [hq.1]; rfl)) ?_; refine Calls.mono (calls_of_args (by first | ((try simp only [hq.1]) <;> rfl) | fail) (bursarref11_Name.calls 1 a0_2 t364 false _ A2.out)) ?_; rintro e w57 ⟨he_, hb⟩; subst he_; refine ⟨_, rfl, ?_⟩; replace HO := Aside0.mk (Ow.Own.call HO.out hb); clear hb) | ((with_reducible refine gate_callee (f := 45) rfl ?_); refine goesL_ (some 18) rfl rfl Try.func45 (by kernel_rfl) rfl #[.agg #[.int .i64 2, .string a0_1]] rfl (by (try simp only [List.map_toArray, List.map_cons, List.map_nil]); first | done | rfl | (simp only [hq.1]; done) | (simp only [hq.1]; rfl)) ?_; refine Calls.mono (calls_of_args (by first | ((try simp only [hq.1]) <;> rfl) | fail) (bursarref11_Name.calls 2 a0_1 t366 t367 _ A3.out)) ?_; rintro e w59 ⟨he_, hb⟩; subst he_; refine ⟨_, rfl, ?_⟩; replace HO := Aside0.mk (Ow.Own.call HO.out hb); clear hb) | ((with_reducible refine gate_callee (f := 46) rfl ?_); refine goesL_ (some 23) rfl rfl Try.func46 (by kernel_rfl) rfl #[.string a0_0] rfl (by (try simp only [List.map_toArray, List.map_cons, List.map_nil]); first | done | rfl | (simp only [hq.1]; done) | (simp only [hq.1]; rfl)) ?_; refine Calls.mono (calls_of_args (by first | ((try simp only [hq.1]) <;> rfl) | fail) (bursarref14_Ref.calls a0_0 true _ A4.out)) ?_; rintro e w' ⟨he_, ⟨nd, rfl⟩⟩; subst he_; refine ⟨_, rfl, ?_⟩; replace HO := Aside0.mk (Ow.Own.drewN HO.out nd); (try simp only [World.drewN_drewN] at HO)) | ((with_reducible refine Ow.gate_build rfl ?_); (try (refine gate_guard (by rfl) ?_; dsimp only)); refine' Ow.tbuild Ot.bd rfl rfl rfl ?hf_ ?_; (case hf_ => repeat (any_goals (first | exact Ow.Fills.nil | (refine' Ow.Fills.c ?hv_ rfl ?hz_ ?_; (case hv_ => first | exact Ow.ev_tmp rfl | rfl); (case hz_ => first | (refine ⟨?_, ?_⟩ <;> (first | ((try simp only [hq.1]) <;> rfl) | fail)) | fail)))))) | ((with_reducible refine Ow.gate_load rfl ?_); (try (refine gate_guard (by rfl) ?_; dsimp only)); (first | refine Ow.l1 Ot.ty HO.out rfl rfl rfl rfl (by first | ((try simp only [hq.1]) <;> rfl) | fail) ?_)))
      all_goals go_ret
      all_goals exact ⟨by first | rfl | (simp only [hq.1]; done) | (simp only [hq.1]; rfl) | (simp [errW_none, errW_some] <;> rfl) | (simp [*, errW_none, errW_some] <;> rfl), Ow.Own.below HO.out⟩
  · replace c5 := Bool.eq_false_iff.mpr c5
    subst c5
    have H1 : (some false) = some r := by rw [if_neg (show ¬ (false = true) by decide)] at H; exact H
    clear H
    have H := H1
    clear H1
    obtain rfl := Option.some.inj H
    obtain ⟨Q8, hQ8_⟩ : ∃ q_ : Array Value, q_ = (#[.string a0_0, .string a0_1, .string a0_2, .int .i64 a0_3, .int .i64 a0_4, .int .i64 a0_5, .bool a0_6] : Array Value) := ⟨_, rfl⟩
    try rw [← hQ8_]
    have hQ8 := Aside0.mk hQ8_; have hq := Aside0.mk hQ8_; clear hQ8_
    go_enter Try.func31, Try.ntmps31
    go_wp2_with (first | ((with_reducible refine gate_dst (N := 1) rfl ?_); refine Ow.box rfl (N := 1) rfl (cs := Q8) (t := 25) HO.out (by first | (go_simp; done) | (go_simp; rfl)) ?_; clear HO; intro gb363 w61 HO; simp only [List.cons_append, List.nil_append] at HO) | ((with_reducible refine gate_callee (f := 45) rfl ?_); refine goesL_ (some 11) rfl rfl Try.func45 (by kernel_rfl) rfl #[.agg #[.int .i64 1, .string a0_2]] rfl (by (try simp only [List.map_toArray, List.map_cons, List.map_nil]); first | done | rfl | (simp only [hq.1]; done) | (simp only [hq.1]; rfl)) ?_; refine Calls.mono (calls_of_args (by first | ((try simp only [hq.1]) <;> rfl) | fail) (bursarref11_Name.calls 1 a0_2 t364 t365 _ A2.out)) ?_; rintro e w63 ⟨he_, hb⟩; subst he_; refine ⟨_, rfl, ?_⟩; replace HO := Aside0.mk (Ow.Own.call HO.out hb); clear hb) | ((with_reducible refine gate_callee (f := 45) rfl ?_); refine goesL_ (some 18) rfl rfl Try.func45 (by kernel_rfl) rfl #[.agg #[.int .i64 2, .string a0_1]] rfl (by (try simp only [List.map_toArray, List.map_cons, List.map_nil]); first | done | rfl | (simp only [hq.1]; done) | (simp only [hq.1]; rfl)) ?_; refine Calls.mono (calls_of_args (by first | ((try simp only [hq.1]) <;> rfl) | fail) (bursarref11_Name.calls 2 a0_1 t366 t367 _ A3.out)) ?_; rintro e w65 ⟨he_, hb⟩; subst he_; refine ⟨_, rfl, ?_⟩; replace HO := Aside0.mk (Ow.Own.call HO.out hb); clear hb) | ((with_reducible refine gate_callee (f := 46) rfl ?_); refine goesL_ (some 23) rfl rfl Try.func46 (by kernel_rfl) rfl #[.string a0_0] rfl (by (try simp only [List.map_toArray, List.map_cons, List.map_nil]); first | done | rfl | (simp only [hq.1]; done) | (simp only [hq.1]; rfl)) ?_; refine Calls.mono (calls_of_args (by first | ((try simp only [hq.1]) <;> rfl) | fail) (bursarref14_Ref.calls a0_0 false _ A4.out)) ?_; rintro e w' ⟨he_, ⟨nd, rfl⟩⟩; subst he_; refine ⟨_, rfl, ?_⟩; replace HO := Aside0.mk (Ow.Own.drewN HO.out nd); (try simp only [World.drewN_drewN] at HO)) | ((with_reducible refine Ow.gate_build rfl ?_); (try (refine gate_guard (by rfl) ?_; dsimp only)); refine' Ow.tbuild Ot.bd rfl rfl rfl ?hf_ ?_; (case hf_ => repeat (any_goals (first | exact Ow.Fills.nil | (refine' Ow.Fills.c ?hv_ rfl ?hz_ ?_; (case hv_ => first | exact Ow.ev_tmp rfl | rfl); (case hz_ => first | (refine ⟨?_, ?_⟩ <;> (first | ((try simp only [hq.1]) <;> rfl) | fail)) | fail)))))) | ((with_reducible refine Ow.gate_load rfl ?_); (try (refine gate_guard (by rfl) ?_; dsimp only)); (first | refine Ow.l1 Ot.ty HO.out rfl rfl rfl rfl (by first | ((try simp only [hq.1]) <;> rfl) | fail) ?_)))
    all_goals go_ret
    all_goals exact ⟨by first | rfl | (simp only [hq.1]; done) | (simp only [hq.1]; rfl) | (simp [errW_none, errW_some] <;> rfl) | (simp [*, errW_none, errW_some] <;> rfl), Ow.Own.below HO.out⟩

/-! #### bursarref14_May, refined -/
theorem ref14_May_e (rrn acq pan : ByteArray) (ap ca un : Int) (op : Bool) : bursarref14_May_p.f rrn acq pan ap ca un op = some (Pu.hmay rrn acq pan ap ca un op) := by
  unfold bursarref14_May_p.f bursarref14_Ref.f bursarref11_Name.f Pu.hmay
  simp only [Option.bind_some]
  cases Pu.refB rrn <;> cases Pu.mayB 1 pan <;> cases Pu.mayB 2 acq <;> try (simp; done)
  by_cases h1 : 0 ≤ un <;> by_cases h2 : un ≤ 2147483647 <;> by_cases h3 : 0 ≤ ca <;> by_cases h4 : ca ≤ ap <;> cases op <;> simp [h1, h2, h3, h4]
def bursarref14_May.f (a0_0 a0_1 a0_2 : ByteArray) (a0_3 a0_4 a0_5 : Int) (a0_6 : Bool) : Option Bool := some (Pu.hmay a0_0 a0_1 a0_2 a0_3 a0_4 a0_5 a0_6)
theorem bursarref14_May.calls (a0_0 a0_1 a0_2 : ByteArray) (a0_3 a0_4 a0_5 : Int) (a0_6 : Bool) (r : Bool) (w : World) (h : bursarref14_May.f a0_0 a0_1 a0_2 a0_3 a0_4 a0_5 a0_6 = some r) :
    Calls Try.prog 31 #[.agg #[.string a0_0, .string a0_1, .string a0_2, .int .i64 a0_3, .int .i64 a0_4, .int .i64 a0_5, .bool a0_6]] w fun e w' => e = .returned (.bool r) ∧ Below w.heap.size w w' :=
  bursarref14_May_p.calls a0_0 a0_1 a0_2 a0_3 a0_4 a0_5 a0_6 r w ((ref14_May_e a0_0 a0_1 a0_2 a0_3 a0_4 a0_5 a0_6).trans h)


/-! ### bursarlaw23_CaptureParts: function 9 -/
mutual
def bursarlaw23_CaptureParts.j0 : Nat → List Int → Int → Bool → ByteArray → ByteArray → ByteArray → Int → ByteArray → ByteArray → ByteArray → ByteArray → ByteArray → Int → Int → ByteArray → Bool → Int → ByteArray → ByteArray → ByteArray → Int → Int → Int → Bool → Bool → Int → Int → Bool → Option (Bool)
  | 0, _, _, _, _, _, _, _, _, _, _, _, _, _, _, _, _, _, _, _, _, _, _, _, _, _, _, _, _ => none
  | k + 1, x1, x5, x26, x370000, x370001, x370002, x370003, x370004, x370005, x370006, x370007, x370008, x370009, x370010, x370011, x370012, x370013, x370014, x370015, x370016, x370017, x370018, x370019, x370020, x370021, x370022, x370023, x370024 => if x26 = true then ((bursarlaw23_awake.f k).bind fun t397 => (some t397)) else (bursarlaw23_CaptureParts.l0 k x1 x5 0 0 x370000 x370001 x370002 x370003 x370004 x370005 x370006 x370007 x370008 x370009 x370010 x370011 x370012 x370013 x370014 x370015 x370016 x370017 x370018 x370019 x370020 x370021 x370022 x370023 x370024)
def bursarlaw23_CaptureParts.l0 : Nat → List Int → Int → Int → Int → ByteArray → ByteArray → ByteArray → Int → ByteArray → ByteArray → ByteArray → ByteArray → ByteArray → Int → Int → ByteArray → Bool → Int → ByteArray → ByteArray → ByteArray → Int → Int → Int → Bool → Bool → Int → Int → Bool → Option (Bool)
  | 0, _, _, _, _, _, _, _, _, _, _, _, _, _, _, _, _, _, _, _, _, _, _, _, _, _, _, _, _, _ => none
  | k + 1, x1, x5, x6, x7, x370000, x370001, x370002, x370003, x370004, x370005, x370006, x370007, x370008, x370009, x370010, x370011, x370012, x370013, x370014, x370015, x370016, x370017, x370018, x370019, x370020, x370021, x370022, x370023, x370024 => if x7 < (x1.length : Int) then (bursarlaw23_CaptureParts.j2 k x1 x5 x6 x7 (decide (x7 < 20)) x370000 x370001 x370002 x370003 x370004 x370005 x370006 x370007 x370008 x370009 x370010 x370011 x370012 x370013 x370014 x370015 x370016 x370017 x370018 x370019 x370020 x370021 x370022 x370023 x370024) else (bursarlaw23_CaptureParts.j2 k x1 x5 x6 x7 false x370000 x370001 x370002 x370003 x370004 x370005 x370006 x370007 x370008 x370009 x370010 x370011 x370012 x370013 x370014 x370015 x370016 x370017 x370018 x370019 x370020 x370021 x370022 x370023 x370024)
def bursarlaw23_CaptureParts.j2 : Nat → List Int → Int → Int → Int → Bool → ByteArray → ByteArray → ByteArray → Int → ByteArray → ByteArray → ByteArray → ByteArray → ByteArray → Int → Int → ByteArray → Bool → Int → ByteArray → ByteArray → ByteArray → Int → Int → Int → Bool → Bool → Int → Int → Bool → Option (Bool)
  | 0, _, _, _, _, _, _, _, _, _, _, _, _, _, _, _, _, _, _, _, _, _, _, _, _, _, _, _, _, _, _ => none
  | k + 1, x1, x5, x6, x7, x35, x370000, x370001, x370002, x370003, x370004, x370005, x370006, x370007, x370008, x370009, x370010, x370011, x370012, x370013, x370014, x370015, x370016, x370017, x370018, x370019, x370020, x370021, x370022, x370023, x370024 => if x35 = true then (if 0 ≤ x7 then (if x7 < (x1.length : Int) then ((capture_Capture.f k x370000 x370001 x370002 (wrap64 (rd x1 x7)) x370004 x370005 x370006 x370007 x370008 x370009 x370010 x370011 x370012 x370013 x370014 x370015 x370016 x370017 x370018 x370019 x370020 x370021 x370022 x370023 x370024).bind fun bt401 => (if bt401.1.toList = ([48, 48] : List UInt8) then (if bt401.2.2.2.2.2.2.2.2.1 = true then ((bursarref14_Left.f bt401.2.1 bt401.2.2.1 bt401.2.2.2.1 bt401.2.2.2.2.1 bt401.2.2.2.2.2.1 bt401.2.2.2.2.2.2.1 bt401.2.2.2.2.2.2.2.1).bind fun t417 => (if t417 = (wrap64 (x5 - (wrap64 (x6 + bt401.2.2.2.2.2.2.2.2.2.2.2.2.2.2)))) then (if bt401.2.2.2.2.2.2.2.1 = true then (if x5 > (wrap64 (x6 + bt401.2.2.2.2.2.2.2.2.2.2.2.2.2.2)) then (bursarlaw23_CaptureParts.l0 k x1 x5 (wrap64 (x6 + bt401.2.2.2.2.2.2.2.2.2.2.2.2.2.2)) (wrap64 (x7 + 1)) x370000 x370001 x370002 (wrap64 (rd x1 x7)) x370004 x370005 x370006 x370007 x370008 x370009 x370010 x370011 x370012 x370013 bt401.2.1 bt401.2.2.1 bt401.2.2.2.1 bt401.2.2.2.2.1 bt401.2.2.2.2.2.1 bt401.2.2.2.2.2.2.1 bt401.2.2.2.2.2.2.2.1 x370021 x370022 x370023 x370024) else (none)) else (if x5 > (wrap64 (x6 + bt401.2.2.2.2.2.2.2.2.2.2.2.2.2.2)) then (none) else (bursarlaw23_CaptureParts.l0 k x1 x5 (wrap64 (x6 + bt401.2.2.2.2.2.2.2.2.2.2.2.2.2.2)) (wrap64 (x7 + 1)) x370000 x370001 x370002 (wrap64 (rd x1 x7)) x370004 x370005 x370006 x370007 x370008 x370009 x370010 x370011 x370012 x370013 bt401.2.1 bt401.2.2.1 bt401.2.2.2.1 bt401.2.2.2.2.1 bt401.2.2.2.2.2.1 bt401.2.2.2.2.2.2.1 bt401.2.2.2.2.2.2.2.1 x370021 x370022 x370023 x370024))) else (none))) else (none)) else (bursarlaw23_CaptureParts.l0 k x1 x5 x6 (wrap64 (x7 + 1)) x370000 x370001 x370002 (wrap64 (rd x1 x7)) x370004 x370005 x370006 x370007 x370008 x370009 x370010 x370011 x370012 x370013 x370014 x370015 x370016 x370017 x370018 x370019 x370020 x370021 x370022 x370023 x370024))) else (none)) else (none)) else (if x6 ≤ x5 then (if x6 = 0 then ((bursarlaw23_awake.f k).bind fun t398 => (some t398)) else (if x370018 ≤ x370017 then ((bursarlaw23_awake.f k).bind fun t399 => (some t399)) else (none))) else (none))
end
def bursarlaw23_CaptureParts.f (k : Nat) (a0_0 : ByteArray) (a0_1 : ByteArray) (a0_2 : ByteArray) (a0_3 : Int) (a0_4 : ByteArray) (a0_5 : ByteArray) (a0_6 : ByteArray) (a0_7 : ByteArray) (a0_8 : ByteArray) (a0_9 : Int) (a0_10 : Int) (a0_11 : ByteArray) (a0_12 : Bool) (a0_13 : Int) (a0_14 : ByteArray) (a0_15 : ByteArray) (a0_16 : ByteArray) (a0_17 : Int) (a0_18 : Int) (a0_19 : Int) (a0_20 : Bool) (a0_21 : Bool) (a0_22 : Int) (a0_23 : Int) (a0_24 : Bool) (l1 : List Int) : Option (Bool) := (bursarlaw22_Few.f a0_0 a0_1 a0_2 a0_3 a0_4 a0_5 a0_6 a0_7 a0_8 a0_9 a0_10 a0_11 a0_12 a0_13 a0_14 a0_15 a0_16 a0_17 a0_18 a0_19 a0_20 a0_21 a0_22 a0_23 a0_24).bind fun bt370 => ((bursarref14_Left.f bt370.2.2.2.2.2.2.2.2.2.2.2.2.2.2.1 bt370.2.2.2.2.2.2.2.2.2.2.2.2.2.2.2.1 bt370.2.2.2.2.2.2.2.2.2.2.2.2.2.2.2.2.1 bt370.2.2.2.2.2.2.2.2.2.2.2.2.2.2.2.2.2.1 bt370.2.2.2.2.2.2.2.2.2.2.2.2.2.2.2.2.2.2.1 bt370.2.2.2.2.2.2.2.2.2.2.2.2.2.2.2.2.2.2.2.1 bt370.2.2.2.2.2.2.2.2.2.2.2.2.2.2.2.2.2.2.2.2.1).bind fun t395 => (if bt370.2.2.2.2.2.2.2.2.2.2.2.2.2.2.2.2.2.2.2.2.2.1 = true then ((bursarref14_May.f bt370.2.2.2.2.2.2.2.2.2.2.2.2.2.2.1 bt370.2.2.2.2.2.2.2.2.2.2.2.2.2.2.2.1 bt370.2.2.2.2.2.2.2.2.2.2.2.2.2.2.2.2.1 bt370.2.2.2.2.2.2.2.2.2.2.2.2.2.2.2.2.2.1 bt370.2.2.2.2.2.2.2.2.2.2.2.2.2.2.2.2.2.2.1 bt370.2.2.2.2.2.2.2.2.2.2.2.2.2.2.2.2.2.2.2.1 bt370.2.2.2.2.2.2.2.2.2.2.2.2.2.2.2.2.2.2.2.2.1).bind fun t396 => (bursarlaw23_CaptureParts.j0 k l1 t395 (!t396) (⟨#[48, 50, 48, 48]⟩ : ByteArray) bt370.2.1 (⟨#[48, 49, 48, 48, 48, 48]⟩ : ByteArray) bt370.2.2.2.1 bt370.2.2.2.2.1 bt370.2.2.2.2.2.1 bt370.2.2.2.2.2.2.1 bt370.2.2.2.2.2.2.2.1 bt370.2.2.2.2.2.2.2.2.1 bt370.2.2.2.2.2.2.2.2.2.1 bt370.2.2.2.2.2.2.2.2.2.2.1 bt370.2.2.2.2.2.2.2.2.2.2.2.1 bt370.2.2.2.2.2.2.2.2.2.2.2.2.1 bt370.2.2.2.2.2.2.2.2.2.2.2.2.2.1 bt370.2.2.2.2.2.2.2.2.2.2.2.2.2.2.1 bt370.2.2.2.2.2.2.2.2.2.2.2.2.2.2.2.1 bt370.2.2.2.2.2.2.2.2.2.2.2.2.2.2.2.2.1 bt370.2.2.2.2.2.2.2.2.2.2.2.2.2.2.2.2.2.1 bt370.2.2.2.2.2.2.2.2.2.2.2.2.2.2.2.2.2.2.1 bt370.2.2.2.2.2.2.2.2.2.2.2.2.2.2.2.2.2.2.2.1 bt370.2.2.2.2.2.2.2.2.2.2.2.2.2.2.2.2.2.2.2.2.1 bt370.2.2.2.2.2.2.2.2.2.2.2.2.2.2.2.2.2.2.2.2.2.1 bt370.2.2.2.2.2.2.2.2.2.2.2.2.2.2.2.2.2.2.2.2.2.2.1 bt370.2.2.2.2.2.2.2.2.2.2.2.2.2.2.2.2.2.2.2.2.2.2.2.1 bt370.2.2.2.2.2.2.2.2.2.2.2.2.2.2.2.2.2.2.2.2.2.2.2.2)) else (bursarlaw23_CaptureParts.j0 k l1 t395 true (⟨#[48, 50, 48, 48]⟩ : ByteArray) bt370.2.1 (⟨#[48, 49, 48, 48, 48, 48]⟩ : ByteArray) bt370.2.2.2.1 bt370.2.2.2.2.1 bt370.2.2.2.2.2.1 bt370.2.2.2.2.2.2.1 bt370.2.2.2.2.2.2.2.1 bt370.2.2.2.2.2.2.2.2.1 bt370.2.2.2.2.2.2.2.2.2.1 bt370.2.2.2.2.2.2.2.2.2.2.1 bt370.2.2.2.2.2.2.2.2.2.2.2.1 bt370.2.2.2.2.2.2.2.2.2.2.2.2.1 bt370.2.2.2.2.2.2.2.2.2.2.2.2.2.1 bt370.2.2.2.2.2.2.2.2.2.2.2.2.2.2.1 bt370.2.2.2.2.2.2.2.2.2.2.2.2.2.2.2.1 bt370.2.2.2.2.2.2.2.2.2.2.2.2.2.2.2.2.1 bt370.2.2.2.2.2.2.2.2.2.2.2.2.2.2.2.2.2.1 bt370.2.2.2.2.2.2.2.2.2.2.2.2.2.2.2.2.2.2.1 bt370.2.2.2.2.2.2.2.2.2.2.2.2.2.2.2.2.2.2.2.1 bt370.2.2.2.2.2.2.2.2.2.2.2.2.2.2.2.2.2.2.2.2.1 bt370.2.2.2.2.2.2.2.2.2.2.2.2.2.2.2.2.2.2.2.2.2.1 bt370.2.2.2.2.2.2.2.2.2.2.2.2.2.2.2.2.2.2.2.2.2.2.1 bt370.2.2.2.2.2.2.2.2.2.2.2.2.2.2.2.2.2.2.2.2.2.2.2.1 bt370.2.2.2.2.2.2.2.2.2.2.2.2.2.2.2.2.2.2.2.2.2.2.2.2)))
theorem bursarlaw23_CaptureParts.mono_l : ∀ k, (∀ y0 y1 y2 y3 y4 y5 y6 y7 y8 y9 y10 y11 y12 y13 y14 y15 y16 y17 y18 y19 y20 y21 y22 y23 y24 y25 y26 y27, LeO (bursarlaw23_CaptureParts.j0 k y0 y1 y2 y3 y4 y5 y6 y7 y8 y9 y10 y11 y12 y13 y14 y15 y16 y17 y18 y19 y20 y21 y22 y23 y24 y25 y26 y27) (bursarlaw23_CaptureParts.j0 (k + 1) y0 y1 y2 y3 y4 y5 y6 y7 y8 y9 y10 y11 y12 y13 y14 y15 y16 y17 y18 y19 y20 y21 y22 y23 y24 y25 y26 y27)) ∧ (∀ y0 y1 y2 y3 y4 y5 y6 y7 y8 y9 y10 y11 y12 y13 y14 y15 y16 y17 y18 y19 y20 y21 y22 y23 y24 y25 y26 y27 y28, LeO (bursarlaw23_CaptureParts.l0 k y0 y1 y2 y3 y4 y5 y6 y7 y8 y9 y10 y11 y12 y13 y14 y15 y16 y17 y18 y19 y20 y21 y22 y23 y24 y25 y26 y27 y28) (bursarlaw23_CaptureParts.l0 (k + 1) y0 y1 y2 y3 y4 y5 y6 y7 y8 y9 y10 y11 y12 y13 y14 y15 y16 y17 y18 y19 y20 y21 y22 y23 y24 y25 y26 y27 y28)) ∧ (∀ y0 y1 y2 y3 y4 y5 y6 y7 y8 y9 y10 y11 y12 y13 y14 y15 y16 y17 y18 y19 y20 y21 y22 y23 y24 y25 y26 y27 y28 y29, LeO (bursarlaw23_CaptureParts.j2 k y0 y1 y2 y3 y4 y5 y6 y7 y8 y9 y10 y11 y12 y13 y14 y15 y16 y17 y18 y19 y20 y21 y22 y23 y24 y25 y26 y27 y28 y29) (bursarlaw23_CaptureParts.j2 (k + 1) y0 y1 y2 y3 y4 y5 y6 y7 y8 y9 y10 y11 y12 y13 y14 y15 y16 y17 y18 y19 y20 y21 y22 y23 y24 y25 y26 y27 y28 y29))
  | 0 => ⟨fun _ _ _ _ _ _ _ _ _ _ _ _ _ _ _ _ _ _ _ _ _ _ _ _ _ _ _ _ r h => by simp [bursarlaw23_CaptureParts.j0] at h, fun _ _ _ _ _ _ _ _ _ _ _ _ _ _ _ _ _ _ _ _ _ _ _ _ _ _ _ _ _ r h => by simp [bursarlaw23_CaptureParts.l0] at h, fun _ _ _ _ _ _ _ _ _ _ _ _ _ _ _ _ _ _ _ _ _ _ _ _ _ _ _ _ _ _ r h => by simp [bursarlaw23_CaptureParts.j2] at h⟩
  | k + 1 => by
    obtain ⟨ih0, ih1, ih2⟩ := bursarlaw23_CaptureParts.mono_l k
    refine ⟨?_, ?_, ?_⟩
    · intro y0 y1 y2 y3 y4 y5 y6 y7 y8 y9 y10 y11 y12 y13 y14 y15 y16 y17 y18 y19 y20 y21 y22 y23 y24 y25 y26 y27
      unfold bursarlaw23_CaptureParts.j0
      repeat' first
      | (with_reducible exact ih0 _ _ _ _ _ _ _ _ _ _ _ _ _ _ _ _ _ _ _ _ _ _ _ _ _ _ _ _)
      | (with_reducible exact ih1 _ _ _ _ _ _ _ _ _ _ _ _ _ _ _ _ _ _ _ _ _ _ _ _ _ _ _ _ _)
      | (with_reducible exact ih2 _ _ _ _ _ _ _ _ _ _ _ _ _ _ _ _ _ _ _ _ _ _ _ _ _ _ _ _ _ _)
      | (with_reducible exact bursarlaw23_awake.mono _)
      | (with_reducible exact capture_Capture.mono _ _ _ _ _ _ _ _ _ _ _ _ _ _ _ _ _ _ _ _ _ _ _ _ _ _)
      | (with_reducible exact LeO.refl _)
      | (with_reducible exact LeO.none _)
      | (with_reducible refine LeO.ite ?_ ?_)
      | (with_reducible refine LeO.bind ?_ (fun _ => ?_))
      | exact ih0 _ _ _ _ _ _ _ _ _ _ _ _ _ _ _ _ _ _ _ _ _ _ _ _ _ _ _ _
      | exact ih1 _ _ _ _ _ _ _ _ _ _ _ _ _ _ _ _ _ _ _ _ _ _ _ _ _ _ _ _ _
      | exact ih2 _ _ _ _ _ _ _ _ _ _ _ _ _ _ _ _ _ _ _ _ _ _ _ _ _ _ _ _ _ _
      | exact bursarlaw23_awake.mono _
      | exact capture_Capture.mono _ _ _ _ _ _ _ _ _ _ _ _ _ _ _ _ _ _ _ _ _ _ _ _ _ _
      | exact LeO.none _
      | refine LeO.ite ?_ ?_
      | refine LeO.bind ?_ (fun _ => ?_)
    · intro y0 y1 y2 y3 y4 y5 y6 y7 y8 y9 y10 y11 y12 y13 y14 y15 y16 y17 y18 y19 y20 y21 y22 y23 y24 y25 y26 y27 y28
      unfold bursarlaw23_CaptureParts.l0
      repeat' first
      | (with_reducible exact ih0 _ _ _ _ _ _ _ _ _ _ _ _ _ _ _ _ _ _ _ _ _ _ _ _ _ _ _ _)
      | (with_reducible exact ih1 _ _ _ _ _ _ _ _ _ _ _ _ _ _ _ _ _ _ _ _ _ _ _ _ _ _ _ _ _)
      | (with_reducible exact ih2 _ _ _ _ _ _ _ _ _ _ _ _ _ _ _ _ _ _ _ _ _ _ _ _ _ _ _ _ _ _)
      | (with_reducible exact bursarlaw23_awake.mono _)
      | (with_reducible exact capture_Capture.mono _ _ _ _ _ _ _ _ _ _ _ _ _ _ _ _ _ _ _ _ _ _ _ _ _ _)
      | (with_reducible exact LeO.refl _)
      | (with_reducible exact LeO.none _)
      | (with_reducible refine LeO.ite ?_ ?_)
      | (with_reducible refine LeO.bind ?_ (fun _ => ?_))
      | exact ih0 _ _ _ _ _ _ _ _ _ _ _ _ _ _ _ _ _ _ _ _ _ _ _ _ _ _ _ _
      | exact ih1 _ _ _ _ _ _ _ _ _ _ _ _ _ _ _ _ _ _ _ _ _ _ _ _ _ _ _ _ _
      | exact ih2 _ _ _ _ _ _ _ _ _ _ _ _ _ _ _ _ _ _ _ _ _ _ _ _ _ _ _ _ _ _
      | exact bursarlaw23_awake.mono _
      | exact capture_Capture.mono _ _ _ _ _ _ _ _ _ _ _ _ _ _ _ _ _ _ _ _ _ _ _ _ _ _
      | exact LeO.none _
      | refine LeO.ite ?_ ?_
      | refine LeO.bind ?_ (fun _ => ?_)
    · intro y0 y1 y2 y3 y4 y5 y6 y7 y8 y9 y10 y11 y12 y13 y14 y15 y16 y17 y18 y19 y20 y21 y22 y23 y24 y25 y26 y27 y28 y29
      unfold bursarlaw23_CaptureParts.j2
      repeat' first
      | (with_reducible exact ih0 _ _ _ _ _ _ _ _ _ _ _ _ _ _ _ _ _ _ _ _ _ _ _ _ _ _ _ _)
      | (with_reducible exact ih1 _ _ _ _ _ _ _ _ _ _ _ _ _ _ _ _ _ _ _ _ _ _ _ _ _ _ _ _ _)
      | (with_reducible exact ih2 _ _ _ _ _ _ _ _ _ _ _ _ _ _ _ _ _ _ _ _ _ _ _ _ _ _ _ _ _ _)
      | (with_reducible exact bursarlaw23_awake.mono _)
      | (with_reducible exact capture_Capture.mono _ _ _ _ _ _ _ _ _ _ _ _ _ _ _ _ _ _ _ _ _ _ _ _ _ _)
      | (with_reducible exact LeO.refl _)
      | (with_reducible exact LeO.none _)
      | (with_reducible refine LeO.ite ?_ ?_)
      | (with_reducible refine LeO.bind ?_ (fun _ => ?_))
      | exact ih0 _ _ _ _ _ _ _ _ _ _ _ _ _ _ _ _ _ _ _ _ _ _ _ _ _ _ _ _
      | exact ih1 _ _ _ _ _ _ _ _ _ _ _ _ _ _ _ _ _ _ _ _ _ _ _ _ _ _ _ _ _
      | exact ih2 _ _ _ _ _ _ _ _ _ _ _ _ _ _ _ _ _ _ _ _ _ _ _ _ _ _ _ _ _ _
      | exact bursarlaw23_awake.mono _
      | exact capture_Capture.mono _ _ _ _ _ _ _ _ _ _ _ _ _ _ _ _ _ _ _ _ _ _ _ _ _ _
      | exact LeO.none _
      | refine LeO.ite ?_ ?_
      | refine LeO.bind ?_ (fun _ => ?_)
theorem bursarlaw23_CaptureParts.mono : ∀ a0 a1 a2 a3 a4 a5 a6 a7 a8 a9 a10 a11 a12 a13 a14 a15 a16 a17 a18 a19 a20 a21 a22 a23 a24 a25 k, LeO (bursarlaw23_CaptureParts.f k a0 a1 a2 a3 a4 a5 a6 a7 a8 a9 a10 a11 a12 a13 a14 a15 a16 a17 a18 a19 a20 a21 a22 a23 a24 a25) (bursarlaw23_CaptureParts.f (k + 1) a0 a1 a2 a3 a4 a5 a6 a7 a8 a9 a10 a11 a12 a13 a14 a15 a16 a17 a18 a19 a20 a21 a22 a23 a24 a25) := by
  intro a0 a1 a2 a3 a4 a5 a6 a7 a8 a9 a10 a11 a12 a13 a14 a15 a16 a17 a18 a19 a20 a21 a22 a23 a24 a25 k
  obtain ⟨ih0, ih1, ih2⟩ := bursarlaw23_CaptureParts.mono_l k
  unfold bursarlaw23_CaptureParts.f
  repeat' first
      | (with_reducible exact ih0 _ _ _ _ _ _ _ _ _ _ _ _ _ _ _ _ _ _ _ _ _ _ _ _ _ _ _ _)
      | (with_reducible exact ih1 _ _ _ _ _ _ _ _ _ _ _ _ _ _ _ _ _ _ _ _ _ _ _ _ _ _ _ _ _)
      | (with_reducible exact ih2 _ _ _ _ _ _ _ _ _ _ _ _ _ _ _ _ _ _ _ _ _ _ _ _ _ _ _ _ _ _)
      | (with_reducible exact bursarlaw23_awake.mono _)
      | (with_reducible exact capture_Capture.mono _ _ _ _ _ _ _ _ _ _ _ _ _ _ _ _ _ _ _ _ _ _ _ _ _ _)
      | (with_reducible exact LeO.refl _)
      | (with_reducible exact LeO.none _)
      | (with_reducible refine LeO.ite ?_ ?_)
      | (with_reducible refine LeO.bind ?_ (fun _ => ?_))
      | exact ih0 _ _ _ _ _ _ _ _ _ _ _ _ _ _ _ _ _ _ _ _ _ _ _ _ _ _ _ _
      | exact ih1 _ _ _ _ _ _ _ _ _ _ _ _ _ _ _ _ _ _ _ _ _ _ _ _ _ _ _ _ _
      | exact ih2 _ _ _ _ _ _ _ _ _ _ _ _ _ _ _ _ _ _ _ _ _ _ _ _ _ _ _ _ _ _
      | exact bursarlaw23_awake.mono _
      | exact capture_Capture.mono _ _ _ _ _ _ _ _ _ _ _ _ _ _ _ _ _ _ _ _ _ _ _ _ _ _
      | exact LeO.none _
      | refine LeO.ite ?_ ?_
      | refine LeO.bind ?_ (fun _ => ?_)
def bursarlaw23_CaptureParts.Z15 : Array Value := #[.string (⟨#[]⟩ : ByteArray), .string (⟨#[]⟩ : ByteArray), .string (⟨#[]⟩ : ByteArray), .string (⟨#[]⟩ : ByteArray), .int .i64 0, .int .i64 0, .int .i64 0, .bool false, .bool false, .int .i64 0, .int .i64 0, .string (⟨#[]⟩ : ByteArray), .string (⟨#[]⟩ : ByteArray), .string (⟨#[]⟩ : ByteArray), .int .i64 0]
set_option maxHeartbeats 8000000 in
set_option maxRecDepth 100000 in
theorem bursarlaw23_CaptureParts.calls (k : Nat) (a0_0 : ByteArray) (a0_1 : ByteArray) (a0_2 : ByteArray) (a0_3 : Int) (a0_4 : ByteArray) (a0_5 : ByteArray) (a0_6 : ByteArray) (a0_7 : ByteArray) (a0_8 : ByteArray) (a0_9 : Int) (a0_10 : Int) (a0_11 : ByteArray) (a0_12 : Bool) (a0_13 : Int) (a0_14 : ByteArray) (a0_15 : ByteArray) (a0_16 : ByteArray) (a0_17 : Int) (a0_18 : Int) (a0_19 : Int) (a0_20 : Bool) (a0_21 : Bool) (a0_22 : Int) (a0_23 : Int) (a0_24 : Bool) (A1 : Option Addr) (c1 : Nat) (l1 : List Int) (r : Bool) (w : World) (hr1 : Kd.C (Kd.int .u16) w A1 l1.length l1) (hc1 : l1.length ≤ c1) (h : bursarlaw23_CaptureParts.f k a0_0 a0_1 a0_2 a0_3 a0_4 a0_5 a0_6 a0_7 a0_8 a0_9 a0_10 a0_11 a0_12 a0_13 a0_14 a0_15 a0_16 a0_17 a0_18 a0_19 a0_20 a0_21 a0_22 a0_23 a0_24 l1 = some r) :
    Calls Try.prog 9 #[.agg #[.string a0_0, .string a0_1, .string a0_2, .int .i64 a0_3, .string a0_4, .string a0_5, .string a0_6, .string a0_7, .string a0_8, .int .i64 a0_9, .int .i64 a0_10, .string a0_11, .bool a0_12, .int .i64 a0_13, .string a0_14, .string a0_15, .string a0_16, .int .i64 a0_17, .int .i64 a0_18, .int .i64 a0_19, .bool a0_20, .bool a0_21, .int .i64 a0_22, .int .i64 a0_23, .bool a0_24], .slice A1 l1.length c1] w fun e w' => e = .returned (.bool r) ∧ Below w.heap.size w w' := by
  have hu27 := Try.underlying27
  have hu25 := Try.underlying25
  have hu53 := Try.underlying53
  have HR1 := Aside0.mk hr1
  have HC1 := Aside0.mk hc1
  clear hr1 hc1
  have HO := Aside0.mk (Ow.Own.nil w)
  have hmf : ∀ (fn : Fn) (first cap : Array Value) (w : World), (Instr.makeFunc fn first cap).run Try.prog w = .ok (.func fn first cap) w := fun _ _ _ _ => rfl
  have H : ((bursarlaw22_Few.f a0_0 a0_1 a0_2 a0_3 a0_4 a0_5 a0_6 a0_7 a0_8 a0_9 a0_10 a0_11 a0_12 a0_13 a0_14 a0_15 a0_16 a0_17 a0_18 a0_19 a0_20 a0_21 a0_22 a0_23 a0_24).bind fun bt370 => ((bursarref14_Left.f bt370.2.2.2.2.2.2.2.2.2.2.2.2.2.2.1 bt370.2.2.2.2.2.2.2.2.2.2.2.2.2.2.2.1 bt370.2.2.2.2.2.2.2.2.2.2.2.2.2.2.2.2.1 bt370.2.2.2.2.2.2.2.2.2.2.2.2.2.2.2.2.2.1 bt370.2.2.2.2.2.2.2.2.2.2.2.2.2.2.2.2.2.2.1 bt370.2.2.2.2.2.2.2.2.2.2.2.2.2.2.2.2.2.2.2.1 bt370.2.2.2.2.2.2.2.2.2.2.2.2.2.2.2.2.2.2.2.2.1).bind fun t395 => (if bt370.2.2.2.2.2.2.2.2.2.2.2.2.2.2.2.2.2.2.2.2.2.1 = true then ((bursarref14_May.f bt370.2.2.2.2.2.2.2.2.2.2.2.2.2.2.1 bt370.2.2.2.2.2.2.2.2.2.2.2.2.2.2.2.1 bt370.2.2.2.2.2.2.2.2.2.2.2.2.2.2.2.2.1 bt370.2.2.2.2.2.2.2.2.2.2.2.2.2.2.2.2.2.1 bt370.2.2.2.2.2.2.2.2.2.2.2.2.2.2.2.2.2.2.1 bt370.2.2.2.2.2.2.2.2.2.2.2.2.2.2.2.2.2.2.2.1 bt370.2.2.2.2.2.2.2.2.2.2.2.2.2.2.2.2.2.2.2.2.1).bind fun t396 => (bursarlaw23_CaptureParts.j0 k l1 t395 (!t396) (⟨#[48, 50, 48, 48]⟩ : ByteArray) bt370.2.1 (⟨#[48, 49, 48, 48, 48, 48]⟩ : ByteArray) bt370.2.2.2.1 bt370.2.2.2.2.1 bt370.2.2.2.2.2.1 bt370.2.2.2.2.2.2.1 bt370.2.2.2.2.2.2.2.1 bt370.2.2.2.2.2.2.2.2.1 bt370.2.2.2.2.2.2.2.2.2.1 bt370.2.2.2.2.2.2.2.2.2.2.1 bt370.2.2.2.2.2.2.2.2.2.2.2.1 bt370.2.2.2.2.2.2.2.2.2.2.2.2.1 bt370.2.2.2.2.2.2.2.2.2.2.2.2.2.1 bt370.2.2.2.2.2.2.2.2.2.2.2.2.2.2.1 bt370.2.2.2.2.2.2.2.2.2.2.2.2.2.2.2.1 bt370.2.2.2.2.2.2.2.2.2.2.2.2.2.2.2.2.1 bt370.2.2.2.2.2.2.2.2.2.2.2.2.2.2.2.2.2.1 bt370.2.2.2.2.2.2.2.2.2.2.2.2.2.2.2.2.2.2.1 bt370.2.2.2.2.2.2.2.2.2.2.2.2.2.2.2.2.2.2.2.1 bt370.2.2.2.2.2.2.2.2.2.2.2.2.2.2.2.2.2.2.2.2.1 bt370.2.2.2.2.2.2.2.2.2.2.2.2.2.2.2.2.2.2.2.2.2.1 bt370.2.2.2.2.2.2.2.2.2.2.2.2.2.2.2.2.2.2.2.2.2.2.1 bt370.2.2.2.2.2.2.2.2.2.2.2.2.2.2.2.2.2.2.2.2.2.2.2.1 bt370.2.2.2.2.2.2.2.2.2.2.2.2.2.2.2.2.2.2.2.2.2.2.2.2)) else (bursarlaw23_CaptureParts.j0 k l1 t395 true (⟨#[48, 50, 48, 48]⟩ : ByteArray) bt370.2.1 (⟨#[48, 49, 48, 48, 48, 48]⟩ : ByteArray) bt370.2.2.2.1 bt370.2.2.2.2.1 bt370.2.2.2.2.2.1 bt370.2.2.2.2.2.2.1 bt370.2.2.2.2.2.2.2.1 bt370.2.2.2.2.2.2.2.2.1 bt370.2.2.2.2.2.2.2.2.2.1 bt370.2.2.2.2.2.2.2.2.2.2.1 bt370.2.2.2.2.2.2.2.2.2.2.2.1 bt370.2.2.2.2.2.2.2.2.2.2.2.2.1 bt370.2.2.2.2.2.2.2.2.2.2.2.2.2.1 bt370.2.2.2.2.2.2.2.2.2.2.2.2.2.2.1 bt370.2.2.2.2.2.2.2.2.2.2.2.2.2.2.2.1 bt370.2.2.2.2.2.2.2.2.2.2.2.2.2.2.2.2.1 bt370.2.2.2.2.2.2.2.2.2.2.2.2.2.2.2.2.2.1 bt370.2.2.2.2.2.2.2.2.2.2.2.2.2.2.2.2.2.2.1 bt370.2.2.2.2.2.2.2.2.2.2.2.2.2.2.2.2.2.2.2.1 bt370.2.2.2.2.2.2.2.2.2.2.2.2.2.2.2.2.2.2.2.2.1 bt370.2.2.2.2.2.2.2.2.2.2.2.2.2.2.2.2.2.2.2.2.2.1 bt370.2.2.2.2.2.2.2.2.2.2.2.2.2.2.2.2.2.2.2.2.2.2.1 bt370.2.2.2.2.2.2.2.2.2.2.2.2.2.2.2.2.2.2.2.2.2.2.2.1 bt370.2.2.2.2.2.2.2.2.2.2.2.2.2.2.2.2.2.2.2.2.2.2.2.2)))) = some r := h
  clear h
  replace H := Option.bind_eq_some_iff.mp H
  obtain ⟨⟨t370, t371, t372, t373, t374, t375, t376, t377, t378, t379, t380, t381, t382, t383, t384, t385, t386, t387, t388, t389, t390, t391, t392, t393, t394⟩, A30, H⟩ := H
  replace H : ((bursarref14_Left.f t384 t385 t386 t387 t388 t389 t390).bind fun t395 => (if t391 = true then ((bursarref14_May.f t384 t385 t386 t387 t388 t389 t390).bind fun t396 => (bursarlaw23_CaptureParts.j0 k l1 t395 (!t396) (⟨#[48, 50, 48, 48]⟩ : ByteArray) t371 (⟨#[48, 49, 48, 48, 48, 48]⟩ : ByteArray) t373 t374 t375 t376 t377 t378 t379 t380 t381 t382 t383 t384 t385 t386 t387 t388 t389 t390 t391 t392 t393 t394)) else (bursarlaw23_CaptureParts.j0 k l1 t395 true (⟨#[48, 50, 48, 48]⟩ : ByteArray) t371 (⟨#[48, 49, 48, 48, 48, 48]⟩ : ByteArray) t373 t374 t375 t376 t377 t378 t379 t380 t381 t382 t383 t384 t385 t386 t387 t388 t389 t390 t391 t392 t393 t394))) = some r := H
  have A3 := Aside0.mk A30
  clear A30
  replace H := Option.bind_eq_some_iff.mp H
  obtain ⟨t395, A40, H⟩ := H
  replace H : (if t391 = true then ((bursarref14_May.f t384 t385 t386 t387 t388 t389 t390).bind fun t396 => (bursarlaw23_CaptureParts.j0 k l1 t395 (!t396) (⟨#[48, 50, 48, 48]⟩ : ByteArray) t371 (⟨#[48, 49, 48, 48, 48, 48]⟩ : ByteArray) t373 t374 t375 t376 t377 t378 t379 t380 t381 t382 t383 t384 t385 t386 t387 t388 t389 t390 t391 t392 t393 t394)) else (bursarlaw23_CaptureParts.j0 k l1 t395 true (⟨#[48, 50, 48, 48]⟩ : ByteArray) t371 (⟨#[48, 49, 48, 48, 48, 48]⟩ : ByteArray) t373 t374 t375 t376 t377 t378 t379 t380 t381 t382 t383 t384 t385 t386 t387 t388 t389 t390 t391 t392 t393 t394)) = some r := H
  have A4 := Aside0.mk A40
  clear A40
  have HC5 := Aside0.mk H
  clear H
  obtain ⟨Q0, hQ0_⟩ : ∃ q_ : Array Value, q_ = (#[.string a0_0, .string a0_1, .string a0_2, .int .i64 a0_3, .string a0_4, .string a0_5, .string a0_6, .string a0_7, .string a0_8, .int .i64 a0_9, .int .i64 a0_10, .string a0_11, .bool a0_12, .int .i64 a0_13, .string a0_14, .string a0_15, .string a0_16, .int .i64 a0_17, .int .i64 a0_18, .int .i64 a0_19, .bool a0_20, .bool a0_21, .int .i64 a0_22, .int .i64 a0_23, .bool a0_24] : Array Value) := ⟨_, rfl⟩
  try rw [← hQ0_]
  have hQ0 := Aside0.mk hQ0_; have hq := Aside0.mk hQ0_; clear hQ0_
  go_enter Try.func9, Try.ntmps9
  obtain ⟨Q1, hQ1_⟩ : ∃ q_ : Array Value, q_ = (#[.string t370, .string t371, .string t372, .int .i64 t373, .string t374, .string t375, .string t376, .string t377, .string t378, .int .i64 t379, .int .i64 t380, .string t381, .bool t382, .int .i64 t383, .string t384, .string t385, .string t386, .int .i64 t387, .int .i64 t388, .int .i64 t389, .bool t390, .bool t391, .int .i64 t392, .int .i64 t393, .bool t394] : Array Value) := ⟨_, rfl⟩
  try rw [← hQ1_]
  have hQ1 := Aside0.mk hQ1_; replace hq := Aside0.mk (And.intro hQ1_ hq.1); clear hQ1_
  go_upto_region 4 with (first | ((with_reducible refine gate_dst (N := 2) rfl ?_); refine Ow.box rfl (N := 2) rfl (cs := Q0) (t := 27) HO.out (by first | (go_simp; done) | (go_simp; rfl)) ?_; clear HO; intro gb369 w6 HO; simp only [List.cons_append, List.nil_append] at HO) | ((with_reducible refine gate_callee (f := 15) rfl ?_); refine goesL_ (some 10) rfl rfl Try.func15 (by kernel_rfl) rfl #[.agg Q0] rfl (by (try simp only [List.map_toArray, List.map_cons, List.map_nil]); first | done | rfl | (simp only [hq.1]; done) | (simp only [hq.1]; rfl)) ?_; refine Calls.mono (calls_of_args (by first | ((try simp only [hq.1]) <;> rfl) | fail) (bursarlaw22_Few.calls a0_0 a0_1 a0_2 a0_3 a0_4 a0_5 a0_6 a0_7 a0_8 a0_9 a0_10 a0_11 a0_12 a0_13 a0_14 a0_15 a0_16 a0_17 a0_18 a0_19 a0_20 a0_21 a0_22 a0_23 a0_24 t370 t371 t372 t373 t374 t375 t376 t377 t378 t379 t380 t381 t382 t383 t384 t385 t386 t387 t388 t389 t390 t391 t392 t393 t394 _ A3.out)) ?_; rintro e w8 ⟨he_, hb⟩; (try rw [← hQ1.out] at he_); subst he_; refine ⟨_, rfl, ?_⟩; replace HO := Aside0.mk (Ow.Own.call HO.out hb); clear hb) | ((with_reducible refine gate_callee (f := 30) rfl ?_); refine goesL_ (some 17) rfl rfl Try.func30 (by kernel_rfl) rfl #[.agg #[.string t384, .string t385, .string t386, .int .i64 t387, .int .i64 t388, .int .i64 t389, .bool t390]] rfl (by (try simp only [List.map_toArray, List.map_cons, List.map_nil]); first | done | rfl | (simp only [hq.1]; done) | (simp only [hq.1]; rfl)) ?_; refine Calls.mono (calls_of_args (by first | ((try simp only [hq.1]) <;> rfl) | fail) (bursarref14_Left.calls t384 t385 t386 t387 t388 t389 t390 t395 _ A4.out)) ?_; rintro e w12 ⟨he_, hb⟩; subst he_; refine ⟨_, rfl, ?_⟩; replace HO := Aside0.mk (Ow.Own.call HO.out hb); clear hb) | ((with_reducible refine Ow.gate_load rfl ?_); (try (refine gate_guard (by rfl) ?_; dsimp only)); (first | refine Ow.l1 Ot.ty HO.out rfl rfl rfl rfl (by first | ((try simp only [hq.1]) <;> rfl) | fail) ?_ | refine Ow.l0 Ot.ty HO.out rfl rfl rfl rfl (by first | ((try simp only [hq.1]) <;> rfl) | fail) ?_ | refine Ow.lp Ot.ty HO.out rfl rfl rfl rfl (by first | ((try simp only [hq.1]) <;> rfl) | fail) ?_)) | ((with_reducible refine gate_store rfl ?_); (try (refine gate_guard (by rfl) ?_; dsimp only)); (first | refine Ow.s0 Ot.ty HO.out rfl rfl rfl rfl rfl (by first | exact Ow.ev_tmp rfl | rfl) (by first | (refine ⟨?_, ?_, ?_⟩ <;> (first | ((try simp only [hq.1]) <;> rfl) | fail)) | fail) ?_ | refine Ow.sp Ot.ty HO.out rfl rfl rfl rfl rfl (by first | exact Ow.ev_tmp rfl | rfl) (by first | (refine ⟨?_, ?_, ?_⟩ <;> (first | ((try simp only [hq.1]) <;> rfl) | fail)) | fail) ?_); clear HO; intro wz_ HO; simp only [List.set_cons_zero, List.set_cons_succ] at HO))
  (try simp only [Act.put, List.setIfInBounds_toArray, List.set_cons_zero, List.set_cons_succ])
  obtain ⟨Q2, hQ2_⟩ : ∃ q_ : Array Value, q_ = (#[.string (⟨#[48, 50, 48, 48]⟩ : ByteArray), .string t371, .string (⟨#[48, 49, 48, 48, 48, 48]⟩ : ByteArray), .int .i64 t373, .string t374, .string t375, .string t376, .string t377, .string t378, .int .i64 t379, .int .i64 t380, .string t381, .bool t382, .int .i64 t383, .string t384, .string t385, .string t386, .int .i64 t387, .int .i64 t388, .int .i64 t389, .bool t390, .bool t391, .int .i64 t392, .int .i64 t393, .bool t394] : Array Value) := ⟨_, rfl⟩
  try rw [← hQ2_]
  have hQ2 := Aside0.mk hQ2_; replace hq := Aside0.mk (And.intro hQ2_ hq.1); clear hQ2_
  (try simp only [Act.put, List.setIfInBounds_toArray, List.set_cons_zero, List.set_cons_succ])
  go_cut [26] (fun v26 wc => ∃ (kq : Nat) (x26_4 : Bool), v26 = .bool x26_4 ∧ Aside0 (bursarlaw23_CaptureParts.j0 kq l1 t395 x26_4 (⟨#[48, 50, 48, 48]⟩ : ByteArray) t371 (⟨#[48, 49, 48, 48, 48, 48]⟩ : ByteArray) t373 t374 t375 t376 t377 t378 t379 t380 t381 t382 t383 t384 t385 t386 t387 t388 t389 t390 t391 t392 t393 t394 = some r) ∧ Aside0 (kq ≤ k) ∧ Aside0 (Ow.Own w wc [(gb369, Q2, 27)]))
  case first =>
    have H := HC5.out
    clear HC5
    by_cases c13 : t391 = true
    · subst c13
      have H1 : ((bursarref14_May.f t384 t385 t386 t387 t388 t389 t390).bind fun t396 => (bursarlaw23_CaptureParts.j0 k l1 t395 (!t396) (⟨#[48, 50, 48, 48]⟩ : ByteArray) t371 (⟨#[48, 49, 48, 48, 48, 48]⟩ : ByteArray) t373 t374 t375 t376 t377 t378 t379 t380 t381 t382 t383 t384 t385 t386 t387 t388 t389 t390 true t392 t393 t394)) = some r := by rw [if_pos rfl] at H; exact H
      clear H
      have H := H1
      clear H1
      replace H := Option.bind_eq_some_iff.mp H
      obtain ⟨t396, A140, H⟩ := H
      replace H : (bursarlaw23_CaptureParts.j0 k l1 t395 (!t396) (⟨#[48, 50, 48, 48]⟩ : ByteArray) t371 (⟨#[48, 49, 48, 48, 48, 48]⟩ : ByteArray) t373 t374 t375 t376 t377 t378 t379 t380 t381 t382 t383 t384 t385 t386 t387 t388 t389 t390 true t392 t393 t394) = some r := H
      have A14 := Aside0.mk A140
      clear A140
      have H' := Aside0.mk H
      clear H
      go_wp2_with (first | (go_at_call 31; refine Calls.mono (calls_of_args (by first | ((try simp only [hq.1]) <;> rfl) | fail) (bursarref14_May.calls t384 t385 t386 t387 t388 t389 t390 t396 _ A14.out)) ?_; rintro e w16 ⟨he_, hb⟩; subst he_; replace HO := Aside0.mk (Ow.Own.call HO.out hb); clear hb) | ((with_reducible refine Ow.gate_load rfl ?_); (try (refine gate_guard (by rfl) ?_; dsimp only)); (first | refine Ow.l1 Ot.ty HO.out rfl rfl rfl rfl (by first | ((try simp only [hq.1]) <;> rfl) | fail) ?_ | refine Ow.l0 Ot.ty HO.out rfl rfl rfl rfl (by first | ((try simp only [hq.1]) <;> rfl) | fail) ?_ | refine Ow.lp Ot.ty HO.out rfl rfl rfl rfl (by first | ((try simp only [hq.1]) <;> rfl) | fail) ?_)) | ((with_reducible refine gate_store rfl ?_); (try (refine gate_guard (by rfl) ?_; dsimp only)); (first | refine Ow.s0 Ot.ty HO.out rfl rfl rfl rfl rfl (by first | exact Ow.ev_tmp rfl | rfl) (by first | (refine ⟨?_, ?_, ?_⟩ <;> (first | ((try simp only [hq.1]) <;> rfl) | fail)) | fail) ?_ | refine Ow.sp Ot.ty HO.out rfl rfl rfl rfl rfl (by first | exact Ow.ev_tmp rfl | rfl) (by first | (refine ⟨?_, ?_, ?_⟩ <;> (first | ((try simp only [hq.1]) <;> rfl) | fail)) | fail) ?_); clear HO; intro wz_ HO; simp only [List.set_cons_zero, List.set_cons_succ] at HO))
      go_meet
      case rel => exact ⟨_, (!t396), (by first | rfl | (simp; done) | (simp [*]; done) | (simp [Pu.bne_nil, Pu.beq_nil]; done)), H', ⟨by first | omega | exact Nat.le_refl _⟩, ⟨Ow.Own.cong (by first | exact HO.out | (have h_ := HO.out; simp only [World.drewN_drewN] at h_; exact h_)) (by first | ((try simp only [hq.1]) <;> rfl) | fail)⟩⟩
    · replace c13 := Bool.eq_false_iff.mpr c13
      subst c13
      have H1 : (bursarlaw23_CaptureParts.j0 k l1 t395 true (⟨#[48, 50, 48, 48]⟩ : ByteArray) t371 (⟨#[48, 49, 48, 48, 48, 48]⟩ : ByteArray) t373 t374 t375 t376 t377 t378 t379 t380 t381 t382 t383 t384 t385 t386 t387 t388 t389 t390 false t392 t393 t394) = some r := by rw [if_neg (show ¬ (false = true) by decide)] at H; exact H
      clear H
      have H := H1
      clear H1
      have H' := Aside0.mk H
      clear H
      go_wp2_with (first | ((with_reducible refine Ow.gate_load rfl ?_); (try (refine gate_guard (by rfl) ?_; dsimp only)); (first | refine Ow.l1 Ot.ty HO.out rfl rfl rfl rfl (by first | ((try simp only [hq.1]) <;> rfl) | fail) ?_ | refine Ow.l0 Ot.ty HO.out rfl rfl rfl rfl (by first | ((try simp only [hq.1]) <;> rfl) | fail) ?_ | refine Ow.lp Ot.ty HO.out rfl rfl rfl rfl (by first | ((try simp only [hq.1]) <;> rfl) | fail) ?_)) | ((with_reducible refine gate_store rfl ?_); (try (refine gate_guard (by rfl) ?_; dsimp only)); (first | refine Ow.s0 Ot.ty HO.out rfl rfl rfl rfl rfl (by first | exact Ow.ev_tmp rfl | rfl) (by first | (refine ⟨?_, ?_, ?_⟩ <;> (first | ((try simp only [hq.1]) <;> rfl) | fail)) | fail) ?_ | refine Ow.sp Ot.ty HO.out rfl rfl rfl rfl rfl (by first | exact Ow.ev_tmp rfl | rfl) (by first | (refine ⟨?_, ?_, ?_⟩ <;> (first | ((try simp only [hq.1]) <;> rfl) | fail)) | fail) ?_); clear HO; intro wz_ HO; simp only [List.set_cons_zero, List.set_cons_succ] at HO))
      go_meet
      case rel => exact ⟨_, (true), (by first | rfl | (simp; done) | (simp [*]; done) | (simp [Pu.bne_nil, Pu.beq_nil]; done)), H', ⟨by first | omega | exact Nat.le_refl _⟩, ⟨Ow.Own.cong (by first | exact HO.out | (have h_ := HO.out; simp only [World.drewN_drewN] at h_; exact h_)) (by first | ((try simp only [hq.1]) <;> rfl) | fail)⟩⟩
  case rest =>
    clear HC5
    try clear c1
    try clear p2
    try clear c3
    try clear c9
    try clear c13
    try clear c15
    try clear hcz11_0
    try clear hcz15_0
    try clear hcz17_0
    try clear hcz7_0
    try clear hcz9_0
    try clear hfz11_0
    try clear hfz15_0
    try clear hfz17_0
    try clear hfz7_0
    try clear hfz9_0
    clear HO
    obtain ⟨kq, x26_4, rfl, HA, HJ4, HO⟩ := hcut
    cases kq with
    | zero => exact absurd HA.out (by simp [bursarlaw23_CaptureParts.j0])
    | succ kj4 =>
      have H := HA.out
      clear HA
      simp only [bursarlaw23_CaptureParts.j0] at H
      by_cases c18 : x26_4 = true
      · subst c18
        have H1 : ((bursarlaw23_awake.f kj4).bind fun t397 => (some t397)) = some r := by rw [if_pos rfl] at H; exact H
        clear H
        have H := H1
        clear H1
        replace H := Option.bind_eq_some_iff.mp H
        obtain ⟨t397, A190, H⟩ := H
        replace H : (some t397) = some r := H
        have A19 := Aside0.mk A190
        clear A190
        obtain rfl := Option.some.inj H
        go_wp2_with (first | ((with_reducible refine gate_callee (f := 29) rfl ?_); refine goesL_ (some 27) rfl rfl Try.func29 (by kernel_rfl) rfl #[] rfl (by (try simp only [List.map_toArray, List.map_cons, List.map_nil]); first | done | rfl | (simp only [hq.1]; done) | (simp only [hq.1]; rfl)) ?_; refine Calls.mono (calls_of_args (by first | ((try simp only [hq.1]) <;> rfl) | fail) (bursarlaw23_awake.calls kj4  t397 _ A19.out)) ?_; rintro e w20 ⟨he_, hb⟩; subst he_; refine ⟨_, rfl, ?_⟩; replace HO := Aside0.mk (Ow.Own.call HO.out hb); clear hb) | ((with_reducible refine Ow.gate_load rfl ?_); (try (refine gate_guard (by rfl) ?_; dsimp only)); (first | refine Ow.l1 Ot.ty HO.out rfl rfl rfl rfl (by first | ((try simp only [hq.1]) <;> rfl) | fail) ?_ | refine Ow.l0 Ot.ty HO.out rfl rfl rfl rfl (by first | ((try simp only [hq.1]) <;> rfl) | fail) ?_ | refine Ow.lp Ot.ty HO.out rfl rfl rfl rfl (by first | ((try simp only [hq.1]) <;> rfl) | fail) ?_)) | ((with_reducible refine gate_store rfl ?_); (try (refine gate_guard (by rfl) ?_; dsimp only)); (first | refine Ow.s0 Ot.ty HO.out rfl rfl rfl rfl rfl (by first | exact Ow.ev_tmp rfl | rfl) (by first | (refine ⟨?_, ?_, ?_⟩ <;> (first | ((try simp only [hq.1]) <;> rfl) | fail)) | fail) ?_ | refine Ow.sp Ot.ty HO.out rfl rfl rfl rfl rfl (by first | exact Ow.ev_tmp rfl | rfl) (by first | (refine ⟨?_, ?_, ?_⟩ <;> (first | ((try simp only [hq.1]) <;> rfl) | fail)) | fail) ?_); clear HO; intro wz_ HO; simp only [List.set_cons_zero, List.set_cons_succ] at HO))
        all_goals go_ret
        all_goals exact ⟨by first | rfl | (simp only [hq.1]; done) | (simp only [hq.1]; rfl) | (simp [errW_none, errW_some] <;> rfl) | (simp [*, errW_none, errW_some] <;> rfl), Ow.Own.below HO.out⟩
      · replace c18 := Bool.eq_false_iff.mpr c18
        subst c18
        have H1 : (bursarlaw23_CaptureParts.l0 kj4 l1 t395 0 0 (⟨#[48, 50, 48, 48]⟩ : ByteArray) t371 (⟨#[48, 49, 48, 48, 48, 48]⟩ : ByteArray) t373 t374 t375 t376 t377 t378 t379 t380 t381 t382 t383 t384 t385 t386 t387 t388 t389 t390 t391 t392 t393 t394) = some r := by rw [if_neg (show ¬ (false = true) by decide)] at H; exact H
        clear H
        have H := H1
        clear H1
        have H' := Aside0.mk H
        clear H
        go_wp2_with (first | ((with_reducible refine Ow.gate_load rfl ?_); (try (refine gate_guard (by rfl) ?_; dsimp only)); (first | refine Ow.l1 Ot.ty HO.out rfl rfl rfl rfl (by first | ((try simp only [hq.1]) <;> rfl) | fail) ?_ | refine Ow.l0 Ot.ty HO.out rfl rfl rfl rfl (by first | ((try simp only [hq.1]) <;> rfl) | fail) ?_ | refine Ow.lp Ot.ty HO.out rfl rfl rfl rfl (by first | ((try simp only [hq.1]) <;> rfl) | fail) ?_)) | ((with_reducible refine gate_store rfl ?_); (try (refine gate_guard (by rfl) ?_; dsimp only)); (first | refine Ow.s0 Ot.ty HO.out rfl rfl rfl rfl rfl (by first | exact Ow.ev_tmp rfl | rfl) (by first | (refine ⟨?_, ?_, ?_⟩ <;> (first | ((try simp only [hq.1]) <;> rfl) | fail)) | fail) ?_ | refine Ow.sp Ot.ty HO.out rfl rfl rfl rfl rfl (by first | exact Ow.ev_tmp rfl | rfl) (by first | (refine ⟨?_, ?_, ?_⟩ <;> (first | ((try simp only [hq.1]) <;> rfl) | fail)) | fail) ?_); clear HO; intro wz_ HO; simp only [List.set_cons_zero, List.set_cons_succ] at HO))
        (try simp only [Act.put, List.setIfInBounds_toArray, List.set_cons_zero, List.set_cons_succ])
        go_loopg [6, 7] kj4 (fun kq v6 v7 w' => ∃ (x6_2 : Int) (x7_2 : Int) (x370003_2 : Int) (x370014_2 : ByteArray) (x370015_2 : ByteArray) (x370016_2 : ByteArray) (x370017_2 : Int) (x370018_2 : Int) (x370019_2 : Int) (x370020_2 : Bool), v6 = .int .i64 x6_2 ∧ v7 = .int .i64 x7_2 ∧ Aside0 (bursarlaw23_CaptureParts.l0 kq l1 t395 x6_2 x7_2 (⟨#[48, 50, 48, 48]⟩ : ByteArray) t371 (⟨#[48, 49, 48, 48, 48, 48]⟩ : ByteArray) x370003_2 t374 t375 t376 t377 t378 t379 t380 t381 t382 t383 x370014_2 x370015_2 x370016_2 x370017_2 x370018_2 x370019_2 x370020_2 t391 t392 t393 t394 = some r) ∧ Aside0 (kq ≤ kj4) ∧ Aside0 (Ow.Own w w' [(gb369, #[.string (⟨#[48, 50, 48, 48]⟩ : ByteArray), .string t371, .string (⟨#[48, 49, 48, 48, 48, 48]⟩ : ByteArray), .int .i64 x370003_2, .string t374, .string t375, .string t376, .string t377, .string t378, .int .i64 t379, .int .i64 t380, .string t381, .bool t382, .int .i64 t383, .string x370014_2, .string x370015_2, .string x370016_2, .int .i64 x370017_2, .int .i64 x370018_2, .int .i64 x370019_2, .bool x370020_2, .bool t391, .int .i64 t392, .int .i64 t393, .bool t394], 27)]))
        case atStart => exact ⟨(0), (0), (t373), (t384), (t385), (t386), (t387), (t388), (t389), (t390), (by first | rfl | (simp; done) | (simp [*]; done) | (simp [Pu.bne_nil, Pu.beq_nil]; done)), (by first | rfl | (simp; done) | (simp [*]; done) | (simp [Pu.bne_nil, Pu.beq_nil]; done)), H', ⟨Nat.le_refl _⟩, ⟨Ow.Own.cong (by first | exact HO.out | (have h_ := HO.out; simp only [World.drewN_drewN] at h_; exact h_)) (by first | ((try simp only [hq.1]) <;> rfl) | fail)⟩⟩
        case round =>
          clear H'
          try clear c1
          try clear c2
          try clear p2
          try clear c3
          try clear c9
          try clear c13
          try clear c15
          try clear c18
          try clear hcz11_0
          try clear hcz15_0
          try clear hcz17_0
          try clear hcz7_0
          try clear hcz9_0
          try clear hfz11_0
          try clear hfz15_0
          try clear hfz17_0
          try clear hfz7_0
          try clear hfz9_0
          try clear p2
          clear HO
          obtain ⟨x6_2, x7_2, x370003_2, x370014_2, x370015_2, x370016_2, x370017_2, x370018_2, x370019_2, x370020_2, rfl, rfl, HA, HK2, HO⟩ := hrel
          obtain ⟨Q3, hQ3_⟩ : ∃ q_ : Array Value, q_ = (#[.string (⟨#[48, 50, 48, 48]⟩ : ByteArray), .string t371, .string (⟨#[48, 49, 48, 48, 48, 48]⟩ : ByteArray), .int .i64 x370003_2, .string t374, .string t375, .string t376, .string t377, .string t378, .int .i64 t379, .int .i64 t380, .string t381, .bool t382, .int .i64 t383, .string x370014_2, .string x370015_2, .string x370016_2, .int .i64 x370017_2, .int .i64 x370018_2, .int .i64 x370019_2, .bool x370020_2, .bool t391, .int .i64 t392, .int .i64 t393, .bool t394] : Array Value) := ⟨_, rfl⟩
          try rw [← hQ3_]
          have hQ3 := Aside0.mk hQ3_; replace hq := Aside0.mk (And.intro hQ3_ hq.1); clear hQ3_
          rw [← hQ3.out] at HO
          cases gk with
          | zero => exact absurd HA.out (by simp [bursarlaw23_CaptureParts.l0])
          | succ k2 =>
            have H := HA.out
            clear HA
            simp only [bursarlaw23_CaptureParts.l0] at H
            have HC21 := Aside0.mk H
            clear H
            go_upto_region 8 with (first | ((with_reducible refine Ow.gate_load rfl ?_); (try (refine gate_guard (by rfl) ?_; dsimp only)); (first | refine Ow.l1 Ot.ty HO.out rfl rfl rfl rfl (by first | ((try simp only [hq.1]) <;> rfl) | fail) ?_ | refine Ow.l0 Ot.ty HO.out rfl rfl rfl rfl (by first | ((try simp only [hq.1]) <;> rfl) | fail) ?_ | refine Ow.lp Ot.ty HO.out rfl rfl rfl rfl (by first | ((try simp only [hq.1]) <;> rfl) | fail) ?_)) | ((with_reducible refine gate_store rfl ?_); (try (refine gate_guard (by rfl) ?_; dsimp only)); (first | refine Ow.s0 Ot.ty HO.out rfl rfl rfl rfl rfl (by first | exact Ow.ev_tmp rfl | rfl) (by first | (refine ⟨?_, ?_, ?_⟩ <;> (first | ((try simp only [hq.1]) <;> rfl) | fail)) | fail) ?_ | refine Ow.sp Ot.ty HO.out rfl rfl rfl rfl rfl (by first | exact Ow.ev_tmp rfl | rfl) (by first | (refine ⟨?_, ?_, ?_⟩ <;> (first | ((try simp only [hq.1]) <;> rfl) | fail)) | fail) ?_); clear HO; intro wz_ HO; simp only [List.set_cons_zero, List.set_cons_succ] at HO))
            (try simp only [Act.put, List.setIfInBounds_toArray, List.set_cons_zero, List.set_cons_succ])
            go_cut [35] (fun v35 wc => ∃ (kq : Nat) (x35_20 : Bool), v35 = .bool x35_20 ∧ Aside0 (bursarlaw23_CaptureParts.j2 kq l1 t395 x6_2 x7_2 x35_20 (⟨#[48, 50, 48, 48]⟩ : ByteArray) t371 (⟨#[48, 49, 48, 48, 48, 48]⟩ : ByteArray) x370003_2 t374 t375 t376 t377 t378 t379 t380 t381 t382 t383 x370014_2 x370015_2 x370016_2 x370017_2 x370018_2 x370019_2 x370020_2 t391 t392 t393 t394 = some r) ∧ Aside0 (kq ≤ k2) ∧ Aside0 (Ow.Own w wc [(gb369, Q3, 27)]))
            case first =>
              have H := HC21.out
              clear HC21
              by_cases c22 : x7_2 < (l1.length : Int)
              · rw [if_pos c22] at H
                have c22b0 : decide (x7_2 < (l1.length : Int)) = true := decide_eq_true c22
                clear c22
                (first | rw [c22b0] | (simp only [i64_w, i32_w]; rw [c22b0]) | skip)
                have H' := Aside0.mk H
                clear H
                go_wp2_with (first | ((with_reducible refine Ow.gate_load rfl ?_); (try (refine gate_guard (by rfl) ?_; dsimp only)); (first | refine Ow.l1 Ot.ty HO.out rfl rfl rfl rfl (by first | ((try simp only [hq.1]) <;> rfl) | fail) ?_ | refine Ow.l0 Ot.ty HO.out rfl rfl rfl rfl (by first | ((try simp only [hq.1]) <;> rfl) | fail) ?_ | refine Ow.lp Ot.ty HO.out rfl rfl rfl rfl (by first | ((try simp only [hq.1]) <;> rfl) | fail) ?_)) | ((with_reducible refine gate_store rfl ?_); (try (refine gate_guard (by rfl) ?_; dsimp only)); (first | refine Ow.s0 Ot.ty HO.out rfl rfl rfl rfl rfl (by first | exact Ow.ev_tmp rfl | rfl) (by first | (refine ⟨?_, ?_, ?_⟩ <;> (first | ((try simp only [hq.1]) <;> rfl) | fail)) | fail) ?_ | refine Ow.sp Ot.ty HO.out rfl rfl rfl rfl rfl (by first | exact Ow.ev_tmp rfl | rfl) (by first | (refine ⟨?_, ?_, ?_⟩ <;> (first | ((try simp only [hq.1]) <;> rfl) | fail)) | fail) ?_); clear HO; intro wz_ HO; simp only [List.set_cons_zero, List.set_cons_succ] at HO))
                go_meet
                case rel => exact ⟨_, (decide (x7_2 < 20)), (by first | rfl | (simp; done) | (simp [*]; done) | (simp [Pu.bne_nil, Pu.beq_nil]; done)), H', ⟨by have := HJ4.out; have := HK2.out; first | omega | exact Nat.le_refl _⟩, ⟨Ow.Own.cong (by first | exact HO.out | (have h_ := HO.out; simp only [World.drewN_drewN] at h_; exact h_)) (by first | ((try simp only [hq.1]) <;> rfl) | fail)⟩⟩
              · rw [if_neg c22] at H
                have c22b0 : decide (x7_2 < (l1.length : Int)) = false := decide_eq_false c22
                clear c22
                (first | rw [c22b0] | (simp only [i64_w, i32_w]; rw [c22b0]) | skip)
                have H' := Aside0.mk H
                clear H
                go_wp2_with (first | ((with_reducible refine Ow.gate_load rfl ?_); (try (refine gate_guard (by rfl) ?_; dsimp only)); (first | refine Ow.l1 Ot.ty HO.out rfl rfl rfl rfl (by first | ((try simp only [hq.1]) <;> rfl) | fail) ?_ | refine Ow.l0 Ot.ty HO.out rfl rfl rfl rfl (by first | ((try simp only [hq.1]) <;> rfl) | fail) ?_ | refine Ow.lp Ot.ty HO.out rfl rfl rfl rfl (by first | ((try simp only [hq.1]) <;> rfl) | fail) ?_)) | ((with_reducible refine gate_store rfl ?_); (try (refine gate_guard (by rfl) ?_; dsimp only)); (first | refine Ow.s0 Ot.ty HO.out rfl rfl rfl rfl rfl (by first | exact Ow.ev_tmp rfl | rfl) (by first | (refine ⟨?_, ?_, ?_⟩ <;> (first | ((try simp only [hq.1]) <;> rfl) | fail)) | fail) ?_ | refine Ow.sp Ot.ty HO.out rfl rfl rfl rfl rfl (by first | exact Ow.ev_tmp rfl | rfl) (by first | (refine ⟨?_, ?_, ?_⟩ <;> (first | ((try simp only [hq.1]) <;> rfl) | fail)) | fail) ?_); clear HO; intro wz_ HO; simp only [List.set_cons_zero, List.set_cons_succ] at HO))
                go_meet
                case rel => exact ⟨_, (false), (by first | rfl | (simp; done) | (simp [*]; done) | (simp [Pu.bne_nil, Pu.beq_nil]; done)), H', ⟨by have := HJ4.out; have := HK2.out; first | omega | exact Nat.le_refl _⟩, ⟨Ow.Own.cong (by first | exact HO.out | (have h_ := HO.out; simp only [World.drewN_drewN] at h_; exact h_)) (by first | ((try simp only [hq.1]) <;> rfl) | fail)⟩⟩
            case rest =>
              clear HC21
              try clear c1
              try clear c2
              try clear p2
              try clear c3
              try clear c9
              try clear c13
              try clear c15
              try clear c18
              try clear c22
              try clear c22b0
              try clear hcz11_0
              try clear hcz15_0
              try clear hcz17_0
              try clear hcz7_0
              try clear hcz9_0
              try clear hfz11_0
              try clear hfz15_0
              try clear hfz17_0
              try clear hfz7_0
              try clear hfz9_0
              try clear p2
              clear HO
              obtain ⟨kq, x35_20, rfl, HA, HJ20, HO⟩ := hcut
              cases kq with
              | zero => exact absurd HA.out (by simp [bursarlaw23_CaptureParts.j2])
              | succ kj20 =>
                have H := HA.out
                clear HA
                simp only [bursarlaw23_CaptureParts.j2] at H
                by_cases c23 : x35_20 = true
                · subst c23
                  have H1 : (if 0 ≤ x7_2 then (if x7_2 < (l1.length : Int) then ((capture_Capture.f kj20 (⟨#[48, 50, 48, 48]⟩ : ByteArray) t371 (⟨#[48, 49, 48, 48, 48, 48]⟩ : ByteArray) (wrap64 (rd l1 x7_2)) t374 t375 t376 t377 t378 t379 t380 t381 t382 t383 x370014_2 x370015_2 x370016_2 x370017_2 x370018_2 x370019_2 x370020_2 t391 t392 t393 t394).bind fun bt401 => (if bt401.1.toList = ([48, 48] : List UInt8) then (if bt401.2.2.2.2.2.2.2.2.1 = true then ((bursarref14_Left.f bt401.2.1 bt401.2.2.1 bt401.2.2.2.1 bt401.2.2.2.2.1 bt401.2.2.2.2.2.1 bt401.2.2.2.2.2.2.1 bt401.2.2.2.2.2.2.2.1).bind fun t417 => (if t417 = (wrap64 (t395 - (wrap64 (x6_2 + bt401.2.2.2.2.2.2.2.2.2.2.2.2.2.2)))) then (if bt401.2.2.2.2.2.2.2.1 = true then (if t395 > (wrap64 (x6_2 + bt401.2.2.2.2.2.2.2.2.2.2.2.2.2.2)) then (bursarlaw23_CaptureParts.l0 kj20 l1 t395 (wrap64 (x6_2 + bt401.2.2.2.2.2.2.2.2.2.2.2.2.2.2)) (wrap64 (x7_2 + 1)) (⟨#[48, 50, 48, 48]⟩ : ByteArray) t371 (⟨#[48, 49, 48, 48, 48, 48]⟩ : ByteArray) (wrap64 (rd l1 x7_2)) t374 t375 t376 t377 t378 t379 t380 t381 t382 t383 bt401.2.1 bt401.2.2.1 bt401.2.2.2.1 bt401.2.2.2.2.1 bt401.2.2.2.2.2.1 bt401.2.2.2.2.2.2.1 bt401.2.2.2.2.2.2.2.1 t391 t392 t393 t394) else (none)) else (if t395 > (wrap64 (x6_2 + bt401.2.2.2.2.2.2.2.2.2.2.2.2.2.2)) then (none) else (bursarlaw23_CaptureParts.l0 kj20 l1 t395 (wrap64 (x6_2 + bt401.2.2.2.2.2.2.2.2.2.2.2.2.2.2)) (wrap64 (x7_2 + 1)) (⟨#[48, 50, 48, 48]⟩ : ByteArray) t371 (⟨#[48, 49, 48, 48, 48, 48]⟩ : ByteArray) (wrap64 (rd l1 x7_2)) t374 t375 t376 t377 t378 t379 t380 t381 t382 t383 bt401.2.1 bt401.2.2.1 bt401.2.2.2.1 bt401.2.2.2.2.1 bt401.2.2.2.2.2.1 bt401.2.2.2.2.2.2.1 bt401.2.2.2.2.2.2.2.1 t391 t392 t393 t394))) else (none))) else (none)) else (bursarlaw23_CaptureParts.l0 kj20 l1 t395 x6_2 (wrap64 (x7_2 + 1)) (⟨#[48, 50, 48, 48]⟩ : ByteArray) t371 (⟨#[48, 49, 48, 48, 48, 48]⟩ : ByteArray) (wrap64 (rd l1 x7_2)) t374 t375 t376 t377 t378 t379 t380 t381 t382 t383 x370014_2 x370015_2 x370016_2 x370017_2 x370018_2 x370019_2 x370020_2 t391 t392 t393 t394))) else (none)) else (none)) = some r := by rw [if_pos rfl] at H; exact H
                  clear H
                  have H := H1
                  clear H1
                  by_cases c24 : 0 ≤ x7_2
                  · rw [if_pos c24] at H
                    have c24b0 : decide (0 ≤ x7_2) = true := decide_eq_true c24
                    clear c24
                    by_cases c25 : x7_2 < (l1.length : Int)
                    · rw [if_pos c25] at H
                      have c25b0 : decide (x7_2 < (l1.length : Int)) = true := decide_eq_true c25
                      clear c25
                      replace H := Option.bind_eq_some_iff.mp H
                      obtain ⟨⟨t401, t402, t403, t404, t405, t406, t407, t408, t409, t410, t411, t412, t413, t414, t415⟩, A260, H⟩ := H
                      replace H : (if t401.toList = ([48, 48] : List UInt8) then (if t409 = true then ((bursarref14_Left.f t402 t403 t404 t405 t406 t407 t408).bind fun t417 => (if t417 = (wrap64 (t395 - (wrap64 (x6_2 + t415)))) then (if t408 = true then (if t395 > (wrap64 (x6_2 + t415)) then (bursarlaw23_CaptureParts.l0 kj20 l1 t395 (wrap64 (x6_2 + t415)) (wrap64 (x7_2 + 1)) (⟨#[48, 50, 48, 48]⟩ : ByteArray) t371 (⟨#[48, 49, 48, 48, 48, 48]⟩ : ByteArray) (wrap64 (rd l1 x7_2)) t374 t375 t376 t377 t378 t379 t380 t381 t382 t383 t402 t403 t404 t405 t406 t407 t408 t391 t392 t393 t394) else (none)) else (if t395 > (wrap64 (x6_2 + t415)) then (none) else (bursarlaw23_CaptureParts.l0 kj20 l1 t395 (wrap64 (x6_2 + t415)) (wrap64 (x7_2 + 1)) (⟨#[48, 50, 48, 48]⟩ : ByteArray) t371 (⟨#[48, 49, 48, 48, 48, 48]⟩ : ByteArray) (wrap64 (rd l1 x7_2)) t374 t375 t376 t377 t378 t379 t380 t381 t382 t383 t402 t403 t404 t405 t406 t407 t408 t391 t392 t393 t394))) else (none))) else (none)) else (bursarlaw23_CaptureParts.l0 kj20 l1 t395 x6_2 (wrap64 (x7_2 + 1)) (⟨#[48, 50, 48, 48]⟩ : ByteArray) t371 (⟨#[48, 49, 48, 48, 48, 48]⟩ : ByteArray) (wrap64 (rd l1 x7_2)) t374 t375 t376 t377 t378 t379 t380 t381 t382 t383 x370014_2 x370015_2 x370016_2 x370017_2 x370018_2 x370019_2 x370020_2 t391 t392 t393 t394)) = some r := H
                      have A26 := Aside0.mk A260
                      clear A260
                      by_cases c27 : t401.toList = ([48, 48] : List UInt8)
                      · rw [if_pos c27] at H
                        have c27b0 : (t401.toList == ([48, 48] : List UInt8)) = true := beq_iff_eq.mpr c27
                        have c27b1 : (t401.toList != ([48, 48] : List UInt8)) = false := bne_eq_false_iff_eq.mpr c27
                        clear c27
                        by_cases c28 : t409 = true
                        · subst c28
                          have H1 : ((bursarref14_Left.f t402 t403 t404 t405 t406 t407 t408).bind fun t417 => (if t417 = (wrap64 (t395 - (wrap64 (x6_2 + t415)))) then (if t408 = true then (if t395 > (wrap64 (x6_2 + t415)) then (bursarlaw23_CaptureParts.l0 kj20 l1 t395 (wrap64 (x6_2 + t415)) (wrap64 (x7_2 + 1)) (⟨#[48, 50, 48, 48]⟩ : ByteArray) t371 (⟨#[48, 49, 48, 48, 48, 48]⟩ : ByteArray) (wrap64 (rd l1 x7_2)) t374 t375 t376 t377 t378 t379 t380 t381 t382 t383 t402 t403 t404 t405 t406 t407 t408 t391 t392 t393 t394) else (none)) else (if t395 > (wrap64 (x6_2 + t415)) then (none) else (bursarlaw23_CaptureParts.l0 kj20 l1 t395 (wrap64 (x6_2 + t415)) (wrap64 (x7_2 + 1)) (⟨#[48, 50, 48, 48]⟩ : ByteArray) t371 (⟨#[48, 49, 48, 48, 48, 48]⟩ : ByteArray) (wrap64 (rd l1 x7_2)) t374 t375 t376 t377 t378 t379 t380 t381 t382 t383 t402 t403 t404 t405 t406 t407 t408 t391 t392 t393 t394))) else (none))) = some r := by rw [if_pos rfl] at H; exact H
                          clear H
                          have H := H1
                          clear H1
                          replace H := Option.bind_eq_some_iff.mp H
                          obtain ⟨t417, A290, H⟩ := H
                          replace H : (if t417 = (wrap64 (t395 - (wrap64 (x6_2 + t415)))) then (if t408 = true then (if t395 > (wrap64 (x6_2 + t415)) then (bursarlaw23_CaptureParts.l0 kj20 l1 t395 (wrap64 (x6_2 + t415)) (wrap64 (x7_2 + 1)) (⟨#[48, 50, 48, 48]⟩ : ByteArray) t371 (⟨#[48, 49, 48, 48, 48, 48]⟩ : ByteArray) (wrap64 (rd l1 x7_2)) t374 t375 t376 t377 t378 t379 t380 t381 t382 t383 t402 t403 t404 t405 t406 t407 t408 t391 t392 t393 t394) else (none)) else (if t395 > (wrap64 (x6_2 + t415)) then (none) else (bursarlaw23_CaptureParts.l0 kj20 l1 t395 (wrap64 (x6_2 + t415)) (wrap64 (x7_2 + 1)) (⟨#[48, 50, 48, 48]⟩ : ByteArray) t371 (⟨#[48, 49, 48, 48, 48, 48]⟩ : ByteArray) (wrap64 (rd l1 x7_2)) t374 t375 t376 t377 t378 t379 t380 t381 t382 t383 t402 t403 t404 t405 t406 t407 t408 t391 t392 t393 t394))) else (none)) = some r := H
                          have A29 := Aside0.mk A290
                          clear A290
                          by_cases c30 : t417 = (wrap64 (t395 - (wrap64 (x6_2 + t415))))
                          · rw [if_pos c30] at H
                            have c30b0 : (t417 == (wrap64 (t395 - (wrap64 (x6_2 + t415))))) = true := beq_iff_eq.mpr c30
                            have c30b1 : (t417 != (wrap64 (t395 - (wrap64 (x6_2 + t415))))) = false := bne_eq_false_iff_eq.mpr c30
                            clear c30
                            by_cases c31 : t408 = true
                            · subst c31
                              have H1 : (if t395 > (wrap64 (x6_2 + t415)) then (bursarlaw23_CaptureParts.l0 kj20 l1 t395 (wrap64 (x6_2 + t415)) (wrap64 (x7_2 + 1)) (⟨#[48, 50, 48, 48]⟩ : ByteArray) t371 (⟨#[48, 49, 48, 48, 48, 48]⟩ : ByteArray) (wrap64 (rd l1 x7_2)) t374 t375 t376 t377 t378 t379 t380 t381 t382 t383 t402 t403 t404 t405 t406 t407 true t391 t392 t393 t394) else (none)) = some r := by rw [if_pos rfl] at H; exact H
                              clear H
                              have H := H1
                              clear H1
                              by_cases c32 : t395 > (wrap64 (x6_2 + t415))
                              · rw [if_pos c32] at H
                                have c32b0 : decide ((wrap64 (x6_2 + t415)) < t395) = true := decide_eq_true c32
                                clear c32
                                have H' := Aside0.mk H
                                clear H
                                have p400 : 0 ≤ (x7_2 : Int) := of_decide_eq_true (by first | (with_reducible assumption) | assumption)
                                have q400 : x7_2 < (l1.length : Int) := of_decide_eq_true (by first | (with_reducible assumption) | assumption)
                                obtain ⟨ad400, e400, hx400_0⟩ := Kd.at_int HR1.out x7_2 p400 q400
                                cases e400
                                replace hx400_0 := ((Ow.Own.below HO.out).cell (World.block_lt_of_cell? w _ hx400_0)).trans hx400_0
                                replace p400 := eq_true p400
                                replace q400 := eq_true q400
                                obtain ⟨Q4, hQ4_⟩ : ∃ q_ : Array Value, q_ = (#[.string t401, .string t402, .string t403, .string t404, .int .i64 t405, .int .i64 t406, .int .i64 t407, .bool true, .bool true, .int .i64 t410, .int .i64 t411, .string t412, .string t413, .string t414, .int .i64 t415] : Array Value) := ⟨_, rfl⟩
                                try rw [← hQ4_]
                                have hQ4 := Aside0.mk hQ4_; replace hq := Aside0.mk (And.intro hQ4_ hq.1); clear hQ4_
                                obtain ⟨Q5, hQ5_⟩ : ∃ q_ : Array Value, q_ = (#[.string (⟨#[48, 50, 48, 48]⟩ : ByteArray), .string t371, .string (⟨#[48, 49, 48, 48, 48, 48]⟩ : ByteArray), .int .i64 (wrap64 (rd l1 x7_2)), .string t374, .string t375, .string t376, .string t377, .string t378, .int .i64 t379, .int .i64 t380, .string t381, .bool t382, .int .i64 t383, .string x370014_2, .string x370015_2, .string x370016_2, .int .i64 x370017_2, .int .i64 x370018_2, .int .i64 x370019_2, .bool x370020_2, .bool t391, .int .i64 t392, .int .i64 t393, .bool t394] : Array Value) := ⟨_, rfl⟩
                                try rw [← hQ5_]
                                have hQ5 := Aside0.mk hQ5_; replace hq := Aside0.mk (And.intro hQ5_ hq.1); clear hQ5_
                                go_wp2_with (first | ((with_reducible refine gate_callee (f := 27) rfl ?_); refine goesL_ (some 46) rfl rfl Try.func27 (by kernel_rfl) rfl #[.agg Q5] rfl (by (try simp only [List.map_toArray, List.map_cons, List.map_nil]); first | done | rfl | (simp only [hq.1]; done) | (simp only [hq.1]; rfl)) ?_; refine Calls.mono (calls_of_args (by first | ((try simp only [hq.1]) <;> rfl) | fail) (capture_Capture.calls kj20 (⟨#[48, 50, 48, 48]⟩ : ByteArray) t371 (⟨#[48, 49, 48, 48, 48, 48]⟩ : ByteArray) (wrap64 (rd l1 x7_2)) t374 t375 t376 t377 t378 t379 t380 t381 t382 t383 x370014_2 x370015_2 x370016_2 x370017_2 x370018_2 x370019_2 x370020_2 t391 t392 t393 t394 t401 t402 t403 t404 t405 t406 t407 true true t410 t411 t412 t413 t414 t415 _ A26.out)) ?_; rintro e w34 ⟨he_, hb⟩; (try rw [← hQ4.out] at he_); subst he_; refine ⟨_, rfl, ?_⟩; replace HO := Aside0.mk (Ow.Own.call HO.out hb); clear hb) | ((with_reducible refine gate_dst (N := 8) rfl ?_); refine Ow.box rfl (N := 8) rfl (cs := bursarlaw23_CaptureParts.Z15) (t := 53) HO.out (by first | (go_simp; done) | (go_simp; rfl)) ?_; clear HO; intro gb416 w35 HO; simp only [List.cons_append, List.nil_append] at HO) | (go_at_call 30; refine Calls.mono (calls_of_args (by first | ((try simp only [hq.1]) <;> rfl) | fail) (bursarref14_Left.calls t402 t403 t404 t405 t406 t407 true t417 _ A29.out)) ?_; rintro e w40 ⟨he_, hb⟩; subst he_; replace HO := Aside0.mk (Ow.Own.call HO.out hb); clear hb) | ((with_reducible refine Ow.gate_load rfl ?_); (try (refine gate_guard (by rfl) ?_; dsimp only)); (first | refine Ow.l1 Ot.ty HO.out rfl rfl rfl rfl (by first | ((try simp only [hq.1]) <;> rfl) | fail) ?_ | refine Ow.l0 Ot.ty HO.out rfl rfl rfl rfl (by first | ((try simp only [hq.1]) <;> rfl) | fail) ?_ | refine Ow.lp Ot.ty HO.out rfl rfl rfl rfl (by first | ((try simp only [hq.1]) <;> rfl) | fail) ?_)) | ((with_reducible refine gate_store rfl ?_); (try (refine gate_guard (by rfl) ?_; dsimp only)); (first | refine Ow.s0 Ot.ty HO.out rfl rfl rfl rfl rfl (by first | exact Ow.ev_tmp rfl | rfl) (by first | (refine ⟨?_, ?_, ?_⟩ <;> (first | ((try simp only [hq.1]) <;> rfl) | fail)) | fail) ?_ | refine Ow.sp Ot.ty HO.out rfl rfl rfl rfl rfl (by first | exact Ow.ev_tmp rfl | rfl) (by first | (refine ⟨?_, ?_, ?_⟩ <;> (first | ((try simp only [hq.1]) <;> rfl) | fail)) | fail) ?_); clear HO; intro wz_ HO; simp only [List.set_cons_zero, List.set_cons_succ] at HO))
                                go_roundg kj20
                                case measure => have := HJ4.out; have := HK2.out; have := HJ20.out; omega
                                case rel => exact ⟨(wrap64 (x6_2 + t415)), (wrap64 (x7_2 + 1)), (wrap64 (rd l1 x7_2)), (t402), (t403), (t404), (t405), (t406), (t407), (true), (by first | rfl | (simp; done) | (simp [*]; done) | (simp [Pu.bne_nil, Pu.beq_nil]; done)), (by first | rfl | (simp; done) | (simp [*]; done) | (simp [Pu.bne_nil, Pu.beq_nil]; done)), H', ⟨by have := HJ4.out; have := HK2.out; have := HJ20.out; omega⟩, ⟨Ow.Own.cong (by first | exact (Ow.Own.pick [0] HO.out (by decide)) | (have h_ := (Ow.Own.pick [0] HO.out (by decide)); simp only [World.drewN_drewN] at h_; exact h_)) (by first | ((try simp only [hq.1]) <;> rfl) | fail)⟩⟩
                              · rw [if_neg c32] at H
                                exact absurd H (by simp)
                            · replace c31 := Bool.eq_false_iff.mpr c31
                              subst c31
                              have H1 : (if t395 > (wrap64 (x6_2 + t415)) then (none) else (bursarlaw23_CaptureParts.l0 kj20 l1 t395 (wrap64 (x6_2 + t415)) (wrap64 (x7_2 + 1)) (⟨#[48, 50, 48, 48]⟩ : ByteArray) t371 (⟨#[48, 49, 48, 48, 48, 48]⟩ : ByteArray) (wrap64 (rd l1 x7_2)) t374 t375 t376 t377 t378 t379 t380 t381 t382 t383 t402 t403 t404 t405 t406 t407 false t391 t392 t393 t394)) = some r := by rw [if_neg (show ¬ (false = true) by decide)] at H; exact H
                              clear H
                              have H := H1
                              clear H1
                              by_cases c43 : t395 > (wrap64 (x6_2 + t415))
                              · rw [if_pos c43] at H
                                exact absurd H (by simp)
                              · rw [if_neg c43] at H
                                have c43b0 : decide ((wrap64 (x6_2 + t415)) < t395) = false := decide_eq_false c43
                                clear c43
                                have H' := Aside0.mk H
                                clear H
                                have p400 : 0 ≤ (x7_2 : Int) := of_decide_eq_true (by first | (with_reducible assumption) | assumption)
                                have q400 : x7_2 < (l1.length : Int) := of_decide_eq_true (by first | (with_reducible assumption) | assumption)
                                obtain ⟨ad400, e400, hx400_0⟩ := Kd.at_int HR1.out x7_2 p400 q400
                                cases e400
                                replace hx400_0 := ((Ow.Own.below HO.out).cell (World.block_lt_of_cell? w _ hx400_0)).trans hx400_0
                                replace p400 := eq_true p400
                                replace q400 := eq_true q400
                                obtain ⟨Q6, hQ6_⟩ : ∃ q_ : Array Value, q_ = (#[.string t401, .string t402, .string t403, .string t404, .int .i64 t405, .int .i64 t406, .int .i64 t407, .bool false, .bool true, .int .i64 t410, .int .i64 t411, .string t412, .string t413, .string t414, .int .i64 t415] : Array Value) := ⟨_, rfl⟩
                                try rw [← hQ6_]
                                have hQ6 := Aside0.mk hQ6_; replace hq := Aside0.mk (And.intro hQ6_ hq.1); clear hQ6_
                                obtain ⟨Q7, hQ7_⟩ : ∃ q_ : Array Value, q_ = (#[.string (⟨#[48, 50, 48, 48]⟩ : ByteArray), .string t371, .string (⟨#[48, 49, 48, 48, 48, 48]⟩ : ByteArray), .int .i64 (wrap64 (rd l1 x7_2)), .string t374, .string t375, .string t376, .string t377, .string t378, .int .i64 t379, .int .i64 t380, .string t381, .bool t382, .int .i64 t383, .string x370014_2, .string x370015_2, .string x370016_2, .int .i64 x370017_2, .int .i64 x370018_2, .int .i64 x370019_2, .bool x370020_2, .bool t391, .int .i64 t392, .int .i64 t393, .bool t394] : Array Value) := ⟨_, rfl⟩
                                try rw [← hQ7_]
                                have hQ7 := Aside0.mk hQ7_; replace hq := Aside0.mk (And.intro hQ7_ hq.1); clear hQ7_
                                go_wp2_with (first | ((with_reducible refine gate_callee (f := 27) rfl ?_); refine goesL_ (some 46) rfl rfl Try.func27 (by kernel_rfl) rfl #[.agg Q7] rfl (by (try simp only [List.map_toArray, List.map_cons, List.map_nil]); first | done | rfl | (simp only [hq.1]; done) | (simp only [hq.1]; rfl)) ?_; refine Calls.mono (calls_of_args (by first | ((try simp only [hq.1]) <;> rfl) | fail) (capture_Capture.calls kj20 (⟨#[48, 50, 48, 48]⟩ : ByteArray) t371 (⟨#[48, 49, 48, 48, 48, 48]⟩ : ByteArray) (wrap64 (rd l1 x7_2)) t374 t375 t376 t377 t378 t379 t380 t381 t382 t383 x370014_2 x370015_2 x370016_2 x370017_2 x370018_2 x370019_2 x370020_2 t391 t392 t393 t394 t401 t402 t403 t404 t405 t406 t407 false true t410 t411 t412 t413 t414 t415 _ A26.out)) ?_; rintro e w45 ⟨he_, hb⟩; (try rw [← hQ6.out] at he_); subst he_; refine ⟨_, rfl, ?_⟩; replace HO := Aside0.mk (Ow.Own.call HO.out hb); clear hb) | ((with_reducible refine gate_dst (N := 8) rfl ?_); refine Ow.box rfl (N := 8) rfl (cs := bursarlaw23_CaptureParts.Z15) (t := 53) HO.out (by first | (go_simp; done) | (go_simp; rfl)) ?_; clear HO; intro gb416 w46 HO; simp only [List.cons_append, List.nil_append] at HO) | (go_at_call 30; refine Calls.mono (calls_of_args (by first | ((try simp only [hq.1]) <;> rfl) | fail) (bursarref14_Left.calls t402 t403 t404 t405 t406 t407 false t417 _ A29.out)) ?_; rintro e w51 ⟨he_, hb⟩; subst he_; replace HO := Aside0.mk (Ow.Own.call HO.out hb); clear hb) | ((with_reducible refine Ow.gate_load rfl ?_); (try (refine gate_guard (by rfl) ?_; dsimp only)); (first | refine Ow.l1 Ot.ty HO.out rfl rfl rfl rfl (by first | ((try simp only [hq.1]) <;> rfl) | fail) ?_ | refine Ow.l0 Ot.ty HO.out rfl rfl rfl rfl (by first | ((try simp only [hq.1]) <;> rfl) | fail) ?_ | refine Ow.lp Ot.ty HO.out rfl rfl rfl rfl (by first | ((try simp only [hq.1]) <;> rfl) | fail) ?_)) | ((with_reducible refine gate_store rfl ?_); (try (refine gate_guard (by rfl) ?_; dsimp only)); (first | refine Ow.s0 Ot.ty HO.out rfl rfl rfl rfl rfl (by first | exact Ow.ev_tmp rfl | rfl) (by first | (refine ⟨?_, ?_, ?_⟩ <;> (first | ((try simp only [hq.1]) <;> rfl) | fail)) | fail) ?_ | refine Ow.sp Ot.ty HO.out rfl rfl rfl rfl rfl (by first | exact Ow.ev_tmp rfl | rfl) (by first | (refine ⟨?_, ?_, ?_⟩ <;> (first | ((try simp only [hq.1]) <;> rfl) | fail)) | fail) ?_); clear HO; intro wz_ HO; simp only [List.set_cons_zero, List.set_cons_succ] at HO))
                                go_roundg kj20
                                case measure => have := HJ4.out; have := HK2.out; have := HJ20.out; omega
                                case rel => exact ⟨(wrap64 (x6_2 + t415)), (wrap64 (x7_2 + 1)), (wrap64 (rd l1 x7_2)), (t402), (t403), (t404), (t405), (t406), (t407), (false), (by first | rfl | (simp; done) | (simp [*]; done) | (simp [Pu.bne_nil, Pu.beq_nil]; done)), (by first | rfl | (simp; done) | (simp [*]; done) | (simp [Pu.bne_nil, Pu.beq_nil]; done)), H', ⟨by have := HJ4.out; have := HK2.out; have := HJ20.out; omega⟩, ⟨Ow.Own.cong (by first | exact (Ow.Own.pick [0] HO.out (by decide)) | (have h_ := (Ow.Own.pick [0] HO.out (by decide)); simp only [World.drewN_drewN] at h_; exact h_)) (by first | ((try simp only [hq.1]) <;> rfl) | fail)⟩⟩
                          · rw [if_neg c30] at H
                            exact absurd H (by simp)
                        · replace c28 := Bool.eq_false_iff.mpr c28
                          subst c28
                          have H1 : (none) = some r := by rw [if_neg (show ¬ (false = true) by decide)] at H; exact H
                          clear H
                          have H := H1
                          clear H1
                          exact absurd H (by simp)
                      · rw [if_neg c27] at H
                        have c27b0 : (t401.toList == ([48, 48] : List UInt8)) = false := beq_eq_false_iff_ne.mpr c27
                        have c27b1 : (t401.toList != ([48, 48] : List UInt8)) = true := bne_iff_ne.mpr c27
                        have H' := Aside0.mk H
                        clear H
                        have p400 : 0 ≤ (x7_2 : Int) := of_decide_eq_true (by first | (with_reducible assumption) | assumption)
                        have q400 : x7_2 < (l1.length : Int) := of_decide_eq_true (by first | (with_reducible assumption) | assumption)
                        obtain ⟨ad400, e400, hx400_0⟩ := Kd.at_int HR1.out x7_2 p400 q400
                        cases e400
                        replace hx400_0 := ((Ow.Own.below HO.out).cell (World.block_lt_of_cell? w _ hx400_0)).trans hx400_0
                        replace p400 := eq_true p400
                        replace q400 := eq_true q400
                        obtain ⟨Q8, hQ8_⟩ : ∃ q_ : Array Value, q_ = (#[.string t401, .string t402, .string t403, .string t404, .int .i64 t405, .int .i64 t406, .int .i64 t407, .bool t408, .bool t409, .int .i64 t410, .int .i64 t411, .string t412, .string t413, .string t414, .int .i64 t415] : Array Value) := ⟨_, rfl⟩
                        try rw [← hQ8_]
                        have hQ8 := Aside0.mk hQ8_; replace hq := Aside0.mk (And.intro hQ8_ hq.1); clear hQ8_
                        obtain ⟨Q9, hQ9_⟩ : ∃ q_ : Array Value, q_ = (#[.string (⟨#[48, 50, 48, 48]⟩ : ByteArray), .string t371, .string (⟨#[48, 49, 48, 48, 48, 48]⟩ : ByteArray), .int .i64 (wrap64 (rd l1 x7_2)), .string t374, .string t375, .string t376, .string t377, .string t378, .int .i64 t379, .int .i64 t380, .string t381, .bool t382, .int .i64 t383, .string x370014_2, .string x370015_2, .string x370016_2, .int .i64 x370017_2, .int .i64 x370018_2, .int .i64 x370019_2, .bool x370020_2, .bool t391, .int .i64 t392, .int .i64 t393, .bool t394] : Array Value) := ⟨_, rfl⟩
                        try rw [← hQ9_]
                        have hQ9 := Aside0.mk hQ9_; replace hq := Aside0.mk (And.intro hQ9_ hq.1); clear hQ9_
                        go_wp2_with (first | ((with_reducible refine gate_callee (f := 27) rfl ?_); refine goesL_ (some 46) rfl rfl Try.func27 (by kernel_rfl) rfl #[.agg Q9] rfl (by (try simp only [List.map_toArray, List.map_cons, List.map_nil]); first | done | rfl | (simp only [hq.1]; done) | (simp only [hq.1]; rfl)) ?_; refine Calls.mono (calls_of_args (by first | ((try simp only [hq.1]) <;> rfl) | fail) (capture_Capture.calls kj20 (⟨#[48, 50, 48, 48]⟩ : ByteArray) t371 (⟨#[48, 49, 48, 48, 48, 48]⟩ : ByteArray) (wrap64 (rd l1 x7_2)) t374 t375 t376 t377 t378 t379 t380 t381 t382 t383 x370014_2 x370015_2 x370016_2 x370017_2 x370018_2 x370019_2 x370020_2 t391 t392 t393 t394 t401 t402 t403 t404 t405 t406 t407 t408 t409 t410 t411 t412 t413 t414 t415 _ A26.out)) ?_; rintro e w55 ⟨he_, hb⟩; (try rw [← hQ8.out] at he_); subst he_; refine ⟨_, rfl, ?_⟩; replace HO := Aside0.mk (Ow.Own.call HO.out hb); clear hb) | ((with_reducible refine gate_dst (N := 8) rfl ?_); refine Ow.box rfl (N := 8) rfl (cs := bursarlaw23_CaptureParts.Z15) (t := 53) HO.out (by first | (go_simp; done) | (go_simp; rfl)) ?_; clear HO; intro gb416 w56 HO; simp only [List.cons_append, List.nil_append] at HO) | ((with_reducible refine Ow.gate_load rfl ?_); (try (refine gate_guard (by rfl) ?_; dsimp only)); (first | refine Ow.l1 Ot.ty HO.out rfl rfl rfl rfl (by first | ((try simp only [hq.1]) <;> rfl) | fail) ?_ | refine Ow.l0 Ot.ty HO.out rfl rfl rfl rfl (by first | ((try simp only [hq.1]) <;> rfl) | fail) ?_ | refine Ow.lp Ot.ty HO.out rfl rfl rfl rfl (by first | ((try simp only [hq.1]) <;> rfl) | fail) ?_)) | ((with_reducible refine gate_store rfl ?_); (try (refine gate_guard (by rfl) ?_; dsimp only)); (first | refine Ow.s0 Ot.ty HO.out rfl rfl rfl rfl rfl (by first | exact Ow.ev_tmp rfl | rfl) (by first | (refine ⟨?_, ?_, ?_⟩ <;> (first | ((try simp only [hq.1]) <;> rfl) | fail)) | fail) ?_ | refine Ow.sp Ot.ty HO.out rfl rfl rfl rfl rfl (by first | exact Ow.ev_tmp rfl | rfl) (by first | (refine ⟨?_, ?_, ?_⟩ <;> (first | ((try simp only [hq.1]) <;> rfl) | fail)) | fail) ?_); clear HO; intro wz_ HO; simp only [List.set_cons_zero, List.set_cons_succ] at HO))
                        go_roundg kj20
                        case measure => have := HJ4.out; have := HK2.out; have := HJ20.out; omega
                        case rel => exact ⟨(x6_2), (wrap64 (x7_2 + 1)), (wrap64 (rd l1 x7_2)), (x370014_2), (x370015_2), (x370016_2), (x370017_2), (x370018_2), (x370019_2), (x370020_2), (by first | rfl | (simp; done) | (simp [*]; done) | (simp [Pu.bne_nil, Pu.beq_nil]; done)), (by first | rfl | (simp; done) | (simp [*]; done) | (simp [Pu.bne_nil, Pu.beq_nil]; done)), H', ⟨by have := HJ4.out; have := HK2.out; have := HJ20.out; omega⟩, ⟨Ow.Own.cong (by first | exact (Ow.Own.pick [0] HO.out (by decide)) | (have h_ := (Ow.Own.pick [0] HO.out (by decide)); simp only [World.drewN_drewN] at h_; exact h_)) (by first | ((try simp only [hq.1]) <;> rfl) | fail)⟩⟩
                    · rw [if_neg c25] at H
                      exact absurd H (by simp)
                  · rw [if_neg c24] at H
                    exact absurd H (by simp)
                · replace c23 := Bool.eq_false_iff.mpr c23
                  subst c23
                  have H1 : (if x6_2 ≤ t395 then (if x6_2 = 0 then ((bursarlaw23_awake.f kj20).bind fun t398 => (some t398)) else (if x370018_2 ≤ x370017_2 then ((bursarlaw23_awake.f kj20).bind fun t399 => (some t399)) else (none))) else (none)) = some r := by rw [if_neg (show ¬ (false = true) by decide)] at H; exact H
                  clear H
                  have H := H1
                  clear H1
                  by_cases c61 : x6_2 ≤ t395
                  · rw [if_pos c61] at H
                    have c61b0 : decide (x6_2 ≤ t395) = true := decide_eq_true c61
                    clear c61
                    by_cases c62 : x6_2 = 0
                    · rw [if_pos c62] at H
                      have c62b0 : (x6_2 == 0) = true := beq_iff_eq.mpr c62
                      have c62b1 : (x6_2 != 0) = false := bne_eq_false_iff_eq.mpr c62
                      clear c62
                      replace H := Option.bind_eq_some_iff.mp H
                      obtain ⟨t398, A630, H⟩ := H
                      replace H : (some t398) = some r := H
                      have A63 := Aside0.mk A630
                      clear A630
                      obtain rfl := Option.some.inj H
                      go_wp2_with (first | (go_at_call 29; refine Calls.mono (calls_of_args (by first | ((try simp only [hq.1]) <;> rfl) | fail) (bursarlaw23_awake.calls kj20  t398 _ A63.out)) ?_; rintro e w64 ⟨he_, hb⟩; subst he_; replace HO := Aside0.mk (Ow.Own.call HO.out hb); clear hb) | ((with_reducible refine Ow.gate_load rfl ?_); (try (refine gate_guard (by rfl) ?_; dsimp only)); (first | refine Ow.l1 Ot.ty HO.out rfl rfl rfl rfl (by first | ((try simp only [hq.1]) <;> rfl) | fail) ?_ | refine Ow.l0 Ot.ty HO.out rfl rfl rfl rfl (by first | ((try simp only [hq.1]) <;> rfl) | fail) ?_ | refine Ow.lp Ot.ty HO.out rfl rfl rfl rfl (by first | ((try simp only [hq.1]) <;> rfl) | fail) ?_)) | ((with_reducible refine gate_store rfl ?_); (try (refine gate_guard (by rfl) ?_; dsimp only)); (first | refine Ow.s0 Ot.ty HO.out rfl rfl rfl rfl rfl (by first | exact Ow.ev_tmp rfl | rfl) (by first | (refine ⟨?_, ?_, ?_⟩ <;> (first | ((try simp only [hq.1]) <;> rfl) | fail)) | fail) ?_ | refine Ow.sp Ot.ty HO.out rfl rfl rfl rfl rfl (by first | exact Ow.ev_tmp rfl | rfl) (by first | (refine ⟨?_, ?_, ?_⟩ <;> (first | ((try simp only [hq.1]) <;> rfl) | fail)) | fail) ?_); clear HO; intro wz_ HO; simp only [List.set_cons_zero, List.set_cons_succ] at HO))
                      all_goals go_ret
                      all_goals exact ⟨by first | rfl | (simp only [hq.1]; done) | (simp only [hq.1]; rfl) | (simp [errW_none, errW_some] <;> rfl) | (simp [*, errW_none, errW_some] <;> rfl), Ow.Own.below HO.out⟩
                    · rw [if_neg c62] at H
                      have c62b0 : (x6_2 == 0) = false := beq_eq_false_iff_ne.mpr c62
                      have c62b1 : (x6_2 != 0) = true := bne_iff_ne.mpr c62
                      by_cases c65 : x370018_2 ≤ x370017_2
                      · rw [if_pos c65] at H
                        have c65b0 : decide (x370018_2 ≤ x370017_2) = true := decide_eq_true c65
                        clear c65
                        replace H := Option.bind_eq_some_iff.mp H
                        obtain ⟨t399, A660, H⟩ := H
                        replace H : (some t399) = some r := H
                        have A66 := Aside0.mk A660
                        clear A660
                        obtain rfl := Option.some.inj H
                        go_wp2_with (first | (go_at_call 29; refine Calls.mono (calls_of_args (by first | ((try simp only [hq.1]) <;> rfl) | fail) (bursarlaw23_awake.calls kj20  t399 _ A66.out)) ?_; rintro e w68 ⟨he_, hb⟩; subst he_; replace HO := Aside0.mk (Ow.Own.call HO.out hb); clear hb) | ((with_reducible refine Ow.gate_load rfl ?_); (try (refine gate_guard (by rfl) ?_; dsimp only)); (first | refine Ow.l1 Ot.ty HO.out rfl rfl rfl rfl (by first | ((try simp only [hq.1]) <;> rfl) | fail) ?_ | refine Ow.l0 Ot.ty HO.out rfl rfl rfl rfl (by first | ((try simp only [hq.1]) <;> rfl) | fail) ?_ | refine Ow.lp Ot.ty HO.out rfl rfl rfl rfl (by first | ((try simp only [hq.1]) <;> rfl) | fail) ?_)) | ((with_reducible refine gate_store rfl ?_); (try (refine gate_guard (by rfl) ?_; dsimp only)); (first | refine Ow.s0 Ot.ty HO.out rfl rfl rfl rfl rfl (by first | exact Ow.ev_tmp rfl | rfl) (by first | (refine ⟨?_, ?_, ?_⟩ <;> (first | ((try simp only [hq.1]) <;> rfl) | fail)) | fail) ?_ | refine Ow.sp Ot.ty HO.out rfl rfl rfl rfl rfl (by first | exact Ow.ev_tmp rfl | rfl) (by first | (refine ⟨?_, ?_, ?_⟩ <;> (first | ((try simp only [hq.1]) <;> rfl) | fail)) | fail) ?_); clear HO; intro wz_ HO; simp only [List.set_cons_zero, List.set_cons_succ] at HO))
                        all_goals go_ret
                        all_goals exact ⟨by first | rfl | (simp only [hq.1]; done) | (simp only [hq.1]; rfl) | (simp [errW_none, errW_some] <;> rfl) | (simp [*, errW_none, errW_some] <;> rfl), Ow.Own.below HO.out⟩
                      · rw [if_neg c65] at H
                        exact absurd H (by simp)
                  · rw [if_neg c61] at H
                    exact absurd H (by simp)

end Go.Proofs.Ytddlmcaclbkopaa.XCP
