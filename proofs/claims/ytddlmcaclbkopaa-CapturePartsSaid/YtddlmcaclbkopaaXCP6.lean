-- Written by wip/xprint.py, a session's program: printed out of the translation, with hand-written functions. Lean checks it.
import Derived.Test.YtddlmcaclbkopaaXCP0
import Derived.Test.YtddlmcaclbkopaaXCP4
import Derived.Test.YtddlmcaclbkopaaXCP5
namespace Go.Proofs.Ytddlmcaclbkopaa.XCP
open Go.RowKit Go.Proofs.YtddlmcaclbkopaaW.PrintWords Go.Proofs.YtddlmcaclbkopaaW.PrintLast Go.Proofs.YtddlmcaclbkopaaW.PrintMore
attribute [local go_sem] max2_int min2_int max_two min_two max_three min_three max_four min_four   -- for this text's walks alone
set_option linter.unusedVariables false
set_option linter.unusedSimpArgs false

/-! ### capture_asked_held: function 55 -/
def capture_asked_held.f (k : Nat) (a0_0 : ByteArray) (a0_1 : ByteArray) (a0_2 : ByteArray) (a0_3 : Int) (a0_4 : ByteArray) (a0_5 : ByteArray) (a0_6 : ByteArray) (a0_7 : ByteArray) (a0_8 : ByteArray) (a0_9 : Int) (a0_10 : Int) (a0_11 : ByteArray) (a0_12 : Bool) (a0_13 : Int) (a0_14 : ByteArray) (a0_15 : ByteArray) (a0_16 : ByteArray) (a0_17 : Int) (a0_18 : Int) (a0_19 : Int) (a0_20 : Bool) (a0_21 : Bool) (a0_22 : Int) (a0_23 : Int) (a0_24 : Bool) : Option (ByteArray × ByteArray × ByteArray × ByteArray × Int × Int × Int × Bool × Bool × Int × Int × ByteArray × ByteArray × ByteArray × Int) := if a0_16.toList = a0_1.toList then ((strings_HasPrefix.f a0_2 (⟨#[48, 48]⟩ : ByteArray)).bind fun t171 => ((hold_Take.f a0_14 a0_15 a0_16 a0_17 a0_18 a0_19 a0_20 a0_3 t171).bind fun bt172 => (if bt172.2.2.2.2.2.2.2 = 0 then ((capture_asked_taken.f k a0_0 a0_1 a0_2 a0_3 a0_4 a0_5 a0_6 a0_7 a0_8 a0_9 a0_10 a0_11 a0_12 a0_13 a0_14 a0_15 a0_16 a0_17 a0_18 a0_19 a0_20 a0_21 a0_22 a0_23 a0_24 bt172.1 bt172.2.1 bt172.2.2.1 bt172.2.2.2.1 bt172.2.2.2.2.1 bt172.2.2.2.2.2.1 bt172.2.2.2.2.2.2.1 true).bind fun bt181 => (some (bt181.1, bt181.2.1, bt181.2.2.1, bt181.2.2.2.1, bt181.2.2.2.2.1, bt181.2.2.2.2.2.1, bt181.2.2.2.2.2.2.1, bt181.2.2.2.2.2.2.2.1, bt181.2.2.2.2.2.2.2.2.1, bt181.2.2.2.2.2.2.2.2.2.1, bt181.2.2.2.2.2.2.2.2.2.2.1, bt181.2.2.2.2.2.2.2.2.2.2.2.1, bt181.2.2.2.2.2.2.2.2.2.2.2.2.1, bt181.2.2.2.2.2.2.2.2.2.2.2.2.2.1, bt181.2.2.2.2.2.2.2.2.2.2.2.2.2.2))) else (if bt172.2.2.2.2.2.2.2 = 14 then (some ((⟨#[53, 52]⟩ : ByteArray), (⟨#[]⟩ : ByteArray), (⟨#[]⟩ : ByteArray), (⟨#[]⟩ : ByteArray), 0, 0, 0, false, false, 0, 0, (⟨#[]⟩ : ByteArray), (⟨#[]⟩ : ByteArray), (⟨#[]⟩ : ByteArray), 0)) else (some ((⟨#[54, 49]⟩ : ByteArray), (⟨#[]⟩ : ByteArray), (⟨#[]⟩ : ByteArray), (⟨#[]⟩ : ByteArray), 0, 0, 0, false, false, 0, 0, (⟨#[]⟩ : ByteArray), (⟨#[]⟩ : ByteArray), (⟨#[]⟩ : ByteArray), 0)))))) else (some ((⟨#[49, 52]⟩ : ByteArray), (⟨#[]⟩ : ByteArray), (⟨#[]⟩ : ByteArray), (⟨#[]⟩ : ByteArray), 0, 0, 0, false, false, 0, 0, (⟨#[]⟩ : ByteArray), (⟨#[]⟩ : ByteArray), (⟨#[]⟩ : ByteArray), 0))
theorem capture_asked_held.mono : ∀ a0 a1 a2 a3 a4 a5 a6 a7 a8 a9 a10 a11 a12 a13 a14 a15 a16 a17 a18 a19 a20 a21 a22 a23 a24 k, LeO (capture_asked_held.f k a0 a1 a2 a3 a4 a5 a6 a7 a8 a9 a10 a11 a12 a13 a14 a15 a16 a17 a18 a19 a20 a21 a22 a23 a24) (capture_asked_held.f (k + 1) a0 a1 a2 a3 a4 a5 a6 a7 a8 a9 a10 a11 a12 a13 a14 a15 a16 a17 a18 a19 a20 a21 a22 a23 a24) := by
  intro a0 a1 a2 a3 a4 a5 a6 a7 a8 a9 a10 a11 a12 a13 a14 a15 a16 a17 a18 a19 a20 a21 a22 a23 a24 k
  unfold capture_asked_held.f
  repeat' first
      | (with_reducible exact capture_asked_taken.mono _ _ _ _ _ _ _ _ _ _ _ _ _ _ _ _ _ _ _ _ _ _ _ _ _ _ _ _ _ _ _ _ _ _)
      | (with_reducible exact LeO.refl _)
      | (with_reducible exact LeO.none _)
      | (with_reducible refine LeO.ite ?_ ?_)
      | (with_reducible refine LeO.bind ?_ (fun _ => ?_))
      | exact capture_asked_taken.mono _ _ _ _ _ _ _ _ _ _ _ _ _ _ _ _ _ _ _ _ _ _ _ _ _ _ _ _ _ _ _ _ _ _
      | exact LeO.none _
      | refine LeO.ite ?_ ?_
      | refine LeO.bind ?_ (fun _ => ?_)
def capture_asked_held.T3 : Bool × List (List Nat × List Nat) := (true, [([], []), ([0], [0]), ([1], [1]), ([], []), ([3], [3]), ([4], [4]), ([5], [5]), ([], []), ([7], [7]), ([8], [8]), ([9], [9]), ([10], [10]), ([2, 6, 11, 11], [2, 6, 11]), ([12], [12]), ([13], [13]), ([13], [13]), ([], []), ([16, 14, 12, 0, 1, 2, 3, 4, 5, 6, 7, 8, 9, 10, 11, 12, 13, 14, 16], [14, 16]), ([15, 17, 0, 1, 2, 3, 4, 5, 6, 7, 8, 9, 10, 11, 12, 13, 14, 15, 16, 17], [15])])
def capture_asked_held.B3 : List Nat := [0, 1, 3, 0, 8, 24, 56, 0, 128, 384, 896, 1920, 4095, 8191, 16383, 16383, 0, 98303, 262143]
theorem capture_asked_held.tab3 : rtab .any (opsOf Try.f55 3) = capture_asked_held.T3 := by kernel_rfl
theorem capture_asked_held.bits3 : waitsOk capture_asked_held.T3.2 capture_asked_held.B3 = true := by kernel_rfl
def capture_asked_held.Z15 : Array Value := #[.string (⟨#[]⟩ : ByteArray), .string (⟨#[]⟩ : ByteArray), .string (⟨#[]⟩ : ByteArray), .string (⟨#[]⟩ : ByteArray), .int .i64 0, .int .i64 0, .int .i64 0, .bool false, .bool false, .int .i64 0, .int .i64 0, .string (⟨#[]⟩ : ByteArray), .string (⟨#[]⟩ : ByteArray), .string (⟨#[]⟩ : ByteArray), .int .i64 0]
def capture_asked_held.Z7 : Array Value := #[.string (⟨#[]⟩ : ByteArray), .string (⟨#[]⟩ : ByteArray), .string (⟨#[]⟩ : ByteArray), .int .i64 0, .int .i64 0, .int .i64 0, .bool false]
set_option maxHeartbeats 8000000 in
set_option maxRecDepth 100000 in
theorem capture_asked_held.calls (k : Nat) (a0_0 : ByteArray) (a0_1 : ByteArray) (a0_2 : ByteArray) (a0_3 : Int) (a0_4 : ByteArray) (a0_5 : ByteArray) (a0_6 : ByteArray) (a0_7 : ByteArray) (a0_8 : ByteArray) (a0_9 : Int) (a0_10 : Int) (a0_11 : ByteArray) (a0_12 : Bool) (a0_13 : Int) (a0_14 : ByteArray) (a0_15 : ByteArray) (a0_16 : ByteArray) (a0_17 : Int) (a0_18 : Int) (a0_19 : Int) (a0_20 : Bool) (a0_21 : Bool) (a0_22 : Int) (a0_23 : Int) (a0_24 : Bool) (r1 : ByteArray) (r2 : ByteArray) (r3 : ByteArray) (r4 : ByteArray) (r5 : Int) (r6 : Int) (r7 : Int) (r8 : Bool) (r9 : Bool) (r10 : Int) (r11 : Int) (r12 : ByteArray) (r13 : ByteArray) (r14 : ByteArray) (r15 : Int) (w : World) (h : capture_asked_held.f k a0_0 a0_1 a0_2 a0_3 a0_4 a0_5 a0_6 a0_7 a0_8 a0_9 a0_10 a0_11 a0_12 a0_13 a0_14 a0_15 a0_16 a0_17 a0_18 a0_19 a0_20 a0_21 a0_22 a0_23 a0_24 = some (r1, r2, r3, r4, r5, r6, r7, r8, r9, r10, r11, r12, r13, r14, r15)) :
    Calls Try.prog 55 #[.agg #[.string a0_0, .string a0_1, .string a0_2, .int .i64 a0_3, .string a0_4, .string a0_5, .string a0_6, .string a0_7, .string a0_8, .int .i64 a0_9, .int .i64 a0_10, .string a0_11, .bool a0_12, .int .i64 a0_13, .string a0_14, .string a0_15, .string a0_16, .int .i64 a0_17, .int .i64 a0_18, .int .i64 a0_19, .bool a0_20, .bool a0_21, .int .i64 a0_22, .int .i64 a0_23, .bool a0_24]] w fun e w' => e = .returned (.agg #[.string r1, .string r2, .string r3, .string r4, .int .i64 r5, .int .i64 r6, .int .i64 r7, .bool r8, .bool r9, .int .i64 r10, .int .i64 r11, .string r12, .string r13, .string r14, .int .i64 r15]) ∧ Below w.heap.size w w' := by
  have hu79 := Try.underlying79
  have hu53 := Try.underlying53
  have hu25 := Try.underlying25
  have HO := Aside0.mk (Ow.Own.nil w)
  have hmf : ∀ (fn : Fn) (first cap : Array Value) (w : World), (Instr.makeFunc fn first cap).run Try.prog w = .ok (.func fn first cap) w := fun _ _ _ _ => rfl
  have H : (if a0_16.toList = a0_1.toList then ((strings_HasPrefix.f a0_2 (⟨#[48, 48]⟩ : ByteArray)).bind fun t171 => ((hold_Take.f a0_14 a0_15 a0_16 a0_17 a0_18 a0_19 a0_20 a0_3 t171).bind fun bt172 => (if bt172.2.2.2.2.2.2.2 = 0 then ((capture_asked_taken.f k a0_0 a0_1 a0_2 a0_3 a0_4 a0_5 a0_6 a0_7 a0_8 a0_9 a0_10 a0_11 a0_12 a0_13 a0_14 a0_15 a0_16 a0_17 a0_18 a0_19 a0_20 a0_21 a0_22 a0_23 a0_24 bt172.1 bt172.2.1 bt172.2.2.1 bt172.2.2.2.1 bt172.2.2.2.2.1 bt172.2.2.2.2.2.1 bt172.2.2.2.2.2.2.1 true).bind fun bt181 => (some (bt181.1, bt181.2.1, bt181.2.2.1, bt181.2.2.2.1, bt181.2.2.2.2.1, bt181.2.2.2.2.2.1, bt181.2.2.2.2.2.2.1, bt181.2.2.2.2.2.2.2.1, bt181.2.2.2.2.2.2.2.2.1, bt181.2.2.2.2.2.2.2.2.2.1, bt181.2.2.2.2.2.2.2.2.2.2.1, bt181.2.2.2.2.2.2.2.2.2.2.2.1, bt181.2.2.2.2.2.2.2.2.2.2.2.2.1, bt181.2.2.2.2.2.2.2.2.2.2.2.2.2.1, bt181.2.2.2.2.2.2.2.2.2.2.2.2.2.2))) else (if bt172.2.2.2.2.2.2.2 = 14 then (some ((⟨#[53, 52]⟩ : ByteArray), (⟨#[]⟩ : ByteArray), (⟨#[]⟩ : ByteArray), (⟨#[]⟩ : ByteArray), 0, 0, 0, false, false, 0, 0, (⟨#[]⟩ : ByteArray), (⟨#[]⟩ : ByteArray), (⟨#[]⟩ : ByteArray), 0)) else (some ((⟨#[54, 49]⟩ : ByteArray), (⟨#[]⟩ : ByteArray), (⟨#[]⟩ : ByteArray), (⟨#[]⟩ : ByteArray), 0, 0, 0, false, false, 0, 0, (⟨#[]⟩ : ByteArray), (⟨#[]⟩ : ByteArray), (⟨#[]⟩ : ByteArray), 0)))))) else (some ((⟨#[49, 52]⟩ : ByteArray), (⟨#[]⟩ : ByteArray), (⟨#[]⟩ : ByteArray), (⟨#[]⟩ : ByteArray), 0, 0, 0, false, false, 0, 0, (⟨#[]⟩ : ByteArray), (⟨#[]⟩ : ByteArray), (⟨#[]⟩ : ByteArray), 0))) = some (r1, r2, r3, r4, r5, r6, r7, r8, r9, r10, r11, r12, r13, r14, r15) := h
  clear h
  by_cases c2 : a0_16.toList = a0_1.toList
  · rw [if_pos c2] at H
    have c2b0 : (a0_16.toList == a0_1.toList) = true := beq_iff_eq.mpr c2
    have c2b1 : (a0_16.toList != a0_1.toList) = false := bne_eq_false_iff_eq.mpr c2
    clear c2
    replace H := Option.bind_eq_some_iff.mp H
    obtain ⟨t171, A30, H⟩ := H
    replace H : ((hold_Take.f a0_14 a0_15 a0_16 a0_17 a0_18 a0_19 a0_20 a0_3 t171).bind fun bt172 => (if bt172.2.2.2.2.2.2.2 = 0 then ((capture_asked_taken.f k a0_0 a0_1 a0_2 a0_3 a0_4 a0_5 a0_6 a0_7 a0_8 a0_9 a0_10 a0_11 a0_12 a0_13 a0_14 a0_15 a0_16 a0_17 a0_18 a0_19 a0_20 a0_21 a0_22 a0_23 a0_24 bt172.1 bt172.2.1 bt172.2.2.1 bt172.2.2.2.1 bt172.2.2.2.2.1 bt172.2.2.2.2.2.1 bt172.2.2.2.2.2.2.1 true).bind fun bt181 => (some (bt181.1, bt181.2.1, bt181.2.2.1, bt181.2.2.2.1, bt181.2.2.2.2.1, bt181.2.2.2.2.2.1, bt181.2.2.2.2.2.2.1, bt181.2.2.2.2.2.2.2.1, bt181.2.2.2.2.2.2.2.2.1, bt181.2.2.2.2.2.2.2.2.2.1, bt181.2.2.2.2.2.2.2.2.2.2.1, bt181.2.2.2.2.2.2.2.2.2.2.2.1, bt181.2.2.2.2.2.2.2.2.2.2.2.2.1, bt181.2.2.2.2.2.2.2.2.2.2.2.2.2.1, bt181.2.2.2.2.2.2.2.2.2.2.2.2.2.2))) else (if bt172.2.2.2.2.2.2.2 = 14 then (some ((⟨#[53, 52]⟩ : ByteArray), (⟨#[]⟩ : ByteArray), (⟨#[]⟩ : ByteArray), (⟨#[]⟩ : ByteArray), 0, 0, 0, false, false, 0, 0, (⟨#[]⟩ : ByteArray), (⟨#[]⟩ : ByteArray), (⟨#[]⟩ : ByteArray), 0)) else (some ((⟨#[54, 49]⟩ : ByteArray), (⟨#[]⟩ : ByteArray), (⟨#[]⟩ : ByteArray), (⟨#[]⟩ : ByteArray), 0, 0, 0, false, false, 0, 0, (⟨#[]⟩ : ByteArray), (⟨#[]⟩ : ByteArray), (⟨#[]⟩ : ByteArray), 0))))) = some (r1, r2, r3, r4, r5, r6, r7, r8, r9, r10, r11, r12, r13, r14, r15) := H
    have A3 := Aside0.mk A30
    clear A30
    replace H := Option.bind_eq_some_iff.mp H
    obtain ⟨⟨t172, t173, t174, t175, t176, t177, t178, t179⟩, A40, H⟩ := H
    replace H : (if t179 = 0 then ((capture_asked_taken.f k a0_0 a0_1 a0_2 a0_3 a0_4 a0_5 a0_6 a0_7 a0_8 a0_9 a0_10 a0_11 a0_12 a0_13 a0_14 a0_15 a0_16 a0_17 a0_18 a0_19 a0_20 a0_21 a0_22 a0_23 a0_24 t172 t173 t174 t175 t176 t177 t178 true).bind fun bt181 => (some (bt181.1, bt181.2.1, bt181.2.2.1, bt181.2.2.2.1, bt181.2.2.2.2.1, bt181.2.2.2.2.2.1, bt181.2.2.2.2.2.2.1, bt181.2.2.2.2.2.2.2.1, bt181.2.2.2.2.2.2.2.2.1, bt181.2.2.2.2.2.2.2.2.2.1, bt181.2.2.2.2.2.2.2.2.2.2.1, bt181.2.2.2.2.2.2.2.2.2.2.2.1, bt181.2.2.2.2.2.2.2.2.2.2.2.2.1, bt181.2.2.2.2.2.2.2.2.2.2.2.2.2.1, bt181.2.2.2.2.2.2.2.2.2.2.2.2.2.2))) else (if t179 = 14 then (some ((⟨#[53, 52]⟩ : ByteArray), (⟨#[]⟩ : ByteArray), (⟨#[]⟩ : ByteArray), (⟨#[]⟩ : ByteArray), 0, 0, 0, false, false, 0, 0, (⟨#[]⟩ : ByteArray), (⟨#[]⟩ : ByteArray), (⟨#[]⟩ : ByteArray), 0)) else (some ((⟨#[54, 49]⟩ : ByteArray), (⟨#[]⟩ : ByteArray), (⟨#[]⟩ : ByteArray), (⟨#[]⟩ : ByteArray), 0, 0, 0, false, false, 0, 0, (⟨#[]⟩ : ByteArray), (⟨#[]⟩ : ByteArray), (⟨#[]⟩ : ByteArray), 0)))) = some (r1, r2, r3, r4, r5, r6, r7, r8, r9, r10, r11, r12, r13, r14, r15) := H
    have A4 := Aside0.mk A40
    clear A40
    by_cases c5 : t179 = 0
    · rw [if_pos c5] at H
      have c5b0 : (t179 == 0) = true := beq_iff_eq.mpr c5
      have c5b1 : (t179 != 0) = false := bne_eq_false_iff_eq.mpr c5
      clear c5
      replace H := Option.bind_eq_some_iff.mp H
      obtain ⟨⟨t181, t182, t183, t184, t185, t186, t187, t188, t189, t190, t191, t192, t193, t194, t195⟩, A60, H⟩ := H
      replace H : (some (t181, t182, t183, t184, t185, t186, t187, t188, t189, t190, t191, t192, t193, t194, t195)) = some (r1, r2, r3, r4, r5, r6, r7, r8, r9, r10, r11, r12, r13, r14, r15) := H
      have A6 := Aside0.mk A60
      clear A60
      simp only [Option.some.injEq, Prod.mk.injEq] at H
      obtain ⟨rfl, rfl, rfl, rfl, rfl, rfl, rfl, rfl, rfl, rfl, rfl, rfl, rfl, rfl, rfl⟩ := H
      obtain ⟨Q0, hQ0_⟩ : ∃ q_ : Array Value, q_ = (#[.string a0_0, .string a0_1, .string a0_2, .int .i64 a0_3, .string a0_4, .string a0_5, .string a0_6, .string a0_7, .string a0_8, .int .i64 a0_9, .int .i64 a0_10, .string a0_11, .bool a0_12, .int .i64 a0_13, .string a0_14, .string a0_15, .string a0_16, .int .i64 a0_17, .int .i64 a0_18, .int .i64 a0_19, .bool a0_20, .bool a0_21, .int .i64 a0_22, .int .i64 a0_23, .bool a0_24] : Array Value) := ⟨_, rfl⟩
      try rw [← hQ0_]
      have hQ0 := Aside0.mk hQ0_; have hq := Aside0.mk hQ0_; clear hQ0_
      go_enter Try.func55, Try.ntmps55
      try go_wp2_with (first | ((with_reducible refine gate_dst (N := 1) rfl ?_); refine Ow.box rfl (N := 1) rfl (cs := Q0) (t := 79) HO.out (by first | (go_simp; done) | (go_simp; rfl)) ?_; clear HO; intro gb169 w7 HO; simp only [List.cons_append, List.nil_append] at HO) | ((with_reducible refine gate_dst (N := 2) rfl ?_); refine Ow.box rfl (N := 2) rfl (cs := capture_asked_held.Z15) (t := 53) HO.out (by first | (go_simp; done) | (go_simp; rfl)) ?_; clear HO; intro gb170 w8 HO; simp only [List.cons_append, List.nil_append] at HO) | ((with_reducible refine Ow.gate_build rfl ?_); (try (refine gate_guard (by rfl) ?_; dsimp only)); refine' Ow.tbuild Ot.bd rfl rfl rfl ?hf_ ?_; (case hf_ => repeat (any_goals (first | exact Ow.Fills.nil | (refine' Ow.Fills.c ?hv_ rfl ?hz_ ?_; (case hv_ => first | exact Ow.ev_tmp rfl | rfl); (case hz_ => first | (refine ⟨?_, ?_⟩ <;> (first | ((try simp only [hq.1]) <;> rfl) | fail)) | fail)))))) | ((with_reducible refine Ow.gate_load rfl ?_); (try (refine gate_guard (by rfl) ?_; dsimp only)); (first | refine Ow.l1 Ot.ty HO.out rfl rfl rfl rfl (by first | ((try simp only [hq.1]) <;> rfl) | fail) ?_ | refine Ow.l0 Ot.ty HO.out rfl rfl rfl rfl (by first | ((try simp only [hq.1]) <;> rfl) | fail) ?_ | refine Ow.lp Ot.ty HO.out rfl rfl rfl rfl (by first | ((try simp only [hq.1]) <;> rfl) | fail) ?_)) | ((with_reducible refine gate_store rfl ?_); (try (refine gate_guard (by rfl) ?_; dsimp only)); (first | refine Ow.s0 Ot.ty HO.out rfl rfl rfl rfl rfl (by first | exact Ow.ev_tmp rfl | rfl) (by first | (refine ⟨?_, ?_, ?_⟩ <;> (first | ((try simp only [hq.1]) <;> rfl) | fail)) | fail) ?_ | refine Ow.sp Ot.ty HO.out rfl rfl rfl rfl rfl (by first | exact Ow.ev_tmp rfl | rfl) (by first | (refine ⟨?_, ?_, ?_⟩ <;> (first | ((try simp only [hq.1]) <;> rfl) | fail)) | fail) ?_); clear HO; intro wz_ HO; simp only [List.set_cons_zero, List.set_cons_succ] at HO))
      refine Ow.ostart (n := 19) (ds := []) (Ow.B 19 0) HO.out (by kernel_rfl) rfl (by kernel_rfl) ?_
      intro hHeld; replace HO := Aside0.mk hHeld; refine with_tabW capture_asked_held.tab3 capture_asked_held.bits3 (fun HT_ HW_ => ?_)
      refine pure_ (i := 0) (N := some 16) (v := ?_) (a' := ?_) (Ow.B 19 1) rfl rfl (any_of HT_.out (by kernel_rfl)) (fun _ _ _ h => h) (Or.inl ⟨by rfl, ?_⟩) ?_ ?_
      rotate_left
      · intro w'
        (try (with_reducible refine Ow.gate_eql (by first | exact Or.inl rfl | exact Or.inr rfl) rfl ?_; simp only [hq.1, Ow.part, Ot.sz, Ot.zero, Ow.over, Ow.overL, List.drop_succ_cons, List.drop_zero, List.take_succ_cons, List.take_zero]))
        go_simp
        with_reducible rfl
      rotate_left
      · simp only [Act.put, List.setIfInBounds_toArray, List.set_cons_zero, List.set_cons_succ, i64_w, i32_w]
        rfl
      refine pure_ (i := 1) (N := some 17) (v := ?_) (a' := ?_) (Ow.B 19 3) rfl rfl (any_of HT_.out (by kernel_rfl)) (fun _ _ _ h => h) (Or.inl ⟨by rfl, ?_⟩) ?_ ?_
      rotate_left
      · intro w'
        (try (with_reducible refine Ow.gate_eql (by first | exact Or.inl rfl | exact Or.inr rfl) rfl ?_; simp only [hq.1, Ow.part, Ot.sz, Ot.zero, Ow.over, Ow.overL, List.drop_succ_cons, List.drop_zero, List.take_succ_cons, List.take_zero]))
        go_simp
        with_reducible rfl
      rotate_left
      · simp only [Act.put, List.setIfInBounds_toArray, List.set_cons_zero, List.set_cons_succ, i64_w, i32_w]
        rfl
      refine pure_ (i := 3) (N := some 19) (v := ?_) (a' := ?_) (Ow.B 19 11) rfl rfl (any_of HT_.out (by kernel_rfl)) (fun _ _ _ h => h) (Or.inl ⟨by rfl, ?_⟩) ?_ ?_
      rotate_left
      · intro w'
        (try (with_reducible refine Ow.gate_eql (by first | exact Or.inl rfl | exact Or.inr rfl) rfl ?_; simp only [hq.1, Ow.part, Ot.sz, Ot.zero, Ow.over, Ow.overL, List.drop_succ_cons, List.drop_zero, List.take_succ_cons, List.take_zero]))
        go_simp
        with_reducible rfl
      rotate_left
      · simp only [Act.put, List.setIfInBounds_toArray, List.set_cons_zero, List.set_cons_succ, i64_w, i32_w]
        rfl
      refine pure_ (i := 4) (N := some 20) (v := ?_) (a' := ?_) (Ow.B 19 27) rfl rfl (any_of HT_.out (by kernel_rfl)) (fun _ _ _ h => h) (Or.inl ⟨by rfl, ?_⟩) ?_ ?_
      rotate_left
      · intro w'
        (try (with_reducible refine Ow.gate_eql (by first | exact Or.inl rfl | exact Or.inr rfl) rfl ?_; simp only [hq.1, Ow.part, Ot.sz, Ot.zero, Ow.over, Ow.overL, List.drop_succ_cons, List.drop_zero, List.take_succ_cons, List.take_zero]))
        go_simp
        with_reducible rfl
      rotate_left
      · simp only [Act.put, List.setIfInBounds_toArray, List.set_cons_zero, List.set_cons_succ, i64_w, i32_w]
        rfl
      refine pure_ (i := 5) (N := some 21) (v := ?_) (a' := ?_) (Ow.B 19 59) rfl rfl (any_of HT_.out (by kernel_rfl)) (fun _ _ _ h => h) (Or.inl ⟨by rfl, ?_⟩) ?_ ?_
      rotate_left
      · intro w'
        (try (with_reducible refine Ow.gate_eql (by first | exact Or.inl rfl | exact Or.inr rfl) rfl ?_; simp only [hq.1, Ow.part, Ot.sz, Ot.zero, Ow.over, Ow.overL, List.drop_succ_cons, List.drop_zero, List.take_succ_cons, List.take_zero]))
        go_simp
        with_reducible rfl
      rotate_left
      · simp only [Act.put, List.setIfInBounds_toArray, List.set_cons_zero, List.set_cons_succ, i64_w, i32_w]
        rfl
      refine pure_ (i := 7) (N := some 23) (v := ?_) (a' := ?_) (Ow.B 19 187) rfl rfl (any_of HT_.out (by kernel_rfl)) (fun _ _ _ h => h) (Or.inl ⟨by rfl, ?_⟩) ?_ ?_
      rotate_left
      · intro w'
        (try (with_reducible refine Ow.gate_eql (by first | exact Or.inl rfl | exact Or.inr rfl) rfl ?_; simp only [hq.1, Ow.part, Ot.sz, Ot.zero, Ow.over, Ow.overL, List.drop_succ_cons, List.drop_zero, List.take_succ_cons, List.take_zero]))
        go_simp
        with_reducible rfl
      rotate_left
      · simp only [Act.put, List.setIfInBounds_toArray, List.set_cons_zero, List.set_cons_succ, i64_w, i32_w]
        rfl
      refine pure_ (i := 8) (N := some 24) (v := ?_) (a' := ?_) (Ow.B 19 443) rfl rfl (any_of HT_.out (by kernel_rfl)) (fun _ _ _ h => h) (Or.inl ⟨by rfl, ?_⟩) ?_ ?_
      rotate_left
      · intro w'
        (try (with_reducible refine Ow.gate_eql (by first | exact Or.inl rfl | exact Or.inr rfl) rfl ?_; simp only [hq.1, Ow.part, Ot.sz, Ot.zero, Ow.over, Ow.overL, List.drop_succ_cons, List.drop_zero, List.take_succ_cons, List.take_zero]))
        go_simp
        with_reducible rfl
      rotate_left
      · simp only [Act.put, List.setIfInBounds_toArray, List.set_cons_zero, List.set_cons_succ, i64_w, i32_w]
        rfl
      refine pure_ (i := 9) (N := some 25) (v := ?_) (a' := ?_) (Ow.B 19 955) rfl rfl (any_of HT_.out (by kernel_rfl)) (fun _ _ _ h => h) (Or.inl ⟨by rfl, ?_⟩) ?_ ?_
      rotate_left
      · intro w'
        (try (with_reducible refine Ow.gate_eql (by first | exact Or.inl rfl | exact Or.inr rfl) rfl ?_; simp only [hq.1, Ow.part, Ot.sz, Ot.zero, Ow.over, Ow.overL, List.drop_succ_cons, List.drop_zero, List.take_succ_cons, List.take_zero]))
        go_simp
        with_reducible rfl
      rotate_left
      · simp only [Act.put, List.setIfInBounds_toArray, List.set_cons_zero, List.set_cons_succ, i64_w, i32_w]
        rfl
      refine take_ (i := 2) (N := some 18) (v := ?_) (a' := ?_) (Ow.B 19 959) rfl rfl (take_ofW HT_.out HW_.out (by kernel_rfl)) (fun _ _ _ h => h) (Or.inl ⟨by rfl, ?_⟩) hHeld ?_ ?_
      rotate_left
      · intro w' s_
        first | (refine' Ow.rload1 Ot.ty s_ rfl rfl rfl ?hk_ ?hs_; (case hk_ => exact (by with_reducible first | exact Ow.at0 | exact Ow.at1)); (case hs_ => first | ((try simp only [hq.1]) <;> rfl) | fail)) | (refine' Ow.rload0 Ot.ty s_ rfl rfl rfl ?hk_ ?hs_; (case hk_ => exact (by with_reducible first | exact Ow.at0 | exact Ow.at1)); (case hs_ => first | ((try simp only [hq.1]) <;> rfl) | fail)) | (refine' Ow.rloadp Ot.ty s_ rfl rfl rfl ?hk_ ?hs_; (case hk_ => exact (by with_reducible first | exact Ow.at0 | exact Ow.at1)); (case hs_ => first | ((try simp only [hq.1]) <;> rfl) | fail)) | (go_simp; with_reducible rfl)
      rotate_left
      · simp only [Act.put, List.setIfInBounds_toArray, List.set_cons_zero, List.set_cons_succ, i64_w, i32_w]
        rfl
      refine take_ (i := 6) (N := some 22) (v := ?_) (a' := ?_) (Ow.B 19 1023) rfl rfl (take_ofW HT_.out HW_.out (by kernel_rfl)) (fun _ _ _ h => h) (Or.inl ⟨by rfl, ?_⟩) hHeld ?_ ?_
      rotate_left
      · intro w' s_
        first | (refine' Ow.rload1 Ot.ty s_ rfl rfl rfl ?hk_ ?hs_; (case hk_ => exact (by with_reducible first | exact Ow.at0 | exact Ow.at1)); (case hs_ => first | ((try simp only [hq.1]) <;> rfl) | fail)) | (refine' Ow.rload0 Ot.ty s_ rfl rfl rfl ?hk_ ?hs_; (case hk_ => exact (by with_reducible first | exact Ow.at0 | exact Ow.at1)); (case hs_ => first | ((try simp only [hq.1]) <;> rfl) | fail)) | (refine' Ow.rloadp Ot.ty s_ rfl rfl rfl ?hk_ ?hs_; (case hk_ => exact (by with_reducible first | exact Ow.at0 | exact Ow.at1)); (case hs_ => first | ((try simp only [hq.1]) <;> rfl) | fail)) | (go_simp; with_reducible rfl)
      rotate_left
      · simp only [Act.put, List.setIfInBounds_toArray, List.set_cons_zero, List.set_cons_succ, i64_w, i32_w]
        rfl
      refine take_ (i := 10) (N := some 26) (v := ?_) (a' := ?_) (Ow.B 19 2047) rfl rfl (take_ofW HT_.out HW_.out (by kernel_rfl)) (fun _ _ _ h => h) (Or.inl ⟨by rfl, ?_⟩) hHeld ?_ ?_
      rotate_left
      · intro w' s_
        first | (refine' Ow.rload1 Ot.ty s_ rfl rfl rfl ?hk_ ?hs_; (case hk_ => exact (by with_reducible first | exact Ow.at0 | exact Ow.at1)); (case hs_ => first | ((try simp only [hq.1]) <;> rfl) | fail)) | (refine' Ow.rload0 Ot.ty s_ rfl rfl rfl ?hk_ ?hs_; (case hk_ => exact (by with_reducible first | exact Ow.at0 | exact Ow.at1)); (case hs_ => first | ((try simp only [hq.1]) <;> rfl) | fail)) | (refine' Ow.rloadp Ot.ty s_ rfl rfl rfl ?hk_ ?hs_; (case hk_ => exact (by with_reducible first | exact Ow.at0 | exact Ow.at1)); (case hs_ => first | ((try simp only [hq.1]) <;> rfl) | fail)) | (go_simp; with_reducible rfl)
      rotate_left
      · simp only [Act.put, List.setIfInBounds_toArray, List.set_cons_zero, List.set_cons_succ, i64_w, i32_w]
        rfl
      refine join_ (σ := Nat) 2 (Ow.B 19 131071) (fun s_ => [(27, .bool t171), (28, .tuple #[.agg #[.string t172, .string t173, .string t174, .int .i64 t175, .int .i64 t176, .int .i64 t177, .bool t178], .int .i64 t179]), (3, .pointer (some ⟨s_, 0, none⟩)), (15, .tuple #[.agg #[.string t172, .string t173, .string t174, .int .i64 t175, .int .i64 t176, .int .i64 t177, .bool t178], .int .i64 t179]), (29, .agg #[.string t172, .string t173, .string t174, .int .i64 t175, .int .i64 t176, .int .i64 t177, .bool t178]), (30, .int .i64 t179)]) (fun s_ w' => Ow.Own w w' [(gb169, Q0, 79), (gb170, capture_asked_held.Z15, 53), (s_, capture_asked_held.Z7, 25)]) ?_ ?_
      rotate_left
      · intro hCont
        refine two_ (i := 11) (j := 16) (Ni := some 27) (Nj := some 3) (Ow.B 19 4095) (Ow.B 19 67583) rfl rfl rfl rfl (two_of HT_.out (by kernel_rfl)) (by decide) (by decide) (fun K hK => ?_) (fun K hK => ?_)
        · skip
          refine goes_ Try.func42 (by kernel_rfl) rfl #[.string a0_2, .string (⟨#[48, 48]⟩ : ByteArray)] (by rfl) rfl rfl (by (try simp only [List.map_toArray, List.map_cons, List.map_nil]); first | done | rfl | (simp only [hq.1]; done) | (simp only [hq.1]; rfl) | (simp only [List.length_drop, List.length_take]; rfl)) ?_
          refine Calls.mono (calls_of_args (by first | ((try simp only [hq.1]) <;> rfl) | fail) (strings_HasPrefix.calls a0_2 (⟨#[48, 48]⟩ : ByteArray) t171 _ A3.out)) ?_
          rintro e w' ⟨he_, ⟨nd, rfl⟩⟩
          subst he_
          replace HO := Aside0.mk (Ow.Own.drewN HO.out nd); (try simp only [World.drewN_drewN] at HO)
          refine ⟨_, rfl, ?_⟩
          refine hK.out _ _ HO.out (fun hHeld => ?_)
          clear hK K
          refine norm_ (a' := ?_) ?_ ?_
          rotate_left
          · show Act.put _ (some 27) _ = _
            simp only [Act.put, List.setIfInBounds_toArray, List.set_cons_zero, List.set_cons_succ, i64_w, i32_w]
            rfl
          refine two_ (i := 12) (j := 16) (Ni := some 28) (Nj := some 3) (Ow.B 19 8191) (Ow.B 19 69631) rfl rfl rfl rfl (two_of HT_.out (by kernel_rfl)) (by decide) (by decide) (fun K hK => ?_) (fun K hK => ?_)
          · skip
            refine goes_ Try.func73 (by kernel_rfl) rfl #[.agg #[.string a0_14, .string a0_15, .string a0_16, .int .i64 a0_17, .int .i64 a0_18, .int .i64 a0_19, .bool a0_20], .int .i64 a0_3, .bool t171] (by rfl) rfl rfl (by (try simp only [List.map_toArray, List.map_cons, List.map_nil]); first | done | rfl | (simp only [hq.1]; done) | (simp only [hq.1]; rfl) | (simp only [List.length_drop, List.length_take]; rfl)) ?_
            refine Calls.mono (calls_of_args (by first | ((try simp only [hq.1]) <;> rfl) | fail) (hold_Take.calls a0_14 a0_15 a0_16 a0_17 a0_18 a0_19 a0_20 a0_3 t171 t172 t173 t174 t175 t176 t177 t178 t179 _ A4.out)) ?_
            rintro e w12 ⟨he_, hb⟩
            subst he_
            replace HO := Aside0.mk (Ow.Own.call HO.out hb)
            clear hb
            refine ⟨_, rfl, ?_⟩
            refine hK.out _ _ HO.out (fun hHeld => ?_)
            clear hK K
            refine norm_ (a' := ?_) ?_ ?_
            rotate_left
            · show Act.put _ (some 28) _ = _
              simp only [Act.put, List.setIfInBounds_toArray, List.set_cons_zero, List.set_cons_succ, i64_w, i32_w]
              rfl
            refine pure_ (i := 13) (N := some 15) (v := ?_) (a' := ?_) (Ow.B 19 16383) rfl rfl (any_of HT_.out (by kernel_rfl)) (fun _ _ _ h => h) (Or.inl ⟨by rfl, ?_⟩) ?_ ?_
            rotate_left
            · intro w'
              (try (with_reducible refine Ow.gate_eql (by first | exact Or.inl rfl | exact Or.inr rfl) rfl ?_; simp only [hq.1, Ow.part, Ot.sz, Ot.zero, Ow.over, Ow.overL, List.drop_succ_cons, List.drop_zero, List.take_succ_cons, List.take_zero]))
              go_simp
              with_reducible rfl
            rotate_left
            · simp only [Act.put, List.setIfInBounds_toArray, List.set_cons_zero, List.set_cons_succ, i64_w, i32_w]
              rfl
            refine pure_ (i := 14) (N := some 29) (v := ?_) (a' := ?_) (Ow.B 19 32767) rfl rfl (any_of HT_.out (by kernel_rfl)) (fun _ _ _ h => h) (Or.inl ⟨by rfl, ?_⟩) ?_ ?_
            rotate_left
            · intro w'
              (try (with_reducible refine Ow.gate_eql (by first | exact Or.inl rfl | exact Or.inr rfl) rfl ?_; simp only [hq.1, Ow.part, Ot.sz, Ot.zero, Ow.over, Ow.overL, List.drop_succ_cons, List.drop_zero, List.take_succ_cons, List.take_zero]))
              go_simp
              with_reducible rfl
            rotate_left
            · simp only [Act.put, List.setIfInBounds_toArray, List.set_cons_zero, List.set_cons_succ, i64_w, i32_w]
              rfl
            refine pure_ (i := 15) (N := some 30) (v := ?_) (a' := ?_) (Ow.B 19 65535) rfl rfl (any_of HT_.out (by kernel_rfl)) (fun _ _ _ h => h) (Or.inl ⟨by rfl, ?_⟩) ?_ ?_
            rotate_left
            · intro w'
              (try (with_reducible refine Ow.gate_eql (by first | exact Or.inl rfl | exact Or.inr rfl) rfl ?_; simp only [hq.1, Ow.part, Ot.sz, Ot.zero, Ow.over, Ow.overL, List.drop_succ_cons, List.drop_zero, List.take_succ_cons, List.take_zero]))
              go_simp
              with_reducible rfl
            rotate_left
            · simp only [Act.put, List.setIfInBounds_toArray, List.set_cons_zero, List.set_cons_succ, i64_w, i32_w]
              rfl
            refine one_ (i := 16) (N := some 3) (Ow.B 19 131071) rfl rfl (one_of HT_.out (by kernel_rfl)) (by decide) (fun K hK => ?_)
            refine box_step ?hg (N := 3) ?hd (cs := capture_asked_held.Z7) (t := 25) ?hr ?_; (case hd => rfl); (case hg => rfl); (case hr => first | (go_simp; done) | (go_simp; rfl))
            intro gb180 hg w13 hbox hb
            replace HO := Aside0.mk (Ow.Own.add HO.out hg hbox hb)
            clear hb hbox hg
            simp only [List.cons_append, List.nil_append] at HO
            refine hK.out _ _ (by have h_ := Ow.Own.pick [0, 1] HO.out (by decide); exact h_) (fun hHeld => ?_)
            clear hK K
            refine norm_ (a' := ?_) ?_ ?_
            rotate_left
            · show Act.put _ (some 3) _ = _
              simp only [Act.put, List.setIfInBounds_toArray, List.set_cons_zero, List.set_cons_succ, i64_w, i32_w]
              rfl
            exact norm_ (by simp only [putAll, Act.put, List.setIfInBounds_toArray, List.set_cons_zero, List.set_cons_succ]) (hCont (gb180) _ (Ow.Own.cong (Ow.Own.pick [0, 1, 2] HO.out (by decide)) (by first | ((try simp only [hq.1]) <;> rfl) | fail)))
          · skip
            refine box_step ?hg (N := 3) ?hd (cs := capture_asked_held.Z7) (t := 25) ?hr ?_; (case hd => rfl); (case hg => rfl); (case hr => first | (go_simp; done) | (go_simp; rfl))
            intro gb180 hg w12 hbox hb
            replace HO := Aside0.mk (Ow.Own.add HO.out hg hbox hb)
            clear hb hbox hg
            simp only [List.cons_append, List.nil_append] at HO
            refine hK.out _ _ (by have h_ := Ow.Own.pick [0, 1] HO.out (by decide); exact h_) (fun hHeld => ?_)
            clear hK K
            refine norm_ (a' := ?_) ?_ ?_
            rotate_left
            · show Act.put _ (some 3) _ = _
              simp only [Act.put, List.setIfInBounds_toArray, List.set_cons_zero, List.set_cons_succ, i64_w, i32_w]
              rfl
            refine one_ (i := 12) (N := some 28) (Ow.B 19 73727) rfl rfl (one_of HT_.out (by kernel_rfl)) (by decide) (fun K hK => ?_)
            refine goes_ Try.func73 (by kernel_rfl) rfl #[.agg #[.string a0_14, .string a0_15, .string a0_16, .int .i64 a0_17, .int .i64 a0_18, .int .i64 a0_19, .bool a0_20], .int .i64 a0_3, .bool t171] (by rfl) rfl rfl (by (try simp only [List.map_toArray, List.map_cons, List.map_nil]); first | done | rfl | (simp only [hq.1]; done) | (simp only [hq.1]; rfl) | (simp only [List.length_drop, List.length_take]; rfl)) ?_
            refine Calls.mono (calls_of_args (by first | ((try simp only [hq.1]) <;> rfl) | fail) (hold_Take.calls a0_14 a0_15 a0_16 a0_17 a0_18 a0_19 a0_20 a0_3 t171 t172 t173 t174 t175 t176 t177 t178 t179 _ A4.out)) ?_
            rintro e w13 ⟨he_, hb⟩
            subst he_
            replace HO := Aside0.mk (Ow.Own.call HO.out hb)
            clear hb
            refine ⟨_, rfl, ?_⟩
            refine hK.out _ _ (by have h_ := Ow.Own.pick [0, 1] HO.out (by decide); exact h_) (fun hHeld => ?_)
            clear hK K
            refine norm_ (a' := ?_) ?_ ?_
            rotate_left
            · show Act.put _ (some 28) _ = _
              simp only [Act.put, List.setIfInBounds_toArray, List.set_cons_zero, List.set_cons_succ, i64_w, i32_w]
              rfl
            refine pure_ (i := 13) (N := some 15) (v := ?_) (a' := ?_) (Ow.B 19 81919) rfl rfl (any_of HT_.out (by kernel_rfl)) (fun _ _ _ h => h) (Or.inl ⟨by rfl, ?_⟩) ?_ ?_
            rotate_left
            · intro w'
              (try (with_reducible refine Ow.gate_eql (by first | exact Or.inl rfl | exact Or.inr rfl) rfl ?_; simp only [hq.1, Ow.part, Ot.sz, Ot.zero, Ow.over, Ow.overL, List.drop_succ_cons, List.drop_zero, List.take_succ_cons, List.take_zero]))
              go_simp
              with_reducible rfl
            rotate_left
            · simp only [Act.put, List.setIfInBounds_toArray, List.set_cons_zero, List.set_cons_succ, i64_w, i32_w]
              rfl
            refine pure_ (i := 14) (N := some 29) (v := ?_) (a' := ?_) (Ow.B 19 98303) rfl rfl (any_of HT_.out (by kernel_rfl)) (fun _ _ _ h => h) (Or.inl ⟨by rfl, ?_⟩) ?_ ?_
            rotate_left
            · intro w'
              (try (with_reducible refine Ow.gate_eql (by first | exact Or.inl rfl | exact Or.inr rfl) rfl ?_; simp only [hq.1, Ow.part, Ot.sz, Ot.zero, Ow.over, Ow.overL, List.drop_succ_cons, List.drop_zero, List.take_succ_cons, List.take_zero]))
              go_simp
              with_reducible rfl
            rotate_left
            · simp only [Act.put, List.setIfInBounds_toArray, List.set_cons_zero, List.set_cons_succ, i64_w, i32_w]
              rfl
            refine pure_ (i := 15) (N := some 30) (v := ?_) (a' := ?_) (Ow.B 19 131071) rfl rfl (any_of HT_.out (by kernel_rfl)) (fun _ _ _ h => h) (Or.inl ⟨by rfl, ?_⟩) ?_ ?_
            rotate_left
            · intro w'
              (try (with_reducible refine Ow.gate_eql (by first | exact Or.inl rfl | exact Or.inr rfl) rfl ?_; simp only [hq.1, Ow.part, Ot.sz, Ot.zero, Ow.over, Ow.overL, List.drop_succ_cons, List.drop_zero, List.take_succ_cons, List.take_zero]))
              go_simp
              with_reducible rfl
            rotate_left
            · simp only [Act.put, List.setIfInBounds_toArray, List.set_cons_zero, List.set_cons_succ, i64_w, i32_w]
              rfl
            exact norm_ (by simp only [putAll, Act.put, List.setIfInBounds_toArray, List.set_cons_zero, List.set_cons_succ]) (hCont (gb180) _ (Ow.Own.cong (Ow.Own.pick [0, 1, 2] HO.out (by decide)) (by first | ((try simp only [hq.1]) <;> rfl) | fail)))
        · skip
          refine box_step ?hg (N := 3) ?hd (cs := capture_asked_held.Z7) (t := 25) ?hr ?_; (case hd => rfl); (case hg => rfl); (case hr => first | (go_simp; done) | (go_simp; rfl))
          intro gb180 hg w12 hbox hb
          replace HO := Aside0.mk (Ow.Own.add HO.out hg hbox hb)
          clear hb hbox hg
          simp only [List.cons_append, List.nil_append] at HO
          refine hK.out _ _ (by have h_ := Ow.Own.pick [0, 1] HO.out (by decide); exact h_) (fun hHeld => ?_)
          clear hK K
          refine norm_ (a' := ?_) ?_ ?_
          rotate_left
          · show Act.put _ (some 3) _ = _
            simp only [Act.put, List.setIfInBounds_toArray, List.set_cons_zero, List.set_cons_succ, i64_w, i32_w]
            rfl
          refine one_ (i := 11) (N := some 27) (Ow.B 19 69631) rfl rfl (one_of HT_.out (by kernel_rfl)) (by decide) (fun K hK => ?_)
          refine goes_ Try.func42 (by kernel_rfl) rfl #[.string a0_2, .string (⟨#[48, 48]⟩ : ByteArray)] (by rfl) rfl rfl (by (try simp only [List.map_toArray, List.map_cons, List.map_nil]); first | done | rfl | (simp only [hq.1]; done) | (simp only [hq.1]; rfl) | (simp only [List.length_drop, List.length_take]; rfl)) ?_
          refine Calls.mono (calls_of_args (by first | ((try simp only [hq.1]) <;> rfl) | fail) (strings_HasPrefix.calls a0_2 (⟨#[48, 48]⟩ : ByteArray) t171 _ A3.out)) ?_
          rintro e w' ⟨he_, ⟨nd, rfl⟩⟩
          subst he_
          replace HO := Aside0.mk (Ow.Own.drewN HO.out nd); (try simp only [World.drewN_drewN] at HO)
          refine ⟨_, rfl, ?_⟩
          refine hK.out _ _ (by have h_ := Ow.Own.pick [0, 1] HO.out (by decide); exact h_) (fun hHeld => ?_)
          clear hK K
          refine norm_ (a' := ?_) ?_ ?_
          rotate_left
          · show Act.put _ (some 27) _ = _
            simp only [Act.put, List.setIfInBounds_toArray, List.set_cons_zero, List.set_cons_succ, i64_w, i32_w]
            rfl
          refine one_ (i := 12) (N := some 28) (Ow.B 19 73727) rfl rfl (one_of HT_.out (by kernel_rfl)) (by decide) (fun K hK => ?_)
          refine goes_ Try.func73 (by kernel_rfl) rfl #[.agg #[.string a0_14, .string a0_15, .string a0_16, .int .i64 a0_17, .int .i64 a0_18, .int .i64 a0_19, .bool a0_20], .int .i64 a0_3, .bool t171] (by rfl) rfl rfl (by (try simp only [List.map_toArray, List.map_cons, List.map_nil]); first | done | rfl | (simp only [hq.1]; done) | (simp only [hq.1]; rfl) | (simp only [List.length_drop, List.length_take]; rfl)) ?_
          refine Calls.mono (calls_of_args (by first | ((try simp only [hq.1]) <;> rfl) | fail) (hold_Take.calls a0_14 a0_15 a0_16 a0_17 a0_18 a0_19 a0_20 a0_3 t171 t172 t173 t174 t175 t176 t177 t178 t179 _ A4.out)) ?_
          rintro e w13 ⟨he_, hb⟩
          subst he_
          replace HO := Aside0.mk (Ow.Own.call HO.out hb)
          clear hb
          refine ⟨_, rfl, ?_⟩
          refine hK.out _ _ (by have h_ := Ow.Own.pick [0, 1] HO.out (by decide); exact h_) (fun hHeld => ?_)
          clear hK K
          refine norm_ (a' := ?_) ?_ ?_
          rotate_left
          · show Act.put _ (some 28) _ = _
            simp only [Act.put, List.setIfInBounds_toArray, List.set_cons_zero, List.set_cons_succ, i64_w, i32_w]
            rfl
          refine pure_ (i := 13) (N := some 15) (v := ?_) (a' := ?_) (Ow.B 19 81919) rfl rfl (any_of HT_.out (by kernel_rfl)) (fun _ _ _ h => h) (Or.inl ⟨by rfl, ?_⟩) ?_ ?_
          rotate_left
          · intro w'
            (try (with_reducible refine Ow.gate_eql (by first | exact Or.inl rfl | exact Or.inr rfl) rfl ?_; simp only [hq.1, Ow.part, Ot.sz, Ot.zero, Ow.over, Ow.overL, List.drop_succ_cons, List.drop_zero, List.take_succ_cons, List.take_zero]))
            go_simp
            with_reducible rfl
          rotate_left
          · simp only [Act.put, List.setIfInBounds_toArray, List.set_cons_zero, List.set_cons_succ, i64_w, i32_w]
            rfl
          refine pure_ (i := 14) (N := some 29) (v := ?_) (a' := ?_) (Ow.B 19 98303) rfl rfl (any_of HT_.out (by kernel_rfl)) (fun _ _ _ h => h) (Or.inl ⟨by rfl, ?_⟩) ?_ ?_
          rotate_left
          · intro w'
            (try (with_reducible refine Ow.gate_eql (by first | exact Or.inl rfl | exact Or.inr rfl) rfl ?_; simp only [hq.1, Ow.part, Ot.sz, Ot.zero, Ow.over, Ow.overL, List.drop_succ_cons, List.drop_zero, List.take_succ_cons, List.take_zero]))
            go_simp
            with_reducible rfl
          rotate_left
          · simp only [Act.put, List.setIfInBounds_toArray, List.set_cons_zero, List.set_cons_succ, i64_w, i32_w]
            rfl
          refine pure_ (i := 15) (N := some 30) (v := ?_) (a' := ?_) (Ow.B 19 131071) rfl rfl (any_of HT_.out (by kernel_rfl)) (fun _ _ _ h => h) (Or.inl ⟨by rfl, ?_⟩) ?_ ?_
          rotate_left
          · intro w'
            (try (with_reducible refine Ow.gate_eql (by first | exact Or.inl rfl | exact Or.inr rfl) rfl ?_; simp only [hq.1, Ow.part, Ot.sz, Ot.zero, Ow.over, Ow.overL, List.drop_succ_cons, List.drop_zero, List.take_succ_cons, List.take_zero]))
            go_simp
            with_reducible rfl
          rotate_left
          · simp only [Act.put, List.setIfInBounds_toArray, List.set_cons_zero, List.set_cons_succ, i64_w, i32_w]
            rfl
          exact norm_ (by simp only [putAll, Act.put, List.setIfInBounds_toArray, List.set_cons_zero, List.set_cons_succ]) (hCont (gb180) _ (Ow.Own.cong (Ow.Own.pick [0, 1, 2] HO.out (by decide)) (by first | ((try simp only [hq.1]) <;> rfl) | fail)))
      rintro gb180 w14 HO7_
      clear HO
      have HO := Aside0.mk HO7_
      clear HO7_
      have hHeld := Ow.Own.pick [0, 1] HO.out (by decide)
      refine norm_ (a' := ?_) ?_ ?_
      rotate_left
      · simp only [putAll, Act.put, List.setIfInBounds_toArray, List.set_cons_zero, List.set_cons_succ]
        rfl
      refine one_ (i := 17) (N := none) (Ow.B 19 262143) rfl rfl (one_of HT_.out (by kernel_rfl)) (by decide) (fun K hK => ?_)
      refine Ow.oskip Ot.ty HO.out (by rfl) rfl rfl rfl rfl (by with_reducible first | exact Ow.at0 | exact Ow.at1 | exact Ow.at2) (by first | exact Ow.ev_tmp rfl | rfl) (by first | ((try simp only [hq.1]) <;> rfl) | fail) (by first | ((try simp only [hq.1]) <;> rfl) | fail) (by first | ((try simp only [hq.1]) <;> rfl) | fail) ?_
      clear HO; intro wz_ HO; simp only [List.set_cons_zero, List.set_cons_succ] at HO
      refine hK.out _ _ (by have h_ := Ow.Own.pick [0, 1] HO.out (by decide); exact h_) (fun hHeld => ?_)
      clear hK K
      refine pure_ (i := 18) (N := some 4) (v := ?_) (a' := ?_) (Ow.B 19 524287) rfl rfl (any_of HT_.out (by kernel_rfl)) (fun _ _ _ h => h) (Or.inl ⟨by rfl, ?_⟩) ?_ ?_
      rotate_left
      · intro w'
        (try (with_reducible refine Ow.gate_eql (by first | exact Or.inl rfl | exact Or.inr rfl) rfl ?_; simp only [hq.1, Ow.part, Ot.sz, Ot.zero, Ow.over, Ow.overL, List.drop_succ_cons, List.drop_zero, List.take_succ_cons, List.take_zero]))
        go_simp
        with_reducible rfl
      rotate_left
      · simp only [Act.put, List.setIfInBounds_toArray, List.set_cons_zero, List.set_cons_succ, i64_w, i32_w]
        rfl
      refine done_ (done_of HT_.out (by kernel_rfl)) ?_
      obtain ⟨Q1, hQ1_⟩ : ∃ q_ : Array Value, q_ = (#[.string t181, .string t182, .string t183, .string t184, .int .i64 t185, .int .i64 t186, .int .i64 t187, .bool t188, .bool t189, .int .i64 t190, .int .i64 t191, .string t192, .string t193, .string t194, .int .i64 t195] : Array Value) := ⟨_, rfl⟩
      try rw [← hQ1_]
      have hQ1 := Aside0.mk hQ1_; replace hq := Aside0.mk (And.intro hQ1_ hq.1); clear hQ1_
      try go_wp2_with (first | ((with_reducible refine gate_callee (f := 72) rfl ?_); refine goesL_ (some 36) rfl rfl Try.func72 (by kernel_rfl) rfl #[.agg Q0, .agg #[.string t172, .string t173, .string t174, .int .i64 t175, .int .i64 t176, .int .i64 t177, .bool t178], .bool true] rfl (by (try simp only [List.map_toArray, List.map_cons, List.map_nil]); first | done | rfl | (simp only [hq.1]; done) | (simp only [hq.1]; rfl)) ?_; refine Calls.mono (calls_of_args (by first | ((try simp only [hq.1]) <;> rfl) | fail) (capture_asked_taken.calls k a0_0 a0_1 a0_2 a0_3 a0_4 a0_5 a0_6 a0_7 a0_8 a0_9 a0_10 a0_11 a0_12 a0_13 a0_14 a0_15 a0_16 a0_17 a0_18 a0_19 a0_20 a0_21 a0_22 a0_23 a0_24 t172 t173 t174 t175 t176 t177 t178 true t181 t182 t183 t184 t185 t186 t187 t188 t189 t190 t191 t192 t193 t194 t195 _ A6.out)) ?_; rintro e w26 ⟨he_, hb⟩; (try rw [← hQ1.out] at he_); subst he_; refine ⟨_, rfl, ?_⟩; replace HO := Aside0.mk (Ow.Own.call HO.out hb); clear hb) | ((with_reducible refine Ow.gate_build rfl ?_); (try (refine gate_guard (by rfl) ?_; dsimp only)); refine' Ow.tbuild Ot.bd rfl rfl rfl ?hf_ ?_; (case hf_ => repeat (any_goals (first | exact Ow.Fills.nil | (refine' Ow.Fills.c ?hv_ rfl ?hz_ ?_; (case hv_ => first | exact Ow.ev_tmp rfl | rfl); (case hz_ => first | (refine ⟨?_, ?_⟩ <;> (first | ((try simp only [hq.1]) <;> rfl) | fail)) | fail)))))) | ((with_reducible refine Ow.gate_load rfl ?_); (try (refine gate_guard (by rfl) ?_; dsimp only)); (first | refine Ow.l1 Ot.ty HO.out rfl rfl rfl rfl (by first | ((try simp only [hq.1]) <;> rfl) | fail) ?_ | refine Ow.l0 Ot.ty HO.out rfl rfl rfl rfl (by first | ((try simp only [hq.1]) <;> rfl) | fail) ?_ | refine Ow.lp Ot.ty HO.out rfl rfl rfl rfl (by first | ((try simp only [hq.1]) <;> rfl) | fail) ?_)) | ((with_reducible refine gate_store rfl ?_); (try (refine gate_guard (by rfl) ?_; dsimp only)); (first | refine Ow.s0 Ot.ty HO.out rfl rfl rfl rfl rfl (by first | exact Ow.ev_tmp rfl | rfl) (by first | (refine ⟨?_, ?_, ?_⟩ <;> (first | ((try simp only [hq.1]) <;> rfl) | fail)) | fail) ?_ | refine Ow.sp Ot.ty HO.out rfl rfl rfl rfl rfl (by first | exact Ow.ev_tmp rfl | rfl) (by first | (refine ⟨?_, ?_, ?_⟩ <;> (first | ((try simp only [hq.1]) <;> rfl) | fail)) | fail) ?_); clear HO; intro wz_ HO; simp only [List.set_cons_zero, List.set_cons_succ] at HO))
      refine' bodyPost_ret (results_cell_row rfl _ _ gb170 53 _ (0, 0) _ rfl ?hb_ Try.underlying53 rfl ?hi_) rfl ?_
      case hb_ => refine' Ow.Own.get HO.out 1 ?hk_; (case hk_ => rfl)
      case hi_ => exact (Ot.ty.size 53 rfl).trans (congrArg some (by first | ((try simp only [hq.1]) <;> rfl) | fail))
      all_goals exact ⟨by first | rfl | (simp only [hq.1]; done) | (simp only [hq.1]; rfl) | (simp [errW_none, errW_some] <;> rfl) | (simp [*, errW_none, errW_some] <;> rfl), Ow.Own.below HO.out⟩
    · rw [if_neg c5] at H
      have c5b0 : (t179 == 0) = false := beq_eq_false_iff_ne.mpr c5
      have c5b1 : (t179 != 0) = true := bne_iff_ne.mpr c5
      by_cases c29 : t179 = 14
      · rw [if_pos c29] at H
        have c29b0 : (t179 == 14) = true := beq_iff_eq.mpr c29
        have c29b1 : (t179 != 14) = false := bne_eq_false_iff_eq.mpr c29
        clear c29
        simp only [Option.some.injEq, Prod.mk.injEq] at H
        obtain ⟨rfl, rfl, rfl, rfl, rfl, rfl, rfl, rfl, rfl, rfl, rfl, rfl, rfl, rfl, rfl⟩ := H
        obtain ⟨Q2, hQ2_⟩ : ∃ q_ : Array Value, q_ = (#[.string a0_0, .string a0_1, .string a0_2, .int .i64 a0_3, .string a0_4, .string a0_5, .string a0_6, .string a0_7, .string a0_8, .int .i64 a0_9, .int .i64 a0_10, .string a0_11, .bool a0_12, .int .i64 a0_13, .string a0_14, .string a0_15, .string a0_16, .int .i64 a0_17, .int .i64 a0_18, .int .i64 a0_19, .bool a0_20, .bool a0_21, .int .i64 a0_22, .int .i64 a0_23, .bool a0_24] : Array Value) := ⟨_, rfl⟩
        try rw [← hQ2_]
        have hQ2 := Aside0.mk hQ2_; have hq := Aside0.mk hQ2_; clear hQ2_
        go_enter Try.func55, Try.ntmps55
        try go_wp2_with (first | ((with_reducible refine gate_dst (N := 1) rfl ?_); refine Ow.box rfl (N := 1) rfl (cs := Q2) (t := 79) HO.out (by first | (go_simp; done) | (go_simp; rfl)) ?_; clear HO; intro gb169 w30 HO; simp only [List.cons_append, List.nil_append] at HO) | ((with_reducible refine gate_dst (N := 2) rfl ?_); refine Ow.box rfl (N := 2) rfl (cs := capture_asked_held.Z15) (t := 53) HO.out (by first | (go_simp; done) | (go_simp; rfl)) ?_; clear HO; intro gb170 w31 HO; simp only [List.cons_append, List.nil_append] at HO) | ((with_reducible refine Ow.gate_build rfl ?_); (try (refine gate_guard (by rfl) ?_; dsimp only)); refine' Ow.tbuild Ot.bd rfl rfl rfl ?hf_ ?_; (case hf_ => repeat (any_goals (first | exact Ow.Fills.nil | (refine' Ow.Fills.c ?hv_ rfl ?hz_ ?_; (case hv_ => first | exact Ow.ev_tmp rfl | rfl); (case hz_ => first | (refine ⟨?_, ?_⟩ <;> (first | ((try simp only [hq.1]) <;> rfl) | fail)) | fail)))))) | ((with_reducible refine Ow.gate_load rfl ?_); (try (refine gate_guard (by rfl) ?_; dsimp only)); (first | refine Ow.l1 Ot.ty HO.out rfl rfl rfl rfl (by first | ((try simp only [hq.1]) <;> rfl) | fail) ?_ | refine Ow.l0 Ot.ty HO.out rfl rfl rfl rfl (by first | ((try simp only [hq.1]) <;> rfl) | fail) ?_ | refine Ow.lp Ot.ty HO.out rfl rfl rfl rfl (by first | ((try simp only [hq.1]) <;> rfl) | fail) ?_)) | ((with_reducible refine gate_store rfl ?_); (try (refine gate_guard (by rfl) ?_; dsimp only)); (first | refine Ow.s0 Ot.ty HO.out rfl rfl rfl rfl rfl (by first | exact Ow.ev_tmp rfl | rfl) (by first | (refine ⟨?_, ?_, ?_⟩ <;> (first | ((try simp only [hq.1]) <;> rfl) | fail)) | fail) ?_ | refine Ow.sp Ot.ty HO.out rfl rfl rfl rfl rfl (by first | exact Ow.ev_tmp rfl | rfl) (by first | (refine ⟨?_, ?_, ?_⟩ <;> (first | ((try simp only [hq.1]) <;> rfl) | fail)) | fail) ?_); clear HO; intro wz_ HO; simp only [List.set_cons_zero, List.set_cons_succ] at HO))
        refine Ow.ostart (n := 19) (ds := []) (Ow.B 19 0) HO.out (by kernel_rfl) rfl (by kernel_rfl) ?_
        intro hHeld; replace HO := Aside0.mk hHeld; refine with_tabW capture_asked_held.tab3 capture_asked_held.bits3 (fun HT_ HW_ => ?_)
        refine pure_ (i := 0) (N := some 16) (v := ?_) (a' := ?_) (Ow.B 19 1) rfl rfl (any_of HT_.out (by kernel_rfl)) (fun _ _ _ h => h) (Or.inl ⟨by rfl, ?_⟩) ?_ ?_
        rotate_left
        · intro w'
          (try (with_reducible refine Ow.gate_eql (by first | exact Or.inl rfl | exact Or.inr rfl) rfl ?_; simp only [hq.1, Ow.part, Ot.sz, Ot.zero, Ow.over, Ow.overL, List.drop_succ_cons, List.drop_zero, List.take_succ_cons, List.take_zero]))
          go_simp
          with_reducible rfl
        rotate_left
        · simp only [Act.put, List.setIfInBounds_toArray, List.set_cons_zero, List.set_cons_succ, i64_w, i32_w]
          rfl
        refine pure_ (i := 1) (N := some 17) (v := ?_) (a' := ?_) (Ow.B 19 3) rfl rfl (any_of HT_.out (by kernel_rfl)) (fun _ _ _ h => h) (Or.inl ⟨by rfl, ?_⟩) ?_ ?_
        rotate_left
        · intro w'
          (try (with_reducible refine Ow.gate_eql (by first | exact Or.inl rfl | exact Or.inr rfl) rfl ?_; simp only [hq.1, Ow.part, Ot.sz, Ot.zero, Ow.over, Ow.overL, List.drop_succ_cons, List.drop_zero, List.take_succ_cons, List.take_zero]))
          go_simp
          with_reducible rfl
        rotate_left
        · simp only [Act.put, List.setIfInBounds_toArray, List.set_cons_zero, List.set_cons_succ, i64_w, i32_w]
          rfl
        refine pure_ (i := 3) (N := some 19) (v := ?_) (a' := ?_) (Ow.B 19 11) rfl rfl (any_of HT_.out (by kernel_rfl)) (fun _ _ _ h => h) (Or.inl ⟨by rfl, ?_⟩) ?_ ?_
        rotate_left
        · intro w'
          (try (with_reducible refine Ow.gate_eql (by first | exact Or.inl rfl | exact Or.inr rfl) rfl ?_; simp only [hq.1, Ow.part, Ot.sz, Ot.zero, Ow.over, Ow.overL, List.drop_succ_cons, List.drop_zero, List.take_succ_cons, List.take_zero]))
          go_simp
          with_reducible rfl
        rotate_left
        · simp only [Act.put, List.setIfInBounds_toArray, List.set_cons_zero, List.set_cons_succ, i64_w, i32_w]
          rfl
        refine pure_ (i := 4) (N := some 20) (v := ?_) (a' := ?_) (Ow.B 19 27) rfl rfl (any_of HT_.out (by kernel_rfl)) (fun _ _ _ h => h) (Or.inl ⟨by rfl, ?_⟩) ?_ ?_
        rotate_left
        · intro w'
          (try (with_reducible refine Ow.gate_eql (by first | exact Or.inl rfl | exact Or.inr rfl) rfl ?_; simp only [hq.1, Ow.part, Ot.sz, Ot.zero, Ow.over, Ow.overL, List.drop_succ_cons, List.drop_zero, List.take_succ_cons, List.take_zero]))
          go_simp
          with_reducible rfl
        rotate_left
        · simp only [Act.put, List.setIfInBounds_toArray, List.set_cons_zero, List.set_cons_succ, i64_w, i32_w]
          rfl
        refine pure_ (i := 5) (N := some 21) (v := ?_) (a' := ?_) (Ow.B 19 59) rfl rfl (any_of HT_.out (by kernel_rfl)) (fun _ _ _ h => h) (Or.inl ⟨by rfl, ?_⟩) ?_ ?_
        rotate_left
        · intro w'
          (try (with_reducible refine Ow.gate_eql (by first | exact Or.inl rfl | exact Or.inr rfl) rfl ?_; simp only [hq.1, Ow.part, Ot.sz, Ot.zero, Ow.over, Ow.overL, List.drop_succ_cons, List.drop_zero, List.take_succ_cons, List.take_zero]))
          go_simp
          with_reducible rfl
        rotate_left
        · simp only [Act.put, List.setIfInBounds_toArray, List.set_cons_zero, List.set_cons_succ, i64_w, i32_w]
          rfl
        refine pure_ (i := 7) (N := some 23) (v := ?_) (a' := ?_) (Ow.B 19 187) rfl rfl (any_of HT_.out (by kernel_rfl)) (fun _ _ _ h => h) (Or.inl ⟨by rfl, ?_⟩) ?_ ?_
        rotate_left
        · intro w'
          (try (with_reducible refine Ow.gate_eql (by first | exact Or.inl rfl | exact Or.inr rfl) rfl ?_; simp only [hq.1, Ow.part, Ot.sz, Ot.zero, Ow.over, Ow.overL, List.drop_succ_cons, List.drop_zero, List.take_succ_cons, List.take_zero]))
          go_simp
          with_reducible rfl
        rotate_left
        · simp only [Act.put, List.setIfInBounds_toArray, List.set_cons_zero, List.set_cons_succ, i64_w, i32_w]
          rfl
        refine pure_ (i := 8) (N := some 24) (v := ?_) (a' := ?_) (Ow.B 19 443) rfl rfl (any_of HT_.out (by kernel_rfl)) (fun _ _ _ h => h) (Or.inl ⟨by rfl, ?_⟩) ?_ ?_
        rotate_left
        · intro w'
          (try (with_reducible refine Ow.gate_eql (by first | exact Or.inl rfl | exact Or.inr rfl) rfl ?_; simp only [hq.1, Ow.part, Ot.sz, Ot.zero, Ow.over, Ow.overL, List.drop_succ_cons, List.drop_zero, List.take_succ_cons, List.take_zero]))
          go_simp
          with_reducible rfl
        rotate_left
        · simp only [Act.put, List.setIfInBounds_toArray, List.set_cons_zero, List.set_cons_succ, i64_w, i32_w]
          rfl
        refine pure_ (i := 9) (N := some 25) (v := ?_) (a' := ?_) (Ow.B 19 955) rfl rfl (any_of HT_.out (by kernel_rfl)) (fun _ _ _ h => h) (Or.inl ⟨by rfl, ?_⟩) ?_ ?_
        rotate_left
        · intro w'
          (try (with_reducible refine Ow.gate_eql (by first | exact Or.inl rfl | exact Or.inr rfl) rfl ?_; simp only [hq.1, Ow.part, Ot.sz, Ot.zero, Ow.over, Ow.overL, List.drop_succ_cons, List.drop_zero, List.take_succ_cons, List.take_zero]))
          go_simp
          with_reducible rfl
        rotate_left
        · simp only [Act.put, List.setIfInBounds_toArray, List.set_cons_zero, List.set_cons_succ, i64_w, i32_w]
          rfl
        refine take_ (i := 2) (N := some 18) (v := ?_) (a' := ?_) (Ow.B 19 959) rfl rfl (take_ofW HT_.out HW_.out (by kernel_rfl)) (fun _ _ _ h => h) (Or.inl ⟨by rfl, ?_⟩) hHeld ?_ ?_
        rotate_left
        · intro w' s_
          first | (refine' Ow.rload1 Ot.ty s_ rfl rfl rfl ?hk_ ?hs_; (case hk_ => exact (by with_reducible first | exact Ow.at0 | exact Ow.at1)); (case hs_ => first | ((try simp only [hq.1]) <;> rfl) | fail)) | (refine' Ow.rload0 Ot.ty s_ rfl rfl rfl ?hk_ ?hs_; (case hk_ => exact (by with_reducible first | exact Ow.at0 | exact Ow.at1)); (case hs_ => first | ((try simp only [hq.1]) <;> rfl) | fail)) | (refine' Ow.rloadp Ot.ty s_ rfl rfl rfl ?hk_ ?hs_; (case hk_ => exact (by with_reducible first | exact Ow.at0 | exact Ow.at1)); (case hs_ => first | ((try simp only [hq.1]) <;> rfl) | fail)) | (go_simp; with_reducible rfl)
        rotate_left
        · simp only [Act.put, List.setIfInBounds_toArray, List.set_cons_zero, List.set_cons_succ, i64_w, i32_w]
          rfl
        refine take_ (i := 6) (N := some 22) (v := ?_) (a' := ?_) (Ow.B 19 1023) rfl rfl (take_ofW HT_.out HW_.out (by kernel_rfl)) (fun _ _ _ h => h) (Or.inl ⟨by rfl, ?_⟩) hHeld ?_ ?_
        rotate_left
        · intro w' s_
          first | (refine' Ow.rload1 Ot.ty s_ rfl rfl rfl ?hk_ ?hs_; (case hk_ => exact (by with_reducible first | exact Ow.at0 | exact Ow.at1)); (case hs_ => first | ((try simp only [hq.1]) <;> rfl) | fail)) | (refine' Ow.rload0 Ot.ty s_ rfl rfl rfl ?hk_ ?hs_; (case hk_ => exact (by with_reducible first | exact Ow.at0 | exact Ow.at1)); (case hs_ => first | ((try simp only [hq.1]) <;> rfl) | fail)) | (refine' Ow.rloadp Ot.ty s_ rfl rfl rfl ?hk_ ?hs_; (case hk_ => exact (by with_reducible first | exact Ow.at0 | exact Ow.at1)); (case hs_ => first | ((try simp only [hq.1]) <;> rfl) | fail)) | (go_simp; with_reducible rfl)
        rotate_left
        · simp only [Act.put, List.setIfInBounds_toArray, List.set_cons_zero, List.set_cons_succ, i64_w, i32_w]
          rfl
        refine take_ (i := 10) (N := some 26) (v := ?_) (a' := ?_) (Ow.B 19 2047) rfl rfl (take_ofW HT_.out HW_.out (by kernel_rfl)) (fun _ _ _ h => h) (Or.inl ⟨by rfl, ?_⟩) hHeld ?_ ?_
        rotate_left
        · intro w' s_
          first | (refine' Ow.rload1 Ot.ty s_ rfl rfl rfl ?hk_ ?hs_; (case hk_ => exact (by with_reducible first | exact Ow.at0 | exact Ow.at1)); (case hs_ => first | ((try simp only [hq.1]) <;> rfl) | fail)) | (refine' Ow.rload0 Ot.ty s_ rfl rfl rfl ?hk_ ?hs_; (case hk_ => exact (by with_reducible first | exact Ow.at0 | exact Ow.at1)); (case hs_ => first | ((try simp only [hq.1]) <;> rfl) | fail)) | (refine' Ow.rloadp Ot.ty s_ rfl rfl rfl ?hk_ ?hs_; (case hk_ => exact (by with_reducible first | exact Ow.at0 | exact Ow.at1)); (case hs_ => first | ((try simp only [hq.1]) <;> rfl) | fail)) | (go_simp; with_reducible rfl)
        rotate_left
        · simp only [Act.put, List.setIfInBounds_toArray, List.set_cons_zero, List.set_cons_succ, i64_w, i32_w]
          rfl
        refine join_ (σ := Nat) 2 (Ow.B 19 131071) (fun s_ => [(27, .bool t171), (28, .tuple #[.agg #[.string t172, .string t173, .string t174, .int .i64 t175, .int .i64 t176, .int .i64 t177, .bool t178], .int .i64 t179]), (3, .pointer (some ⟨s_, 0, none⟩)), (15, .tuple #[.agg #[.string t172, .string t173, .string t174, .int .i64 t175, .int .i64 t176, .int .i64 t177, .bool t178], .int .i64 t179]), (29, .agg #[.string t172, .string t173, .string t174, .int .i64 t175, .int .i64 t176, .int .i64 t177, .bool t178]), (30, .int .i64 t179)]) (fun s_ w' => Ow.Own w w' [(gb169, Q2, 79), (gb170, capture_asked_held.Z15, 53), (s_, capture_asked_held.Z7, 25)]) ?_ ?_
        rotate_left
        · intro hCont
          refine two_ (i := 11) (j := 16) (Ni := some 27) (Nj := some 3) (Ow.B 19 4095) (Ow.B 19 67583) rfl rfl rfl rfl (two_of HT_.out (by kernel_rfl)) (by decide) (by decide) (fun K hK => ?_) (fun K hK => ?_)
          · skip
            refine goes_ Try.func42 (by kernel_rfl) rfl #[.string a0_2, .string (⟨#[48, 48]⟩ : ByteArray)] (by rfl) rfl rfl (by (try simp only [List.map_toArray, List.map_cons, List.map_nil]); first | done | rfl | (simp only [hq.1]; done) | (simp only [hq.1]; rfl) | (simp only [List.length_drop, List.length_take]; rfl)) ?_
            refine Calls.mono (calls_of_args (by first | ((try simp only [hq.1]) <;> rfl) | fail) (strings_HasPrefix.calls a0_2 (⟨#[48, 48]⟩ : ByteArray) t171 _ A3.out)) ?_
            rintro e w' ⟨he_, ⟨nd, rfl⟩⟩
            subst he_
            replace HO := Aside0.mk (Ow.Own.drewN HO.out nd); (try simp only [World.drewN_drewN] at HO)
            refine ⟨_, rfl, ?_⟩
            refine hK.out _ _ HO.out (fun hHeld => ?_)
            clear hK K
            refine norm_ (a' := ?_) ?_ ?_
            rotate_left
            · show Act.put _ (some 27) _ = _
              simp only [Act.put, List.setIfInBounds_toArray, List.set_cons_zero, List.set_cons_succ, i64_w, i32_w]
              rfl
            refine two_ (i := 12) (j := 16) (Ni := some 28) (Nj := some 3) (Ow.B 19 8191) (Ow.B 19 69631) rfl rfl rfl rfl (two_of HT_.out (by kernel_rfl)) (by decide) (by decide) (fun K hK => ?_) (fun K hK => ?_)
            · skip
              refine goes_ Try.func73 (by kernel_rfl) rfl #[.agg #[.string a0_14, .string a0_15, .string a0_16, .int .i64 a0_17, .int .i64 a0_18, .int .i64 a0_19, .bool a0_20], .int .i64 a0_3, .bool t171] (by rfl) rfl rfl (by (try simp only [List.map_toArray, List.map_cons, List.map_nil]); first | done | rfl | (simp only [hq.1]; done) | (simp only [hq.1]; rfl) | (simp only [List.length_drop, List.length_take]; rfl)) ?_
              refine Calls.mono (calls_of_args (by first | ((try simp only [hq.1]) <;> rfl) | fail) (hold_Take.calls a0_14 a0_15 a0_16 a0_17 a0_18 a0_19 a0_20 a0_3 t171 t172 t173 t174 t175 t176 t177 t178 t179 _ A4.out)) ?_
              rintro e w35 ⟨he_, hb⟩
              subst he_
              replace HO := Aside0.mk (Ow.Own.call HO.out hb)
              clear hb
              refine ⟨_, rfl, ?_⟩
              refine hK.out _ _ HO.out (fun hHeld => ?_)
              clear hK K
              refine norm_ (a' := ?_) ?_ ?_
              rotate_left
              · show Act.put _ (some 28) _ = _
                simp only [Act.put, List.setIfInBounds_toArray, List.set_cons_zero, List.set_cons_succ, i64_w, i32_w]
                rfl
              refine pure_ (i := 13) (N := some 15) (v := ?_) (a' := ?_) (Ow.B 19 16383) rfl rfl (any_of HT_.out (by kernel_rfl)) (fun _ _ _ h => h) (Or.inl ⟨by rfl, ?_⟩) ?_ ?_
              rotate_left
              · intro w'
                (try (with_reducible refine Ow.gate_eql (by first | exact Or.inl rfl | exact Or.inr rfl) rfl ?_; simp only [hq.1, Ow.part, Ot.sz, Ot.zero, Ow.over, Ow.overL, List.drop_succ_cons, List.drop_zero, List.take_succ_cons, List.take_zero]))
                go_simp
                with_reducible rfl
              rotate_left
              · simp only [Act.put, List.setIfInBounds_toArray, List.set_cons_zero, List.set_cons_succ, i64_w, i32_w]
                rfl
              refine pure_ (i := 14) (N := some 29) (v := ?_) (a' := ?_) (Ow.B 19 32767) rfl rfl (any_of HT_.out (by kernel_rfl)) (fun _ _ _ h => h) (Or.inl ⟨by rfl, ?_⟩) ?_ ?_
              rotate_left
              · intro w'
                (try (with_reducible refine Ow.gate_eql (by first | exact Or.inl rfl | exact Or.inr rfl) rfl ?_; simp only [hq.1, Ow.part, Ot.sz, Ot.zero, Ow.over, Ow.overL, List.drop_succ_cons, List.drop_zero, List.take_succ_cons, List.take_zero]))
                go_simp
                with_reducible rfl
              rotate_left
              · simp only [Act.put, List.setIfInBounds_toArray, List.set_cons_zero, List.set_cons_succ, i64_w, i32_w]
                rfl
              refine pure_ (i := 15) (N := some 30) (v := ?_) (a' := ?_) (Ow.B 19 65535) rfl rfl (any_of HT_.out (by kernel_rfl)) (fun _ _ _ h => h) (Or.inl ⟨by rfl, ?_⟩) ?_ ?_
              rotate_left
              · intro w'
                (try (with_reducible refine Ow.gate_eql (by first | exact Or.inl rfl | exact Or.inr rfl) rfl ?_; simp only [hq.1, Ow.part, Ot.sz, Ot.zero, Ow.over, Ow.overL, List.drop_succ_cons, List.drop_zero, List.take_succ_cons, List.take_zero]))
                go_simp
                with_reducible rfl
              rotate_left
              · simp only [Act.put, List.setIfInBounds_toArray, List.set_cons_zero, List.set_cons_succ, i64_w, i32_w]
                rfl
              refine one_ (i := 16) (N := some 3) (Ow.B 19 131071) rfl rfl (one_of HT_.out (by kernel_rfl)) (by decide) (fun K hK => ?_)
              refine box_step ?hg (N := 3) ?hd (cs := capture_asked_held.Z7) (t := 25) ?hr ?_; (case hd => rfl); (case hg => rfl); (case hr => first | (go_simp; done) | (go_simp; rfl))
              intro gb180 hg w36 hbox hb
              replace HO := Aside0.mk (Ow.Own.add HO.out hg hbox hb)
              clear hb hbox hg
              simp only [List.cons_append, List.nil_append] at HO
              refine hK.out _ _ (by have h_ := Ow.Own.pick [0, 1] HO.out (by decide); exact h_) (fun hHeld => ?_)
              clear hK K
              refine norm_ (a' := ?_) ?_ ?_
              rotate_left
              · show Act.put _ (some 3) _ = _
                simp only [Act.put, List.setIfInBounds_toArray, List.set_cons_zero, List.set_cons_succ, i64_w, i32_w]
                rfl
              exact norm_ (by simp only [putAll, Act.put, List.setIfInBounds_toArray, List.set_cons_zero, List.set_cons_succ]) (hCont (gb180) _ (Ow.Own.cong (Ow.Own.pick [0, 1, 2] HO.out (by decide)) (by first | ((try simp only [hq.1]) <;> rfl) | fail)))
            · skip
              refine box_step ?hg (N := 3) ?hd (cs := capture_asked_held.Z7) (t := 25) ?hr ?_; (case hd => rfl); (case hg => rfl); (case hr => first | (go_simp; done) | (go_simp; rfl))
              intro gb180 hg w35 hbox hb
              replace HO := Aside0.mk (Ow.Own.add HO.out hg hbox hb)
              clear hb hbox hg
              simp only [List.cons_append, List.nil_append] at HO
              refine hK.out _ _ (by have h_ := Ow.Own.pick [0, 1] HO.out (by decide); exact h_) (fun hHeld => ?_)
              clear hK K
              refine norm_ (a' := ?_) ?_ ?_
              rotate_left
              · show Act.put _ (some 3) _ = _
                simp only [Act.put, List.setIfInBounds_toArray, List.set_cons_zero, List.set_cons_succ, i64_w, i32_w]
                rfl
              refine one_ (i := 12) (N := some 28) (Ow.B 19 73727) rfl rfl (one_of HT_.out (by kernel_rfl)) (by decide) (fun K hK => ?_)
              refine goes_ Try.func73 (by kernel_rfl) rfl #[.agg #[.string a0_14, .string a0_15, .string a0_16, .int .i64 a0_17, .int .i64 a0_18, .int .i64 a0_19, .bool a0_20], .int .i64 a0_3, .bool t171] (by rfl) rfl rfl (by (try simp only [List.map_toArray, List.map_cons, List.map_nil]); first | done | rfl | (simp only [hq.1]; done) | (simp only [hq.1]; rfl) | (simp only [List.length_drop, List.length_take]; rfl)) ?_
              refine Calls.mono (calls_of_args (by first | ((try simp only [hq.1]) <;> rfl) | fail) (hold_Take.calls a0_14 a0_15 a0_16 a0_17 a0_18 a0_19 a0_20 a0_3 t171 t172 t173 t174 t175 t176 t177 t178 t179 _ A4.out)) ?_
              rintro e w36 ⟨he_, hb⟩
              subst he_
              replace HO := Aside0.mk (Ow.Own.call HO.out hb)
              clear hb
              refine ⟨_, rfl, ?_⟩
              refine hK.out _ _ (by have h_ := Ow.Own.pick [0, 1] HO.out (by decide); exact h_) (fun hHeld => ?_)
              clear hK K
              refine norm_ (a' := ?_) ?_ ?_
              rotate_left
              · show Act.put _ (some 28) _ = _
                simp only [Act.put, List.setIfInBounds_toArray, List.set_cons_zero, List.set_cons_succ, i64_w, i32_w]
                rfl
              refine pure_ (i := 13) (N := some 15) (v := ?_) (a' := ?_) (Ow.B 19 81919) rfl rfl (any_of HT_.out (by kernel_rfl)) (fun _ _ _ h => h) (Or.inl ⟨by rfl, ?_⟩) ?_ ?_
              rotate_left
              · intro w'
                (try (with_reducible refine Ow.gate_eql (by first | exact Or.inl rfl | exact Or.inr rfl) rfl ?_; simp only [hq.1, Ow.part, Ot.sz, Ot.zero, Ow.over, Ow.overL, List.drop_succ_cons, List.drop_zero, List.take_succ_cons, List.take_zero]))
                go_simp
                with_reducible rfl
              rotate_left
              · simp only [Act.put, List.setIfInBounds_toArray, List.set_cons_zero, List.set_cons_succ, i64_w, i32_w]
                rfl
              refine pure_ (i := 14) (N := some 29) (v := ?_) (a' := ?_) (Ow.B 19 98303) rfl rfl (any_of HT_.out (by kernel_rfl)) (fun _ _ _ h => h) (Or.inl ⟨by rfl, ?_⟩) ?_ ?_
              rotate_left
              · intro w'
                (try (with_reducible refine Ow.gate_eql (by first | exact Or.inl rfl | exact Or.inr rfl) rfl ?_; simp only [hq.1, Ow.part, Ot.sz, Ot.zero, Ow.over, Ow.overL, List.drop_succ_cons, List.drop_zero, List.take_succ_cons, List.take_zero]))
                go_simp
                with_reducible rfl
              rotate_left
              · simp only [Act.put, List.setIfInBounds_toArray, List.set_cons_zero, List.set_cons_succ, i64_w, i32_w]
                rfl
              refine pure_ (i := 15) (N := some 30) (v := ?_) (a' := ?_) (Ow.B 19 131071) rfl rfl (any_of HT_.out (by kernel_rfl)) (fun _ _ _ h => h) (Or.inl ⟨by rfl, ?_⟩) ?_ ?_
              rotate_left
              · intro w'
                (try (with_reducible refine Ow.gate_eql (by first | exact Or.inl rfl | exact Or.inr rfl) rfl ?_; simp only [hq.1, Ow.part, Ot.sz, Ot.zero, Ow.over, Ow.overL, List.drop_succ_cons, List.drop_zero, List.take_succ_cons, List.take_zero]))
                go_simp
                with_reducible rfl
              rotate_left
              · simp only [Act.put, List.setIfInBounds_toArray, List.set_cons_zero, List.set_cons_succ, i64_w, i32_w]
                rfl
              exact norm_ (by simp only [putAll, Act.put, List.setIfInBounds_toArray, List.set_cons_zero, List.set_cons_succ]) (hCont (gb180) _ (Ow.Own.cong (Ow.Own.pick [0, 1, 2] HO.out (by decide)) (by first | ((try simp only [hq.1]) <;> rfl) | fail)))
          · skip
            refine box_step ?hg (N := 3) ?hd (cs := capture_asked_held.Z7) (t := 25) ?hr ?_; (case hd => rfl); (case hg => rfl); (case hr => first | (go_simp; done) | (go_simp; rfl))
            intro gb180 hg w35 hbox hb
            replace HO := Aside0.mk (Ow.Own.add HO.out hg hbox hb)
            clear hb hbox hg
            simp only [List.cons_append, List.nil_append] at HO
            refine hK.out _ _ (by have h_ := Ow.Own.pick [0, 1] HO.out (by decide); exact h_) (fun hHeld => ?_)
            clear hK K
            refine norm_ (a' := ?_) ?_ ?_
            rotate_left
            · show Act.put _ (some 3) _ = _
              simp only [Act.put, List.setIfInBounds_toArray, List.set_cons_zero, List.set_cons_succ, i64_w, i32_w]
              rfl
            refine one_ (i := 11) (N := some 27) (Ow.B 19 69631) rfl rfl (one_of HT_.out (by kernel_rfl)) (by decide) (fun K hK => ?_)
            refine goes_ Try.func42 (by kernel_rfl) rfl #[.string a0_2, .string (⟨#[48, 48]⟩ : ByteArray)] (by rfl) rfl rfl (by (try simp only [List.map_toArray, List.map_cons, List.map_nil]); first | done | rfl | (simp only [hq.1]; done) | (simp only [hq.1]; rfl) | (simp only [List.length_drop, List.length_take]; rfl)) ?_
            refine Calls.mono (calls_of_args (by first | ((try simp only [hq.1]) <;> rfl) | fail) (strings_HasPrefix.calls a0_2 (⟨#[48, 48]⟩ : ByteArray) t171 _ A3.out)) ?_
            rintro e w' ⟨he_, ⟨nd, rfl⟩⟩
            subst he_
            replace HO := Aside0.mk (Ow.Own.drewN HO.out nd); (try simp only [World.drewN_drewN] at HO)
            refine ⟨_, rfl, ?_⟩
            refine hK.out _ _ (by have h_ := Ow.Own.pick [0, 1] HO.out (by decide); exact h_) (fun hHeld => ?_)
            clear hK K
            refine norm_ (a' := ?_) ?_ ?_
            rotate_left
            · show Act.put _ (some 27) _ = _
              simp only [Act.put, List.setIfInBounds_toArray, List.set_cons_zero, List.set_cons_succ, i64_w, i32_w]
              rfl
            refine one_ (i := 12) (N := some 28) (Ow.B 19 73727) rfl rfl (one_of HT_.out (by kernel_rfl)) (by decide) (fun K hK => ?_)
            refine goes_ Try.func73 (by kernel_rfl) rfl #[.agg #[.string a0_14, .string a0_15, .string a0_16, .int .i64 a0_17, .int .i64 a0_18, .int .i64 a0_19, .bool a0_20], .int .i64 a0_3, .bool t171] (by rfl) rfl rfl (by (try simp only [List.map_toArray, List.map_cons, List.map_nil]); first | done | rfl | (simp only [hq.1]; done) | (simp only [hq.1]; rfl) | (simp only [List.length_drop, List.length_take]; rfl)) ?_
            refine Calls.mono (calls_of_args (by first | ((try simp only [hq.1]) <;> rfl) | fail) (hold_Take.calls a0_14 a0_15 a0_16 a0_17 a0_18 a0_19 a0_20 a0_3 t171 t172 t173 t174 t175 t176 t177 t178 t179 _ A4.out)) ?_
            rintro e w36 ⟨he_, hb⟩
            subst he_
            replace HO := Aside0.mk (Ow.Own.call HO.out hb)
            clear hb
            refine ⟨_, rfl, ?_⟩
            refine hK.out _ _ (by have h_ := Ow.Own.pick [0, 1] HO.out (by decide); exact h_) (fun hHeld => ?_)
            clear hK K
            refine norm_ (a' := ?_) ?_ ?_
            rotate_left
            · show Act.put _ (some 28) _ = _
              simp only [Act.put, List.setIfInBounds_toArray, List.set_cons_zero, List.set_cons_succ, i64_w, i32_w]
              rfl
            refine pure_ (i := 13) (N := some 15) (v := ?_) (a' := ?_) (Ow.B 19 81919) rfl rfl (any_of HT_.out (by kernel_rfl)) (fun _ _ _ h => h) (Or.inl ⟨by rfl, ?_⟩) ?_ ?_
            rotate_left
            · intro w'
              (try (with_reducible refine Ow.gate_eql (by first | exact Or.inl rfl | exact Or.inr rfl) rfl ?_; simp only [hq.1, Ow.part, Ot.sz, Ot.zero, Ow.over, Ow.overL, List.drop_succ_cons, List.drop_zero, List.take_succ_cons, List.take_zero]))
              go_simp
              with_reducible rfl
            rotate_left
            · simp only [Act.put, List.setIfInBounds_toArray, List.set_cons_zero, List.set_cons_succ, i64_w, i32_w]
              rfl
            refine pure_ (i := 14) (N := some 29) (v := ?_) (a' := ?_) (Ow.B 19 98303) rfl rfl (any_of HT_.out (by kernel_rfl)) (fun _ _ _ h => h) (Or.inl ⟨by rfl, ?_⟩) ?_ ?_
            rotate_left
            · intro w'
              (try (with_reducible refine Ow.gate_eql (by first | exact Or.inl rfl | exact Or.inr rfl) rfl ?_; simp only [hq.1, Ow.part, Ot.sz, Ot.zero, Ow.over, Ow.overL, List.drop_succ_cons, List.drop_zero, List.take_succ_cons, List.take_zero]))
              go_simp
              with_reducible rfl
            rotate_left
            · simp only [Act.put, List.setIfInBounds_toArray, List.set_cons_zero, List.set_cons_succ, i64_w, i32_w]
              rfl
            refine pure_ (i := 15) (N := some 30) (v := ?_) (a' := ?_) (Ow.B 19 131071) rfl rfl (any_of HT_.out (by kernel_rfl)) (fun _ _ _ h => h) (Or.inl ⟨by rfl, ?_⟩) ?_ ?_
            rotate_left
            · intro w'
              (try (with_reducible refine Ow.gate_eql (by first | exact Or.inl rfl | exact Or.inr rfl) rfl ?_; simp only [hq.1, Ow.part, Ot.sz, Ot.zero, Ow.over, Ow.overL, List.drop_succ_cons, List.drop_zero, List.take_succ_cons, List.take_zero]))
              go_simp
              with_reducible rfl
            rotate_left
            · simp only [Act.put, List.setIfInBounds_toArray, List.set_cons_zero, List.set_cons_succ, i64_w, i32_w]
              rfl
            exact norm_ (by simp only [putAll, Act.put, List.setIfInBounds_toArray, List.set_cons_zero, List.set_cons_succ]) (hCont (gb180) _ (Ow.Own.cong (Ow.Own.pick [0, 1, 2] HO.out (by decide)) (by first | ((try simp only [hq.1]) <;> rfl) | fail)))
        rintro gb180 w37 HO7_
        clear HO
        have HO := Aside0.mk HO7_
        clear HO7_
        have hHeld := Ow.Own.pick [0, 1] HO.out (by decide)
        refine norm_ (a' := ?_) ?_ ?_
        rotate_left
        · simp only [putAll, Act.put, List.setIfInBounds_toArray, List.set_cons_zero, List.set_cons_succ]
          rfl
        refine one_ (i := 17) (N := none) (Ow.B 19 262143) rfl rfl (one_of HT_.out (by kernel_rfl)) (by decide) (fun K hK => ?_)
        refine Ow.oskip Ot.ty HO.out (by rfl) rfl rfl rfl rfl (by with_reducible first | exact Ow.at0 | exact Ow.at1 | exact Ow.at2) (by first | exact Ow.ev_tmp rfl | rfl) (by first | ((try simp only [hq.1]) <;> rfl) | fail) (by first | ((try simp only [hq.1]) <;> rfl) | fail) (by first | ((try simp only [hq.1]) <;> rfl) | fail) ?_
        clear HO; intro wz_ HO; simp only [List.set_cons_zero, List.set_cons_succ] at HO
        refine hK.out _ _ (by have h_ := Ow.Own.pick [0, 1] HO.out (by decide); exact h_) (fun hHeld => ?_)
        clear hK K
        refine pure_ (i := 18) (N := some 4) (v := ?_) (a' := ?_) (Ow.B 19 524287) rfl rfl (any_of HT_.out (by kernel_rfl)) (fun _ _ _ h => h) (Or.inl ⟨by rfl, ?_⟩) ?_ ?_
        rotate_left
        · intro w'
          (try (with_reducible refine Ow.gate_eql (by first | exact Or.inl rfl | exact Or.inr rfl) rfl ?_; simp only [hq.1, Ow.part, Ot.sz, Ot.zero, Ow.over, Ow.overL, List.drop_succ_cons, List.drop_zero, List.take_succ_cons, List.take_zero]))
          go_simp
          with_reducible rfl
        rotate_left
        · simp only [Act.put, List.setIfInBounds_toArray, List.set_cons_zero, List.set_cons_succ, i64_w, i32_w]
          rfl
        refine done_ (done_of HT_.out (by kernel_rfl)) ?_
        try go_wp2_with (first | ((with_reducible refine Ow.gate_build rfl ?_); (try (refine gate_guard (by rfl) ?_; dsimp only)); refine' Ow.tbuild Ot.bd rfl rfl rfl ?hf_ ?_; (case hf_ => repeat (any_goals (first | exact Ow.Fills.nil | (refine' Ow.Fills.c ?hv_ rfl ?hz_ ?_; (case hv_ => first | exact Ow.ev_tmp rfl | rfl); (case hz_ => first | (refine ⟨?_, ?_⟩ <;> (first | ((try simp only [hq.1]) <;> rfl) | fail)) | fail)))))) | ((with_reducible refine Ow.gate_load rfl ?_); (try (refine gate_guard (by rfl) ?_; dsimp only)); (first | refine Ow.l1 Ot.ty HO.out rfl rfl rfl rfl (by first | ((try simp only [hq.1]) <;> rfl) | fail) ?_ | refine Ow.l0 Ot.ty HO.out rfl rfl rfl rfl (by first | ((try simp only [hq.1]) <;> rfl) | fail) ?_ | refine Ow.lp Ot.ty HO.out rfl rfl rfl rfl (by first | ((try simp only [hq.1]) <;> rfl) | fail) ?_)) | ((with_reducible refine gate_store rfl ?_); (try (refine gate_guard (by rfl) ?_; dsimp only)); (first | refine Ow.s0 Ot.ty HO.out rfl rfl rfl rfl rfl (by first | exact Ow.ev_tmp rfl | rfl) (by first | (refine ⟨?_, ?_, ?_⟩ <;> (first | ((try simp only [hq.1]) <;> rfl) | fail)) | fail) ?_ | refine Ow.sp Ot.ty HO.out rfl rfl rfl rfl rfl (by first | exact Ow.ev_tmp rfl | rfl) (by first | (refine ⟨?_, ?_, ?_⟩ <;> (first | ((try simp only [hq.1]) <;> rfl) | fail)) | fail) ?_); clear HO; intro wz_ HO; simp only [List.set_cons_zero, List.set_cons_succ] at HO))
        refine' bodyPost_ret (results_cell_row rfl _ _ gb170 53 _ (0, 0) _ rfl ?hb_ Try.underlying53 rfl ?hi_) rfl ?_
        case hb_ => refine' Ow.Own.get HO.out 1 ?hk_; (case hk_ => rfl)
        case hi_ => exact (Ot.ty.size 53 rfl).trans (congrArg some (by first | ((try simp only [hq.1]) <;> rfl) | fail))
        all_goals exact ⟨by first | rfl | (simp only [hq.1]; done) | (simp only [hq.1]; rfl) | (simp [errW_none, errW_some] <;> rfl) | (simp [*, errW_none, errW_some] <;> rfl), Ow.Own.below HO.out⟩
      · rw [if_neg c29] at H
        have c29b0 : (t179 == 14) = false := beq_eq_false_iff_ne.mpr c29
        have c29b1 : (t179 != 14) = true := bne_iff_ne.mpr c29
        simp only [Option.some.injEq, Prod.mk.injEq] at H
        obtain ⟨rfl, rfl, rfl, rfl, rfl, rfl, rfl, rfl, rfl, rfl, rfl, rfl, rfl, rfl, rfl⟩ := H
        obtain ⟨Q3, hQ3_⟩ : ∃ q_ : Array Value, q_ = (#[.string a0_0, .string a0_1, .string a0_2, .int .i64 a0_3, .string a0_4, .string a0_5, .string a0_6, .string a0_7, .string a0_8, .int .i64 a0_9, .int .i64 a0_10, .string a0_11, .bool a0_12, .int .i64 a0_13, .string a0_14, .string a0_15, .string a0_16, .int .i64 a0_17, .int .i64 a0_18, .int .i64 a0_19, .bool a0_20, .bool a0_21, .int .i64 a0_22, .int .i64 a0_23, .bool a0_24] : Array Value) := ⟨_, rfl⟩
        try rw [← hQ3_]
        have hQ3 := Aside0.mk hQ3_; have hq := Aside0.mk hQ3_; clear hQ3_
        go_enter Try.func55, Try.ntmps55
        try go_wp2_with (first | ((with_reducible refine gate_dst (N := 1) rfl ?_); refine Ow.box rfl (N := 1) rfl (cs := Q3) (t := 79) HO.out (by first | (go_simp; done) | (go_simp; rfl)) ?_; clear HO; intro gb169 w47 HO; simp only [List.cons_append, List.nil_append] at HO) | ((with_reducible refine gate_dst (N := 2) rfl ?_); refine Ow.box rfl (N := 2) rfl (cs := capture_asked_held.Z15) (t := 53) HO.out (by first | (go_simp; done) | (go_simp; rfl)) ?_; clear HO; intro gb170 w48 HO; simp only [List.cons_append, List.nil_append] at HO) | ((with_reducible refine Ow.gate_build rfl ?_); (try (refine gate_guard (by rfl) ?_; dsimp only)); refine' Ow.tbuild Ot.bd rfl rfl rfl ?hf_ ?_; (case hf_ => repeat (any_goals (first | exact Ow.Fills.nil | (refine' Ow.Fills.c ?hv_ rfl ?hz_ ?_; (case hv_ => first | exact Ow.ev_tmp rfl | rfl); (case hz_ => first | (refine ⟨?_, ?_⟩ <;> (first | ((try simp only [hq.1]) <;> rfl) | fail)) | fail)))))) | ((with_reducible refine Ow.gate_load rfl ?_); (try (refine gate_guard (by rfl) ?_; dsimp only)); (first | refine Ow.l1 Ot.ty HO.out rfl rfl rfl rfl (by first | ((try simp only [hq.1]) <;> rfl) | fail) ?_ | refine Ow.l0 Ot.ty HO.out rfl rfl rfl rfl (by first | ((try simp only [hq.1]) <;> rfl) | fail) ?_ | refine Ow.lp Ot.ty HO.out rfl rfl rfl rfl (by first | ((try simp only [hq.1]) <;> rfl) | fail) ?_)) | ((with_reducible refine gate_store rfl ?_); (try (refine gate_guard (by rfl) ?_; dsimp only)); (first | refine Ow.s0 Ot.ty HO.out rfl rfl rfl rfl rfl (by first | exact Ow.ev_tmp rfl | rfl) (by first | (refine ⟨?_, ?_, ?_⟩ <;> (first | ((try simp only [hq.1]) <;> rfl) | fail)) | fail) ?_ | refine Ow.sp Ot.ty HO.out rfl rfl rfl rfl rfl (by first | exact Ow.ev_tmp rfl | rfl) (by first | (refine ⟨?_, ?_, ?_⟩ <;> (first | ((try simp only [hq.1]) <;> rfl) | fail)) | fail) ?_); clear HO; intro wz_ HO; simp only [List.set_cons_zero, List.set_cons_succ] at HO))
        refine Ow.ostart (n := 19) (ds := []) (Ow.B 19 0) HO.out (by kernel_rfl) rfl (by kernel_rfl) ?_
        intro hHeld; replace HO := Aside0.mk hHeld; refine with_tabW capture_asked_held.tab3 capture_asked_held.bits3 (fun HT_ HW_ => ?_)
        refine pure_ (i := 0) (N := some 16) (v := ?_) (a' := ?_) (Ow.B 19 1) rfl rfl (any_of HT_.out (by kernel_rfl)) (fun _ _ _ h => h) (Or.inl ⟨by rfl, ?_⟩) ?_ ?_
        rotate_left
        · intro w'
          (try (with_reducible refine Ow.gate_eql (by first | exact Or.inl rfl | exact Or.inr rfl) rfl ?_; simp only [hq.1, Ow.part, Ot.sz, Ot.zero, Ow.over, Ow.overL, List.drop_succ_cons, List.drop_zero, List.take_succ_cons, List.take_zero]))
          go_simp
          with_reducible rfl
        rotate_left
        · simp only [Act.put, List.setIfInBounds_toArray, List.set_cons_zero, List.set_cons_succ, i64_w, i32_w]
          rfl
        refine pure_ (i := 1) (N := some 17) (v := ?_) (a' := ?_) (Ow.B 19 3) rfl rfl (any_of HT_.out (by kernel_rfl)) (fun _ _ _ h => h) (Or.inl ⟨by rfl, ?_⟩) ?_ ?_
        rotate_left
        · intro w'
          (try (with_reducible refine Ow.gate_eql (by first | exact Or.inl rfl | exact Or.inr rfl) rfl ?_; simp only [hq.1, Ow.part, Ot.sz, Ot.zero, Ow.over, Ow.overL, List.drop_succ_cons, List.drop_zero, List.take_succ_cons, List.take_zero]))
          go_simp
          with_reducible rfl
        rotate_left
        · simp only [Act.put, List.setIfInBounds_toArray, List.set_cons_zero, List.set_cons_succ, i64_w, i32_w]
          rfl
        refine pure_ (i := 3) (N := some 19) (v := ?_) (a' := ?_) (Ow.B 19 11) rfl rfl (any_of HT_.out (by kernel_rfl)) (fun _ _ _ h => h) (Or.inl ⟨by rfl, ?_⟩) ?_ ?_
        rotate_left
        · intro w'
          (try (with_reducible refine Ow.gate_eql (by first | exact Or.inl rfl | exact Or.inr rfl) rfl ?_; simp only [hq.1, Ow.part, Ot.sz, Ot.zero, Ow.over, Ow.overL, List.drop_succ_cons, List.drop_zero, List.take_succ_cons, List.take_zero]))
          go_simp
          with_reducible rfl
        rotate_left
        · simp only [Act.put, List.setIfInBounds_toArray, List.set_cons_zero, List.set_cons_succ, i64_w, i32_w]
          rfl
        refine pure_ (i := 4) (N := some 20) (v := ?_) (a' := ?_) (Ow.B 19 27) rfl rfl (any_of HT_.out (by kernel_rfl)) (fun _ _ _ h => h) (Or.inl ⟨by rfl, ?_⟩) ?_ ?_
        rotate_left
        · intro w'
          (try (with_reducible refine Ow.gate_eql (by first | exact Or.inl rfl | exact Or.inr rfl) rfl ?_; simp only [hq.1, Ow.part, Ot.sz, Ot.zero, Ow.over, Ow.overL, List.drop_succ_cons, List.drop_zero, List.take_succ_cons, List.take_zero]))
          go_simp
          with_reducible rfl
        rotate_left
        · simp only [Act.put, List.setIfInBounds_toArray, List.set_cons_zero, List.set_cons_succ, i64_w, i32_w]
          rfl
        refine pure_ (i := 5) (N := some 21) (v := ?_) (a' := ?_) (Ow.B 19 59) rfl rfl (any_of HT_.out (by kernel_rfl)) (fun _ _ _ h => h) (Or.inl ⟨by rfl, ?_⟩) ?_ ?_
        rotate_left
        · intro w'
          (try (with_reducible refine Ow.gate_eql (by first | exact Or.inl rfl | exact Or.inr rfl) rfl ?_; simp only [hq.1, Ow.part, Ot.sz, Ot.zero, Ow.over, Ow.overL, List.drop_succ_cons, List.drop_zero, List.take_succ_cons, List.take_zero]))
          go_simp
          with_reducible rfl
        rotate_left
        · simp only [Act.put, List.setIfInBounds_toArray, List.set_cons_zero, List.set_cons_succ, i64_w, i32_w]
          rfl
        refine pure_ (i := 7) (N := some 23) (v := ?_) (a' := ?_) (Ow.B 19 187) rfl rfl (any_of HT_.out (by kernel_rfl)) (fun _ _ _ h => h) (Or.inl ⟨by rfl, ?_⟩) ?_ ?_
        rotate_left
        · intro w'
          (try (with_reducible refine Ow.gate_eql (by first | exact Or.inl rfl | exact Or.inr rfl) rfl ?_; simp only [hq.1, Ow.part, Ot.sz, Ot.zero, Ow.over, Ow.overL, List.drop_succ_cons, List.drop_zero, List.take_succ_cons, List.take_zero]))
          go_simp
          with_reducible rfl
        rotate_left
        · simp only [Act.put, List.setIfInBounds_toArray, List.set_cons_zero, List.set_cons_succ, i64_w, i32_w]
          rfl
        refine pure_ (i := 8) (N := some 24) (v := ?_) (a' := ?_) (Ow.B 19 443) rfl rfl (any_of HT_.out (by kernel_rfl)) (fun _ _ _ h => h) (Or.inl ⟨by rfl, ?_⟩) ?_ ?_
        rotate_left
        · intro w'
          (try (with_reducible refine Ow.gate_eql (by first | exact Or.inl rfl | exact Or.inr rfl) rfl ?_; simp only [hq.1, Ow.part, Ot.sz, Ot.zero, Ow.over, Ow.overL, List.drop_succ_cons, List.drop_zero, List.take_succ_cons, List.take_zero]))
          go_simp
          with_reducible rfl
        rotate_left
        · simp only [Act.put, List.setIfInBounds_toArray, List.set_cons_zero, List.set_cons_succ, i64_w, i32_w]
          rfl
        refine pure_ (i := 9) (N := some 25) (v := ?_) (a' := ?_) (Ow.B 19 955) rfl rfl (any_of HT_.out (by kernel_rfl)) (fun _ _ _ h => h) (Or.inl ⟨by rfl, ?_⟩) ?_ ?_
        rotate_left
        · intro w'
          (try (with_reducible refine Ow.gate_eql (by first | exact Or.inl rfl | exact Or.inr rfl) rfl ?_; simp only [hq.1, Ow.part, Ot.sz, Ot.zero, Ow.over, Ow.overL, List.drop_succ_cons, List.drop_zero, List.take_succ_cons, List.take_zero]))
          go_simp
          with_reducible rfl
        rotate_left
        · simp only [Act.put, List.setIfInBounds_toArray, List.set_cons_zero, List.set_cons_succ, i64_w, i32_w]
          rfl
        refine take_ (i := 2) (N := some 18) (v := ?_) (a' := ?_) (Ow.B 19 959) rfl rfl (take_ofW HT_.out HW_.out (by kernel_rfl)) (fun _ _ _ h => h) (Or.inl ⟨by rfl, ?_⟩) hHeld ?_ ?_
        rotate_left
        · intro w' s_
          first | (refine' Ow.rload1 Ot.ty s_ rfl rfl rfl ?hk_ ?hs_; (case hk_ => exact (by with_reducible first | exact Ow.at0 | exact Ow.at1)); (case hs_ => first | ((try simp only [hq.1]) <;> rfl) | fail)) | (refine' Ow.rload0 Ot.ty s_ rfl rfl rfl ?hk_ ?hs_; (case hk_ => exact (by with_reducible first | exact Ow.at0 | exact Ow.at1)); (case hs_ => first | ((try simp only [hq.1]) <;> rfl) | fail)) | (refine' Ow.rloadp Ot.ty s_ rfl rfl rfl ?hk_ ?hs_; (case hk_ => exact (by with_reducible first | exact Ow.at0 | exact Ow.at1)); (case hs_ => first | ((try simp only [hq.1]) <;> rfl) | fail)) | (go_simp; with_reducible rfl)
        rotate_left
        · simp only [Act.put, List.setIfInBounds_toArray, List.set_cons_zero, List.set_cons_succ, i64_w, i32_w]
          rfl
        refine take_ (i := 6) (N := some 22) (v := ?_) (a' := ?_) (Ow.B 19 1023) rfl rfl (take_ofW HT_.out HW_.out (by kernel_rfl)) (fun _ _ _ h => h) (Or.inl ⟨by rfl, ?_⟩) hHeld ?_ ?_
        rotate_left
        · intro w' s_
          first | (refine' Ow.rload1 Ot.ty s_ rfl rfl rfl ?hk_ ?hs_; (case hk_ => exact (by with_reducible first | exact Ow.at0 | exact Ow.at1)); (case hs_ => first | ((try simp only [hq.1]) <;> rfl) | fail)) | (refine' Ow.rload0 Ot.ty s_ rfl rfl rfl ?hk_ ?hs_; (case hk_ => exact (by with_reducible first | exact Ow.at0 | exact Ow.at1)); (case hs_ => first | ((try simp only [hq.1]) <;> rfl) | fail)) | (refine' Ow.rloadp Ot.ty s_ rfl rfl rfl ?hk_ ?hs_; (case hk_ => exact (by with_reducible first | exact Ow.at0 | exact Ow.at1)); (case hs_ => first | ((try simp only [hq.1]) <;> rfl) | fail)) | (go_simp; with_reducible rfl)
        rotate_left
        · simp only [Act.put, List.setIfInBounds_toArray, List.set_cons_zero, List.set_cons_succ, i64_w, i32_w]
          rfl
        refine take_ (i := 10) (N := some 26) (v := ?_) (a' := ?_) (Ow.B 19 2047) rfl rfl (take_ofW HT_.out HW_.out (by kernel_rfl)) (fun _ _ _ h => h) (Or.inl ⟨by rfl, ?_⟩) hHeld ?_ ?_
        rotate_left
        · intro w' s_
          first | (refine' Ow.rload1 Ot.ty s_ rfl rfl rfl ?hk_ ?hs_; (case hk_ => exact (by with_reducible first | exact Ow.at0 | exact Ow.at1)); (case hs_ => first | ((try simp only [hq.1]) <;> rfl) | fail)) | (refine' Ow.rload0 Ot.ty s_ rfl rfl rfl ?hk_ ?hs_; (case hk_ => exact (by with_reducible first | exact Ow.at0 | exact Ow.at1)); (case hs_ => first | ((try simp only [hq.1]) <;> rfl) | fail)) | (refine' Ow.rloadp Ot.ty s_ rfl rfl rfl ?hk_ ?hs_; (case hk_ => exact (by with_reducible first | exact Ow.at0 | exact Ow.at1)); (case hs_ => first | ((try simp only [hq.1]) <;> rfl) | fail)) | (go_simp; with_reducible rfl)
        rotate_left
        · simp only [Act.put, List.setIfInBounds_toArray, List.set_cons_zero, List.set_cons_succ, i64_w, i32_w]
          rfl
        refine join_ (σ := Nat) 2 (Ow.B 19 131071) (fun s_ => [(27, .bool t171), (28, .tuple #[.agg #[.string t172, .string t173, .string t174, .int .i64 t175, .int .i64 t176, .int .i64 t177, .bool t178], .int .i64 t179]), (3, .pointer (some ⟨s_, 0, none⟩)), (15, .tuple #[.agg #[.string t172, .string t173, .string t174, .int .i64 t175, .int .i64 t176, .int .i64 t177, .bool t178], .int .i64 t179]), (29, .agg #[.string t172, .string t173, .string t174, .int .i64 t175, .int .i64 t176, .int .i64 t177, .bool t178]), (30, .int .i64 t179)]) (fun s_ w' => Ow.Own w w' [(gb169, Q3, 79), (gb170, capture_asked_held.Z15, 53), (s_, capture_asked_held.Z7, 25)]) ?_ ?_
        rotate_left
        · intro hCont
          refine two_ (i := 11) (j := 16) (Ni := some 27) (Nj := some 3) (Ow.B 19 4095) (Ow.B 19 67583) rfl rfl rfl rfl (two_of HT_.out (by kernel_rfl)) (by decide) (by decide) (fun K hK => ?_) (fun K hK => ?_)
          · skip
            refine goes_ Try.func42 (by kernel_rfl) rfl #[.string a0_2, .string (⟨#[48, 48]⟩ : ByteArray)] (by rfl) rfl rfl (by (try simp only [List.map_toArray, List.map_cons, List.map_nil]); first | done | rfl | (simp only [hq.1]; done) | (simp only [hq.1]; rfl) | (simp only [List.length_drop, List.length_take]; rfl)) ?_
            refine Calls.mono (calls_of_args (by first | ((try simp only [hq.1]) <;> rfl) | fail) (strings_HasPrefix.calls a0_2 (⟨#[48, 48]⟩ : ByteArray) t171 _ A3.out)) ?_
            rintro e w' ⟨he_, ⟨nd, rfl⟩⟩
            subst he_
            replace HO := Aside0.mk (Ow.Own.drewN HO.out nd); (try simp only [World.drewN_drewN] at HO)
            refine ⟨_, rfl, ?_⟩
            refine hK.out _ _ HO.out (fun hHeld => ?_)
            clear hK K
            refine norm_ (a' := ?_) ?_ ?_
            rotate_left
            · show Act.put _ (some 27) _ = _
              simp only [Act.put, List.setIfInBounds_toArray, List.set_cons_zero, List.set_cons_succ, i64_w, i32_w]
              rfl
            refine two_ (i := 12) (j := 16) (Ni := some 28) (Nj := some 3) (Ow.B 19 8191) (Ow.B 19 69631) rfl rfl rfl rfl (two_of HT_.out (by kernel_rfl)) (by decide) (by decide) (fun K hK => ?_) (fun K hK => ?_)
            · skip
              refine goes_ Try.func73 (by kernel_rfl) rfl #[.agg #[.string a0_14, .string a0_15, .string a0_16, .int .i64 a0_17, .int .i64 a0_18, .int .i64 a0_19, .bool a0_20], .int .i64 a0_3, .bool t171] (by rfl) rfl rfl (by (try simp only [List.map_toArray, List.map_cons, List.map_nil]); first | done | rfl | (simp only [hq.1]; done) | (simp only [hq.1]; rfl) | (simp only [List.length_drop, List.length_take]; rfl)) ?_
              refine Calls.mono (calls_of_args (by first | ((try simp only [hq.1]) <;> rfl) | fail) (hold_Take.calls a0_14 a0_15 a0_16 a0_17 a0_18 a0_19 a0_20 a0_3 t171 t172 t173 t174 t175 t176 t177 t178 t179 _ A4.out)) ?_
              rintro e w52 ⟨he_, hb⟩
              subst he_
              replace HO := Aside0.mk (Ow.Own.call HO.out hb)
              clear hb
              refine ⟨_, rfl, ?_⟩
              refine hK.out _ _ HO.out (fun hHeld => ?_)
              clear hK K
              refine norm_ (a' := ?_) ?_ ?_
              rotate_left
              · show Act.put _ (some 28) _ = _
                simp only [Act.put, List.setIfInBounds_toArray, List.set_cons_zero, List.set_cons_succ, i64_w, i32_w]
                rfl
              refine pure_ (i := 13) (N := some 15) (v := ?_) (a' := ?_) (Ow.B 19 16383) rfl rfl (any_of HT_.out (by kernel_rfl)) (fun _ _ _ h => h) (Or.inl ⟨by rfl, ?_⟩) ?_ ?_
              rotate_left
              · intro w'
                (try (with_reducible refine Ow.gate_eql (by first | exact Or.inl rfl | exact Or.inr rfl) rfl ?_; simp only [hq.1, Ow.part, Ot.sz, Ot.zero, Ow.over, Ow.overL, List.drop_succ_cons, List.drop_zero, List.take_succ_cons, List.take_zero]))
                go_simp
                with_reducible rfl
              rotate_left
              · simp only [Act.put, List.setIfInBounds_toArray, List.set_cons_zero, List.set_cons_succ, i64_w, i32_w]
                rfl
              refine pure_ (i := 14) (N := some 29) (v := ?_) (a' := ?_) (Ow.B 19 32767) rfl rfl (any_of HT_.out (by kernel_rfl)) (fun _ _ _ h => h) (Or.inl ⟨by rfl, ?_⟩) ?_ ?_
              rotate_left
              · intro w'
                (try (with_reducible refine Ow.gate_eql (by first | exact Or.inl rfl | exact Or.inr rfl) rfl ?_; simp only [hq.1, Ow.part, Ot.sz, Ot.zero, Ow.over, Ow.overL, List.drop_succ_cons, List.drop_zero, List.take_succ_cons, List.take_zero]))
                go_simp
                with_reducible rfl
              rotate_left
              · simp only [Act.put, List.setIfInBounds_toArray, List.set_cons_zero, List.set_cons_succ, i64_w, i32_w]
                rfl
              refine pure_ (i := 15) (N := some 30) (v := ?_) (a' := ?_) (Ow.B 19 65535) rfl rfl (any_of HT_.out (by kernel_rfl)) (fun _ _ _ h => h) (Or.inl ⟨by rfl, ?_⟩) ?_ ?_
              rotate_left
              · intro w'
                (try (with_reducible refine Ow.gate_eql (by first | exact Or.inl rfl | exact Or.inr rfl) rfl ?_; simp only [hq.1, Ow.part, Ot.sz, Ot.zero, Ow.over, Ow.overL, List.drop_succ_cons, List.drop_zero, List.take_succ_cons, List.take_zero]))
                go_simp
                with_reducible rfl
              rotate_left
              · simp only [Act.put, List.setIfInBounds_toArray, List.set_cons_zero, List.set_cons_succ, i64_w, i32_w]
                rfl
              refine one_ (i := 16) (N := some 3) (Ow.B 19 131071) rfl rfl (one_of HT_.out (by kernel_rfl)) (by decide) (fun K hK => ?_)
              refine box_step ?hg (N := 3) ?hd (cs := capture_asked_held.Z7) (t := 25) ?hr ?_; (case hd => rfl); (case hg => rfl); (case hr => first | (go_simp; done) | (go_simp; rfl))
              intro gb180 hg w53 hbox hb
              replace HO := Aside0.mk (Ow.Own.add HO.out hg hbox hb)
              clear hb hbox hg
              simp only [List.cons_append, List.nil_append] at HO
              refine hK.out _ _ (by have h_ := Ow.Own.pick [0, 1] HO.out (by decide); exact h_) (fun hHeld => ?_)
              clear hK K
              refine norm_ (a' := ?_) ?_ ?_
              rotate_left
              · show Act.put _ (some 3) _ = _
                simp only [Act.put, List.setIfInBounds_toArray, List.set_cons_zero, List.set_cons_succ, i64_w, i32_w]
                rfl
              exact norm_ (by simp only [putAll, Act.put, List.setIfInBounds_toArray, List.set_cons_zero, List.set_cons_succ]) (hCont (gb180) _ (Ow.Own.cong (Ow.Own.pick [0, 1, 2] HO.out (by decide)) (by first | ((try simp only [hq.1]) <;> rfl) | fail)))
            · skip
              refine box_step ?hg (N := 3) ?hd (cs := capture_asked_held.Z7) (t := 25) ?hr ?_; (case hd => rfl); (case hg => rfl); (case hr => first | (go_simp; done) | (go_simp; rfl))
              intro gb180 hg w52 hbox hb
              replace HO := Aside0.mk (Ow.Own.add HO.out hg hbox hb)
              clear hb hbox hg
              simp only [List.cons_append, List.nil_append] at HO
              refine hK.out _ _ (by have h_ := Ow.Own.pick [0, 1] HO.out (by decide); exact h_) (fun hHeld => ?_)
              clear hK K
              refine norm_ (a' := ?_) ?_ ?_
              rotate_left
              · show Act.put _ (some 3) _ = _
                simp only [Act.put, List.setIfInBounds_toArray, List.set_cons_zero, List.set_cons_succ, i64_w, i32_w]
                rfl
              refine one_ (i := 12) (N := some 28) (Ow.B 19 73727) rfl rfl (one_of HT_.out (by kernel_rfl)) (by decide) (fun K hK => ?_)
              refine goes_ Try.func73 (by kernel_rfl) rfl #[.agg #[.string a0_14, .string a0_15, .string a0_16, .int .i64 a0_17, .int .i64 a0_18, .int .i64 a0_19, .bool a0_20], .int .i64 a0_3, .bool t171] (by rfl) rfl rfl (by (try simp only [List.map_toArray, List.map_cons, List.map_nil]); first | done | rfl | (simp only [hq.1]; done) | (simp only [hq.1]; rfl) | (simp only [List.length_drop, List.length_take]; rfl)) ?_
              refine Calls.mono (calls_of_args (by first | ((try simp only [hq.1]) <;> rfl) | fail) (hold_Take.calls a0_14 a0_15 a0_16 a0_17 a0_18 a0_19 a0_20 a0_3 t171 t172 t173 t174 t175 t176 t177 t178 t179 _ A4.out)) ?_
              rintro e w53 ⟨he_, hb⟩
              subst he_
              replace HO := Aside0.mk (Ow.Own.call HO.out hb)
              clear hb
              refine ⟨_, rfl, ?_⟩
              refine hK.out _ _ (by have h_ := Ow.Own.pick [0, 1] HO.out (by decide); exact h_) (fun hHeld => ?_)
              clear hK K
              refine norm_ (a' := ?_) ?_ ?_
              rotate_left
              · show Act.put _ (some 28) _ = _
                simp only [Act.put, List.setIfInBounds_toArray, List.set_cons_zero, List.set_cons_succ, i64_w, i32_w]
                rfl
              refine pure_ (i := 13) (N := some 15) (v := ?_) (a' := ?_) (Ow.B 19 81919) rfl rfl (any_of HT_.out (by kernel_rfl)) (fun _ _ _ h => h) (Or.inl ⟨by rfl, ?_⟩) ?_ ?_
              rotate_left
              · intro w'
                (try (with_reducible refine Ow.gate_eql (by first | exact Or.inl rfl | exact Or.inr rfl) rfl ?_; simp only [hq.1, Ow.part, Ot.sz, Ot.zero, Ow.over, Ow.overL, List.drop_succ_cons, List.drop_zero, List.take_succ_cons, List.take_zero]))
                go_simp
                with_reducible rfl
              rotate_left
              · simp only [Act.put, List.setIfInBounds_toArray, List.set_cons_zero, List.set_cons_succ, i64_w, i32_w]
                rfl
              refine pure_ (i := 14) (N := some 29) (v := ?_) (a' := ?_) (Ow.B 19 98303) rfl rfl (any_of HT_.out (by kernel_rfl)) (fun _ _ _ h => h) (Or.inl ⟨by rfl, ?_⟩) ?_ ?_
              rotate_left
              · intro w'
                (try (with_reducible refine Ow.gate_eql (by first | exact Or.inl rfl | exact Or.inr rfl) rfl ?_; simp only [hq.1, Ow.part, Ot.sz, Ot.zero, Ow.over, Ow.overL, List.drop_succ_cons, List.drop_zero, List.take_succ_cons, List.take_zero]))
                go_simp
                with_reducible rfl
              rotate_left
              · simp only [Act.put, List.setIfInBounds_toArray, List.set_cons_zero, List.set_cons_succ, i64_w, i32_w]
                rfl
              refine pure_ (i := 15) (N := some 30) (v := ?_) (a' := ?_) (Ow.B 19 131071) rfl rfl (any_of HT_.out (by kernel_rfl)) (fun _ _ _ h => h) (Or.inl ⟨by rfl, ?_⟩) ?_ ?_
              rotate_left
              · intro w'
                (try (with_reducible refine Ow.gate_eql (by first | exact Or.inl rfl | exact Or.inr rfl) rfl ?_; simp only [hq.1, Ow.part, Ot.sz, Ot.zero, Ow.over, Ow.overL, List.drop_succ_cons, List.drop_zero, List.take_succ_cons, List.take_zero]))
                go_simp
                with_reducible rfl
              rotate_left
              · simp only [Act.put, List.setIfInBounds_toArray, List.set_cons_zero, List.set_cons_succ, i64_w, i32_w]
                rfl
              exact norm_ (by simp only [putAll, Act.put, List.setIfInBounds_toArray, List.set_cons_zero, List.set_cons_succ]) (hCont (gb180) _ (Ow.Own.cong (Ow.Own.pick [0, 1, 2] HO.out (by decide)) (by first | ((try simp only [hq.1]) <;> rfl) | fail)))
          · skip
            refine box_step ?hg (N := 3) ?hd (cs := capture_asked_held.Z7) (t := 25) ?hr ?_; (case hd => rfl); (case hg => rfl); (case hr => first | (go_simp; done) | (go_simp; rfl))
            intro gb180 hg w52 hbox hb
            replace HO := Aside0.mk (Ow.Own.add HO.out hg hbox hb)
            clear hb hbox hg
            simp only [List.cons_append, List.nil_append] at HO
            refine hK.out _ _ (by have h_ := Ow.Own.pick [0, 1] HO.out (by decide); exact h_) (fun hHeld => ?_)
            clear hK K
            refine norm_ (a' := ?_) ?_ ?_
            rotate_left
            · show Act.put _ (some 3) _ = _
              simp only [Act.put, List.setIfInBounds_toArray, List.set_cons_zero, List.set_cons_succ, i64_w, i32_w]
              rfl
            refine one_ (i := 11) (N := some 27) (Ow.B 19 69631) rfl rfl (one_of HT_.out (by kernel_rfl)) (by decide) (fun K hK => ?_)
            refine goes_ Try.func42 (by kernel_rfl) rfl #[.string a0_2, .string (⟨#[48, 48]⟩ : ByteArray)] (by rfl) rfl rfl (by (try simp only [List.map_toArray, List.map_cons, List.map_nil]); first | done | rfl | (simp only [hq.1]; done) | (simp only [hq.1]; rfl) | (simp only [List.length_drop, List.length_take]; rfl)) ?_
            refine Calls.mono (calls_of_args (by first | ((try simp only [hq.1]) <;> rfl) | fail) (strings_HasPrefix.calls a0_2 (⟨#[48, 48]⟩ : ByteArray) t171 _ A3.out)) ?_
            rintro e w' ⟨he_, ⟨nd, rfl⟩⟩
            subst he_
            replace HO := Aside0.mk (Ow.Own.drewN HO.out nd); (try simp only [World.drewN_drewN] at HO)
            refine ⟨_, rfl, ?_⟩
            refine hK.out _ _ (by have h_ := Ow.Own.pick [0, 1] HO.out (by decide); exact h_) (fun hHeld => ?_)
            clear hK K
            refine norm_ (a' := ?_) ?_ ?_
            rotate_left
            · show Act.put _ (some 27) _ = _
              simp only [Act.put, List.setIfInBounds_toArray, List.set_cons_zero, List.set_cons_succ, i64_w, i32_w]
              rfl
            refine one_ (i := 12) (N := some 28) (Ow.B 19 73727) rfl rfl (one_of HT_.out (by kernel_rfl)) (by decide) (fun K hK => ?_)
            refine goes_ Try.func73 (by kernel_rfl) rfl #[.agg #[.string a0_14, .string a0_15, .string a0_16, .int .i64 a0_17, .int .i64 a0_18, .int .i64 a0_19, .bool a0_20], .int .i64 a0_3, .bool t171] (by rfl) rfl rfl (by (try simp only [List.map_toArray, List.map_cons, List.map_nil]); first | done | rfl | (simp only [hq.1]; done) | (simp only [hq.1]; rfl) | (simp only [List.length_drop, List.length_take]; rfl)) ?_
            refine Calls.mono (calls_of_args (by first | ((try simp only [hq.1]) <;> rfl) | fail) (hold_Take.calls a0_14 a0_15 a0_16 a0_17 a0_18 a0_19 a0_20 a0_3 t171 t172 t173 t174 t175 t176 t177 t178 t179 _ A4.out)) ?_
            rintro e w53 ⟨he_, hb⟩
            subst he_
            replace HO := Aside0.mk (Ow.Own.call HO.out hb)
            clear hb
            refine ⟨_, rfl, ?_⟩
            refine hK.out _ _ (by have h_ := Ow.Own.pick [0, 1] HO.out (by decide); exact h_) (fun hHeld => ?_)
            clear hK K
            refine norm_ (a' := ?_) ?_ ?_
            rotate_left
            · show Act.put _ (some 28) _ = _
              simp only [Act.put, List.setIfInBounds_toArray, List.set_cons_zero, List.set_cons_succ, i64_w, i32_w]
              rfl
            refine pure_ (i := 13) (N := some 15) (v := ?_) (a' := ?_) (Ow.B 19 81919) rfl rfl (any_of HT_.out (by kernel_rfl)) (fun _ _ _ h => h) (Or.inl ⟨by rfl, ?_⟩) ?_ ?_
            rotate_left
            · intro w'
              (try (with_reducible refine Ow.gate_eql (by first | exact Or.inl rfl | exact Or.inr rfl) rfl ?_; simp only [hq.1, Ow.part, Ot.sz, Ot.zero, Ow.over, Ow.overL, List.drop_succ_cons, List.drop_zero, List.take_succ_cons, List.take_zero]))
              go_simp
              with_reducible rfl
            rotate_left
            · simp only [Act.put, List.setIfInBounds_toArray, List.set_cons_zero, List.set_cons_succ, i64_w, i32_w]
              rfl
            refine pure_ (i := 14) (N := some 29) (v := ?_) (a' := ?_) (Ow.B 19 98303) rfl rfl (any_of HT_.out (by kernel_rfl)) (fun _ _ _ h => h) (Or.inl ⟨by rfl, ?_⟩) ?_ ?_
            rotate_left
            · intro w'
              (try (with_reducible refine Ow.gate_eql (by first | exact Or.inl rfl | exact Or.inr rfl) rfl ?_; simp only [hq.1, Ow.part, Ot.sz, Ot.zero, Ow.over, Ow.overL, List.drop_succ_cons, List.drop_zero, List.take_succ_cons, List.take_zero]))
              go_simp
              with_reducible rfl
            rotate_left
            · simp only [Act.put, List.setIfInBounds_toArray, List.set_cons_zero, List.set_cons_succ, i64_w, i32_w]
              rfl
            refine pure_ (i := 15) (N := some 30) (v := ?_) (a' := ?_) (Ow.B 19 131071) rfl rfl (any_of HT_.out (by kernel_rfl)) (fun _ _ _ h => h) (Or.inl ⟨by rfl, ?_⟩) ?_ ?_
            rotate_left
            · intro w'
              (try (with_reducible refine Ow.gate_eql (by first | exact Or.inl rfl | exact Or.inr rfl) rfl ?_; simp only [hq.1, Ow.part, Ot.sz, Ot.zero, Ow.over, Ow.overL, List.drop_succ_cons, List.drop_zero, List.take_succ_cons, List.take_zero]))
              go_simp
              with_reducible rfl
            rotate_left
            · simp only [Act.put, List.setIfInBounds_toArray, List.set_cons_zero, List.set_cons_succ, i64_w, i32_w]
              rfl
            exact norm_ (by simp only [putAll, Act.put, List.setIfInBounds_toArray, List.set_cons_zero, List.set_cons_succ]) (hCont (gb180) _ (Ow.Own.cong (Ow.Own.pick [0, 1, 2] HO.out (by decide)) (by first | ((try simp only [hq.1]) <;> rfl) | fail)))
        rintro gb180 w54 HO7_
        clear HO
        have HO := Aside0.mk HO7_
        clear HO7_
        have hHeld := Ow.Own.pick [0, 1] HO.out (by decide)
        refine norm_ (a' := ?_) ?_ ?_
        rotate_left
        · simp only [putAll, Act.put, List.setIfInBounds_toArray, List.set_cons_zero, List.set_cons_succ]
          rfl
        refine one_ (i := 17) (N := none) (Ow.B 19 262143) rfl rfl (one_of HT_.out (by kernel_rfl)) (by decide) (fun K hK => ?_)
        refine Ow.oskip Ot.ty HO.out (by rfl) rfl rfl rfl rfl (by with_reducible first | exact Ow.at0 | exact Ow.at1 | exact Ow.at2) (by first | exact Ow.ev_tmp rfl | rfl) (by first | ((try simp only [hq.1]) <;> rfl) | fail) (by first | ((try simp only [hq.1]) <;> rfl) | fail) (by first | ((try simp only [hq.1]) <;> rfl) | fail) ?_
        clear HO; intro wz_ HO; simp only [List.set_cons_zero, List.set_cons_succ] at HO
        refine hK.out _ _ (by have h_ := Ow.Own.pick [0, 1] HO.out (by decide); exact h_) (fun hHeld => ?_)
        clear hK K
        refine pure_ (i := 18) (N := some 4) (v := ?_) (a' := ?_) (Ow.B 19 524287) rfl rfl (any_of HT_.out (by kernel_rfl)) (fun _ _ _ h => h) (Or.inl ⟨by rfl, ?_⟩) ?_ ?_
        rotate_left
        · intro w'
          (try (with_reducible refine Ow.gate_eql (by first | exact Or.inl rfl | exact Or.inr rfl) rfl ?_; simp only [hq.1, Ow.part, Ot.sz, Ot.zero, Ow.over, Ow.overL, List.drop_succ_cons, List.drop_zero, List.take_succ_cons, List.take_zero]))
          go_simp
          with_reducible rfl
        rotate_left
        · simp only [Act.put, List.setIfInBounds_toArray, List.set_cons_zero, List.set_cons_succ, i64_w, i32_w]
          rfl
        refine done_ (done_of HT_.out (by kernel_rfl)) ?_
        try go_wp2_with (first | ((with_reducible refine Ow.gate_build rfl ?_); (try (refine gate_guard (by rfl) ?_; dsimp only)); refine' Ow.tbuild Ot.bd rfl rfl rfl ?hf_ ?_; (case hf_ => repeat (any_goals (first | exact Ow.Fills.nil | (refine' Ow.Fills.c ?hv_ rfl ?hz_ ?_; (case hv_ => first | exact Ow.ev_tmp rfl | rfl); (case hz_ => first | (refine ⟨?_, ?_⟩ <;> (first | ((try simp only [hq.1]) <;> rfl) | fail)) | fail)))))) | ((with_reducible refine Ow.gate_load rfl ?_); (try (refine gate_guard (by rfl) ?_; dsimp only)); (first | refine Ow.l1 Ot.ty HO.out rfl rfl rfl rfl (by first | ((try simp only [hq.1]) <;> rfl) | fail) ?_ | refine Ow.l0 Ot.ty HO.out rfl rfl rfl rfl (by first | ((try simp only [hq.1]) <;> rfl) | fail) ?_ | refine Ow.lp Ot.ty HO.out rfl rfl rfl rfl (by first | ((try simp only [hq.1]) <;> rfl) | fail) ?_)) | ((with_reducible refine gate_store rfl ?_); (try (refine gate_guard (by rfl) ?_; dsimp only)); (first | refine Ow.s0 Ot.ty HO.out rfl rfl rfl rfl rfl (by first | exact Ow.ev_tmp rfl | rfl) (by first | (refine ⟨?_, ?_, ?_⟩ <;> (first | ((try simp only [hq.1]) <;> rfl) | fail)) | fail) ?_ | refine Ow.sp Ot.ty HO.out rfl rfl rfl rfl rfl (by first | exact Ow.ev_tmp rfl | rfl) (by first | (refine ⟨?_, ?_, ?_⟩ <;> (first | ((try simp only [hq.1]) <;> rfl) | fail)) | fail) ?_); clear HO; intro wz_ HO; simp only [List.set_cons_zero, List.set_cons_succ] at HO))
        refine' bodyPost_ret (results_cell_row rfl _ _ gb170 53 _ (0, 0) _ rfl ?hb_ Try.underlying53 rfl ?hi_) rfl ?_
        case hb_ => refine' Ow.Own.get HO.out 1 ?hk_; (case hk_ => rfl)
        case hi_ => exact (Ot.ty.size 53 rfl).trans (congrArg some (by first | ((try simp only [hq.1]) <;> rfl) | fail))
        all_goals exact ⟨by first | rfl | (simp only [hq.1]; done) | (simp only [hq.1]; rfl) | (simp [errW_none, errW_some] <;> rfl) | (simp [*, errW_none, errW_some] <;> rfl), Ow.Own.below HO.out⟩
  · rw [if_neg c2] at H
    have c2b0 : (a0_16.toList == a0_1.toList) = false := beq_eq_false_iff_ne.mpr c2
    have c2b1 : (a0_16.toList != a0_1.toList) = true := bne_iff_ne.mpr c2
    simp only [Option.some.injEq, Prod.mk.injEq] at H
    obtain ⟨rfl, rfl, rfl, rfl, rfl, rfl, rfl, rfl, rfl, rfl, rfl, rfl, rfl, rfl, rfl⟩ := H
    obtain ⟨Q4, hQ4_⟩ : ∃ q_ : Array Value, q_ = (#[.string a0_0, .string a0_1, .string a0_2, .int .i64 a0_3, .string a0_4, .string a0_5, .string a0_6, .string a0_7, .string a0_8, .int .i64 a0_9, .int .i64 a0_10, .string a0_11, .bool a0_12, .int .i64 a0_13, .string a0_14, .string a0_15, .string a0_16, .int .i64 a0_17, .int .i64 a0_18, .int .i64 a0_19, .bool a0_20, .bool a0_21, .int .i64 a0_22, .int .i64 a0_23, .bool a0_24] : Array Value) := ⟨_, rfl⟩
    try rw [← hQ4_]
    have hQ4 := Aside0.mk hQ4_; have hq := Aside0.mk hQ4_; clear hQ4_
    go_enter Try.func55, Try.ntmps55
    go_wp2_with (first | ((with_reducible refine gate_dst (N := 1) rfl ?_); refine Ow.box rfl (N := 1) rfl (cs := Q4) (t := 79) HO.out (by first | (go_simp; done) | (go_simp; rfl)) ?_; clear HO; intro gb169 w64 HO; simp only [List.cons_append, List.nil_append] at HO) | ((with_reducible refine gate_dst (N := 2) rfl ?_); refine Ow.box rfl (N := 2) rfl (cs := capture_asked_held.Z15) (t := 53) HO.out (by first | (go_simp; done) | (go_simp; rfl)) ?_; clear HO; intro gb170 w65 HO; simp only [List.cons_append, List.nil_append] at HO) | ((with_reducible refine Ow.gate_build rfl ?_); (try (refine gate_guard (by rfl) ?_; dsimp only)); refine' Ow.tbuild Ot.bd rfl rfl rfl ?hf_ ?_; (case hf_ => repeat (any_goals (first | exact Ow.Fills.nil | (refine' Ow.Fills.c ?hv_ rfl ?hz_ ?_; (case hv_ => first | exact Ow.ev_tmp rfl | rfl); (case hz_ => first | (refine ⟨?_, ?_⟩ <;> (first | ((try simp only [hq.1]) <;> rfl) | fail)) | fail)))))) | ((with_reducible refine Ow.gate_load rfl ?_); (try (refine gate_guard (by rfl) ?_; dsimp only)); (first | refine Ow.l1 Ot.ty HO.out rfl rfl rfl rfl (by first | ((try simp only [hq.1]) <;> rfl) | fail) ?_ | refine Ow.l0 Ot.ty HO.out rfl rfl rfl rfl (by first | ((try simp only [hq.1]) <;> rfl) | fail) ?_ | refine Ow.lp Ot.ty HO.out rfl rfl rfl rfl (by first | ((try simp only [hq.1]) <;> rfl) | fail) ?_)) | ((with_reducible refine gate_store rfl ?_); (try (refine gate_guard (by rfl) ?_; dsimp only)); (first | refine Ow.s0 Ot.ty HO.out rfl rfl rfl rfl rfl (by first | exact Ow.ev_tmp rfl | rfl) (by first | (refine ⟨?_, ?_, ?_⟩ <;> (first | ((try simp only [hq.1]) <;> rfl) | fail)) | fail) ?_ | refine Ow.sp Ot.ty HO.out rfl rfl rfl rfl rfl (by first | exact Ow.ev_tmp rfl | rfl) (by first | (refine ⟨?_, ?_, ?_⟩ <;> (first | ((try simp only [hq.1]) <;> rfl) | fail)) | fail) ?_); clear HO; intro wz_ HO; simp only [List.set_cons_zero, List.set_cons_succ] at HO))
    refine' bodyPost_ret (results_cell_row rfl _ _ gb170 53 _ (0, 0) _ rfl ?hb_ Try.underlying53 rfl ?hi_) rfl ?_
    case hb_ => refine' Ow.Own.get HO.out 1 ?hk_; (case hk_ => rfl)
    case hi_ => exact (Ot.ty.size 53 rfl).trans (congrArg some (by first | ((try simp only [hq.1]) <;> rfl) | fail))
    all_goals exact ⟨by first | rfl | (simp only [hq.1]; done) | (simp only [hq.1]; rfl) | (simp [errW_none, errW_some] <;> rfl) | (simp [*, errW_none, errW_some] <;> rfl), Ow.Own.below HO.out⟩

end Go.Proofs.Ytddlmcaclbkopaa.XCP
