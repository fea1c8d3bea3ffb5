-- Written by wip/xprint.py, a session's program: printed out of the translation, with hand-written functions. Lean checks it.
import Derived.Test.YtmdpomilhejbcaaXDC0
import Derived.Test.YtmdpomilhejbcaaXDC7
import Derived.Test.YtmdpomilhejbcaaXDC8
namespace Go.Proofs.Ytmdpomilhejbcaa.XDC
open Go.RowKit Go.Proofs.YtmdpomilhejbcaaW.PrintWords Go.Proofs.YtmdpomilhejbcaaW.PrintLast Go.Proofs.YtmdpomilhejbcaaW.PrintMore
attribute [local go_sem] max2_int min2_int max_two min_two max_three min_three max_four min_four   -- for this text's walks alone
set_option linter.unusedVariables false
set_option linter.unusedSimpArgs false

/-! ### dispute_Decide: function 8 -/
def dispute_steps.A12 : Array Value := #[.string (⟨#[]⟩ : ByteArray), .int .i64 0, .int .i64 0, .string (⟨#[48, 48]⟩ : ByteArray), .int .i64 0, .int .i64 3, .string (⟨#[48, 49]⟩ : ByteArray), .int .i64 1, .int .i64 4, .string (⟨#[48, 50]⟩ : ByteArray), .int .i64 2, .int .i64 3]
set_option maxRecDepth 100000 in
set_option maxHeartbeats 4000000 in
theorem dispute_steps_run (w : World) : Calls Try.prog 19 #[] w fun e w' => e = .returned (.agg dispute_steps.A12) ∧ Below w.heap.size w w' := by
  go_enter Try.func19, Try.ntmps19
  go_wp2
  exact bodyPost_ret (results_cell_row rfl _ _ _ 55 _ (0, 0) _ rfl (blk_new _ _) Try.underlying55 rfl (by kernel_rfl)) rfl ⟨rfl, below_alloc (Below.refl _ _) _⟩
theorem dispute_steps_at0 (w : World) : (Instr.index 55 (.agg dispute_steps.A12) (.int .i64 0)).run Try.prog w = .ok (.agg #[.string (⟨#[]⟩ : ByteArray), .int .i64 0, .int .i64 0]) w := by kernel_rfl
theorem dispute_steps_at1 (w : World) : (Instr.index 55 (.agg dispute_steps.A12) (.int .i64 1)).run Try.prog w = .ok (.agg #[.string (⟨#[48, 48]⟩ : ByteArray), .int .i64 0, .int .i64 3]) w := by kernel_rfl
theorem dispute_steps_at2 (w : World) : (Instr.index 55 (.agg dispute_steps.A12) (.int .i64 2)).run Try.prog w = .ok (.agg #[.string (⟨#[48, 49]⟩ : ByteArray), .int .i64 1, .int .i64 4]) w := by kernel_rfl
theorem dispute_steps_at3 (w : World) : (Instr.index 55 (.agg dispute_steps.A12) (.int .i64 3)).run Try.prog w = .ok (.agg #[.string (⟨#[48, 50]⟩ : ByteArray), .int .i64 2, .int .i64 3]) w := by kernel_rfl
def dispute_Decide.rest4 (k : Nat) (a0 : ByteArray) (a1 : ByteArray) (a2 : ByteArray) (a3 : Int) (a4 : ByteArray) (a5 : ByteArray) (a6 : ByteArray) (a7 : ByteArray) (a8 : ByteArray) (a9 : Int) (a10 : Int) (a11 : ByteArray) (a12 : Bool) (a13 : Int) (a14 : ByteArray) (a15 : ByteArray) (a16 : ByteArray) (a17 : Int) (a18 : Int) (a19 : Int) (a20 : Bool) (a21 : Bool) (a22 : Int) (a23 : Int) (a24 : Bool) (c0 : ByteArray) (c1 : ByteArray) (c2 : ByteArray) (c3 : Int) (c4 : Int) (c5 : Int) (there : Bool) : Option (ByteArray × ByteArray × ByteArray × Int × Int × Int × Int × Int × ByteArray × ByteArray × ByteArray × Int × ByteArray) := some ((⟨#[]⟩ : ByteArray), (⟨#[]⟩ : ByteArray), (⟨#[]⟩ : ByteArray), 0, 0, 0, 0, 0, (⟨#[]⟩ : ByteArray), (⟨#[]⟩ : ByteArray), (⟨#[]⟩ : ByteArray), 0, (⟨#[49, 50]⟩ : ByteArray))
def dispute_Decide.rest3 (k : Nat) (a0 : ByteArray) (a1 : ByteArray) (a2 : ByteArray) (a3 : Int) (a4 : ByteArray) (a5 : ByteArray) (a6 : ByteArray) (a7 : ByteArray) (a8 : ByteArray) (a9 : Int) (a10 : Int) (a11 : ByteArray) (a12 : Bool) (a13 : Int) (a14 : ByteArray) (a15 : ByteArray) (a16 : ByteArray) (a17 : Int) (a18 : Int) (a19 : Int) (a20 : Bool) (a21 : Bool) (a22 : Int) (a23 : Int) (a24 : Bool) (c0 : ByteArray) (c1 : ByteArray) (c2 : ByteArray) (c3 : Int) (c4 : Int) (c5 : Int) (there : Bool) : Option (ByteArray × ByteArray × ByteArray × Int × Int × Int × Int × Int × ByteArray × ByteArray × ByteArray × Int × ByteArray) := (strings_HasPrefix.f a2 (⟨#[48, 50]⟩ : ByteArray)).bind fun p => if p = true then ((dispute_wrong.f k a0 a1 a2 a3 a4 a5 a6 a7 a8 a9 a10 a11 a12 a13 a14 a15 a16 a17 a18 a19 a20 a21 a22 a23 a24 c0 c1 c2 c3 c4 c5 there (⟨#[48, 50]⟩ : ByteArray) 2 3).bind fun w => if w = (⟨#[]⟩ : ByteArray) then some (c0, c1, c2, 3, c4, (wrap64 (a22 + 200)), 3, a23, c2, c1, c0, c4, (⟨#[48, 48]⟩ : ByteArray)) else some ((⟨#[]⟩ : ByteArray), (⟨#[]⟩ : ByteArray), (⟨#[]⟩ : ByteArray), 0, 0, 0, 0, 0, (⟨#[]⟩ : ByteArray), (⟨#[]⟩ : ByteArray), (⟨#[]⟩ : ByteArray), 0, w)) else dispute_Decide.rest4 k a0 a1 a2 a3 a4 a5 a6 a7 a8 a9 a10 a11 a12 a13 a14 a15 a16 a17 a18 a19 a20 a21 a22 a23 a24 c0 c1 c2 c3 c4 c5 there
def dispute_Decide.rest2 (k : Nat) (a0 : ByteArray) (a1 : ByteArray) (a2 : ByteArray) (a3 : Int) (a4 : ByteArray) (a5 : ByteArray) (a6 : ByteArray) (a7 : ByteArray) (a8 : ByteArray) (a9 : Int) (a10 : Int) (a11 : ByteArray) (a12 : Bool) (a13 : Int) (a14 : ByteArray) (a15 : ByteArray) (a16 : ByteArray) (a17 : Int) (a18 : Int) (a19 : Int) (a20 : Bool) (a21 : Bool) (a22 : Int) (a23 : Int) (a24 : Bool) (c0 : ByteArray) (c1 : ByteArray) (c2 : ByteArray) (c3 : Int) (c4 : Int) (c5 : Int) (there : Bool) : Option (ByteArray × ByteArray × ByteArray × Int × Int × Int × Int × Int × ByteArray × ByteArray × ByteArray × Int × ByteArray) := (strings_HasPrefix.f a2 (⟨#[48, 49]⟩ : ByteArray)).bind fun p => if p = true then ((dispute_wrong.f k a0 a1 a2 a3 a4 a5 a6 a7 a8 a9 a10 a11 a12 a13 a14 a15 a16 a17 a18 a19 a20 a21 a22 a23 a24 c0 c1 c2 c3 c4 c5 there (⟨#[48, 49]⟩ : ByteArray) 1 4).bind fun w => if w = (⟨#[]⟩ : ByteArray) then some (c0, c1, c2, 2, c4, (wrap64 (a22 + 200)), 4, a23, c2, c1, c0, c4, (⟨#[48, 48]⟩ : ByteArray)) else some ((⟨#[]⟩ : ByteArray), (⟨#[]⟩ : ByteArray), (⟨#[]⟩ : ByteArray), 0, 0, 0, 0, 0, (⟨#[]⟩ : ByteArray), (⟨#[]⟩ : ByteArray), (⟨#[]⟩ : ByteArray), 0, w)) else dispute_Decide.rest3 k a0 a1 a2 a3 a4 a5 a6 a7 a8 a9 a10 a11 a12 a13 a14 a15 a16 a17 a18 a19 a20 a21 a22 a23 a24 c0 c1 c2 c3 c4 c5 there
def dispute_Decide.rest1 (k : Nat) (a0 : ByteArray) (a1 : ByteArray) (a2 : ByteArray) (a3 : Int) (a4 : ByteArray) (a5 : ByteArray) (a6 : ByteArray) (a7 : ByteArray) (a8 : ByteArray) (a9 : Int) (a10 : Int) (a11 : ByteArray) (a12 : Bool) (a13 : Int) (a14 : ByteArray) (a15 : ByteArray) (a16 : ByteArray) (a17 : Int) (a18 : Int) (a19 : Int) (a20 : Bool) (a21 : Bool) (a22 : Int) (a23 : Int) (a24 : Bool) (c0 : ByteArray) (c1 : ByteArray) (c2 : ByteArray) (c3 : Int) (c4 : Int) (c5 : Int) (there : Bool) : Option (ByteArray × ByteArray × ByteArray × Int × Int × Int × Int × Int × ByteArray × ByteArray × ByteArray × Int × ByteArray) := (strings_HasPrefix.f a2 (⟨#[48, 48]⟩ : ByteArray)).bind fun p => if p = true then ((dispute_wrong.f k a0 a1 a2 a3 a4 a5 a6 a7 a8 a9 a10 a11 a12 a13 a14 a15 a16 a17 a18 a19 a20 a21 a22 a23 a24 c0 c1 c2 c3 c4 c5 there (⟨#[48, 48]⟩ : ByteArray) 0 3).bind fun w => if w = (⟨#[]⟩ : ByteArray) then some (a7, a6, a16, 1, a3, (wrap64 (a22 + 200)), 3, a23, a16, a6, a7, a3, (⟨#[48, 48]⟩ : ByteArray)) else some ((⟨#[]⟩ : ByteArray), (⟨#[]⟩ : ByteArray), (⟨#[]⟩ : ByteArray), 0, 0, 0, 0, 0, (⟨#[]⟩ : ByteArray), (⟨#[]⟩ : ByteArray), (⟨#[]⟩ : ByteArray), 0, w)) else dispute_Decide.rest2 k a0 a1 a2 a3 a4 a5 a6 a7 a8 a9 a10 a11 a12 a13 a14 a15 a16 a17 a18 a19 a20 a21 a22 a23 a24 c0 c1 c2 c3 c4 c5 there
def dispute_Decide.T12 : Bool × List (List Nat × List Nat) := (true, [([], []), ([], []), ([1], [1]), ([2], [2]), ([0], []), ([4, 0, 0], [0, 4]), ([0, 1, 2, 3, 4, 5], []), ([6, 3, 5, 0, 1, 2, 3, 4, 5], [3, 6])])
theorem dispute_Decide.tab12 : rtab .any (opsOf Try.f8 12) = dispute_Decide.T12 := by kernel_rfl
def dispute_Decide.T13 : Bool × List (List Nat × List Nat) := (true, [([], []), ([], []), ([1], [1]), ([], []), ([3], [3]), ([], []), ([5], [5]), ([], []), ([7], [7]), ([], []), ([9], [9]), ([], []), ([11], [11]), ([2, 4, 6, 8, 10, 12], [2, 4, 6, 8, 10, 12]), ([0, 0], [0]), ([13, 14, 0, 1, 2, 3, 4, 5, 6, 7, 8, 9, 10, 11, 12, 13, 14], [13]), ([15, 0, 1, 2, 3, 4, 5, 6, 7, 8, 9, 10, 11, 12, 13, 14, 15], [])])
theorem dispute_Decide.tab13 : rtab .any (opsOf Try.f8 13) = dispute_Decide.T13 := by kernel_rfl
theorem dispute_tab {P : Program} {ops : Array Oper} {Q : Exit → Act → World → Prop} {md : Region.Mode} {S : World → Prop} {ds : List Nat} {T : Bool × List (List Nat × List Nat)} {n : Nat} {l : Array Bool} {a : Act} {w : World} (hT : rtab md ops = T) (h : Aside0 (rtab md ops = T) → wpAnyLast P md ops Q S ds n l a w) : wpAnyLast P md ops Q S ds n l a w := h ⟨hT⟩
def dispute_Decide.f (k : Nat) (a0 : ByteArray) (a1 : ByteArray) (a2 : ByteArray) (a3 : Int) (a4 : ByteArray) (a5 : ByteArray) (a6 : ByteArray) (a7 : ByteArray) (a8 : ByteArray) (a9 : Int) (a10 : Int) (a11 : ByteArray) (a12 : Bool) (a13 : Int) (a14 : ByteArray) (a15 : ByteArray) (a16 : ByteArray) (a17 : Int) (a18 : Int) (a19 : Int) (a20 : Bool) (a21 : Bool) (a22 : Int) (a23 : Int) (a24 : Bool) (c0 : ByteArray) (c1 : ByteArray) (c2 : ByteArray) (c3 : Int) (c4 : Int) (c5 : Int) (there : Bool) : Option (ByteArray × ByteArray × ByteArray × Int × Int × Int × Int × Int × ByteArray × ByteArray × ByteArray × Int × ByteArray) := (dispute_Asks.f k a0 a1 a2 a3 a4 a5 a6 a7 a8 a9 a10 a11 a12 a13 a14 a15 a16 a17 a18 a19 a20 a21 a22 a23 a24 c0 c1 c2 c3 c4 c5 there).bind fun b => if b = true then dispute_Decide.rest1 k a0 a1 a2 a3 a4 a5 a6 a7 a8 a9 a10 a11 a12 a13 a14 a15 a16 a17 a18 a19 a20 a21 a22 a23 a24 c0 c1 c2 c3 c4 c5 there else some ((⟨#[]⟩ : ByteArray), (⟨#[]⟩ : ByteArray), (⟨#[]⟩ : ByteArray), 0, 0, 0, 0, 0, (⟨#[]⟩ : ByteArray), (⟨#[]⟩ : ByteArray), (⟨#[]⟩ : ByteArray), 0, (⟨#[51, 48]⟩ : ByteArray))
theorem dispute_Decide.mono : ∀ a0 a1 a2 a3 a4 a5 a6 a7 a8 a9 a10 a11 a12 a13 a14 a15 a16 a17 a18 a19 a20 a21 a22 a23 a24 c0 c1 c2 c3 c4 c5 there k, LeO (dispute_Decide.f k a0 a1 a2 a3 a4 a5 a6 a7 a8 a9 a10 a11 a12 a13 a14 a15 a16 a17 a18 a19 a20 a21 a22 a23 a24 c0 c1 c2 c3 c4 c5 there) (dispute_Decide.f (k + 1) a0 a1 a2 a3 a4 a5 a6 a7 a8 a9 a10 a11 a12 a13 a14 a15 a16 a17 a18 a19 a20 a21 a22 a23 a24 c0 c1 c2 c3 c4 c5 there) := by
  intro a0 a1 a2 a3 a4 a5 a6 a7 a8 a9 a10 a11 a12 a13 a14 a15 a16 a17 a18 a19 a20 a21 a22 a23 a24 c0 c1 c2 c3 c4 c5 there k
  unfold dispute_Decide.f dispute_Decide.rest1 dispute_Decide.rest2 dispute_Decide.rest3 dispute_Decide.rest4
  repeat' first
    | (with_reducible exact dispute_Asks.mono _ _ _ _ _ _ _ _ _ _ _ _ _ _ _ _ _ _ _ _ _ _ _ _ _ _ _ _ _ _ _ _ _)
    | (with_reducible exact dispute_wrong.mono _ _ _ _ _ _ _ _ _ _ _ _ _ _ _ _ _ _ _ _ _ _ _ _ _ _ _ _ _ _ _ _ _ _ _ _)
    | (with_reducible exact LeO.refl _)
    | (with_reducible refine LeO.ite ?_ ?_)
    | (with_reducible refine LeO.bind ?_ (fun _ => ?_))
set_option maxRecDepth 100000 in
set_option maxHeartbeats 8000000 in
theorem dispute_Decide.calls (k : Nat) (a0 : ByteArray) (a1 : ByteArray) (a2 : ByteArray) (a3 : Int) (a4 : ByteArray) (a5 : ByteArray) (a6 : ByteArray) (a7 : ByteArray) (a8 : ByteArray) (a9 : Int) (a10 : Int) (a11 : ByteArray) (a12 : Bool) (a13 : Int) (a14 : ByteArray) (a15 : ByteArray) (a16 : ByteArray) (a17 : Int) (a18 : Int) (a19 : Int) (a20 : Bool) (a21 : Bool) (a22 : Int) (a23 : Int) (a24 : Bool) (c0 : ByteArray) (c1 : ByteArray) (c2 : ByteArray) (c3 : Int) (c4 : Int) (c5 : Int) (there : Bool) (r1 : ByteArray) (r2 : ByteArray) (r3 : ByteArray) (r4 : Int) (r5 : Int) (r6 : Int) (r7 : Int) (r8 : Int) (r9 : ByteArray) (r10 : ByteArray) (r11 : ByteArray) (r12 : Int) (r13 : ByteArray) (w : World) (h : dispute_Decide.f k a0 a1 a2 a3 a4 a5 a6 a7 a8 a9 a10 a11 a12 a13 a14 a15 a16 a17 a18 a19 a20 a21 a22 a23 a24 c0 c1 c2 c3 c4 c5 there = some (r1, r2, r3, r4, r5, r6, r7, r8, r9, r10, r11, r12, r13)) :
    Calls Try.prog 8 #[.agg #[.string a0, .string a1, .string a2, .int .i64 a3, .string a4, .string a5, .string a6, .string a7, .string a8, .int .i64 a9, .int .i64 a10, .string a11, .bool a12, .int .i64 a13, .string a14, .string a15, .string a16, .int .i64 a17, .int .i64 a18, .int .i64 a19, .bool a20, .bool a21, .int .i64 a22, .int .i64 a23, .bool a24], .agg #[.string c0, .string c1, .string c2, .int .i64 c3, .int .i64 c4, .int .i64 c5], .bool there] w fun e w' => e = .returned (.tuple #[.agg #[.string r1, .string r2, .string r3, .int .i64 r4, .int .i64 r5, .int .i64 r6], .agg #[.int .i64 r7, .int .i64 r8, .string r9, .string r10, .string r11, .int .i64 r12], .string r13]) ∧ Below w.heap.size w w' := by
  unfold dispute_Decide.f at h
  obtain ⟨b, hb, h⟩ := Option.bind_eq_some_iff.mp h
  have Hb := Lib.hid hb
  clear hb
  have HO := Aside0.mk (Ow.Own.nil w)
  obtain ⟨Q0, hQ0_⟩ : ∃ q_ : Array Value, q_ = (#[.string a0, .string a1, .string a2, .int .i64 a3, .string a4, .string a5, .string a6, .string a7, .string a8, .int .i64 a9, .int .i64 a10, .string a11, .bool a12, .int .i64 a13, .string a14, .string a15, .string a16, .int .i64 a17, .int .i64 a18, .int .i64 a19, .bool a20, .bool a21, .int .i64 a22, .int .i64 a23, .bool a24] : Array Value) := ⟨_, rfl⟩
  rw [← hQ0_]
  have hq := Aside0.mk hQ0_; clear hQ0_
  cases b with
  | false =>
    rw [if_neg (show ¬ (false = true) by decide)] at h
    simp only [Option.some.injEq, Prod.mk.injEq] at h
    obtain ⟨rfl, rfl, rfl, rfl, rfl, rfl, rfl, rfl, rfl, rfl, rfl, rfl, rfl⟩ := h
    go_enter Try.func8, Try.ntmps8
    go_wp2_with (first | ((with_reducible refine gate_dst (N := 3) rfl ?_); refine Ow.box rfl (N := 3) rfl (cs := Q0) (t := 27) HO.out (by first | (go_simp; done) | (go_simp; rfl)) ?_; clear HO; intro g3 wb_ HO; simp only [List.cons_append, List.nil_append] at HO) | ((with_reducible refine gate_dst (N := 4) rfl ?_); refine Ow.box rfl (N := 4) rfl (cs := #[.string c0, .string c1, .string c2, .int .i64 c3, .int .i64 c4, .int .i64 c5]) (t := 33) HO.out (by first | (go_simp; done) | (go_simp; rfl)) ?_; clear HO; intro g4 wb_ HO; simp only [List.cons_append, List.nil_append] at HO) | ((with_reducible refine gate_dst (N := 6) rfl ?_); refine Ow.box rfl (N := 6) rfl (cs := #[.string ((⟨#[]⟩ : ByteArray)), .string ((⟨#[]⟩ : ByteArray)), .string ((⟨#[]⟩ : ByteArray)), .int .i64 0, .int .i64 0, .int .i64 0]) (t := 33) HO.out (by first | (go_simp; done) | (go_simp; rfl)) ?_; clear HO; intro g6 wb_ HO; simp only [List.cons_append, List.nil_append] at HO) | ((with_reducible refine gate_dst (N := 7) rfl ?_); refine Ow.box rfl (N := 7) rfl (cs := #[.int .i64 0, .int .i64 0, .string ((⟨#[]⟩ : ByteArray)), .string ((⟨#[]⟩ : ByteArray)), .string ((⟨#[]⟩ : ByteArray)), .int .i64 0]) (t := 37) HO.out (by first | (go_simp; done) | (go_simp; rfl)) ?_; clear HO; intro g7 wb_ HO; simp only [List.cons_append, List.nil_append] at HO) | (go_at_call 6; refine Calls.mono (calls_of_args (by first | ((try simp only [hq.1]) <;> rfl) | fail) (dispute_Asks.calls k a0 a1 a2 a3 a4 a5 a6 a7 a8 a9 a10 a11 a12 a13 a14 a15 a16 a17 a18 a19 a20 a21 a22 a23 a24 c0 c1 c2 c3 c4 c5 there false _ Hb.out)) ?_; rintro e wx ⟨he_, hb⟩; subst he_; replace HO := Aside0.mk (Ow.Own.call HO.out hb); clear hb) | ((with_reducible refine Ow.gate_build rfl ?_); (try (refine gate_guard (by rfl) ?_; dsimp only)); refine' Ow.tbuild Ot.bd rfl rfl rfl ?hf_ ?_; (case hf_ => repeat (any_goals (first | exact Ow.Fills.nil | (refine' Ow.Fills.c ?hv_ rfl ?hz_ ?_; (case hv_ => first | exact Ow.ev_tmp rfl | rfl); (case hz_ => first | (refine ⟨?_, ?_⟩ <;> (first | ((try simp only [hq.1]) <;> rfl) | fail)) | fail)))))) | ((with_reducible refine Ow.gate_load rfl ?_); (try (refine gate_guard (by rfl) ?_; dsimp only)); (first | refine Ow.l1 Ot.ty HO.out rfl rfl rfl rfl (by first | ((try simp only [hq.1]) <;> rfl) | fail) ?_ | refine Ow.l0 Ot.ty HO.out rfl rfl rfl rfl (by first | ((try simp only [hq.1]) <;> rfl) | fail) ?_ | refine Ow.lp Ot.ty HO.out rfl rfl rfl rfl (by first | ((try simp only [hq.1]) <;> rfl) | fail) ?_)) | ((with_reducible refine gate_store rfl ?_); (try (refine gate_guard (by rfl) ?_; dsimp only)); (first | refine Ow.s0 Ot.ty HO.out rfl rfl rfl rfl rfl (by first | exact Ow.ev_tmp rfl | rfl) (by first | (refine ⟨?_, ?_, ?_⟩ <;> (first | ((try simp only [hq.1]) <;> rfl) | fail)) | fail) ?_ | refine Ow.sp Ot.ty HO.out rfl rfl rfl rfl rfl (by first | exact Ow.ev_tmp rfl | rfl) (by first | (refine ⟨?_, ?_, ?_⟩ <;> (first | ((try simp only [hq.1]) <;> rfl) | fail)) | fail) ?_); clear HO; intro wz_ HO; simp only [List.set_cons_zero, List.set_cons_succ] at HO))
    refine' bodyPost_ret (results_list (rs := [.cell 6 33, .cell 7 37, .tmp 8]) rfl (by simp) (Vals.cell g6 33 _ (0, 0) _ rfl ?hb_ Try.underlying33 rfl ?hi_ (Vals.cell g7 37 _ (0, 0) _ rfl ?hc_ Try.underlying37 rfl ?hj_ (Vals.tmp Vals.nil)))) rfl ?_
    case hb_ => refine' Ow.Own.get HO.out 2 ?hk_; (case hk_ => rfl)
    case hc_ => refine' Ow.Own.get HO.out 3 ?hk_; (case hk_ => rfl)
    case hi_ => exact (Ot.ty.size 33 rfl).trans (congrArg some (by rfl))
    case hj_ => exact (Ot.ty.size 37 rfl).trans (congrArg some (by rfl))
    exact ⟨rfl, HO.out.below⟩
  | true =>
    rw [if_pos rfl] at h
    have H1 := Lib.hid h
    clear h
    go_enter Try.func8, Try.ntmps8
    go_wp2_with (first | ((with_reducible refine gate_dst (N := 3) rfl ?_); refine Ow.box rfl (N := 3) rfl (cs := Q0) (t := 27) HO.out (by first | (go_simp; done) | (go_simp; rfl)) ?_; clear HO; intro g3 wb_ HO; simp only [List.cons_append, List.nil_append] at HO) | ((with_reducible refine gate_dst (N := 4) rfl ?_); refine Ow.box rfl (N := 4) rfl (cs := #[.string c0, .string c1, .string c2, .int .i64 c3, .int .i64 c4, .int .i64 c5]) (t := 33) HO.out (by first | (go_simp; done) | (go_simp; rfl)) ?_; clear HO; intro g4 wb_ HO; simp only [List.cons_append, List.nil_append] at HO) | ((with_reducible refine gate_dst (N := 6) rfl ?_); refine Ow.box rfl (N := 6) rfl (cs := #[.string ((⟨#[]⟩ : ByteArray)), .string ((⟨#[]⟩ : ByteArray)), .string ((⟨#[]⟩ : ByteArray)), .int .i64 0, .int .i64 0, .int .i64 0]) (t := 33) HO.out (by first | (go_simp; done) | (go_simp; rfl)) ?_; clear HO; intro g6 wb_ HO; simp only [List.cons_append, List.nil_append] at HO) | ((with_reducible refine gate_dst (N := 7) rfl ?_); refine Ow.box rfl (N := 7) rfl (cs := #[.int .i64 0, .int .i64 0, .string ((⟨#[]⟩ : ByteArray)), .string ((⟨#[]⟩ : ByteArray)), .string ((⟨#[]⟩ : ByteArray)), .int .i64 0]) (t := 37) HO.out (by first | (go_simp; done) | (go_simp; rfl)) ?_; clear HO; intro g7 wb_ HO; simp only [List.cons_append, List.nil_append] at HO) | (go_at_call 6; refine Calls.mono (calls_of_args (by first | ((try simp only [hq.1]) <;> rfl) | fail) (dispute_Asks.calls k a0 a1 a2 a3 a4 a5 a6 a7 a8 a9 a10 a11 a12 a13 a14 a15 a16 a17 a18 a19 a20 a21 a22 a23 a24 c0 c1 c2 c3 c4 c5 there true _ Hb.out)) ?_; rintro e wx ⟨he_, hb⟩; subst he_; replace HO := Aside0.mk (Ow.Own.call HO.out hb); clear hb) | (go_at_call 19; refine Calls.mono (dispute_steps_run _) ?_; rintro e wx ⟨rfl, hb⟩; replace HO := Aside0.mk (Ow.Own.call HO.out hb); clear hb) | ((with_reducible refine Ow.gate_build rfl ?_); (try (refine gate_guard (by rfl) ?_; dsimp only)); refine' Ow.tbuild Ot.bd rfl rfl rfl ?hf_ ?_; (case hf_ => repeat (any_goals (first | exact Ow.Fills.nil | (refine' Ow.Fills.c ?hv_ rfl ?hz_ ?_; (case hv_ => first | exact Ow.ev_tmp rfl | rfl); (case hz_ => first | (refine ⟨?_, ?_⟩ <;> (first | ((try simp only [hq.1]) <;> rfl) | fail)) | fail)))))) | ((with_reducible refine Ow.gate_load rfl ?_); (try (refine gate_guard (by rfl) ?_; dsimp only)); (first | refine Ow.l1 Ot.ty HO.out rfl rfl rfl rfl (by first | ((try simp only [hq.1]) <;> rfl) | fail) ?_ | refine Ow.l0 Ot.ty HO.out rfl rfl rfl rfl (by first | ((try simp only [hq.1]) <;> rfl) | fail) ?_ | refine Ow.lp Ot.ty HO.out rfl rfl rfl rfl (by first | ((try simp only [hq.1]) <;> rfl) | fail) ?_)) | ((with_reducible refine gate_store rfl ?_); (try (refine gate_guard (by rfl) ?_; dsimp only)); (first | refine Ow.s0 Ot.ty HO.out rfl rfl rfl rfl rfl (by first | exact Ow.ev_tmp rfl | rfl) (by first | (refine ⟨?_, ?_, ?_⟩ <;> (first | ((try simp only [hq.1]) <;> rfl) | fail)) | fail) ?_ | refine Ow.sp Ot.ty HO.out rfl rfl rfl rfl rfl (by first | exact Ow.ev_tmp rfl | rfl) (by first | (refine ⟨?_, ?_, ?_⟩ <;> (first | ((try simp only [hq.1]) <;> rfl) | fail)) | fail) ?_); clear HO; intro wz_ HO; simp only [List.set_cons_zero, List.set_cons_succ] at HO))
    (try simp only [Act.put, List.setIfInBounds_toArray, List.set_cons_zero, List.set_cons_succ])
    go_loopw [20] (fun i wr => ((i = .int .i64 0 ∧ Hid (dispute_Decide.rest1 k a0 a1 a2 a3 a4 a5 a6 a7 a8 a9 a10 a11 a12 a13 a14 a15 a16 a17 a18 a19 a20 a21 a22 a23 a24 c0 c1 c2 c3 c4 c5 there = some (r1, r2, r3, r4, r5, r6, r7, r8, r9, r10, r11, r12, r13))) ∨ (i = .int .i64 1 ∧ Hid (dispute_Decide.rest1 k a0 a1 a2 a3 a4 a5 a6 a7 a8 a9 a10 a11 a12 a13 a14 a15 a16 a17 a18 a19 a20 a21 a22 a23 a24 c0 c1 c2 c3 c4 c5 there = some (r1, r2, r3, r4, r5, r6, r7, r8, r9, r10, r11, r12, r13))) ∨ (i = .int .i64 2 ∧ Hid (dispute_Decide.rest2 k a0 a1 a2 a3 a4 a5 a6 a7 a8 a9 a10 a11 a12 a13 a14 a15 a16 a17 a18 a19 a20 a21 a22 a23 a24 c0 c1 c2 c3 c4 c5 there = some (r1, r2, r3, r4, r5, r6, r7, r8, r9, r10, r11, r12, r13))) ∨ (i = .int .i64 3 ∧ Hid (dispute_Decide.rest3 k a0 a1 a2 a3 a4 a5 a6 a7 a8 a9 a10 a11 a12 a13 a14 a15 a16 a17 a18 a19 a20 a21 a22 a23 a24 c0 c1 c2 c3 c4 c5 there = some (r1, r2, r3, r4, r5, r6, r7, r8, r9, r10, r11, r12, r13))) ∨ (i = .int .i64 4 ∧ Hid (dispute_Decide.rest4 k a0 a1 a2 a3 a4 a5 a6 a7 a8 a9 a10 a11 a12 a13 a14 a15 a16 a17 a18 a19 a20 a21 a22 a23 a24 c0 c1 c2 c3 c4 c5 there = some (r1, r2, r3, r4, r5, r6, r7, r8, r9, r10, r11, r12, r13)))) ∧ Aside0 (Ow.Own w wr [(g3, Q0, 27), (g4, #[.string c0, .string c1, .string c2, .int .i64 c3, .int .i64 c4, .int .i64 c5], 33), (g6, #[.string ((⟨#[]⟩ : ByteArray)), .string ((⟨#[]⟩ : ByteArray)), .string ((⟨#[]⟩ : ByteArray)), .int .i64 0, .int .i64 0, .int .i64 0], 33), (g7, #[.int .i64 0, .int .i64 0, .string ((⟨#[]⟩ : ByteArray)), .string ((⟨#[]⟩ : ByteArray)), .string ((⟨#[]⟩ : ByteArray)), .int .i64 0], 37)])) (fun i _ => 4 - (intOf i).toNat)
    case atStart => exact ⟨.inl ⟨rfl, H1⟩, HO⟩
    case round =>
      clear H1 HO
      obtain ⟨hk, HO⟩ := hrel
      rcases hk with ⟨rfl, HR⟩ | ⟨rfl, HR⟩ | ⟨rfl, HR⟩ | ⟨rfl, HR⟩ | ⟨rfl, HR⟩
      · have i0 := dispute_steps_at0
        go_wp2_with (first | ((with_reducible refine gate_dst (N := 10) rfl ?_); refine Ow.box rfl (N := 10) rfl (cs := #[.string ((⟨#[]⟩ : ByteArray)), .int .i64 0, .int .i64 0]) (t := 54) HO.out (by first | (go_simp; done) | (go_simp; rfl)) ?_; clear HO; intro g10 wb_ HO; simp only [List.cons_append, List.nil_append] at HO) | ((with_reducible refine Ow.gate_build rfl ?_); (try (refine gate_guard (by rfl) ?_; dsimp only)); refine' Ow.tbuild Ot.bd rfl rfl rfl ?hf_ ?_; (case hf_ => repeat (any_goals (first | exact Ow.Fills.nil | (refine' Ow.Fills.c ?hv_ rfl ?hz_ ?_; (case hv_ => first | exact Ow.ev_tmp rfl | rfl); (case hz_ => first | (refine ⟨?_, ?_⟩ <;> (first | ((try simp only [hq.1]) <;> rfl) | fail)) | fail)))))) | ((with_reducible refine Ow.gate_load rfl ?_); (try (refine gate_guard (by rfl) ?_; dsimp only)); (first | refine Ow.l1 Ot.ty HO.out rfl rfl rfl rfl (by first | ((try simp only [hq.1]) <;> rfl) | fail) ?_ | refine Ow.l0 Ot.ty HO.out rfl rfl rfl rfl (by first | ((try simp only [hq.1]) <;> rfl) | fail) ?_ | refine Ow.lp Ot.ty HO.out rfl rfl rfl rfl (by first | ((try simp only [hq.1]) <;> rfl) | fail) ?_)) | ((with_reducible refine gate_store rfl ?_); (try (refine gate_guard (by rfl) ?_; dsimp only)); (first | refine Ow.s0 Ot.ty HO.out rfl rfl rfl rfl rfl (by first | exact Ow.ev_tmp rfl | rfl) (by first | (refine ⟨?_, ?_, ?_⟩ <;> (first | ((try simp only [hq.1]) <;> rfl) | fail)) | fail) ?_ | refine Ow.sp Ot.ty HO.out rfl rfl rfl rfl rfl (by first | exact Ow.ev_tmp rfl | rfl) (by first | (refine ⟨?_, ?_, ?_⟩ <;> (first | ((try simp only [hq.1]) <;> rfl) | fail)) | fail) ?_); clear HO; intro wz_ HO; simp only [List.set_cons_zero, List.set_cons_succ] at HO))
        go_roundw
        case rel => exact ⟨.inr (.inl ⟨rfl, HR⟩), ⟨by have h_ := Ow.Own.pick [0, 1, 2, 3] HO.out (by decide); exact h_⟩⟩
        case measure => simp [intOf]
      · have i0 := dispute_steps_at1
        have h := HR.out
        clear HR
        unfold dispute_Decide.rest1 at h
        obtain ⟨p, hp, h⟩ := Option.bind_eq_some_iff.mp h
        have Hp := Lib.hid hp
        clear hp
        cases p with
        | false =>
          rw [if_neg (show ¬ (false = true) by decide)] at h
          have HR := Lib.hid h
          clear h
          go_wp2_with (first | ((with_reducible refine gate_dst (N := 10) rfl ?_); refine Ow.box rfl (N := 10) rfl (cs := #[.string ((⟨#[]⟩ : ByteArray)), .int .i64 0, .int .i64 0]) (t := 54) HO.out (by first | (go_simp; done) | (go_simp; rfl)) ?_; clear HO; intro g10 wb_ HO; simp only [List.cons_append, List.nil_append] at HO) | (go_at_call 20; refine Calls.mono (calls_of_args (by first | ((try simp only [hq.1]) <;> rfl) | fail) (strings_HasPrefix.calls a2 (⟨#[48, 48]⟩ : ByteArray) false _ Hp.out)) ?_; rintro e wx ⟨he_, ⟨nd_, rfl⟩⟩; subst he_; replace HO := Aside0.mk (Ow.Own.drewN HO.out nd_); (try simp only [World.drewN_drewN] at HO)) | ((with_reducible refine Ow.gate_build rfl ?_); (try (refine gate_guard (by rfl) ?_; dsimp only)); refine' Ow.tbuild Ot.bd rfl rfl rfl ?hf_ ?_; (case hf_ => repeat (any_goals (first | exact Ow.Fills.nil | (refine' Ow.Fills.c ?hv_ rfl ?hz_ ?_; (case hv_ => first | exact Ow.ev_tmp rfl | rfl); (case hz_ => first | (refine ⟨?_, ?_⟩ <;> (first | ((try simp only [hq.1]) <;> rfl) | fail)) | fail)))))) | ((with_reducible refine Ow.gate_load rfl ?_); (try (refine gate_guard (by rfl) ?_; dsimp only)); (first | refine Ow.l1 Ot.ty HO.out rfl rfl rfl rfl (by first | ((try simp only [hq.1]) <;> rfl) | fail) ?_ | refine Ow.l0 Ot.ty HO.out rfl rfl rfl rfl (by first | ((try simp only [hq.1]) <;> rfl) | fail) ?_ | refine Ow.lp Ot.ty HO.out rfl rfl rfl rfl (by first | ((try simp only [hq.1]) <;> rfl) | fail) ?_)) | ((with_reducible refine gate_store rfl ?_); (try (refine gate_guard (by rfl) ?_; dsimp only)); (first | refine Ow.s0 Ot.ty HO.out rfl rfl rfl rfl rfl (by first | exact Ow.ev_tmp rfl | rfl) (by first | (refine ⟨?_, ?_, ?_⟩ <;> (first | ((try simp only [hq.1]) <;> rfl) | fail)) | fail) ?_ | refine Ow.sp Ot.ty HO.out rfl rfl rfl rfl rfl (by first | exact Ow.ev_tmp rfl | rfl) (by first | (refine ⟨?_, ?_, ?_⟩ <;> (first | ((try simp only [hq.1]) <;> rfl) | fail)) | fail) ?_); clear HO; intro wz_ HO; simp only [List.set_cons_zero, List.set_cons_succ] at HO))
          go_roundw
          case rel => exact ⟨.inr (.inr (.inl ⟨rfl, HR⟩)), ⟨by have h_ := Ow.Own.pick [0, 1, 2, 3] HO.out (by decide); exact h_⟩⟩
          case measure => simp [intOf]
        | true =>
          rw [if_pos rfl] at h
          obtain ⟨c, hc, h⟩ := Option.bind_eq_some_iff.mp h
          have Hc := Lib.hid hc
          clear hc
          by_cases hce : c = (⟨#[]⟩ : ByteArray)
          rotate_left
          · rw [if_neg hce] at h
            simp only [Option.some.injEq, Prod.mk.injEq] at h
            obtain ⟨rfl, rfl, rfl, rfl, rfl, rfl, rfl, rfl, rfl, rfl, rfl, rfl, rfl⟩ := h
            have d1 : (c.toList == ([] : List UInt8)) = false := by rw [Pu.toList_empty]; exact decide_eq_false (fun e => hce (Pu.size_nil e))
            have d2 : (c.toList != ([] : List UInt8)) = true := by rw [bne, d1]; rfl
            have d3 : (!c.toList.isEmpty) = true := by rw [← Pu.bne_nil]; exact d2
            have d4 : c.toList.isEmpty = false := by rw [← Pu.beq_nil]; exact d1
            clear hce
            go_wp2_with (first | ((with_reducible refine gate_dst (N := 10) rfl ?_); refine Ow.box rfl (N := 10) rfl (cs := #[.string ((⟨#[]⟩ : ByteArray)), .int .i64 0, .int .i64 0]) (t := 54) HO.out (by first | (go_simp; done) | (go_simp; rfl)) ?_; clear HO; intro g10 wb_ HO; simp only [List.cons_append, List.nil_append] at HO) | (go_at_call 20; refine Calls.mono (calls_of_args (by first | ((try simp only [hq.1]) <;> rfl) | fail) (strings_HasPrefix.calls a2 (⟨#[48, 48]⟩ : ByteArray) true _ Hp.out)) ?_; rintro e wx ⟨he_, ⟨nd_, rfl⟩⟩; subst he_; replace HO := Aside0.mk (Ow.Own.drewN HO.out nd_); (try simp only [World.drewN_drewN] at HO)) | (go_at_call 21; refine Calls.mono (calls_of_args (by first | ((try simp only [hq.1]) <;> rfl) | fail) (dispute_wrong.calls k a0 a1 a2 a3 a4 a5 a6 a7 a8 a9 a10 a11 a12 a13 a14 a15 a16 a17 a18 a19 a20 a21 a22 a23 a24 c0 c1 c2 c3 c4 c5 there (⟨#[48, 48]⟩ : ByteArray) 0 3 c _ Hc.out)) ?_; rintro e wx ⟨he_, hb⟩; subst he_; replace HO := Aside0.mk (Ow.Own.call HO.out hb); clear hb) | ((with_reducible refine Ow.gate_build rfl ?_); (try (refine gate_guard (by rfl) ?_; dsimp only)); refine' Ow.tbuild Ot.bd rfl rfl rfl ?hf_ ?_; (case hf_ => repeat (any_goals (first | exact Ow.Fills.nil | (refine' Ow.Fills.c ?hv_ rfl ?hz_ ?_; (case hv_ => first | exact Ow.ev_tmp rfl | rfl); (case hz_ => first | (refine ⟨?_, ?_⟩ <;> (first | ((try simp only [hq.1]) <;> rfl) | fail)) | fail)))))) | ((with_reducible refine Ow.gate_load rfl ?_); (try (refine gate_guard (by rfl) ?_; dsimp only)); (first | refine Ow.l1 Ot.ty HO.out rfl rfl rfl rfl (by first | ((try simp only [hq.1]) <;> rfl) | fail) ?_ | refine Ow.l0 Ot.ty HO.out rfl rfl rfl rfl (by first | ((try simp only [hq.1]) <;> rfl) | fail) ?_ | refine Ow.lp Ot.ty HO.out rfl rfl rfl rfl (by first | ((try simp only [hq.1]) <;> rfl) | fail) ?_)) | ((with_reducible refine gate_store rfl ?_); (try (refine gate_guard (by rfl) ?_; dsimp only)); (first | refine Ow.s0 Ot.ty HO.out rfl rfl rfl rfl rfl (by first | exact Ow.ev_tmp rfl | rfl) (by first | (refine ⟨?_, ?_, ?_⟩ <;> (first | ((try simp only [hq.1]) <;> rfl) | fail)) | fail) ?_ | refine Ow.sp Ot.ty HO.out rfl rfl rfl rfl rfl (by first | exact Ow.ev_tmp rfl | rfl) (by first | (refine ⟨?_, ?_, ?_⟩ <;> (first | ((try simp only [hq.1]) <;> rfl) | fail)) | fail) ?_); clear HO; intro wz_ HO; simp only [List.set_cons_zero, List.set_cons_succ] at HO))
            refine' bodyPost_ret (results_list (rs := [.cell 6 33, .cell 7 37, .tmp 8]) rfl (by simp) (Vals.cell g6 33 _ (0, 0) _ rfl ?hb_ Try.underlying33 rfl ?hi_ (Vals.cell g7 37 _ (0, 0) _ rfl ?hc_ Try.underlying37 rfl ?hj_ (Vals.tmp Vals.nil)))) rfl ?_
            case hb_ => refine' Ow.Own.get HO.out 2 ?hk_; (case hk_ => rfl)
            case hc_ => refine' Ow.Own.get HO.out 3 ?hk_; (case hk_ => rfl)
            case hi_ => exact (Ot.ty.size 33 rfl).trans (congrArg some (by rfl))
            case hj_ => exact (Ot.ty.size 37 rfl).trans (congrArg some (by rfl))
            exact ⟨rfl, HO.out.below⟩
          · subst hce
            rw [if_pos rfl] at h
            simp only [Option.some.injEq, Prod.mk.injEq] at h
            obtain ⟨rfl, rfl, rfl, rfl, rfl, rfl, rfl, rfl, rfl, rfl, rfl, rfl, rfl⟩ := h
            go_wp2_with (first | ((with_reducible refine gate_dst (N := 10) rfl ?_); refine Ow.box rfl (N := 10) rfl (cs := #[.string ((⟨#[]⟩ : ByteArray)), .int .i64 0, .int .i64 0]) (t := 54) HO.out (by first | (go_simp; done) | (go_simp; rfl)) ?_; clear HO; intro g10 wb_ HO; simp only [List.cons_append, List.nil_append] at HO) | (go_at_call 20; refine Calls.mono (calls_of_args (by first | ((try simp only [hq.1]) <;> rfl) | fail) (strings_HasPrefix.calls a2 (⟨#[48, 48]⟩ : ByteArray) true _ Hp.out)) ?_; rintro e wx ⟨he_, ⟨nd_, rfl⟩⟩; subst he_; replace HO := Aside0.mk (Ow.Own.drewN HO.out nd_); (try simp only [World.drewN_drewN] at HO)) | (go_at_call 21; refine Calls.mono (calls_of_args (by first | ((try simp only [hq.1]) <;> rfl) | fail) (dispute_wrong.calls k a0 a1 a2 a3 a4 a5 a6 a7 a8 a9 a10 a11 a12 a13 a14 a15 a16 a17 a18 a19 a20 a21 a22 a23 a24 c0 c1 c2 c3 c4 c5 there (⟨#[48, 48]⟩ : ByteArray) 0 3 (⟨#[]⟩ : ByteArray) _ Hc.out)) ?_; rintro e wx ⟨he_, hb⟩; subst he_; replace HO := Aside0.mk (Ow.Own.call HO.out hb); clear hb) | ((with_reducible refine Ow.gate_build rfl ?_); (try (refine gate_guard (by rfl) ?_; dsimp only)); refine' Ow.tbuild Ot.bd rfl rfl rfl ?hf_ ?_; (case hf_ => repeat (any_goals (first | exact Ow.Fills.nil | (refine' Ow.Fills.c ?hv_ rfl ?hz_ ?_; (case hv_ => first | exact Ow.ev_tmp rfl | rfl); (case hz_ => first | (refine ⟨?_, ?_⟩ <;> (first | ((try simp only [hq.1]) <;> rfl) | fail)) | fail)))))) | ((with_reducible refine Ow.gate_load rfl ?_); (try (refine gate_guard (by rfl) ?_; dsimp only)); (first | refine Ow.l1 Ot.ty HO.out rfl rfl rfl rfl (by first | ((try simp only [hq.1]) <;> rfl) | fail) ?_ | refine Ow.l0 Ot.ty HO.out rfl rfl rfl rfl (by first | ((try simp only [hq.1]) <;> rfl) | fail) ?_ | refine Ow.lp Ot.ty HO.out rfl rfl rfl rfl (by first | ((try simp only [hq.1]) <;> rfl) | fail) ?_)) | ((with_reducible refine gate_store rfl ?_); (try (refine gate_guard (by rfl) ?_; dsimp only)); (first | refine Ow.s0 Ot.ty HO.out rfl rfl rfl rfl rfl (by first | exact Ow.ev_tmp rfl | rfl) (by first | (refine ⟨?_, ?_, ?_⟩ <;> (first | ((try simp only [hq.1]) <;> rfl) | fail)) | fail) ?_ | refine Ow.sp Ot.ty HO.out rfl rfl rfl rfl rfl (by first | exact Ow.ev_tmp rfl | rfl) (by first | (refine ⟨?_, ?_, ?_⟩ <;> (first | ((try simp only [hq.1]) <;> rfl) | fail)) | fail) ?_); clear HO; intro wz_ HO; simp only [List.set_cons_zero, List.set_cons_succ] at HO))
            refine start_ (n := 8) (S := fun w' => Ow.Own w w' [(g3, Q0, 27), (g6, #[.string ((⟨#[]⟩ : ByteArray)), .string ((⟨#[]⟩ : ByteArray)), .string ((⟨#[]⟩ : ByteArray)), .int .i64 0, .int .i64 0, .int .i64 0], 33), (g7, #[.int .i64 0, .int .i64 0, .string ((⟨#[]⟩ : ByteArray)), .string ((⟨#[]⟩ : ByteArray)), .string ((⟨#[]⟩ : ByteArray)), .int .i64 0], 37), (g10, #[.string ((⟨#[48, 48]⟩ : ByteArray)), .int .i64 0, .int .i64 3], 54)]) (ds := []) (Ow.B 8 0) (by kernel_rfl) rfl (by kernel_rfl) (by have h_ := Ow.Own.pick [0, 2, 3, 4] (Ow.Own.drew HO.out) (by decide); exact h_) (fun hHeld => ?_)
            replace HO := Aside0.mk (Ow.Own.drew HO.out)
            refine dispute_tab dispute_Decide.tab12 (fun HT_ => ?_)
            refine' Ow.pu (i := 0) (N := some 62) (Ow.B 8 1) HT_.out ?hv_ ?ha_ ?_; (case hv_ => intro w'; go_simp; with_reducible rfl); (case ha_ => simp only [Ow.Sl, i64_w, i32_w]; rfl)
            refine' Ow.pu (i := 1) (N := some 63) (Ow.B 8 3) HT_.out ?hv_ ?ha_ ?_; (case hv_ => intro w'; go_simp; with_reducible rfl); (case ha_ => simp only [Ow.Sl, i64_w, i32_w]; rfl)
            refine' Ow.pu (i := 4) (N := some 66) (Ow.B 8 19) HT_.out ?hv_ ?ha_ ?_; (case hv_ => intro w'; go_simp; with_reducible rfl); (case ha_ => simp only [Ow.Sl, i64_w, i32_w]; rfl)
            refine take_ (i := 2) (N := some 64) (v := ?_) (a' := ?_) (Ow.B 8 23) rfl rfl (take_of HT_.out (by kernel_rfl)) (fun _ _ _ h => h) (Or.inl ⟨by rfl, ?_⟩) hHeld ?_ ?_
            rotate_left
            · intro w' s_
              first | refine Ow.r1 Ot.ty s_ rfl rfl rfl (by first | ((try simp only [hq.1]) <;> rfl) | fail) | (refine' Ow.r0 Ot.ty s_ rfl rfl rfl ?hs_; (case hs_ => first | ((try simp only [hq.1]) <;> rfl) | fail)) | (refine' Ow.rp Ot.ty s_ rfl rfl rfl ?hs_; (case hs_ => first | ((try simp only [hq.1]) <;> rfl) | fail))
            rotate_left
            · simp only [Ow.Sl, i64_w, i32_w]
              rfl
            refine' Ow.pu (i := 3) (N := some 65) (Ow.B 8 31) HT_.out ?hv_ ?ha_ ?_; (case hv_ => intro w'; go_simp; with_reducible rfl); (case ha_ => simp only [Ow.Sl, i64_w, i32_w]; rfl)
            refine one_ (i := 5) (N := none) (Ow.B 8 63) rfl rfl (one_of HT_.out (by kernel_rfl)) (by decide) (fun K hK => ?_)
            refine Ow.oskip Ot.ty HO.out (by rfl) rfl rfl rfl rfl (by with_reducible first | exact Ow.at0 | exact Ow.at1 | exact Ow.at2 | exact Ow.at3 | exact Ow.at4) (by first | exact Ow.ev_tmp rfl | rfl) (by first | ((try simp only [hq.1]) <;> rfl) | fail) (by first | ((try simp only [hq.1]) <;> rfl) | fail) (by first | ((try simp only [hq.1]) <;> rfl) | fail) ?_
            clear HO; intro wz_ HO; simp only [List.set_cons_zero, List.set_cons_succ] at HO
            refine hK.out _ _ (by have h_ := Ow.Own.pick [0, 2, 3, 4] HO.out (by decide); first | exact h_ | exact Ow.Own.cong h_ (by first | ((try simp only [hq.1]) <;> rfl) | fail)) (fun hHeld => ?_)
            clear hK K
            refine' Ow.pu (i := 6) (N := some 67) (Ow.B 8 127) HT_.out ?hv_ ?ha_ ?_; (case hv_ => intro w'; go_simp; with_reducible rfl); (case ha_ => simp only [Ow.Sl, i64_w, i32_w]; rfl)
            refine one_ (i := 7) (N := none) (Ow.B 8 255) rfl rfl (one_of HT_.out (by kernel_rfl)) (by decide) (fun K hK => ?_)
            refine Ow.oskip Ot.ty HO.out (by rfl) rfl rfl rfl rfl (by with_reducible first | exact Ow.at0 | exact Ow.at1 | exact Ow.at2 | exact Ow.at3 | exact Ow.at4) (by first | exact Ow.ev_tmp rfl | rfl) (by first | ((try simp only [hq.1]) <;> rfl) | fail) (by first | ((try simp only [hq.1]) <;> rfl) | fail) (by first | ((try simp only [hq.1]) <;> rfl) | fail) ?_
            clear HO; intro wz_ HO; simp only [List.set_cons_zero, List.set_cons_succ] at HO
            refine hK.out _ _ (by have h_ := Ow.Own.pick [0, 2, 3, 4] HO.out (by decide); first | exact h_ | exact Ow.Own.cong h_ (by first | ((try simp only [hq.1]) <;> rfl) | fail)) (fun hHeld => ?_)
            clear hK K
            refine done_ (done_of HT_.out (by kernel_rfl)) ?_
            replace HO := Aside0.mk (Ow.Own.cong (l' := [(g3, Q0, 27), (g4, #[.string a7, .string a6, .string a16, .int .i64 1, .int .i64 a3, .int .i64 ((wrap64 (a22 + 200)))], 33), (g6, #[.string ((⟨#[]⟩ : ByteArray)), .string ((⟨#[]⟩ : ByteArray)), .string ((⟨#[]⟩ : ByteArray)), .int .i64 0, .int .i64 0, .int .i64 0], 33), (g7, #[.int .i64 0, .int .i64 0, .string ((⟨#[]⟩ : ByteArray)), .string ((⟨#[]⟩ : ByteArray)), .string ((⟨#[]⟩ : ByteArray)), .int .i64 0], 37), (g10, #[.string ((⟨#[48, 48]⟩ : ByteArray)), .int .i64 0, .int .i64 3], 54)]) HO.out (by rfl))
            go_wp2_with fail
            refine start_ (n := 17) (S := fun w' => Ow.Own w w' [(g3, Q0, 27), (g4, #[.string a7, .string a6, .string a16, .int .i64 1, .int .i64 a3, .int .i64 ((wrap64 (a22 + 200)))], 33), (g10, #[.string ((⟨#[48, 48]⟩ : ByteArray)), .int .i64 0, .int .i64 3], 54)]) (ds := []) (Ow.B 17 0) (by kernel_rfl) rfl (by kernel_rfl) (by have h_ := Ow.Own.pick [0, 1, 4] (Ow.Own.drew HO.out) (by decide); exact h_) (fun hHeld => ?_)
            replace HO := Aside0.mk (Ow.Own.drew HO.out)
            refine dispute_tab dispute_Decide.tab13 (fun HT_ => ?_)
            refine' Ow.pu (i := 1) (N := some 69) (Ow.B 17 2) HT_.out ?hv_ ?ha_ ?_; (case hv_ => intro w'; go_simp; with_reducible rfl); (case ha_ => simp only [Ow.Sl, i64_w, i32_w]; rfl)
            refine' Ow.pu (i := 3) (N := some 71) (Ow.B 17 10) HT_.out ?hv_ ?ha_ ?_; (case hv_ => intro w'; go_simp; with_reducible rfl); (case ha_ => simp only [Ow.Sl, i64_w, i32_w]; rfl)
            refine' Ow.pu (i := 5) (N := some 73) (Ow.B 17 42) HT_.out ?hv_ ?ha_ ?_; (case hv_ => intro w'; go_simp; with_reducible rfl); (case ha_ => simp only [Ow.Sl, i64_w, i32_w]; rfl)
            refine' Ow.pu (i := 7) (N := some 75) (Ow.B 17 170) HT_.out ?hv_ ?ha_ ?_; (case hv_ => intro w'; go_simp; with_reducible rfl); (case ha_ => simp only [Ow.Sl, i64_w, i32_w]; rfl)
            refine' Ow.pu (i := 9) (N := some 77) (Ow.B 17 682) HT_.out ?hv_ ?ha_ ?_; (case hv_ => intro w'; go_simp; with_reducible rfl); (case ha_ => simp only [Ow.Sl, i64_w, i32_w]; rfl)
            refine' Ow.pu (i := 11) (N := some 79) (Ow.B 17 2730) HT_.out ?hv_ ?ha_ ?_; (case hv_ => intro w'; go_simp; with_reducible rfl); (case ha_ => simp only [Ow.Sl, i64_w, i32_w]; rfl)
            refine take_ (i := 0) (N := some 68) (v := ?_) (a' := ?_) (Ow.B 17 2731) rfl rfl (take_of HT_.out (by kernel_rfl)) (fun _ _ _ h => h) (Or.inl ⟨by rfl, ?_⟩) hHeld ?_ ?_
            rotate_left
            · intro w' s_
              first | refine Ow.r1 Ot.ty s_ rfl rfl rfl (by first | ((try simp only [hq.1]) <;> rfl) | fail) | (refine' Ow.r0 Ot.ty s_ rfl rfl rfl ?hs_; (case hs_ => first | ((try simp only [hq.1]) <;> rfl) | fail)) | (refine' Ow.rp Ot.ty s_ rfl rfl rfl ?hs_; (case hs_ => first | ((try simp only [hq.1]) <;> rfl) | fail))
            rotate_left
            · simp only [Ow.Sl, i64_w, i32_w]
              rfl
            refine take_ (i := 2) (N := some 70) (v := ?_) (a' := ?_) (Ow.B 17 2735) rfl rfl (take_of HT_.out (by kernel_rfl)) (fun _ _ _ h => h) (Or.inl ⟨by rfl, ?_⟩) hHeld ?_ ?_
            rotate_left
            · intro w' s_
              first | refine Ow.r1 Ot.ty s_ rfl rfl rfl (by first | ((try simp only [hq.1]) <;> rfl) | fail) | (refine' Ow.r0 Ot.ty s_ rfl rfl rfl ?hs_; (case hs_ => first | ((try simp only [hq.1]) <;> rfl) | fail)) | (refine' Ow.rp Ot.ty s_ rfl rfl rfl ?hs_; (case hs_ => first | ((try simp only [hq.1]) <;> rfl) | fail))
            rotate_left
            · simp only [Ow.Sl, i64_w, i32_w]
              rfl
            refine take_ (i := 4) (N := some 72) (v := ?_) (a' := ?_) (Ow.B 17 2751) rfl rfl (take_of HT_.out (by kernel_rfl)) (fun _ _ _ h => h) (Or.inl ⟨by rfl, ?_⟩) hHeld ?_ ?_
            rotate_left
            · intro w' s_
              first | refine Ow.r1 Ot.ty s_ rfl rfl rfl (by first | ((try simp only [hq.1]) <;> rfl) | fail) | (refine' Ow.r0 Ot.ty s_ rfl rfl rfl ?hs_; (case hs_ => first | ((try simp only [hq.1]) <;> rfl) | fail)) | (refine' Ow.rp Ot.ty s_ rfl rfl rfl ?hs_; (case hs_ => first | ((try simp only [hq.1]) <;> rfl) | fail))
            rotate_left
            · simp only [Ow.Sl, i64_w, i32_w]
              rfl
            refine take_ (i := 6) (N := some 74) (v := ?_) (a' := ?_) (Ow.B 17 2815) rfl rfl (take_of HT_.out (by kernel_rfl)) (fun _ _ _ h => h) (Or.inl ⟨by rfl, ?_⟩) hHeld ?_ ?_
            rotate_left
            · intro w' s_
              first | refine Ow.r1 Ot.ty s_ rfl rfl rfl (by first | ((try simp only [hq.1]) <;> rfl) | fail) | (refine' Ow.r0 Ot.ty s_ rfl rfl rfl ?hs_; (case hs_ => first | ((try simp only [hq.1]) <;> rfl) | fail)) | (refine' Ow.rp Ot.ty s_ rfl rfl rfl ?hs_; (case hs_ => first | ((try simp only [hq.1]) <;> rfl) | fail))
            rotate_left
            · simp only [Ow.Sl, i64_w, i32_w]
              rfl
            refine take_ (i := 8) (N := some 76) (v := ?_) (a' := ?_) (Ow.B 17 3071) rfl rfl (take_of HT_.out (by kernel_rfl)) (fun _ _ _ h => h) (Or.inl ⟨by rfl, ?_⟩) hHeld ?_ ?_
            rotate_left
            · intro w' s_
              first | refine Ow.r1 Ot.ty s_ rfl rfl rfl (by first | ((try simp only [hq.1]) <;> rfl) | fail) | (refine' Ow.r0 Ot.ty s_ rfl rfl rfl ?hs_; (case hs_ => first | ((try simp only [hq.1]) <;> rfl) | fail)) | (refine' Ow.rp Ot.ty s_ rfl rfl rfl ?hs_; (case hs_ => first | ((try simp only [hq.1]) <;> rfl) | fail))
            rotate_left
            · simp only [Ow.Sl, i64_w, i32_w]
              rfl
            refine take_ (i := 10) (N := some 78) (v := ?_) (a' := ?_) (Ow.B 17 4095) rfl rfl (take_of HT_.out (by kernel_rfl)) (fun _ _ _ h => h) (Or.inl ⟨by rfl, ?_⟩) hHeld ?_ ?_
            rotate_left
            · intro w' s_
              first | refine Ow.r1 Ot.ty s_ rfl rfl rfl (by first | ((try simp only [hq.1]) <;> rfl) | fail) | (refine' Ow.r0 Ot.ty s_ rfl rfl rfl ?hs_; (case hs_ => first | ((try simp only [hq.1]) <;> rfl) | fail)) | (refine' Ow.rp Ot.ty s_ rfl rfl rfl ?hs_; (case hs_ => first | ((try simp only [hq.1]) <;> rfl) | fail))
            rotate_left
            · simp only [Ow.Sl, i64_w, i32_w]
              rfl
            refine take_ (i := 12) (N := some 80) (v := ?_) (a' := ?_) (Ow.B 17 8191) rfl rfl (take_of HT_.out (by kernel_rfl)) (fun _ _ _ h => h) (Or.inl ⟨by rfl, ?_⟩) hHeld ?_ ?_
            rotate_left
            · intro w' s_
              first | refine Ow.r1 Ot.ty s_ rfl rfl rfl (by first | ((try simp only [hq.1]) <;> rfl) | fail) | (refine' Ow.r0 Ot.ty s_ rfl rfl rfl ?hs_; (case hs_ => first | ((try simp only [hq.1]) <;> rfl) | fail)) | (refine' Ow.rp Ot.ty s_ rfl rfl rfl ?hs_; (case hs_ => first | ((try simp only [hq.1]) <;> rfl) | fail))
            rotate_left
            · simp only [Ow.Sl, i64_w, i32_w]
              rfl
            refine' Ow.pu (i := 13) (N := some 81) (Ow.B 17 16383) HT_.out ?hv_ ?ha_ ?_; (case hv_ => intro w'; go_simp; with_reducible rfl); (case ha_ => simp only [Ow.Sl, i64_w, i32_w]; rfl)
            refine one_ (i := 14) (N := none) (Ow.B 17 32767) rfl rfl (one_of HT_.out (by kernel_rfl)) (by decide) (fun K hK => ?_)
            refine Ow.oskip Ot.ty HO.out (by rfl) rfl rfl rfl rfl (by with_reducible first | exact Ow.at0 | exact Ow.at1 | exact Ow.at2 | exact Ow.at3 | exact Ow.at4) (by first | exact Ow.ev_tmp rfl | rfl) (by first | ((try simp only [hq.1]) <;> rfl) | fail) (by first | ((try simp only [hq.1]) <;> rfl) | fail) (by first | ((try simp only [hq.1]) <;> rfl) | fail) ?_
            clear HO; intro wz_ HO; simp only [List.set_cons_zero, List.set_cons_succ] at HO
            refine hK.out _ _ (by have h_ := Ow.Own.pick [0, 1, 4] HO.out (by decide); first | exact h_ | exact Ow.Own.cong h_ (by first | ((try simp only [hq.1]) <;> rfl) | fail)) (fun hHeld => ?_)
            clear hK K
            refine one_ (i := 15) (N := none) (Ow.B 17 65535) rfl rfl (one_of HT_.out (by kernel_rfl)) (by decide) (fun K hK => ?_)
            refine Ow.oskip Ot.ty HO.out (by rfl) rfl rfl rfl rfl (by with_reducible first | exact Ow.at0 | exact Ow.at1 | exact Ow.at2 | exact Ow.at3 | exact Ow.at4) (by first | exact Ow.ev_tmp rfl | rfl) (by first | ((try simp only [hq.1]) <;> rfl) | fail) (by first | ((try simp only [hq.1]) <;> rfl) | fail) (by first | ((try simp only [hq.1]) <;> rfl) | fail) ?_
            clear HO; intro wz_ HO; simp only [List.set_cons_zero, List.set_cons_succ] at HO
            refine hK.out _ _ (by have h_ := Ow.Own.pick [0, 1, 4] HO.out (by decide); first | exact h_ | exact Ow.Own.cong h_ (by first | ((try simp only [hq.1]) <;> rfl) | fail)) (fun hHeld => ?_)
            clear hK K
            refine' Ow.pu (i := 16) (N := some 8) (Ow.B 17 131071) HT_.out ?hv_ ?ha_ ?_; (case hv_ => intro w'; go_simp; with_reducible rfl); (case ha_ => simp only [Ow.Sl, i64_w, i32_w]; rfl)
            refine done_ (done_of HT_.out (by kernel_rfl)) ?_
            go_wp2
            refine' bodyPost_ret (results_list (rs := [.cell 6 33, .cell 7 37, .tmp 8]) rfl (by simp) (Vals.cell g6 33 _ (0, 0) _ rfl ?hb_ Try.underlying33 rfl ?hi_ (Vals.cell g7 37 _ (0, 0) _ rfl ?hc_ Try.underlying37 rfl ?hj_ (Vals.tmp Vals.nil)))) rfl ?_
            case hb_ => refine' Ow.Own.get HO.out 2 ?hk_; (case hk_ => rfl)
            case hc_ => refine' Ow.Own.get HO.out 3 ?hk_; (case hk_ => rfl)
            case hi_ => exact (Ot.ty.size 33 rfl).trans (congrArg some (by rfl))
            case hj_ => exact (Ot.ty.size 37 rfl).trans (congrArg some (by rfl))
            exact ⟨rfl, HO.out.below⟩
      · have i0 := dispute_steps_at2
        have h := HR.out
        clear HR
        unfold dispute_Decide.rest2 at h
        obtain ⟨p, hp, h⟩ := Option.bind_eq_some_iff.mp h
        have Hp := Lib.hid hp
        clear hp
        cases p with
        | false =>
          rw [if_neg (show ¬ (false = true) by decide)] at h
          have HR := Lib.hid h
          clear h
          go_wp2_with (first | ((with_reducible refine gate_dst (N := 10) rfl ?_); refine Ow.box rfl (N := 10) rfl (cs := #[.string ((⟨#[]⟩ : ByteArray)), .int .i64 0, .int .i64 0]) (t := 54) HO.out (by first | (go_simp; done) | (go_simp; rfl)) ?_; clear HO; intro g10 wb_ HO; simp only [List.cons_append, List.nil_append] at HO) | (go_at_call 20; refine Calls.mono (calls_of_args (by first | ((try simp only [hq.1]) <;> rfl) | fail) (strings_HasPrefix.calls a2 (⟨#[48, 49]⟩ : ByteArray) false _ Hp.out)) ?_; rintro e wx ⟨he_, ⟨nd_, rfl⟩⟩; subst he_; replace HO := Aside0.mk (Ow.Own.drewN HO.out nd_); (try simp only [World.drewN_drewN] at HO)) | ((with_reducible refine Ow.gate_build rfl ?_); (try (refine gate_guard (by rfl) ?_; dsimp only)); refine' Ow.tbuild Ot.bd rfl rfl rfl ?hf_ ?_; (case hf_ => repeat (any_goals (first | exact Ow.Fills.nil | (refine' Ow.Fills.c ?hv_ rfl ?hz_ ?_; (case hv_ => first | exact Ow.ev_tmp rfl | rfl); (case hz_ => first | (refine ⟨?_, ?_⟩ <;> (first | ((try simp only [hq.1]) <;> rfl) | fail)) | fail)))))) | ((with_reducible refine Ow.gate_load rfl ?_); (try (refine gate_guard (by rfl) ?_; dsimp only)); (first | refine Ow.l1 Ot.ty HO.out rfl rfl rfl rfl (by first | ((try simp only [hq.1]) <;> rfl) | fail) ?_ | refine Ow.l0 Ot.ty HO.out rfl rfl rfl rfl (by first | ((try simp only [hq.1]) <;> rfl) | fail) ?_ | refine Ow.lp Ot.ty HO.out rfl rfl rfl rfl (by first | ((try simp only [hq.1]) <;> rfl) | fail) ?_)) | ((with_reducible refine gate_store rfl ?_); (try (refine gate_guard (by rfl) ?_; dsimp only)); (first | refine Ow.s0 Ot.ty HO.out rfl rfl rfl rfl rfl (by first | exact Ow.ev_tmp rfl | rfl) (by first | (refine ⟨?_, ?_, ?_⟩ <;> (first | ((try simp only [hq.1]) <;> rfl) | fail)) | fail) ?_ | refine Ow.sp Ot.ty HO.out rfl rfl rfl rfl rfl (by first | exact Ow.ev_tmp rfl | rfl) (by first | (refine ⟨?_, ?_, ?_⟩ <;> (first | ((try simp only [hq.1]) <;> rfl) | fail)) | fail) ?_); clear HO; intro wz_ HO; simp only [List.set_cons_zero, List.set_cons_succ] at HO))
          go_roundw
          case rel => exact ⟨.inr (.inr (.inr (.inl ⟨rfl, HR⟩))), ⟨by have h_ := Ow.Own.pick [0, 1, 2, 3] HO.out (by decide); exact h_⟩⟩
          case measure => simp [intOf]
        | true =>
          rw [if_pos rfl] at h
          obtain ⟨c, hc, h⟩ := Option.bind_eq_some_iff.mp h
          have Hc := Lib.hid hc
          clear hc
          by_cases hce : c = (⟨#[]⟩ : ByteArray)
          rotate_left
          · rw [if_neg hce] at h
            simp only [Option.some.injEq, Prod.mk.injEq] at h
            obtain ⟨rfl, rfl, rfl, rfl, rfl, rfl, rfl, rfl, rfl, rfl, rfl, rfl, rfl⟩ := h
            have d1 : (c.toList == ([] : List UInt8)) = false := by rw [Pu.toList_empty]; exact decide_eq_false (fun e => hce (Pu.size_nil e))
            have d2 : (c.toList != ([] : List UInt8)) = true := by rw [bne, d1]; rfl
            have d3 : (!c.toList.isEmpty) = true := by rw [← Pu.bne_nil]; exact d2
            have d4 : c.toList.isEmpty = false := by rw [← Pu.beq_nil]; exact d1
            clear hce
            go_wp2_with (first | ((with_reducible refine gate_dst (N := 10) rfl ?_); refine Ow.box rfl (N := 10) rfl (cs := #[.string ((⟨#[]⟩ : ByteArray)), .int .i64 0, .int .i64 0]) (t := 54) HO.out (by first | (go_simp; done) | (go_simp; rfl)) ?_; clear HO; intro g10 wb_ HO; simp only [List.cons_append, List.nil_append] at HO) | (go_at_call 20; refine Calls.mono (calls_of_args (by first | ((try simp only [hq.1]) <;> rfl) | fail) (strings_HasPrefix.calls a2 (⟨#[48, 49]⟩ : ByteArray) true _ Hp.out)) ?_; rintro e wx ⟨he_, ⟨nd_, rfl⟩⟩; subst he_; replace HO := Aside0.mk (Ow.Own.drewN HO.out nd_); (try simp only [World.drewN_drewN] at HO)) | (go_at_call 21; refine Calls.mono (calls_of_args (by first | ((try simp only [hq.1]) <;> rfl) | fail) (dispute_wrong.calls k a0 a1 a2 a3 a4 a5 a6 a7 a8 a9 a10 a11 a12 a13 a14 a15 a16 a17 a18 a19 a20 a21 a22 a23 a24 c0 c1 c2 c3 c4 c5 there (⟨#[48, 49]⟩ : ByteArray) 1 4 c _ Hc.out)) ?_; rintro e wx ⟨he_, hb⟩; subst he_; replace HO := Aside0.mk (Ow.Own.call HO.out hb); clear hb) | ((with_reducible refine Ow.gate_build rfl ?_); (try (refine gate_guard (by rfl) ?_; dsimp only)); refine' Ow.tbuild Ot.bd rfl rfl rfl ?hf_ ?_; (case hf_ => repeat (any_goals (first | exact Ow.Fills.nil | (refine' Ow.Fills.c ?hv_ rfl ?hz_ ?_; (case hv_ => first | exact Ow.ev_tmp rfl | rfl); (case hz_ => first | (refine ⟨?_, ?_⟩ <;> (first | ((try simp only [hq.1]) <;> rfl) | fail)) | fail)))))) | ((with_reducible refine Ow.gate_load rfl ?_); (try (refine gate_guard (by rfl) ?_; dsimp only)); (first | refine Ow.l1 Ot.ty HO.out rfl rfl rfl rfl (by first | ((try simp only [hq.1]) <;> rfl) | fail) ?_ | refine Ow.l0 Ot.ty HO.out rfl rfl rfl rfl (by first | ((try simp only [hq.1]) <;> rfl) | fail) ?_ | refine Ow.lp Ot.ty HO.out rfl rfl rfl rfl (by first | ((try simp only [hq.1]) <;> rfl) | fail) ?_)) | ((with_reducible refine gate_store rfl ?_); (try (refine gate_guard (by rfl) ?_; dsimp only)); (first | refine Ow.s0 Ot.ty HO.out rfl rfl rfl rfl rfl (by first | exact Ow.ev_tmp rfl | rfl) (by first | (refine ⟨?_, ?_, ?_⟩ <;> (first | ((try simp only [hq.1]) <;> rfl) | fail)) | fail) ?_ | refine Ow.sp Ot.ty HO.out rfl rfl rfl rfl rfl (by first | exact Ow.ev_tmp rfl | rfl) (by first | (refine ⟨?_, ?_, ?_⟩ <;> (first | ((try simp only [hq.1]) <;> rfl) | fail)) | fail) ?_); clear HO; intro wz_ HO; simp only [List.set_cons_zero, List.set_cons_succ] at HO))
            refine' bodyPost_ret (results_list (rs := [.cell 6 33, .cell 7 37, .tmp 8]) rfl (by simp) (Vals.cell g6 33 _ (0, 0) _ rfl ?hb_ Try.underlying33 rfl ?hi_ (Vals.cell g7 37 _ (0, 0) _ rfl ?hc_ Try.underlying37 rfl ?hj_ (Vals.tmp Vals.nil)))) rfl ?_
            case hb_ => refine' Ow.Own.get HO.out 2 ?hk_; (case hk_ => rfl)
            case hc_ => refine' Ow.Own.get HO.out 3 ?hk_; (case hk_ => rfl)
            case hi_ => exact (Ot.ty.size 33 rfl).trans (congrArg some (by rfl))
            case hj_ => exact (Ot.ty.size 37 rfl).trans (congrArg some (by rfl))
            exact ⟨rfl, HO.out.below⟩
          · subst hce
            rw [if_pos rfl] at h
            simp only [Option.some.injEq, Prod.mk.injEq] at h
            obtain ⟨rfl, rfl, rfl, rfl, rfl, rfl, rfl, rfl, rfl, rfl, rfl, rfl, rfl⟩ := h
            go_wp2_with (first | ((with_reducible refine gate_dst (N := 10) rfl ?_); refine Ow.box rfl (N := 10) rfl (cs := #[.string ((⟨#[]⟩ : ByteArray)), .int .i64 0, .int .i64 0]) (t := 54) HO.out (by first | (go_simp; done) | (go_simp; rfl)) ?_; clear HO; intro g10 wb_ HO; simp only [List.cons_append, List.nil_append] at HO) | (go_at_call 20; refine Calls.mono (calls_of_args (by first | ((try simp only [hq.1]) <;> rfl) | fail) (strings_HasPrefix.calls a2 (⟨#[48, 49]⟩ : ByteArray) true _ Hp.out)) ?_; rintro e wx ⟨he_, ⟨nd_, rfl⟩⟩; subst he_; replace HO := Aside0.mk (Ow.Own.drewN HO.out nd_); (try simp only [World.drewN_drewN] at HO)) | (go_at_call 21; refine Calls.mono (calls_of_args (by first | ((try simp only [hq.1]) <;> rfl) | fail) (dispute_wrong.calls k a0 a1 a2 a3 a4 a5 a6 a7 a8 a9 a10 a11 a12 a13 a14 a15 a16 a17 a18 a19 a20 a21 a22 a23 a24 c0 c1 c2 c3 c4 c5 there (⟨#[48, 49]⟩ : ByteArray) 1 4 (⟨#[]⟩ : ByteArray) _ Hc.out)) ?_; rintro e wx ⟨he_, hb⟩; subst he_; replace HO := Aside0.mk (Ow.Own.call HO.out hb); clear hb) | ((with_reducible refine Ow.gate_build rfl ?_); (try (refine gate_guard (by rfl) ?_; dsimp only)); refine' Ow.tbuild Ot.bd rfl rfl rfl ?hf_ ?_; (case hf_ => repeat (any_goals (first | exact Ow.Fills.nil | (refine' Ow.Fills.c ?hv_ rfl ?hz_ ?_; (case hv_ => first | exact Ow.ev_tmp rfl | rfl); (case hz_ => first | (refine ⟨?_, ?_⟩ <;> (first | ((try simp only [hq.1]) <;> rfl) | fail)) | fail)))))) | ((with_reducible refine Ow.gate_load rfl ?_); (try (refine gate_guard (by rfl) ?_; dsimp only)); (first | refine Ow.l1 Ot.ty HO.out rfl rfl rfl rfl (by first | ((try simp only [hq.1]) <;> rfl) | fail) ?_ | refine Ow.l0 Ot.ty HO.out rfl rfl rfl rfl (by first | ((try simp only [hq.1]) <;> rfl) | fail) ?_ | refine Ow.lp Ot.ty HO.out rfl rfl rfl rfl (by first | ((try simp only [hq.1]) <;> rfl) | fail) ?_)) | ((with_reducible refine gate_store rfl ?_); (try (refine gate_guard (by rfl) ?_; dsimp only)); (first | refine Ow.s0 Ot.ty HO.out rfl rfl rfl rfl rfl (by first | exact Ow.ev_tmp rfl | rfl) (by first | (refine ⟨?_, ?_, ?_⟩ <;> (first | ((try simp only [hq.1]) <;> rfl) | fail)) | fail) ?_ | refine Ow.sp Ot.ty HO.out rfl rfl rfl rfl rfl (by first | exact Ow.ev_tmp rfl | rfl) (by first | (refine ⟨?_, ?_, ?_⟩ <;> (first | ((try simp only [hq.1]) <;> rfl) | fail)) | fail) ?_); clear HO; intro wz_ HO; simp only [List.set_cons_zero, List.set_cons_succ] at HO))
            refine start_ (n := 8) (S := fun w' => Ow.Own w w' [(g3, Q0, 27), (g6, #[.string ((⟨#[]⟩ : ByteArray)), .string ((⟨#[]⟩ : ByteArray)), .string ((⟨#[]⟩ : ByteArray)), .int .i64 0, .int .i64 0, .int .i64 0], 33), (g7, #[.int .i64 0, .int .i64 0, .string ((⟨#[]⟩ : ByteArray)), .string ((⟨#[]⟩ : ByteArray)), .string ((⟨#[]⟩ : ByteArray)), .int .i64 0], 37), (g10, #[.string ((⟨#[48, 49]⟩ : ByteArray)), .int .i64 1, .int .i64 4], 54)]) (ds := []) (Ow.B 8 0) (by kernel_rfl) rfl (by kernel_rfl) (by have h_ := Ow.Own.pick [0, 2, 3, 4] (Ow.Own.drew HO.out) (by decide); exact h_) (fun hHeld => ?_)
            replace HO := Aside0.mk (Ow.Own.drew HO.out)
            refine dispute_tab dispute_Decide.tab12 (fun HT_ => ?_)
            refine' Ow.pu (i := 0) (N := some 62) (Ow.B 8 1) HT_.out ?hv_ ?ha_ ?_; (case hv_ => intro w'; go_simp; with_reducible rfl); (case ha_ => simp only [Ow.Sl, i64_w, i32_w]; rfl)
            refine' Ow.pu (i := 1) (N := some 63) (Ow.B 8 3) HT_.out ?hv_ ?ha_ ?_; (case hv_ => intro w'; go_simp; with_reducible rfl); (case ha_ => simp only [Ow.Sl, i64_w, i32_w]; rfl)
            refine' Ow.pu (i := 4) (N := some 66) (Ow.B 8 19) HT_.out ?hv_ ?ha_ ?_; (case hv_ => intro w'; go_simp; with_reducible rfl); (case ha_ => simp only [Ow.Sl, i64_w, i32_w]; rfl)
            refine take_ (i := 2) (N := some 64) (v := ?_) (a' := ?_) (Ow.B 8 23) rfl rfl (take_of HT_.out (by kernel_rfl)) (fun _ _ _ h => h) (Or.inl ⟨by rfl, ?_⟩) hHeld ?_ ?_
            rotate_left
            · intro w' s_
              first | refine Ow.r1 Ot.ty s_ rfl rfl rfl (by first | ((try simp only [hq.1]) <;> rfl) | fail) | (refine' Ow.r0 Ot.ty s_ rfl rfl rfl ?hs_; (case hs_ => first | ((try simp only [hq.1]) <;> rfl) | fail)) | (refine' Ow.rp Ot.ty s_ rfl rfl rfl ?hs_; (case hs_ => first | ((try simp only [hq.1]) <;> rfl) | fail))
            rotate_left
            · simp only [Ow.Sl, i64_w, i32_w]
              rfl
            refine' Ow.pu (i := 3) (N := some 65) (Ow.B 8 31) HT_.out ?hv_ ?ha_ ?_; (case hv_ => intro w'; go_simp; with_reducible rfl); (case ha_ => simp only [Ow.Sl, i64_w, i32_w]; rfl)
            refine one_ (i := 5) (N := none) (Ow.B 8 63) rfl rfl (one_of HT_.out (by kernel_rfl)) (by decide) (fun K hK => ?_)
            refine Ow.oskip Ot.ty HO.out (by rfl) rfl rfl rfl rfl (by with_reducible first | exact Ow.at0 | exact Ow.at1 | exact Ow.at2 | exact Ow.at3 | exact Ow.at4) (by first | exact Ow.ev_tmp rfl | rfl) (by first | ((try simp only [hq.1]) <;> rfl) | fail) (by first | ((try simp only [hq.1]) <;> rfl) | fail) (by first | ((try simp only [hq.1]) <;> rfl) | fail) ?_
            clear HO; intro wz_ HO; simp only [List.set_cons_zero, List.set_cons_succ] at HO
            refine hK.out _ _ (by have h_ := Ow.Own.pick [0, 2, 3, 4] HO.out (by decide); first | exact h_ | exact Ow.Own.cong h_ (by first | ((try simp only [hq.1]) <;> rfl) | fail)) (fun hHeld => ?_)
            clear hK K
            refine' Ow.pu (i := 6) (N := some 67) (Ow.B 8 127) HT_.out ?hv_ ?ha_ ?_; (case hv_ => intro w'; go_simp; with_reducible rfl); (case ha_ => simp only [Ow.Sl, i64_w, i32_w]; rfl)
            refine one_ (i := 7) (N := none) (Ow.B 8 255) rfl rfl (one_of HT_.out (by kernel_rfl)) (by decide) (fun K hK => ?_)
            refine Ow.oskip Ot.ty HO.out (by rfl) rfl rfl rfl rfl (by with_reducible first | exact Ow.at0 | exact Ow.at1 | exact Ow.at2 | exact Ow.at3 | exact Ow.at4) (by first | exact Ow.ev_tmp rfl | rfl) (by first | ((try simp only [hq.1]) <;> rfl) | fail) (by first | ((try simp only [hq.1]) <;> rfl) | fail) (by first | ((try simp only [hq.1]) <;> rfl) | fail) ?_
            clear HO; intro wz_ HO; simp only [List.set_cons_zero, List.set_cons_succ] at HO
            refine hK.out _ _ (by have h_ := Ow.Own.pick [0, 2, 3, 4] HO.out (by decide); first | exact h_ | exact Ow.Own.cong h_ (by first | ((try simp only [hq.1]) <;> rfl) | fail)) (fun hHeld => ?_)
            clear hK K
            refine done_ (done_of HT_.out (by kernel_rfl)) ?_
            replace HO := Aside0.mk (Ow.Own.cong (l' := [(g3, Q0, 27), (g4, #[.string c0, .string c1, .string c2, .int .i64 2, .int .i64 c4, .int .i64 ((wrap64 (a22 + 200)))], 33), (g6, #[.string ((⟨#[]⟩ : ByteArray)), .string ((⟨#[]⟩ : ByteArray)), .string ((⟨#[]⟩ : ByteArray)), .int .i64 0, .int .i64 0, .int .i64 0], 33), (g7, #[.int .i64 0, .int .i64 0, .string ((⟨#[]⟩ : ByteArray)), .string ((⟨#[]⟩ : ByteArray)), .string ((⟨#[]⟩ : ByteArray)), .int .i64 0], 37), (g10, #[.string ((⟨#[48, 49]⟩ : ByteArray)), .int .i64 1, .int .i64 4], 54)]) HO.out (by rfl))
            go_wp2_with fail
            refine start_ (n := 17) (S := fun w' => Ow.Own w w' [(g3, Q0, 27), (g4, #[.string c0, .string c1, .string c2, .int .i64 2, .int .i64 c4, .int .i64 ((wrap64 (a22 + 200)))], 33), (g10, #[.string ((⟨#[48, 49]⟩ : ByteArray)), .int .i64 1, .int .i64 4], 54)]) (ds := []) (Ow.B 17 0) (by kernel_rfl) rfl (by kernel_rfl) (by have h_ := Ow.Own.pick [0, 1, 4] (Ow.Own.drew HO.out) (by decide); exact h_) (fun hHeld => ?_)
            replace HO := Aside0.mk (Ow.Own.drew HO.out)
            refine dispute_tab dispute_Decide.tab13 (fun HT_ => ?_)
            refine' Ow.pu (i := 1) (N := some 69) (Ow.B 17 2) HT_.out ?hv_ ?ha_ ?_; (case hv_ => intro w'; go_simp; with_reducible rfl); (case ha_ => simp only [Ow.Sl, i64_w, i32_w]; rfl)
            refine' Ow.pu (i := 3) (N := some 71) (Ow.B 17 10) HT_.out ?hv_ ?ha_ ?_; (case hv_ => intro w'; go_simp; with_reducible rfl); (case ha_ => simp only [Ow.Sl, i64_w, i32_w]; rfl)
            refine' Ow.pu (i := 5) (N := some 73) (Ow.B 17 42) HT_.out ?hv_ ?ha_ ?_; (case hv_ => intro w'; go_simp; with_reducible rfl); (case ha_ => simp only [Ow.Sl, i64_w, i32_w]; rfl)
            refine' Ow.pu (i := 7) (N := some 75) (Ow.B 17 170) HT_.out ?hv_ ?ha_ ?_; (case hv_ => intro w'; go_simp; with_reducible rfl); (case ha_ => simp only [Ow.Sl, i64_w, i32_w]; rfl)
            refine' Ow.pu (i := 9) (N := some 77) (Ow.B 17 682) HT_.out ?hv_ ?ha_ ?_; (case hv_ => intro w'; go_simp; with_reducible rfl); (case ha_ => simp only [Ow.Sl, i64_w, i32_w]; rfl)
            refine' Ow.pu (i := 11) (N := some 79) (Ow.B 17 2730) HT_.out ?hv_ ?ha_ ?_; (case hv_ => intro w'; go_simp; with_reducible rfl); (case ha_ => simp only [Ow.Sl, i64_w, i32_w]; rfl)
            refine take_ (i := 0) (N := some 68) (v := ?_) (a' := ?_) (Ow.B 17 2731) rfl rfl (take_of HT_.out (by kernel_rfl)) (fun _ _ _ h => h) (Or.inl ⟨by rfl, ?_⟩) hHeld ?_ ?_
            rotate_left
            · intro w' s_
              first | refine Ow.r1 Ot.ty s_ rfl rfl rfl (by first | ((try simp only [hq.1]) <;> rfl) | fail) | (refine' Ow.r0 Ot.ty s_ rfl rfl rfl ?hs_; (case hs_ => first | ((try simp only [hq.1]) <;> rfl) | fail)) | (refine' Ow.rp Ot.ty s_ rfl rfl rfl ?hs_; (case hs_ => first | ((try simp only [hq.1]) <;> rfl) | fail))
            rotate_left
            · simp only [Ow.Sl, i64_w, i32_w]
              rfl
            refine take_ (i := 2) (N := some 70) (v := ?_) (a' := ?_) (Ow.B 17 2735) rfl rfl (take_of HT_.out (by kernel_rfl)) (fun _ _ _ h => h) (Or.inl ⟨by rfl, ?_⟩) hHeld ?_ ?_
            rotate_left
            · intro w' s_
              first | refine Ow.r1 Ot.ty s_ rfl rfl rfl (by first | ((try simp only [hq.1]) <;> rfl) | fail) | (refine' Ow.r0 Ot.ty s_ rfl rfl rfl ?hs_; (case hs_ => first | ((try simp only [hq.1]) <;> rfl) | fail)) | (refine' Ow.rp Ot.ty s_ rfl rfl rfl ?hs_; (case hs_ => first | ((try simp only [hq.1]) <;> rfl) | fail))
            rotate_left
            · simp only [Ow.Sl, i64_w, i32_w]
              rfl
            refine take_ (i := 4) (N := some 72) (v := ?_) (a' := ?_) (Ow.B 17 2751) rfl rfl (take_of HT_.out (by kernel_rfl)) (fun _ _ _ h => h) (Or.inl ⟨by rfl, ?_⟩) hHeld ?_ ?_
            rotate_left
            · intro w' s_
              first | refine Ow.r1 Ot.ty s_ rfl rfl rfl (by first | ((try simp only [hq.1]) <;> rfl) | fail) | (refine' Ow.r0 Ot.ty s_ rfl rfl rfl ?hs_; (case hs_ => first | ((try simp only [hq.1]) <;> rfl) | fail)) | (refine' Ow.rp Ot.ty s_ rfl rfl rfl ?hs_; (case hs_ => first | ((try simp only [hq.1]) <;> rfl) | fail))
            rotate_left
            · simp only [Ow.Sl, i64_w, i32_w]
              rfl
            refine take_ (i := 6) (N := some 74) (v := ?_) (a' := ?_) (Ow.B 17 2815) rfl rfl (take_of HT_.out (by kernel_rfl)) (fun _ _ _ h => h) (Or.inl ⟨by rfl, ?_⟩) hHeld ?_ ?_
            rotate_left
            · intro w' s_
              first | refine Ow.r1 Ot.ty s_ rfl rfl rfl (by first | ((try simp only [hq.1]) <;> rfl) | fail) | (refine' Ow.r0 Ot.ty s_ rfl rfl rfl ?hs_; (case hs_ => first | ((try simp only [hq.1]) <;> rfl) | fail)) | (refine' Ow.rp Ot.ty s_ rfl rfl rfl ?hs_; (case hs_ => first | ((try simp only [hq.1]) <;> rfl) | fail))
            rotate_left
            · simp only [Ow.Sl, i64_w, i32_w]
              rfl
            refine take_ (i := 8) (N := some 76) (v := ?_) (a' := ?_) (Ow.B 17 3071) rfl rfl (take_of HT_.out (by kernel_rfl)) (fun _ _ _ h => h) (Or.inl ⟨by rfl, ?_⟩) hHeld ?_ ?_
            rotate_left
            · intro w' s_
              first | refine Ow.r1 Ot.ty s_ rfl rfl rfl (by first | ((try simp only [hq.1]) <;> rfl) | fail) | (refine' Ow.r0 Ot.ty s_ rfl rfl rfl ?hs_; (case hs_ => first | ((try simp only [hq.1]) <;> rfl) | fail)) | (refine' Ow.rp Ot.ty s_ rfl rfl rfl ?hs_; (case hs_ => first | ((try simp only [hq.1]) <;> rfl) | fail))
            rotate_left
            · simp only [Ow.Sl, i64_w, i32_w]
              rfl
            refine take_ (i := 10) (N := some 78) (v := ?_) (a' := ?_) (Ow.B 17 4095) rfl rfl (take_of HT_.out (by kernel_rfl)) (fun _ _ _ h => h) (Or.inl ⟨by rfl, ?_⟩) hHeld ?_ ?_
            rotate_left
            · intro w' s_
              first | refine Ow.r1 Ot.ty s_ rfl rfl rfl (by first | ((try simp only [hq.1]) <;> rfl) | fail) | (refine' Ow.r0 Ot.ty s_ rfl rfl rfl ?hs_; (case hs_ => first | ((try simp only [hq.1]) <;> rfl) | fail)) | (refine' Ow.rp Ot.ty s_ rfl rfl rfl ?hs_; (case hs_ => first | ((try simp only [hq.1]) <;> rfl) | fail))
            rotate_left
            · simp only [Ow.Sl, i64_w, i32_w]
              rfl
            refine take_ (i := 12) (N := some 80) (v := ?_) (a' := ?_) (Ow.B 17 8191) rfl rfl (take_of HT_.out (by kernel_rfl)) (fun _ _ _ h => h) (Or.inl ⟨by rfl, ?_⟩) hHeld ?_ ?_
            rotate_left
            · intro w' s_
              first | refine Ow.r1 Ot.ty s_ rfl rfl rfl (by first | ((try simp only [hq.1]) <;> rfl) | fail) | (refine' Ow.r0 Ot.ty s_ rfl rfl rfl ?hs_; (case hs_ => first | ((try simp only [hq.1]) <;> rfl) | fail)) | (refine' Ow.rp Ot.ty s_ rfl rfl rfl ?hs_; (case hs_ => first | ((try simp only [hq.1]) <;> rfl) | fail))
            rotate_left
            · simp only [Ow.Sl, i64_w, i32_w]
              rfl
            refine' Ow.pu (i := 13) (N := some 81) (Ow.B 17 16383) HT_.out ?hv_ ?ha_ ?_; (case hv_ => intro w'; go_simp; with_reducible rfl); (case ha_ => simp only [Ow.Sl, i64_w, i32_w]; rfl)
            refine one_ (i := 14) (N := none) (Ow.B 17 32767) rfl rfl (one_of HT_.out (by kernel_rfl)) (by decide) (fun K hK => ?_)
            refine Ow.oskip Ot.ty HO.out (by rfl) rfl rfl rfl rfl (by with_reducible first | exact Ow.at0 | exact Ow.at1 | exact Ow.at2 | exact Ow.at3 | exact Ow.at4) (by first | exact Ow.ev_tmp rfl | rfl) (by first | ((try simp only [hq.1]) <;> rfl) | fail) (by first | ((try simp only [hq.1]) <;> rfl) | fail) (by first | ((try simp only [hq.1]) <;> rfl) | fail) ?_
            clear HO; intro wz_ HO; simp only [List.set_cons_zero, List.set_cons_succ] at HO
            refine hK.out _ _ (by have h_ := Ow.Own.pick [0, 1, 4] HO.out (by decide); first | exact h_ | exact Ow.Own.cong h_ (by first | ((try simp only [hq.1]) <;> rfl) | fail)) (fun hHeld => ?_)
            clear hK K
            refine one_ (i := 15) (N := none) (Ow.B 17 65535) rfl rfl (one_of HT_.out (by kernel_rfl)) (by decide) (fun K hK => ?_)
            refine Ow.oskip Ot.ty HO.out (by rfl) rfl rfl rfl rfl (by with_reducible first | exact Ow.at0 | exact Ow.at1 | exact Ow.at2 | exact Ow.at3 | exact Ow.at4) (by first | exact Ow.ev_tmp rfl | rfl) (by first | ((try simp only [hq.1]) <;> rfl) | fail) (by first | ((try simp only [hq.1]) <;> rfl) | fail) (by first | ((try simp only [hq.1]) <;> rfl) | fail) ?_
            clear HO; intro wz_ HO; simp only [List.set_cons_zero, List.set_cons_succ] at HO
            refine hK.out _ _ (by have h_ := Ow.Own.pick [0, 1, 4] HO.out (by decide); first | exact h_ | exact Ow.Own.cong h_ (by first | ((try simp only [hq.1]) <;> rfl) | fail)) (fun hHeld => ?_)
            clear hK K
            refine' Ow.pu (i := 16) (N := some 8) (Ow.B 17 131071) HT_.out ?hv_ ?ha_ ?_; (case hv_ => intro w'; go_simp; with_reducible rfl); (case ha_ => simp only [Ow.Sl, i64_w, i32_w]; rfl)
            refine done_ (done_of HT_.out (by kernel_rfl)) ?_
            go_wp2
            refine' bodyPost_ret (results_list (rs := [.cell 6 33, .cell 7 37, .tmp 8]) rfl (by simp) (Vals.cell g6 33 _ (0, 0) _ rfl ?hb_ Try.underlying33 rfl ?hi_ (Vals.cell g7 37 _ (0, 0) _ rfl ?hc_ Try.underlying37 rfl ?hj_ (Vals.tmp Vals.nil)))) rfl ?_
            case hb_ => refine' Ow.Own.get HO.out 2 ?hk_; (case hk_ => rfl)
            case hc_ => refine' Ow.Own.get HO.out 3 ?hk_; (case hk_ => rfl)
            case hi_ => exact (Ot.ty.size 33 rfl).trans (congrArg some (by rfl))
            case hj_ => exact (Ot.ty.size 37 rfl).trans (congrArg some (by rfl))
            exact ⟨rfl, HO.out.below⟩
      · have i0 := dispute_steps_at3
        have h := HR.out
        clear HR
        unfold dispute_Decide.rest3 at h
        obtain ⟨p, hp, h⟩ := Option.bind_eq_some_iff.mp h
        have Hp := Lib.hid hp
        clear hp
        cases p with
        | false =>
          rw [if_neg (show ¬ (false = true) by decide)] at h
          have HR := Lib.hid h
          clear h
          go_wp2_with (first | ((with_reducible refine gate_dst (N := 10) rfl ?_); refine Ow.box rfl (N := 10) rfl (cs := #[.string ((⟨#[]⟩ : ByteArray)), .int .i64 0, .int .i64 0]) (t := 54) HO.out (by first | (go_simp; done) | (go_simp; rfl)) ?_; clear HO; intro g10 wb_ HO; simp only [List.cons_append, List.nil_append] at HO) | (go_at_call 20; refine Calls.mono (calls_of_args (by first | ((try simp only [hq.1]) <;> rfl) | fail) (strings_HasPrefix.calls a2 (⟨#[48, 50]⟩ : ByteArray) false _ Hp.out)) ?_; rintro e wx ⟨he_, ⟨nd_, rfl⟩⟩; subst he_; replace HO := Aside0.mk (Ow.Own.drewN HO.out nd_); (try simp only [World.drewN_drewN] at HO)) | ((with_reducible refine Ow.gate_build rfl ?_); (try (refine gate_guard (by rfl) ?_; dsimp only)); refine' Ow.tbuild Ot.bd rfl rfl rfl ?hf_ ?_; (case hf_ => repeat (any_goals (first | exact Ow.Fills.nil | (refine' Ow.Fills.c ?hv_ rfl ?hz_ ?_; (case hv_ => first | exact Ow.ev_tmp rfl | rfl); (case hz_ => first | (refine ⟨?_, ?_⟩ <;> (first | ((try simp only [hq.1]) <;> rfl) | fail)) | fail)))))) | ((with_reducible refine Ow.gate_load rfl ?_); (try (refine gate_guard (by rfl) ?_; dsimp only)); (first | refine Ow.l1 Ot.ty HO.out rfl rfl rfl rfl (by first | ((try simp only [hq.1]) <;> rfl) | fail) ?_ | refine Ow.l0 Ot.ty HO.out rfl rfl rfl rfl (by first | ((try simp only [hq.1]) <;> rfl) | fail) ?_ | refine Ow.lp Ot.ty HO.out rfl rfl rfl rfl (by first | ((try simp only [hq.1]) <;> rfl) | fail) ?_)) | ((with_reducible refine gate_store rfl ?_); (try (refine gate_guard (by rfl) ?_; dsimp only)); (first | refine Ow.s0 Ot.ty HO.out rfl rfl rfl rfl rfl (by first | exact Ow.ev_tmp rfl | rfl) (by first | (refine ⟨?_, ?_, ?_⟩ <;> (first | ((try simp only [hq.1]) <;> rfl) | fail)) | fail) ?_ | refine Ow.sp Ot.ty HO.out rfl rfl rfl rfl rfl (by first | exact Ow.ev_tmp rfl | rfl) (by first | (refine ⟨?_, ?_, ?_⟩ <;> (first | ((try simp only [hq.1]) <;> rfl) | fail)) | fail) ?_); clear HO; intro wz_ HO; simp only [List.set_cons_zero, List.set_cons_succ] at HO))
          go_roundw
          case rel => exact ⟨.inr (.inr (.inr (.inr ⟨rfl, HR⟩))), ⟨by have h_ := Ow.Own.pick [0, 1, 2, 3] HO.out (by decide); exact h_⟩⟩
          case measure => simp [intOf]
        | true =>
          rw [if_pos rfl] at h
          obtain ⟨c, hc, h⟩ := Option.bind_eq_some_iff.mp h
          have Hc := Lib.hid hc
          clear hc
          by_cases hce : c = (⟨#[]⟩ : ByteArray)
          rotate_left
          · rw [if_neg hce] at h
            simp only [Option.some.injEq, Prod.mk.injEq] at h
            obtain ⟨rfl, rfl, rfl, rfl, rfl, rfl, rfl, rfl, rfl, rfl, rfl, rfl, rfl⟩ := h
            have d1 : (c.toList == ([] : List UInt8)) = false := by rw [Pu.toList_empty]; exact decide_eq_false (fun e => hce (Pu.size_nil e))
            have d2 : (c.toList != ([] : List UInt8)) = true := by rw [bne, d1]; rfl
            have d3 : (!c.toList.isEmpty) = true := by rw [← Pu.bne_nil]; exact d2
            have d4 : c.toList.isEmpty = false := by rw [← Pu.beq_nil]; exact d1
            clear hce
            go_wp2_with (first | ((with_reducible refine gate_dst (N := 10) rfl ?_); refine Ow.box rfl (N := 10) rfl (cs := #[.string ((⟨#[]⟩ : ByteArray)), .int .i64 0, .int .i64 0]) (t := 54) HO.out (by first | (go_simp; done) | (go_simp; rfl)) ?_; clear HO; intro g10 wb_ HO; simp only [List.cons_append, List.nil_append] at HO) | (go_at_call 20; refine Calls.mono (calls_of_args (by first | ((try simp only [hq.1]) <;> rfl) | fail) (strings_HasPrefix.calls a2 (⟨#[48, 50]⟩ : ByteArray) true _ Hp.out)) ?_; rintro e wx ⟨he_, ⟨nd_, rfl⟩⟩; subst he_; replace HO := Aside0.mk (Ow.Own.drewN HO.out nd_); (try simp only [World.drewN_drewN] at HO)) | (go_at_call 21; refine Calls.mono (calls_of_args (by first | ((try simp only [hq.1]) <;> rfl) | fail) (dispute_wrong.calls k a0 a1 a2 a3 a4 a5 a6 a7 a8 a9 a10 a11 a12 a13 a14 a15 a16 a17 a18 a19 a20 a21 a22 a23 a24 c0 c1 c2 c3 c4 c5 there (⟨#[48, 50]⟩ : ByteArray) 2 3 c _ Hc.out)) ?_; rintro e wx ⟨he_, hb⟩; subst he_; replace HO := Aside0.mk (Ow.Own.call HO.out hb); clear hb) | ((with_reducible refine Ow.gate_build rfl ?_); (try (refine gate_guard (by rfl) ?_; dsimp only)); refine' Ow.tbuild Ot.bd rfl rfl rfl ?hf_ ?_; (case hf_ => repeat (any_goals (first | exact Ow.Fills.nil | (refine' Ow.Fills.c ?hv_ rfl ?hz_ ?_; (case hv_ => first | exact Ow.ev_tmp rfl | rfl); (case hz_ => first | (refine ⟨?_, ?_⟩ <;> (first | ((try simp only [hq.1]) <;> rfl) | fail)) | fail)))))) | ((with_reducible refine Ow.gate_load rfl ?_); (try (refine gate_guard (by rfl) ?_; dsimp only)); (first | refine Ow.l1 Ot.ty HO.out rfl rfl rfl rfl (by first | ((try simp only [hq.1]) <;> rfl) | fail) ?_ | refine Ow.l0 Ot.ty HO.out rfl rfl rfl rfl (by first | ((try simp only [hq.1]) <;> rfl) | fail) ?_ | refine Ow.lp Ot.ty HO.out rfl rfl rfl rfl (by first | ((try simp only [hq.1]) <;> rfl) | fail) ?_)) | ((with_reducible refine gate_store rfl ?_); (try (refine gate_guard (by rfl) ?_; dsimp only)); (first | refine Ow.s0 Ot.ty HO.out rfl rfl rfl rfl rfl (by first | exact Ow.ev_tmp rfl | rfl) (by first | (refine ⟨?_, ?_, ?_⟩ <;> (first | ((try simp only [hq.1]) <;> rfl) | fail)) | fail) ?_ | refine Ow.sp Ot.ty HO.out rfl rfl rfl rfl rfl (by first | exact Ow.ev_tmp rfl | rfl) (by first | (refine ⟨?_, ?_, ?_⟩ <;> (first | ((try simp only [hq.1]) <;> rfl) | fail)) | fail) ?_); clear HO; intro wz_ HO; simp only [List.set_cons_zero, List.set_cons_succ] at HO))
            refine' bodyPost_ret (results_list (rs := [.cell 6 33, .cell 7 37, .tmp 8]) rfl (by simp) (Vals.cell g6 33 _ (0, 0) _ rfl ?hb_ Try.underlying33 rfl ?hi_ (Vals.cell g7 37 _ (0, 0) _ rfl ?hc_ Try.underlying37 rfl ?hj_ (Vals.tmp Vals.nil)))) rfl ?_
            case hb_ => refine' Ow.Own.get HO.out 2 ?hk_; (case hk_ => rfl)
            case hc_ => refine' Ow.Own.get HO.out 3 ?hk_; (case hk_ => rfl)
            case hi_ => exact (Ot.ty.size 33 rfl).trans (congrArg some (by rfl))
            case hj_ => exact (Ot.ty.size 37 rfl).trans (congrArg some (by rfl))
            exact ⟨rfl, HO.out.below⟩
          · subst hce
            rw [if_pos rfl] at h
            simp only [Option.some.injEq, Prod.mk.injEq] at h
            obtain ⟨rfl, rfl, rfl, rfl, rfl, rfl, rfl, rfl, rfl, rfl, rfl, rfl, rfl⟩ := h
            go_wp2_with (first | ((with_reducible refine gate_dst (N := 10) rfl ?_); refine Ow.box rfl (N := 10) rfl (cs := #[.string ((⟨#[]⟩ : ByteArray)), .int .i64 0, .int .i64 0]) (t := 54) HO.out (by first | (go_simp; done) | (go_simp; rfl)) ?_; clear HO; intro g10 wb_ HO; simp only [List.cons_append, List.nil_append] at HO) | (go_at_call 20; refine Calls.mono (calls_of_args (by first | ((try simp only [hq.1]) <;> rfl) | fail) (strings_HasPrefix.calls a2 (⟨#[48, 50]⟩ : ByteArray) true _ Hp.out)) ?_; rintro e wx ⟨he_, ⟨nd_, rfl⟩⟩; subst he_; replace HO := Aside0.mk (Ow.Own.drewN HO.out nd_); (try simp only [World.drewN_drewN] at HO)) | (go_at_call 21; refine Calls.mono (calls_of_args (by first | ((try simp only [hq.1]) <;> rfl) | fail) (dispute_wrong.calls k a0 a1 a2 a3 a4 a5 a6 a7 a8 a9 a10 a11 a12 a13 a14 a15 a16 a17 a18 a19 a20 a21 a22 a23 a24 c0 c1 c2 c3 c4 c5 there (⟨#[48, 50]⟩ : ByteArray) 2 3 (⟨#[]⟩ : ByteArray) _ Hc.out)) ?_; rintro e wx ⟨he_, hb⟩; subst he_; replace HO := Aside0.mk (Ow.Own.call HO.out hb); clear hb) | ((with_reducible refine Ow.gate_build rfl ?_); (try (refine gate_guard (by rfl) ?_; dsimp only)); refine' Ow.tbuild Ot.bd rfl rfl rfl ?hf_ ?_; (case hf_ => repeat (any_goals (first | exact Ow.Fills.nil | (refine' Ow.Fills.c ?hv_ rfl ?hz_ ?_; (case hv_ => first | exact Ow.ev_tmp rfl | rfl); (case hz_ => first | (refine ⟨?_, ?_⟩ <;> (first | ((try simp only [hq.1]) <;> rfl) | fail)) | fail)))))) | ((with_reducible refine Ow.gate_load rfl ?_); (try (refine gate_guard (by rfl) ?_; dsimp only)); (first | refine Ow.l1 Ot.ty HO.out rfl rfl rfl rfl (by first | ((try simp only [hq.1]) <;> rfl) | fail) ?_ | refine Ow.l0 Ot.ty HO.out rfl rfl rfl rfl (by first | ((try simp only [hq.1]) <;> rfl) | fail) ?_ | refine Ow.lp Ot.ty HO.out rfl rfl rfl rfl (by first | ((try simp only [hq.1]) <;> rfl) | fail) ?_)) | ((with_reducible refine gate_store rfl ?_); (try (refine gate_guard (by rfl) ?_; dsimp only)); (first | refine Ow.s0 Ot.ty HO.out rfl rfl rfl rfl rfl (by first | exact Ow.ev_tmp rfl | rfl) (by first | (refine ⟨?_, ?_, ?_⟩ <;> (first | ((try simp only [hq.1]) <;> rfl) | fail)) | fail) ?_ | refine Ow.sp Ot.ty HO.out rfl rfl rfl rfl rfl (by first | exact Ow.ev_tmp rfl | rfl) (by first | (refine ⟨?_, ?_, ?_⟩ <;> (first | ((try simp only [hq.1]) <;> rfl) | fail)) | fail) ?_); clear HO; intro wz_ HO; simp only [List.set_cons_zero, List.set_cons_succ] at HO))
            refine start_ (n := 8) (S := fun w' => Ow.Own w w' [(g3, Q0, 27), (g6, #[.string ((⟨#[]⟩ : ByteArray)), .string ((⟨#[]⟩ : ByteArray)), .string ((⟨#[]⟩ : ByteArray)), .int .i64 0, .int .i64 0, .int .i64 0], 33), (g7, #[.int .i64 0, .int .i64 0, .string ((⟨#[]⟩ : ByteArray)), .string ((⟨#[]⟩ : ByteArray)), .string ((⟨#[]⟩ : ByteArray)), .int .i64 0], 37), (g10, #[.string ((⟨#[48, 50]⟩ : ByteArray)), .int .i64 2, .int .i64 3], 54)]) (ds := []) (Ow.B 8 0) (by kernel_rfl) rfl (by kernel_rfl) (by have h_ := Ow.Own.pick [0, 2, 3, 4] (Ow.Own.drew HO.out) (by decide); exact h_) (fun hHeld => ?_)
            replace HO := Aside0.mk (Ow.Own.drew HO.out)
            refine dispute_tab dispute_Decide.tab12 (fun HT_ => ?_)
            refine' Ow.pu (i := 0) (N := some 62) (Ow.B 8 1) HT_.out ?hv_ ?ha_ ?_; (case hv_ => intro w'; go_simp; with_reducible rfl); (case ha_ => simp only [Ow.Sl, i64_w, i32_w]; rfl)
            refine' Ow.pu (i := 1) (N := some 63) (Ow.B 8 3) HT_.out ?hv_ ?ha_ ?_; (case hv_ => intro w'; go_simp; with_reducible rfl); (case ha_ => simp only [Ow.Sl, i64_w, i32_w]; rfl)
            refine' Ow.pu (i := 4) (N := some 66) (Ow.B 8 19) HT_.out ?hv_ ?ha_ ?_; (case hv_ => intro w'; go_simp; with_reducible rfl); (case ha_ => simp only [Ow.Sl, i64_w, i32_w]; rfl)
            refine take_ (i := 2) (N := some 64) (v := ?_) (a' := ?_) (Ow.B 8 23) rfl rfl (take_of HT_.out (by kernel_rfl)) (fun _ _ _ h => h) (Or.inl ⟨by rfl, ?_⟩) hHeld ?_ ?_
            rotate_left
            · intro w' s_
              first | refine Ow.r1 Ot.ty s_ rfl rfl rfl (by first | ((try simp only [hq.1]) <;> rfl) | fail) | (refine' Ow.r0 Ot.ty s_ rfl rfl rfl ?hs_; (case hs_ => first | ((try simp only [hq.1]) <;> rfl) | fail)) | (refine' Ow.rp Ot.ty s_ rfl rfl rfl ?hs_; (case hs_ => first | ((try simp only [hq.1]) <;> rfl) | fail))
            rotate_left
            · simp only [Ow.Sl, i64_w, i32_w]
              rfl
            refine' Ow.pu (i := 3) (N := some 65) (Ow.B 8 31) HT_.out ?hv_ ?ha_ ?_; (case hv_ => intro w'; go_simp; with_reducible rfl); (case ha_ => simp only [Ow.Sl, i64_w, i32_w]; rfl)
            refine one_ (i := 5) (N := none) (Ow.B 8 63) rfl rfl (one_of HT_.out (by kernel_rfl)) (by decide) (fun K hK => ?_)
            refine Ow.oskip Ot.ty HO.out (by rfl) rfl rfl rfl rfl (by with_reducible first | exact Ow.at0 | exact Ow.at1 | exact Ow.at2 | exact Ow.at3 | exact Ow.at4) (by first | exact Ow.ev_tmp rfl | rfl) (by first | ((try simp only [hq.1]) <;> rfl) | fail) (by first | ((try simp only [hq.1]) <;> rfl) | fail) (by first | ((try simp only [hq.1]) <;> rfl) | fail) ?_
            clear HO; intro wz_ HO; simp only [List.set_cons_zero, List.set_cons_succ] at HO
            refine hK.out _ _ (by have h_ := Ow.Own.pick [0, 2, 3, 4] HO.out (by decide); first | exact h_ | exact Ow.Own.cong h_ (by first | ((try simp only [hq.1]) <;> rfl) | fail)) (fun hHeld => ?_)
            clear hK K
            refine' Ow.pu (i := 6) (N := some 67) (Ow.B 8 127) HT_.out ?hv_ ?ha_ ?_; (case hv_ => intro w'; go_simp; with_reducible rfl); (case ha_ => simp only [Ow.Sl, i64_w, i32_w]; rfl)
            refine one_ (i := 7) (N := none) (Ow.B 8 255) rfl rfl (one_of HT_.out (by kernel_rfl)) (by decide) (fun K hK => ?_)
            refine Ow.oskip Ot.ty HO.out (by rfl) rfl rfl rfl rfl (by with_reducible first | exact Ow.at0 | exact Ow.at1 | exact Ow.at2 | exact Ow.at3 | exact Ow.at4) (by first | exact Ow.ev_tmp rfl | rfl) (by first | ((try simp only [hq.1]) <;> rfl) | fail) (by first | ((try simp only [hq.1]) <;> rfl) | fail) (by first | ((try simp only [hq.1]) <;> rfl) | fail) ?_
            clear HO; intro wz_ HO; simp only [List.set_cons_zero, List.set_cons_succ] at HO
            refine hK.out _ _ (by have h_ := Ow.Own.pick [0, 2, 3, 4] HO.out (by decide); first | exact h_ | exact Ow.Own.cong h_ (by first | ((try simp only [hq.1]) <;> rfl) | fail)) (fun hHeld => ?_)
            clear hK K
            refine done_ (done_of HT_.out (by kernel_rfl)) ?_
            replace HO := Aside0.mk (Ow.Own.cong (l' := [(g3, Q0, 27), (g4, #[.string c0, .string c1, .string c2, .int .i64 3, .int .i64 c4, .int .i64 ((wrap64 (a22 + 200)))], 33), (g6, #[.string ((⟨#[]⟩ : ByteArray)), .string ((⟨#[]⟩ : ByteArray)), .string ((⟨#[]⟩ : ByteArray)), .int .i64 0, .int .i64 0, .int .i64 0], 33), (g7, #[.int .i64 0, .int .i64 0, .string ((⟨#[]⟩ : ByteArray)), .string ((⟨#[]⟩ : ByteArray)), .string ((⟨#[]⟩ : ByteArray)), .int .i64 0], 37), (g10, #[.string ((⟨#[48, 50]⟩ : ByteArray)), .int .i64 2, .int .i64 3], 54)]) HO.out (by rfl))
            go_wp2_with fail
            refine start_ (n := 17) (S := fun w' => Ow.Own w w' [(g3, Q0, 27), (g4, #[.string c0, .string c1, .string c2, .int .i64 3, .int .i64 c4, .int .i64 ((wrap64 (a22 + 200)))], 33), (g10, #[.string ((⟨#[48, 50]⟩ : ByteArray)), .int .i64 2, .int .i64 3], 54)]) (ds := []) (Ow.B 17 0) (by kernel_rfl) rfl (by kernel_rfl) (by have h_ := Ow.Own.pick [0, 1, 4] (Ow.Own.drew HO.out) (by decide); exact h_) (fun hHeld => ?_)
            replace HO := Aside0.mk (Ow.Own.drew HO.out)
            refine dispute_tab dispute_Decide.tab13 (fun HT_ => ?_)
            refine' Ow.pu (i := 1) (N := some 69) (Ow.B 17 2) HT_.out ?hv_ ?ha_ ?_; (case hv_ => intro w'; go_simp; with_reducible rfl); (case ha_ => simp only [Ow.Sl, i64_w, i32_w]; rfl)
            refine' Ow.pu (i := 3) (N := some 71) (Ow.B 17 10) HT_.out ?hv_ ?ha_ ?_; (case hv_ => intro w'; go_simp; with_reducible rfl); (case ha_ => simp only [Ow.Sl, i64_w, i32_w]; rfl)
            refine' Ow.pu (i := 5) (N := some 73) (Ow.B 17 42) HT_.out ?hv_ ?ha_ ?_; (case hv_ => intro w'; go_simp; with_reducible rfl); (case ha_ => simp only [Ow.Sl, i64_w, i32_w]; rfl)
            refine' Ow.pu (i := 7) (N := some 75) (Ow.B 17 170) HT_.out ?hv_ ?ha_ ?_; (case hv_ => intro w'; go_simp; with_reducible rfl); (case ha_ => simp only [Ow.Sl, i64_w, i32_w]; rfl)
            refine' Ow.pu (i := 9) (N := some 77) (Ow.B 17 682) HT_.out ?hv_ ?ha_ ?_; (case hv_ => intro w'; go_simp; with_reducible rfl); (case ha_ => simp only [Ow.Sl, i64_w, i32_w]; rfl)
            refine' Ow.pu (i := 11) (N := some 79) (Ow.B 17 2730) HT_.out ?hv_ ?ha_ ?_; (case hv_ => intro w'; go_simp; with_reducible rfl); (case ha_ => simp only [Ow.Sl, i64_w, i32_w]; rfl)
            refine take_ (i := 0) (N := some 68) (v := ?_) (a' := ?_) (Ow.B 17 2731) rfl rfl (take_of HT_.out (by kernel_rfl)) (fun _ _ _ h => h) (Or.inl ⟨by rfl, ?_⟩) hHeld ?_ ?_
            rotate_left
            · intro w' s_
              first | refine Ow.r1 Ot.ty s_ rfl rfl rfl (by first | ((try simp only [hq.1]) <;> rfl) | fail) | (refine' Ow.r0 Ot.ty s_ rfl rfl rfl ?hs_; (case hs_ => first | ((try simp only [hq.1]) <;> rfl) | fail)) | (refine' Ow.rp Ot.ty s_ rfl rfl rfl ?hs_; (case hs_ => first | ((try simp only [hq.1]) <;> rfl) | fail))
            rotate_left
            · simp only [Ow.Sl, i64_w, i32_w]
              rfl
            refine take_ (i := 2) (N := some 70) (v := ?_) (a' := ?_) (Ow.B 17 2735) rfl rfl (take_of HT_.out (by kernel_rfl)) (fun _ _ _ h => h) (Or.inl ⟨by rfl, ?_⟩) hHeld ?_ ?_
            rotate_left
            · intro w' s_
              first | refine Ow.r1 Ot.ty s_ rfl rfl rfl (by first | ((try simp only [hq.1]) <;> rfl) | fail) | (refine' Ow.r0 Ot.ty s_ rfl rfl rfl ?hs_; (case hs_ => first | ((try simp only [hq.1]) <;> rfl) | fail)) | (refine' Ow.rp Ot.ty s_ rfl rfl rfl ?hs_; (case hs_ => first | ((try simp only [hq.1]) <;> rfl) | fail))
            rotate_left
            · simp only [Ow.Sl, i64_w, i32_w]
              rfl
            refine take_ (i := 4) (N := some 72) (v := ?_) (a' := ?_) (Ow.B 17 2751) rfl rfl (take_of HT_.out (by kernel_rfl)) (fun _ _ _ h => h) (Or.inl ⟨by rfl, ?_⟩) hHeld ?_ ?_
            rotate_left
            · intro w' s_
              first | refine Ow.r1 Ot.ty s_ rfl rfl rfl (by first | ((try simp only [hq.1]) <;> rfl) | fail) | (refine' Ow.r0 Ot.ty s_ rfl rfl rfl ?hs_; (case hs_ => first | ((try simp only [hq.1]) <;> rfl) | fail)) | (refine' Ow.rp Ot.ty s_ rfl rfl rfl ?hs_; (case hs_ => first | ((try simp only [hq.1]) <;> rfl) | fail))
            rotate_left
            · simp only [Ow.Sl, i64_w, i32_w]
              rfl
            refine take_ (i := 6) (N := some 74) (v := ?_) (a' := ?_) (Ow.B 17 2815) rfl rfl (take_of HT_.out (by kernel_rfl)) (fun _ _ _ h => h) (Or.inl ⟨by rfl, ?_⟩) hHeld ?_ ?_
            rotate_left
            · intro w' s_
              first | refine Ow.r1 Ot.ty s_ rfl rfl rfl (by first | ((try simp only [hq.1]) <;> rfl) | fail) | (refine' Ow.r0 Ot.ty s_ rfl rfl rfl ?hs_; (case hs_ => first | ((try simp only [hq.1]) <;> rfl) | fail)) | (refine' Ow.rp Ot.ty s_ rfl rfl rfl ?hs_; (case hs_ => first | ((try simp only [hq.1]) <;> rfl) | fail))
            rotate_left
            · simp only [Ow.Sl, i64_w, i32_w]
              rfl
            refine take_ (i := 8) (N := some 76) (v := ?_) (a' := ?_) (Ow.B 17 3071) rfl rfl (take_of HT_.out (by kernel_rfl)) (fun _ _ _ h => h) (Or.inl ⟨by rfl, ?_⟩) hHeld ?_ ?_
            rotate_left
            · intro w' s_
              first | refine Ow.r1 Ot.ty s_ rfl rfl rfl (by first | ((try simp only [hq.1]) <;> rfl) | fail) | (refine' Ow.r0 Ot.ty s_ rfl rfl rfl ?hs_; (case hs_ => first | ((try simp only [hq.1]) <;> rfl) | fail)) | (refine' Ow.rp Ot.ty s_ rfl rfl rfl ?hs_; (case hs_ => first | ((try simp only [hq.1]) <;> rfl) | fail))
            rotate_left
            · simp only [Ow.Sl, i64_w, i32_w]
              rfl
            refine take_ (i := 10) (N := some 78) (v := ?_) (a' := ?_) (Ow.B 17 4095) rfl rfl (take_of HT_.out (by kernel_rfl)) (fun _ _ _ h => h) (Or.inl ⟨by rfl, ?_⟩) hHeld ?_ ?_
            rotate_left
            · intro w' s_
              first | refine Ow.r1 Ot.ty s_ rfl rfl rfl (by first | ((try simp only [hq.1]) <;> rfl) | fail) | (refine' Ow.r0 Ot.ty s_ rfl rfl rfl ?hs_; (case hs_ => first | ((try simp only [hq.1]) <;> rfl) | fail)) | (refine' Ow.rp Ot.ty s_ rfl rfl rfl ?hs_; (case hs_ => first | ((try simp only [hq.1]) <;> rfl) | fail))
            rotate_left
            · simp only [Ow.Sl, i64_w, i32_w]
              rfl
            refine take_ (i := 12) (N := some 80) (v := ?_) (a' := ?_) (Ow.B 17 8191) rfl rfl (take_of HT_.out (by kernel_rfl)) (fun _ _ _ h => h) (Or.inl ⟨by rfl, ?_⟩) hHeld ?_ ?_
            rotate_left
            · intro w' s_
              first | refine Ow.r1 Ot.ty s_ rfl rfl rfl (by first | ((try simp only [hq.1]) <;> rfl) | fail) | (refine' Ow.r0 Ot.ty s_ rfl rfl rfl ?hs_; (case hs_ => first | ((try simp only [hq.1]) <;> rfl) | fail)) | (refine' Ow.rp Ot.ty s_ rfl rfl rfl ?hs_; (case hs_ => first | ((try simp only [hq.1]) <;> rfl) | fail))
            rotate_left
            · simp only [Ow.Sl, i64_w, i32_w]
              rfl
            refine' Ow.pu (i := 13) (N := some 81) (Ow.B 17 16383) HT_.out ?hv_ ?ha_ ?_; (case hv_ => intro w'; go_simp; with_reducible rfl); (case ha_ => simp only [Ow.Sl, i64_w, i32_w]; rfl)
            refine one_ (i := 14) (N := none) (Ow.B 17 32767) rfl rfl (one_of HT_.out (by kernel_rfl)) (by decide) (fun K hK => ?_)
            refine Ow.oskip Ot.ty HO.out (by rfl) rfl rfl rfl rfl (by with_reducible first | exact Ow.at0 | exact Ow.at1 | exact Ow.at2 | exact Ow.at3 | exact Ow.at4) (by first | exact Ow.ev_tmp rfl | rfl) (by first | ((try simp only [hq.1]) <;> rfl) | fail) (by first | ((try simp only [hq.1]) <;> rfl) | fail) (by first | ((try simp only [hq.1]) <;> rfl) | fail) ?_
            clear HO; intro wz_ HO; simp only [List.set_cons_zero, List.set_cons_succ] at HO
            refine hK.out _ _ (by have h_ := Ow.Own.pick [0, 1, 4] HO.out (by decide); first | exact h_ | exact Ow.Own.cong h_ (by first | ((try simp only [hq.1]) <;> rfl) | fail)) (fun hHeld => ?_)
            clear hK K
            refine one_ (i := 15) (N := none) (Ow.B 17 65535) rfl rfl (one_of HT_.out (by kernel_rfl)) (by decide) (fun K hK => ?_)
            refine Ow.oskip Ot.ty HO.out (by rfl) rfl rfl rfl rfl (by with_reducible first | exact Ow.at0 | exact Ow.at1 | exact Ow.at2 | exact Ow.at3 | exact Ow.at4) (by first | exact Ow.ev_tmp rfl | rfl) (by first | ((try simp only [hq.1]) <;> rfl) | fail) (by first | ((try simp only [hq.1]) <;> rfl) | fail) (by first | ((try simp only [hq.1]) <;> rfl) | fail) ?_
            clear HO; intro wz_ HO; simp only [List.set_cons_zero, List.set_cons_succ] at HO
            refine hK.out _ _ (by have h_ := Ow.Own.pick [0, 1, 4] HO.out (by decide); first | exact h_ | exact Ow.Own.cong h_ (by first | ((try simp only [hq.1]) <;> rfl) | fail)) (fun hHeld => ?_)
            clear hK K
            refine' Ow.pu (i := 16) (N := some 8) (Ow.B 17 131071) HT_.out ?hv_ ?ha_ ?_; (case hv_ => intro w'; go_simp; with_reducible rfl); (case ha_ => simp only [Ow.Sl, i64_w, i32_w]; rfl)
            refine done_ (done_of HT_.out (by kernel_rfl)) ?_
            go_wp2
            refine' bodyPost_ret (results_list (rs := [.cell 6 33, .cell 7 37, .tmp 8]) rfl (by simp) (Vals.cell g6 33 _ (0, 0) _ rfl ?hb_ Try.underlying33 rfl ?hi_ (Vals.cell g7 37 _ (0, 0) _ rfl ?hc_ Try.underlying37 rfl ?hj_ (Vals.tmp Vals.nil)))) rfl ?_
            case hb_ => refine' Ow.Own.get HO.out 2 ?hk_; (case hk_ => rfl)
            case hc_ => refine' Ow.Own.get HO.out 3 ?hk_; (case hk_ => rfl)
            case hi_ => exact (Ot.ty.size 33 rfl).trans (congrArg some (by rfl))
            case hj_ => exact (Ot.ty.size 37 rfl).trans (congrArg some (by rfl))
            exact ⟨rfl, HO.out.below⟩
      · have h := HR.out
        unfold dispute_Decide.rest4 at h
        simp only [Option.some.injEq, Prod.mk.injEq] at h
        obtain ⟨rfl, rfl, rfl, rfl, rfl, rfl, rfl, rfl, rfl, rfl, rfl, rfl, rfl⟩ := h
        clear HR
        go_wp2_with (first | ((with_reducible refine Ow.gate_build rfl ?_); (try (refine gate_guard (by rfl) ?_; dsimp only)); refine' Ow.tbuild Ot.bd rfl rfl rfl ?hf_ ?_; (case hf_ => repeat (any_goals (first | exact Ow.Fills.nil | (refine' Ow.Fills.c ?hv_ rfl ?hz_ ?_; (case hv_ => first | exact Ow.ev_tmp rfl | rfl); (case hz_ => first | (refine ⟨?_, ?_⟩ <;> (first | ((try simp only [hq.1]) <;> rfl) | fail)) | fail)))))) | ((with_reducible refine Ow.gate_load rfl ?_); (try (refine gate_guard (by rfl) ?_; dsimp only)); (first | refine Ow.l1 Ot.ty HO.out rfl rfl rfl rfl (by first | ((try simp only [hq.1]) <;> rfl) | fail) ?_ | refine Ow.l0 Ot.ty HO.out rfl rfl rfl rfl (by first | ((try simp only [hq.1]) <;> rfl) | fail) ?_ | refine Ow.lp Ot.ty HO.out rfl rfl rfl rfl (by first | ((try simp only [hq.1]) <;> rfl) | fail) ?_)) | ((with_reducible refine gate_store rfl ?_); (try (refine gate_guard (by rfl) ?_; dsimp only)); (first | refine Ow.s0 Ot.ty HO.out rfl rfl rfl rfl rfl (by first | exact Ow.ev_tmp rfl | rfl) (by first | (refine ⟨?_, ?_, ?_⟩ <;> (first | ((try simp only [hq.1]) <;> rfl) | fail)) | fail) ?_ | refine Ow.sp Ot.ty HO.out rfl rfl rfl rfl rfl (by first | exact Ow.ev_tmp rfl | rfl) (by first | (refine ⟨?_, ?_, ?_⟩ <;> (first | ((try simp only [hq.1]) <;> rfl) | fail)) | fail) ?_); clear HO; intro wz_ HO; simp only [List.set_cons_zero, List.set_cons_succ] at HO))
        refine' bodyPost_ret (results_list (rs := [.cell 6 33, .cell 7 37, .tmp 8]) rfl (by simp) (Vals.cell g6 33 _ (0, 0) _ rfl ?hb_ Try.underlying33 rfl ?hi_ (Vals.cell g7 37 _ (0, 0) _ rfl ?hc_ Try.underlying37 rfl ?hj_ (Vals.tmp Vals.nil)))) rfl ?_
        case hb_ => refine' Ow.Own.get HO.out 2 ?hk_; (case hk_ => rfl)
        case hc_ => refine' Ow.Own.get HO.out 3 ?hk_; (case hk_ => rfl)
        case hi_ => exact (Ot.ty.size 33 rfl).trans (congrArg some (by rfl))
        case hj_ => exact (Ot.ty.size 37 rfl).trans (congrArg some (by rfl))
        exact ⟨rfl, HO.out.below⟩


end Go.Proofs.Ytmdpomilhejbcaa.XDC
