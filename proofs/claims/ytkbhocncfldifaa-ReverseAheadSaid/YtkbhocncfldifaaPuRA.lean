/- Plain laws of reversals: what the program's and the document's answers are, as one total function; the laws hold of it. -/
import Derived.Test.YtkbhocncfldifaaXRA6
namespace Go.Proofs.Ytkbhocncfldifaa.XRA
open Go.RowKit Go.Proofs.YtkbhocncfldifaaW.PrintWords Pu
set_option linter.unusedVariables false
theorem text_some (s : ByteArray) : ∃ t, bursarlaw22_text.f s = some t ∧ t.size ≤ 40 := by
  unfold bursarlaw22_text.f
  by_cases h : (s.size : Int) > 40
  · rw [if_pos h, if_pos (by decide), if_pos (by omega)]
    exact ⟨_, rfl, by rw [ByteArray.size_extract]; omega⟩
  · rw [if_neg h]
    exact ⟨_, rfl, by omega⟩
theorem few_some (a0 : ByteArray) (a1 : ByteArray) (a2 : ByteArray) (a3 : Int) (a4 : ByteArray) (a5 : ByteArray) (a6 : ByteArray) (a7 : ByteArray) (a8 : ByteArray) (a9 : Int) (a10 : Int) (a11 : ByteArray) (a12 : Bool) (a13 : Int) (a14 : ByteArray) (a15 : ByteArray) (a16 : ByteArray) (a17 : Int) (a18 : Int) (a19 : Int) (a20 : Bool) (a21 : Bool) (a22 : Int) (a23 : Int) (a24 : Bool) : ∃ b0 b1 b2 b6 b7 b8 b14 b15 b16 : ByteArray, bursarlaw24_few.f a0 a1 a2 a3 a4 a5 a6 a7 a8 a9 a10 a11 a12 a13 a14 a15 a16 a17 a18 a19 a20 a21 a22 a23 a24 = some (b0, b1, b2, a3, a4, a5, b6, b7, b8, a9, a10, a11, a12, a13, b14, b15, b16, a17, a18, a19, a20, a21, a22, a23, a24) ∧ b0.size ≤ 40 ∧ b1.size ≤ 40 ∧ b2.size ≤ 40 ∧ b6.size ≤ 40 ∧ b7.size ≤ 40 ∧ b8.size ≤ 40 ∧ b14.size ≤ 40 ∧ b15.size ≤ 40 ∧ b16.size ≤ 40 := by
  obtain ⟨b0, h0, z0⟩ := text_some a0
  obtain ⟨b1, h1, z1⟩ := text_some a1
  obtain ⟨b2, h2, z2⟩ := text_some a2
  obtain ⟨b6, h6, z6⟩ := text_some a6
  obtain ⟨b7, h7, z7⟩ := text_some a7
  obtain ⟨b14, h14, z14⟩ := text_some a14
  obtain ⟨b15, h15, z15⟩ := text_some a15
  obtain ⟨b16, h16, z16⟩ := text_some a16
  have hF : bursarlaw22_Few.f a0 a1 a2 a3 a4 a5 a6 a7 a8 a9 a10 a11 a12 a13 a14 a15 a16 a17 a18 a19 a20 a21 a22 a23 a24 = some (b0, b1, b2, a3, a4, a5, b6, b7, a8, a9, a10, a11, a12, a13, b14, b15, b16, a17, a18, a19, a20, a21, a22, a23, a24) := by
    unfold bursarlaw22_Few.f
    simp only [h0, h1, h2, h6, h7, h14, h15, h16, Option.bind_some]
  unfold bursarlaw24_few.f
  rw [hF]
  simp only [Option.bind_some]
  by_cases h : (a8.size : Int) > 40
  · rw [if_pos h, if_pos (by decide), if_pos (by omega)]
    exact ⟨b0, b1, b2, b6, b7, a8.extract 0 40, b14, b15, b16, rfl, z0, z1, z2, z6, z7, by rw [ByteArray.size_extract]; omega, z14, z15, z16⟩
  · rw [if_neg h]
    exact ⟨b0, b1, b2, b6, b7, a8, b14, b15, b16, rfl, z0, z1, z2, z6, z7, by omega, z14, z15, z16⟩
def mayR (am : Int) (acq rrn orig r2 c2 pan : ByteArray) (ap ca un : Int) (op fo : Bool) : Bool := mayB 2 acq && refB rrn && decide (0 ≤ am) && decide (orig.size = 35) && (!fo || (hmay r2 c2 pan ap ca un op && decide (r2 = rrn) && decide (c2 = acq)))
theorem may_shape {x1 x2 : Bool} {am : Int} {orig : ByteArray} {fo x3 x4 x5 : Bool} : (if x1 = true then (if x2 = true then (if am < 0 then some false else (if (orig.size : Int) = 35 then (if fo = true then (if x3 = true then (if x4 = true then some x5 else some false) else some false) else some true) else some false)) else some false) else some false)
    = some (x1 && x2 && decide (0 ≤ am) && decide (orig.size = 35) && (!fo || (x3 && x4 && x5))) := by
  by_cases h1 : am < 0
  · have e1 : decide (0 ≤ am) = false := decide_eq_false (by omega)
    cases x1 <;> cases x2 <;> simp [h1, e1]
  · have e1 : decide (0 ≤ am) = true := decide_eq_true (by omega)
    by_cases h2 : orig.size = 35
    · have g2 : (orig.size : Int) = 35 := by omega
      cases x1 <;> cases x2 <;> cases fo <;> cases x3 <;> cases x4 <;> simp [h1, e1, h2]
    · have g2 : ¬ (orig.size : Int) = 35 := by omega
      cases x1 <;> cases x2 <;> simp [h1, e1, h2, g2]
theorem list_if {p q : ByteArray} {α : Type} {x y : α} : (if p.toList = q.toList then x else y) = (if decide (p = q) = true then x else y) := by
  by_cases h : p = q
  · subst h; simp
  · have h' : ¬ p.toList = q.toList := fun e => h (toList_inj.mp e)
    simp [h, h']
theorem may_p (a0 : ByteArray) (a1 : ByteArray) (a2 : ByteArray) (a3 : Int) (a4 : ByteArray) (a5 : ByteArray) (a6 : ByteArray) (a7 : ByteArray) (a8 : ByteArray) (a9 : Int) (a10 : Int) (a11 : ByteArray) (a12 : Bool) (a13 : Int) (a14 : ByteArray) (a15 : ByteArray) (a16 : ByteArray) (a17 : Int) (a18 : Int) (a19 : Int) (a20 : Bool) (a21 : Bool) (a22 : Int) (a23 : Int) (a24 : Bool) (h7 : a7.size ≤ 4096) (h14 : a14.size ≤ 4096) : reverse_May.f a0 a1 a2 a3 a4 a5 a6 a7 a8 a9 a10 a11 a12 a13 a14 a15 a16 a17 a18 a19 a20 a21 a22 a23 a24 = some (mayR a3 a6 a7 a8 a14 a15 a16 a17 a18 a19 a20 a21) := by
  unfold reverse_May.f chart_May.f hold_Ref.f hold_May.f
  simp only [Option.bind_some, if_pos h7, if_pos h14, list_if, toList_beq]
  exact may_shape
theorem mayR_iff {am : Int} {acq rrn orig r2 c2 pan : ByteArray} {ap ca un : Int} {op fo : Bool} : mayR am acq rrn orig r2 c2 pan ap ca un op fo = true ↔ mayB 2 acq = true ∧ refB rrn = true ∧ 0 ≤ am ∧ orig.size = 35 ∧ (fo = true → hmay r2 c2 pan ap ca un op = true ∧ r2 = rrn ∧ c2 = acq) := by
  unfold mayR
  simp only [Bool.and_eq_true, decide_eq_true_eq, Bool.or_eq_true, Bool.not_eq_true', and_assoc]
  cases fo <;> simp
def c00 : ByteArray := ⟨#[48, 48]⟩
def c54 : ByteArray := ⟨#[53, 52]⟩
def c61 : ByteArray := ⟨#[54, 49]⟩
def c12 : ByteArray := ⟨#[49, 50]⟩
def c30 : ByteArray := ⟨#[51, 48]⟩
/-- What comes of a question: the code, the hold, is it new, did it come ahead. -/
def revT (am : Int) (acq rrn orig r2 c2 pan : ByteArray) (ap ca un : Int) (op fo early : Bool) : ByteArray × H7 × Bool × Bool :=
  if mayR am acq rrn orig r2 c2 pan ap ca un op fo = true then
    if early = true then (c00, h0, false, true)
    else if bt orig 0 = 49 then
      if fo = true then
        if op = true then
          if am = 0 then (c00, (r2, c2, pan, ca, ca, un, false), true, false)
          else if ap - ca < am then (c61, h0, false, false)
          else (c00, (r2, c2, pan, ap - am, ca, un, decide (ca < ap - am)), true, false)
        else (c54, h0, false, false)
      else (c00, h0, false, false)
    else (c12, h0, false, false)
  else (c30, h0, false, false)
def outT (r : ByteArray × H7 × Bool × Bool) : ByteArray × ByteArray × ByteArray × ByteArray × Int × Int × Int × Bool × Bool × Int × Int × ByteArray × ByteArray × ByteArray × Int × Bool :=
  (r.1, r.2.1.1, r.2.1.2.1, r.2.1.2.2.1, r.2.1.2.2.2.1, r.2.1.2.2.2.2.1, r.2.1.2.2.2.2.2.1, r.2.1.2.2.2.2.2.2, r.2.2.1, 0, 0, (⟨#[]⟩ : ByteArray), (⟨#[]⟩ : ByteArray), (⟨#[]⟩ : ByteArray), 0, r.2.2.2)
def inB (n : Int) : Prop := -9223372036854775808 ≤ n ∧ n ≤ 9223372036854775807
theorem wr {n : Int} (h : inB n) : wrap64 n = n := by unfold inB at h; unfold wrap64; omega
theorem rev_p (a0 : ByteArray) (a1 : ByteArray) (a2 : ByteArray) (a3 : Int) (a4 : ByteArray) (a5 : ByteArray) (a6 : ByteArray) (a7 : ByteArray) (a8 : ByteArray) (a9 : Int) (a10 : Int) (a11 : ByteArray) (a12 : Bool) (a13 : Int) (a14 : ByteArray) (a15 : ByteArray) (a16 : ByteArray) (a17 : Int) (a18 : Int) (a19 : Int) (a20 : Bool) (a21 : Bool) (a22 : Int) (a23 : Int) (a24 : Bool) (h7 : a7.size ≤ 4096) (h14 : a14.size ≤ 4096) (w17 : inB a17) : reverse_Reverse.f a0 a1 a2 a3 a4 a5 a6 a7 a8 a9 a10 a11 a12 a13 a14 a15 a16 a17 a18 a19 a20 a21 a22 a23 a24 = some (outT (revT a3 a6 a7 a8 a14 a15 a16 a17 a18 a19 a20 a21 a24)) := by
  unfold reverse_Reverse.f
  rw [may_p _ _ _ _ _ _ _ _ _ _ _ _ _ _ _ _ _ _ _ _ _ _ _ _ _ h7 h14]
  simp only [Option.bind_some]
  unfold revT
  by_cases hm : mayR a3 a6 a7 a8 a14 a15 a16 a17 a18 a19 a20 a21 = true
  rotate_left
  · simp only [if_neg hm]; rfl
  rw [if_pos hm, if_pos hm]
  by_cases he : a24 = true
  · rw [if_pos he, if_pos he]; rfl
  rw [if_neg he, if_neg he]
  obtain ⟨m1, m2, m3, m4, m5⟩ := mayR_iff.mp hm
  rw [if_pos (by omega)]
  by_cases ho : bt a8 0 = 49
  rotate_left
  · rw [if_neg ho, if_neg ho]; rfl
  rw [if_pos ho, if_pos ho]
  by_cases hf : a21 = true
  rotate_left
  · rw [if_neg hf, if_neg hf]; rfl
  rw [if_pos hf, if_pos hf]
  obtain ⟨k1, k2, k3⟩ := m5 hf
  obtain ⟨_, _, _, _, _, g1, g2, g3⟩ := hmay_iff.mp k1
  have hw : wrap64 (a17 - a18) = a17 - a18 := wr (by unfold inB at *; omega)
  unfold reverse_Full.f reverse_asked_all.f reverse_asked_part.f hold_Undo.f hold_Less.f
  simp only [Option.bind_some, if_pos h14]
  by_cases h0 : a3 = 0
  · subst h0
    rw [if_pos (show ((0 : Int) == 0) = true from rfl)]
    unfold undoS wrongS
    rw [if_pos k1]
    cases a20 with
    | false => rfl
    | true => simp; rfl
  · have e0 : ¬ (a3 == 0) = true := by simpa using h0
    rw [if_neg e0]
    unfold lessS wrongS
    rw [if_pos k1, hw]
    cases a20 with
    | false => rfl
    | true =>
      have e1 : ¬ a3 < 1 := by omega
      simp only [if_true, if_neg e1, if_neg h0, ne_eq, not_true_eq_false, if_false]
      by_cases h1 : a17 - a18 < a3
      · have h1' : a3 > a17 - a18 := by omega
        simp only [if_pos h1, if_pos h1']; rfl
      · have h1' : ¬ a3 > a17 - a18 := by omega
        have hw2 : wrap64 (a17 - a3) = a17 - a3 := wr (by unfold inB at *; omega)
        simp only [if_neg h1, if_neg h1', hw2]; rfl
theorem inB_of_wf {n : Int} (h : (Lit.int .i64 n).wf = true) : inB n := by
  simp only [Lit.wf, IntKind.min, IntKind.max, IntKind.signed, IntKind.bits, Bool.and_eq_true, decide_eq_true_eq, if_true] at h
  unfold inB
  omega
theorem awake_some : bursarlaw24_awake.f = some true := by
  unfold bursarlaw24_awake.f bursarlaw24_some.f
  simp only [Option.bind_some]
  rw [rev_p]
  rotate_left
  · decide
  · decide
  · unfold inB; decide
  simp only [Option.bind_some]
  rw [rev_p]
  rotate_left
  · decide
  · decide
  · unfold inB; decide
  simp only [Option.bind_some]
  rw [rev_p]
  rotate_left
  · decide
  · decide
  · unfold inB; decide
  unfold bursarref14_Left.f reverse_Full.f
  simp only [Option.bind_some, ByteArray.toList_eq]
  kernel_rfl
theorem revT_true {am : Int} {acq rrn orig r2 c2 pan : ByteArray} {ap ca un : Int} {op fo : Bool} : revT am acq rrn orig r2 c2 pan ap ca un op fo true = if mayR am acq rrn orig r2 c2 pan ap ca un op fo = true then (c00, h0, false, true) else (c30, h0, false, false) := by
  unfold revT; simp
theorem revT_late {am : Int} {acq rrn orig r2 c2 pan : ByteArray} {ap ca un : Int} {op fo : Bool} : (revT am acq rrn orig r2 c2 pan ap ca un op fo false).2.2.2 = false := by
  unfold revT
  simp only [Bool.false_eq_true, if_false]
  (repeat' split) <;> rfl
theorem revT_none {am : Int} {acq rrn orig r2 c2 pan : ByteArray} {ap ca un : Int} {op early : Bool} : (revT am acq rrn orig r2 c2 pan ap ca un op false early).2.2.1 = false := by
  unfold revT
  simp only [Bool.false_eq_true, if_false]
  (repeat' split) <;> rfl
theorem c00_list : c00.toList = [48, 48] := by rw [ByteArray.toList_eq]; rfl
theorem nil_list : (⟨#[]⟩ : ByteArray).toList = [] := by rw [ByteArray.toList_eq]
theorem ahead_pure (a0 : ByteArray) (a1 : ByteArray) (a2 : ByteArray) (a3 : Int) (a4 : ByteArray) (a5 : ByteArray) (a6 : ByteArray) (a7 : ByteArray) (a8 : ByteArray) (a9 : Int) (a10 : Int) (a11 : ByteArray) (a12 : Bool) (a13 : Int) (a14 : ByteArray) (a15 : ByteArray) (a16 : ByteArray) (a17 : Int) (a18 : Int) (a19 : Int) (a20 : Bool) (a21 : Bool) (a22 : Int) (a23 : Int) (a24 : Bool) (g3 : (Lit.int .i64 a3).wf = true) (g9 : (Lit.int .i64 a9).wf = true) (g10 : (Lit.int .i64 a10).wf = true) (g13 : (Lit.int .i64 a13).wf = true) (g17 : (Lit.int .i64 a17).wf = true) (g18 : (Lit.int .i64 a18).wf = true) (g19 : (Lit.int .i64 a19).wf = true) (g22 : (Lit.int .i64 a22).wf = true) (g23 : (Lit.int .i64 a23).wf = true) : bursarlaw24_ReverseAhead.f a0 a1 a2 a3 a4 a5 a6 a7 a8 a9 a10 a11 a12 a13 a14 a15 a16 a17 a18 a19 a20 a21 a22 a23 a24 = some true := by
  obtain ⟨b0, b1, b2, b6, b7, b8, b14, b15, b16, hF, z0, z1, z2, z6, z7, z8, z14, z15, z16⟩ := few_some a0 a1 a2 a3 a4 a5 a6 a7 a8 a9 a10 a11 a12 a13 a14 a15 a16 a17 a18 a19 a20 a21 a22 a23 a24
  unfold bursarlaw24_ReverseAhead.f
  rw [hF]
  simp only [Option.bind_some]
  cases a24 with
  | true =>
    have R1 := rev_p b0 b1 b2 a3 a4 a5 b6 b7 b8 a9 a10 a11 a12 a13 b14 b15 b16 a17 a18 a19 a20 a21 a22 a23 true (by omega) (by omega) (inB_of_wf g17)
    have R2 := rev_p b0 b1 b2 a3 a4 a5 b6 b7 b8 a9 a10 a11 a12 a13 (⟨#[]⟩ : ByteArray) (⟨#[]⟩ : ByteArray) (⟨#[]⟩ : ByteArray) 0 0 0 false false a22 a23 true (by omega) (by decide) (by unfold inB; decide)
    have M1 := may_p b0 b1 b2 a3 a4 a5 b6 b7 b8 a9 a10 a11 a12 a13 b14 b15 b16 a17 a18 a19 a20 a21 a22 a23 true (by omega) (by omega)
    have M2 := may_p b0 b1 b2 a3 a4 a5 b6 b7 b8 a9 a10 a11 a12 a13 (⟨#[]⟩ : ByteArray) (⟨#[]⟩ : ByteArray) (⟨#[]⟩ : ByteArray) 0 0 0 false false a22 a23 true (by omega) (by decide)
    rw [revT_true] at R1 R2
    simp only [R1, R2, M1, M2, Option.bind_some, awake_some, if_true]
    have m2 : ∀ x : Bool, x = mayR a3 b6 b7 b8 (⟨#[]⟩ : ByteArray) (⟨#[]⟩ : ByteArray) (⟨#[]⟩ : ByteArray) 0 0 0 false false → (outT (if x = true then (c00, h0, false, true) else (c30, h0, false, false))).2.2.2.2.2.2.2.2.1 = false ∧ (outT (if x = true then (c00, h0, false, true) else (c30, h0, false, false))).2.2.2.2.2.2.2.2.2.2.2.2.2.2.2 = x := by
      intro x _; cases x <;> exact ⟨rfl, rfl⟩
    obtain ⟨e1, e2⟩ := m2 _ rfl
    by_cases hm : mayR a3 b6 b7 b8 b14 b15 b16 a17 a18 a19 a20 a21 = true
    · simp only [hm, if_true, outT, h0, c00_list, nil_list] at *
      simp [e1, e2]
    · have hm' := Bool.eq_false_iff.mpr hm
      simp only [hm', outT, h0] at *
      simp [e1, e2]
  | false =>
    have R1 := rev_p b0 b1 b2 a3 a4 a5 b6 b7 b8 a9 a10 a11 a12 a13 b14 b15 b16 a17 a18 a19 a20 a21 a22 a23 false (by omega) (by omega) (inB_of_wf g17)
    have R2 := rev_p b0 b1 b2 a3 a4 a5 b6 b7 b8 a9 a10 a11 a12 a13 (⟨#[]⟩ : ByteArray) (⟨#[]⟩ : ByteArray) (⟨#[]⟩ : ByteArray) 0 0 0 false false a22 a23 false (by omega) (by decide) (by unfold inB; decide)
    have l1 := revT_late (am := a3) (acq := b6) (rrn := b7) (orig := b8) (r2 := b14) (c2 := b15) (pan := b16) (ap := a17) (ca := a18) (un := a19) (op := a20) (fo := a21)
    have l2 := revT_late (am := a3) (acq := b6) (rrn := b7) (orig := b8) (r2 := (⟨#[]⟩ : ByteArray)) (c2 := (⟨#[]⟩ : ByteArray)) (pan := (⟨#[]⟩ : ByteArray)) (ap := 0) (ca := 0) (un := 0) (op := false) (fo := false)
    have l3 := revT_none (am := a3) (acq := b6) (rrn := b7) (orig := b8) (r2 := (⟨#[]⟩ : ByteArray)) (c2 := (⟨#[]⟩ : ByteArray)) (pan := (⟨#[]⟩ : ByteArray)) (ap := 0) (ca := 0) (un := 0) (op := false) (early := false)
    simp only [R1, R2, Option.bind_some, awake_some, outT, l1, l2, l3]
    simp
end Go.Proofs.Ytkbhocncfldifaa.XRA
