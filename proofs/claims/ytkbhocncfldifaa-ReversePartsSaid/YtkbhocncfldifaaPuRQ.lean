/- Plain laws of reversals: what the program's and the document's answers are, as one total function; the laws hold of it. -/
import Derived.Test.YtkbhocncfldifaaXRQ6
namespace Go.Proofs.Ytkbhocncfldifaa.XRQ
open Go.RowKit Go.Proofs.YtkbhocncfldifaaW.PrintWords Pu
set_option linter.unusedVariables false
theorem text_some (s : ByteArray) : ∃ t, bursarlaw22_text.f s = some t ∧ t.size ≤ 40 := by
  unfold bursarlaw22_text.f
  by_cases h : (s.size : Int) > 40
  · have h2 : 40 ≤ (s.size : Int) := by omega
    simp only [if_pos h, if_pos h2, if_pos (show (0 : Int) ≤ 40 by decide)]
    exact ⟨_, rfl, by rw [ByteArray.size_extract]; omega⟩
  · rw [if_neg h]
    exact ⟨_, rfl, by omega⟩
theorem few_some (a0 : ByteArray) (a1 : ByteArray) (a2 : ByteArray) (a3 : Int) (a4 : ByteArray) (a5 : ByteArray) (a6 : ByteArray) (a7 : ByteArray) (a8 : ByteArray) (a9 : Int) (a10 : Int) (a11 : ByteArray) (a12 : Bool) (a13 : Int) (a14 : ByteArray) (a15 : ByteArray) (a16 : ByteArray) (a17 : Int) (a18 : Int) (a19 : Int) (a20 : Bool) (a21 : Bool) (a22 : Int) (a23 : Int) (a24 : Bool) : ∃ b0 b1 b2 b6 b7 b8 b14 b15 b16 : ByteArray, bursarlaw24_few.f a0 a1 a2 a3 a4 a5 a6 a7 a8 a9 a10 a11 a12 a13 a14 a15 a16 a17 a18 a19 a20 a21 a22 a23 a24 = some (b0, b1, b2, a3, a4, a5, b6, b7, b8, a9, a10, a11, a12, a13, b14, b15, b16, a17, a18, a19, a20, a21, a22, a23, a24) ∧ b0.size ≤ 40 ∧ b1.size ≤ 40 ∧ b2.size ≤ 40 ∧ b6.size ≤ 40 ∧ b7.size ≤ 40 ∧ b8.size ≤ 40 ∧ b14.size ≤ 40 ∧ b15.size ≤ 40 ∧ b16.size ≤ 40 := by
  obtain ⟨b0, h0, z0⟩ := text_some a0
  obtain ⟨b1, h1, z1⟩ := text_some a1
  obtain ⟨b2, h2, z2⟩ := text_some a2
  obtain ⟨b6, h6, z6⟩ := text_some a6
  obtain ⟨b7, h7, z7⟩ := text_some a7
  obtain ⟨b14, h14, z14⟩ := text_some a14
  obtain ⟨b15, h15, z15⟩ := text_some a15
  obtain ⟨b16, h16, z16⟩ := text_some a16
  have hF : bursarlaw22_Few.f a0 a1 a2 a3 a4 a5 a6 a7 a8 a9 a10 a11 a12 a13 a14 a15 a16 a17 a18 a19 a20 a21 a22 a23 a24 = some (b0, b1, b2, a3, a4, a5, b6, b7, a8, a9, a10, a11, a12, a13, b14, b15, b16, a17, a18, a19, a20, a21, a22, a23, a24) := by
    unfold bursarlaw22_Few.f
    simp only [h0, h1, h2, h6, h7, h14, h15, h16, Option.bind_some]
  unfold bursarlaw24_few.f
  rw [hF]
  simp only [Option.bind_some]
  by_cases h : (a8.size : Int) > 40
  · have h2 : 40 ≤ (a8.size : Int) := by omega
    simp only [if_pos h, if_pos h2, if_pos (show (0 : Int) ≤ 40 by decide)]
    exact ⟨b0, b1, b2, b6, b7, a8.extract 0 40, b14, b15, b16, rfl, z0, z1, z2, z6, z7, by rw [ByteArray.size_extract]; omega, z14, z15, z16⟩
  · rw [if_neg h]
    exact ⟨b0, b1, b2, b6, b7, a8, b14, b15, b16, rfl, z0, z1, z2, z6, z7, by omega, z14, z15, z16⟩
def mayR (am : Int) (acq rrn orig r2 c2 pan : ByteArray) (ap ca un : Int) (op fo : Bool) : Bool := mayB 2 acq && refB rrn && decide (0 ≤ am) && decide (orig.size = 35) && (!fo || (hmay r2 c2 pan ap ca un op && decide (r2 = rrn) && decide (c2 = acq)))
theorem may_shape {x1 x2 : Bool} {am : Int} {orig : ByteArray} {fo x3 x4 x5 : Bool} : (if x1 = true then (if x2 = true then (if am < 0 then some false else (if (orig.size : Int) = 35 then (if fo = true then (if x3 = true then (if x4 = true then some x5 else some false) else some false) else some true) else some false)) else some false) else some false)
    = some (x1 && x2 && decide (0 ≤ am) && decide (orig.size = 35) && (!fo || (x3 && x4 && x5))) := by
  by_cases h1 : am < 0
  · have e1 : decide (0 ≤ am) = false := decide_eq_false (by omega)
    cases x1 <;> cases x2 <;> simp [h1, e1]
  · have e1 : decide (0 ≤ am) = true := decide_eq_true (by omega)
    by_cases h2 : orig.size = 35
    · have g2 : (orig.size : Int) = 35 := by omega
      cases x1 <;> cases x2 <;> cases fo <;> cases x3 <;> cases x4 <;> simp [h1, e1, h2]
    · have g2 : ¬ (orig.size : Int) = 35 := by omega
      cases x1 <;> cases x2 <;> simp [h1, e1, h2, g2]
theorem list_if {p q : ByteArray} {α : Type} {x y : α} : (if p.toList = q.toList then x else y) = (if decide (p = q) = true then x else y) := by
  by_cases h : p = q
  · subst h; simp
  · have h' : ¬ p.toList = q.toList := fun e => h (toList_inj.mp e)
    simp [h, h']
theorem may_p (a0 : ByteArray) (a1 : ByteArray) (a2 : ByteArray) (a3 : Int) (a4 : ByteArray) (a5 : ByteArray) (a6 : ByteArray) (a7 : ByteArray) (a8 : ByteArray) (a9 : Int) (a10 : Int) (a11 : ByteArray) (a12 : Bool) (a13 : Int) (a14 : ByteArray) (a15 : ByteArray) (a16 : ByteArray) (a17 : Int) (a18 : Int) (a19 : Int) (a20 : Bool) (a21 : Bool) (a22 : Int) (a23 : Int) (a24 : Bool) (h7 : a7.size ≤ 4096) (h14 : a14.size ≤ 4096) : reverse_May.f a0 a1 a2 a3 a4 a5 a6 a7 a8 a9 a10 a11 a12 a13 a14 a15 a16 a17 a18 a19 a20 a21 a22 a23 a24 = some (mayR a3 a6 a7 a8 a14 a15 a16 a17 a18 a19 a20 a21) := by
  unfold reverse_May.f chart_May.f hold_Ref.f hold_May.f
  simp only [Option.bind_some, if_pos h7, if_pos h14, list_if, toList_beq]
  exact may_shape
theorem mayR_iff {am : Int} {acq rrn orig r2 c2 pan : ByteArray} {ap ca un : Int} {op fo : Bool} : mayR am acq rrn orig r2 c2 pan ap ca un op fo = true ↔ mayB 2 acq = true ∧ refB rrn = true ∧ 0 ≤ am ∧ orig.size = 35 ∧ (fo = true → hmay r2 c2 pan ap ca un op = true ∧ r2 = rrn ∧ c2 = acq) := by
  unfold mayR
  simp only [Bool.and_eq_true, decide_eq_true_eq, Bool.or_eq_true, Bool.not_eq_true', and_assoc]
  cases fo <;> simp
def c00 : ByteArray := ⟨#[48, 48]⟩
def c54 : ByteArray := ⟨#[53, 52]⟩
def c61 : ByteArray := ⟨#[54, 49]⟩
def c12 : ByteArray := ⟨#[49, 50]⟩
def c30 : ByteArray := ⟨#[51, 48]⟩
/-- What comes of a question: the code, the hold, is it new, did it come ahead. -/
def revT (am : Int) (acq rrn orig r2 c2 pan : ByteArray) (ap ca un : Int) (op fo early : Bool) : ByteArray × H7 × Bool × Bool :=
  if mayR am acq rrn orig r2 c2 pan ap ca un op fo = true then
    if early = true then (c00, h0, false, true)
    else if bt orig 0 = 49 then
      if fo = true then
        if op = true then
          if am = 0 then (c00, (r2, c2, pan, ca, ca, un, false), true, false)
          else if ap - ca < am then (c61, h0, false, false)
          else (c00, (r2, c2, pan, ap - am, ca, un, decide (ca < ap - am)), true, false)
        else (c54, h0, false, false)
      else (c00, h0, false, false)
    else (c12, h0, false, false)
  else (c30, h0, false, false)
def outT (r : ByteArray × H7 × Bool × Bool) : ByteArray × ByteArray × ByteArray × ByteArray × Int × Int × Int × Bool × Bool × Int × Int × ByteArray × ByteArray × ByteArray × Int × Bool :=
  (r.1, r.2.1.1, r.2.1.2.1, r.2.1.2.2.1, r.2.1.2.2.2.1, r.2.1.2.2.2.2.1, r.2.1.2.2.2.2.2.1, r.2.1.2.2.2.2.2.2, r.2.2.1, 0, 0, (⟨#[]⟩ : ByteArray), (⟨#[]⟩ : ByteArray), (⟨#[]⟩ : ByteArray), 0, r.2.2.2)
def inB (n : Int) : Prop := -9223372036854775808 ≤ n ∧ n ≤ 9223372036854775807
theorem wr {n : Int} (h : inB n) : wrap64 n = n := by unfold inB at h; unfold wrap64; omega
theorem rev_p (a0 : ByteArray) (a1 : ByteArray) (a2 : ByteArray) (a3 : Int) (a4 : ByteArray) (a5 : ByteArray) (a6 : ByteArray) (a7 : ByteArray) (a8 : ByteArray) (a9 : Int) (a10 : Int) (a11 : ByteArray) (a12 : Bool) (a13 : Int) (a14 : ByteArray) (a15 : ByteArray) (a16 : ByteArray) (a17 : Int) (a18 : Int) (a19 : Int) (a20 : Bool) (a21 : Bool) (a22 : Int) (a23 : Int) (a24 : Bool) (h7 : a7.size ≤ 4096) (h14 : a14.size ≤ 4096) (w17 : inB a17) : reverse_Reverse.f a0 a1 a2 a3 a4 a5 a6 a7 a8 a9 a10 a11 a12 a13 a14 a15 a16 a17 a18 a19 a20 a21 a22 a23 a24 = some (outT (revT a3 a6 a7 a8 a14 a15 a16 a17 a18 a19 a20 a21 a24)) := by
  unfold reverse_Reverse.f
  rw [may_p _ _ _ _ _ _ _ _ _ _ _ _ _ _ _ _ _ _ _ _ _ _ _ _ _ h7 h14]
  simp only [Option.bind_some]
  unfold revT
  by_cases hm : mayR a3 a6 a7 a8 a14 a15 a16 a17 a18 a19 a20 a21 = true
  rotate_left
  · simp only [if_neg hm]; rfl
  rw [if_pos hm, if_pos hm]
  by_cases he : a24 = true
  · rw [if_pos he, if_pos he]; rfl
  rw [if_neg he, if_neg he]
  obtain ⟨m1, m2, m3, m4, m5⟩ := mayR_iff.mp hm
  rw [if_pos (by omega)]
  by_cases ho : bt a8 0 = 49
  rotate_left
  · rw [if_neg ho, if_neg ho]; rfl
  rw [if_pos ho, if_pos ho]
  by_cases hf : a21 = true
  rotate_left
  · rw [if_neg hf, if_neg hf]; rfl
  rw [if_pos hf, if_pos hf]
  obtain ⟨k1, k2, k3⟩ := m5 hf
  obtain ⟨_, _, _, _, _, g1, g2, g3⟩ := hmay_iff.mp k1
  have hw : wrap64 (a17 - a18) = a17 - a18 := wr (by unfold inB at *; omega)
  unfold reverse_Full.f reverse_asked_all.f reverse_asked_part.f hold_Undo.f hold_Less.f
  simp only [Option.bind_some, if_pos h14]
  by_cases h0 : a3 = 0
  · subst h0
    rw [if_pos (show ((0 : Int) == 0) = true from rfl)]
    unfold undoS wrongS
    rw [if_pos k1]
    cases a20 with
    | false => rfl
    | true => simp; rfl
  · have e0 : ¬ (a3 == 0) = true := by simpa using h0
    rw [if_neg e0]
    unfold lessS wrongS
    rw [if_pos k1, hw]
    cases a20 with
    | false => rfl
    | true =>
      have e1 : ¬ a3 < 1 := by omega
      simp only [if_true, if_neg e1, if_neg h0, ne_eq, not_true_eq_false, if_false]
      by_cases h1 : a17 - a18 < a3
      · have h1' : a3 > a17 - a18 := by omega
        simp only [if_pos h1, if_pos h1']; rfl
      · have h1' : ¬ a3 > a17 - a18 := by omega
        have hw2 : wrap64 (a17 - a3) = a17 - a3 := wr (by unfold inB at *; omega)
        simp only [if_neg h1, if_neg h1', hw2]; rfl
theorem inB_of_wf {n : Int} (h : (Lit.int .i64 n).wf = true) : inB n := by
  simp only [Lit.wf, IntKind.min, IntKind.max, IntKind.signed, IntKind.bits, Bool.and_eq_true, decide_eq_true_eq, if_true] at h
  unfold inB
  omega
theorem awake_some : bursarlaw24_awake.f = some true := by
  unfold bursarlaw24_awake.f bursarlaw24_some.f
  simp only [Option.bind_some]
  rw [rev_p]
  rotate_left
  · decide
  · decide
  · unfold inB; decide
  simp only [Option.bind_some]
  rw [rev_p]
  rotate_left
  · decide
  · decide
  · unfold inB; decide
  simp only [Option.bind_some]
  rw [rev_p]
  rotate_left
  · decide
  · decide
  · unfold inB; decide
  unfold bursarref14_Left.f reverse_Full.f
  simp only [Option.bind_some, ByteArray.toList_eq]
  kernel_rfl
theorem c00_list : c00.toList = [48, 48] := by rw [ByteArray.toList_eq]; rfl
theorem c54_list : c54.toList = [53, 52] := by rw [ByteArray.toList_eq]; rfl
theorem nil_list : (⟨#[]⟩ : ByteArray).toList = [] := by rw [ByteArray.toList_eq]
theorem rev_cases {am : Int} {acq rrn orig r2 c2 pan : ByteArray} {ap ca un : Int} {op fo early : Bool} :
    ((revT am acq rrn orig r2 c2 pan ap ca un op fo early).2.2.1 = false ∧ (revT am acq rrn orig r2 c2 pan ap ca un op fo early).2.1 = h0 ∧ ((revT am acq rrn orig r2 c2 pan ap ca un op fo early).2.2.2 = true → early = true)) ∨
    (mayR am acq rrn orig r2 c2 pan ap ca un op fo = true ∧ early = false ∧ bt orig 0 = 49 ∧ fo = true ∧ op = true ∧
      ((am = 0 ∧ revT am acq rrn orig r2 c2 pan ap ca un op fo early = (c00, (r2, c2, pan, ca, ca, un, false), true, false)) ∨ (¬ am = 0 ∧ am ≤ ap - ca ∧ revT am acq rrn orig r2 c2 pan ap ca un op fo early = (c00, (r2, c2, pan, ap - am, ca, un, decide (ca < ap - am)), true, false)))) := by
  unfold revT
  by_cases hm : mayR am acq rrn orig r2 c2 pan ap ca un op fo = true
  · rw [if_pos hm]
    cases early with
    | true => exact .inl ⟨rfl, rfl, fun _ => rfl⟩
    | false =>
      rw [if_neg (by decide)]
      by_cases ho : bt orig 0 = 49
      · rw [if_pos ho]
        cases fo with
        | false => exact .inl ⟨rfl, rfl, fun h => by cases h⟩
        | true =>
          rw [if_pos rfl]
          cases op with
          | false => exact .inl ⟨rfl, rfl, fun h => by cases h⟩
          | true =>
            rw [if_pos rfl]
            by_cases h0 : am = 0
            · rw [if_pos h0]; exact .inr ⟨hm, rfl, ho, rfl, rfl, .inl ⟨h0, rfl⟩⟩
            · rw [if_neg h0]
              by_cases h1 : ap - ca < am
              · rw [if_pos h1]; exact .inl ⟨rfl, rfl, fun h => by cases h⟩
              · rw [if_neg h1]; exact .inr ⟨hm, rfl, ho, rfl, rfl, .inr ⟨h0, by omega, rfl⟩⟩
      · rw [if_neg ho]; exact .inl ⟨rfl, rfl, fun h => by cases h⟩
  · rw [if_neg hm]; exact .inl ⟨rfl, rfl, fun h => by cases h⟩
theorem rev_again {acq rrn orig r2 c2 pan : ByteArray} {ap ca un : Int} {op : Bool} (hm : mayR 0 acq rrn orig r2 c2 pan ap ca un op true = true) (ho : bt orig 0 = 49) :
    revT 0 acq rrn orig r2 c2 pan ap ca un op true false = if op = true then (c00, (r2, c2, pan, ca, ca, un, false), true, false) else (c54, h0, false, false) := by
  unfold revT
  rw [if_pos hm, if_neg (by decide), if_pos ho, if_pos rfl]
  cases op <;> rfl
theorem u16_of_wf {n : Int} (h : (Lit.int .u16 n).wf = true) : 0 ≤ n ∧ n ≤ 65535 := by
  simp only [Lit.wf, IntKind.min, IntKind.max, IntKind.signed, IntKind.bits, Bool.and_eq_true, decide_eq_true_eq, if_true] at h
  constructor <;> first | omega | (simp at h; omega)
theorem list_beq_self (s : ByteArray) : (s.toList == s.toList) = true := beq_self_eq_true _
theorem mayR_am {am am' : Int} {acq rrn orig r2 c2 pan : ByteArray} {ap ca un : Int} {op fo : Bool} (h : mayR am acq rrn orig r2 c2 pan ap ca un op fo = true) (h' : 0 ≤ am') : mayR am' acq rrn orig r2 c2 pan ap ca un op fo = true := by
  obtain ⟨n1, n2, _, n4, n5⟩ := mayR_iff.mp h
  exact mayR_iff.mpr ⟨n1, n2, h', n4, n5⟩
theorem rev_amount {am : Int} {acq rrn orig r2 c2 pan : ByteArray} {ap ca un : Int} {op : Bool} (hm : mayR am acq rrn orig r2 c2 pan ap ca un op true = true) (ho : bt orig 0 = 49) (h0 : ¬ am = 0) :
    revT am acq rrn orig r2 c2 pan ap ca un op true false = if op = true then (if ap - ca < am then (c61, Pu.h0, false, false) else (c00, (r2, c2, pan, ap - am, ca, un, decide (ca < ap - am)), true, false)) else (c54, Pu.h0, false, false) := by
  unfold revT
  rw [if_pos hm, if_neg (by decide), if_pos ho, if_pos rfl, if_neg h0]
theorem parts_pure (a0 : ByteArray) (a1 : ByteArray) (a2 : ByteArray) (a3 : Int) (a4 : ByteArray) (a5 : ByteArray) (a6 : ByteArray) (a7 : ByteArray) (a8 : ByteArray) (a9 : Int) (a10 : Int) (a11 : ByteArray) (a12 : Bool) (a13 : Int) (a14 : ByteArray) (a15 : ByteArray) (a16 : ByteArray) (a17 : Int) (a18 : Int) (a19 : Int) (a20 : Bool) (a21 : Bool) (a22 : Int) (a23 : Int) (a24 : Bool) (n m : Int) (g3 : (Lit.int .i64 a3).wf = true) (g9 : (Lit.int .i64 a9).wf = true) (g10 : (Lit.int .i64 a10).wf = true) (g13 : (Lit.int .i64 a13).wf = true) (g17 : (Lit.int .i64 a17).wf = true) (g18 : (Lit.int .i64 a18).wf = true) (g19 : (Lit.int .i64 a19).wf = true) (g22 : (Lit.int .i64 a22).wf = true) (g23 : (Lit.int .i64 a23).wf = true) (gn : (Lit.int .u16 n).wf = true) (gm : (Lit.int .u16 m).wf = true) : bursarlaw24_ReverseParts.f 2 a0 a1 a2 a3 a4 a5 a6 a7 a8 a9 a10 a11 a12 a13 a14 a15 a16 a17 a18 a19 a20 a21 a22 a23 a24 n m = some true := by
  obtain ⟨b0, b1, b2, b6, b7, b8, b14, b15, b16, hF, z0, z1, z2, z6, z7, z8, z14, z15, z16⟩ := few_some a0 a1 a2 a3 a4 a5 a6 a7 a8 a9 a10 a11 a12 a13 a14 a15 a16 a17 a18 a19 a20 a21 a22 a23 a24
  obtain ⟨u1, u2⟩ := u16_of_wf gn
  obtain ⟨v1, v2⟩ := u16_of_wf gm
  have w17 := inB_of_wf g17
  unfold bursarlaw24_ReverseParts.f
  rw [hF]
  simp only [Option.bind_some]
  have en : wrap64 n = n := wr (by unfold inB; omega)
  have em : wrap64 m = m := wr (by unfold inB; omega)
  have e1 : wrap64 (n + 1) = n + 1 := wr (by unfold inB; omega)
  have e2 : wrap64 (m + 1) = m + 1 := wr (by unfold inB; omega)
  have e3 : wrap64 (n + m) = n + m := wr (by unfold inB; omega)
  have e4 : wrap64 (n + m + 2) = n + m + 2 := wr (by unfold inB; omega)
  by_cases hf : a21 = true
  rotate_left
  · rw [if_neg hf]; simp [bursarlaw24_ReverseParts.j0, awake_some]
  rw [if_pos hf]
  by_cases he : a24 = true
  · rw [if_pos he]; simp [bursarlaw24_ReverseParts.j0, awake_some]
  rw [if_neg he]
  by_cases ha : a3 < 0
  · rw [decide_eq_true ha]; simp [bursarlaw24_ReverseParts.j0, awake_some]
  rw [decide_eq_false ha]
  have he' : a24 = false := Bool.eq_false_iff.mpr he
  subst he'; subst hf
  have R1 := rev_p b0 b1 b2 (n + 1) a4 a5 b6 b7 b8 a9 a10 a11 a12 a13 b14 b15 b16 a17 a18 a19 a20 true a22 a23 false (by omega) (by omega) w17
  simp only [bursarlaw24_ReverseParts.j0, Bool.false_eq_true, if_false, en, em, e1, e2, e3, e4, R1, Option.bind_some]
  rcases rev_cases (am := n + 1) (acq := b6) (rrn := b7) (orig := b8) (r2 := b14) (c2 := b15) (pan := b16) (ap := a17) (ca := a18) (un := a19) (op := a20) (fo := true) (early := false) with ⟨k1, k2, k3⟩ | ⟨m0, _, m1, _, rfl, hc⟩
  · simp [outT, k1, awake_some]
  · rcases hc with ⟨h0', _⟩ | ⟨h0', h1', hr⟩
    · omega
    obtain ⟨n1, n2, n3, n4, n5⟩ := mayR_iff.mp m0
    obtain ⟨p1, rfl, rfl⟩ := n5 rfl
    obtain ⟨x1, x2, x3, x4, x5, x6, x7, x8⟩ := hmay_iff.mp p1
    have x9 := x8 rfl
    have hm2 : hmay b14 b15 b16 (a17 - (n + 1)) a18 a19 (decide (a18 < a17 - (n + 1))) = true := hmay_iff.mpr ⟨x1, x2, x3, x4, x5, x6, by omega, fun h => of_decide_eq_true h⟩
    have R2 := rev_p b0 b1 b2 (m + 1) a4 a5 b15 b14 b8 a9 a10 a11 a12 a13 b14 b15 b16 (a17 - (n + 1)) a18 a19 (decide (a18 < a17 - (n + 1))) true a22 a23 false (by omega) (by omega) (by unfold inB at *; omega)
    have R3 := rev_p b0 b1 b2 (n + m + 2) a4 a5 b15 b14 b8 a9 a10 a11 a12 a13 b14 b15 b16 a17 a18 a19 true true a22 a23 false (by omega) (by omega) w17
    have R4 := rev_p b0 b1 b2 0 a4 a5 b15 b14 b8 a9 a10 a11 a12 a13 b14 b15 b16 (a17 - (n + 1)) a18 a19 (decide (a18 < a17 - (n + 1))) true a22 a23 false (by omega) (by omega) (by unfold inB at *; omega)
    rw [rev_amount (mayR_iff.mpr ⟨n1, n2, by omega, n4, fun _ => ⟨hm2, rfl, rfl⟩⟩) m1 (by omega)] at R2
    rw [rev_amount (mayR_am m0 (by omega)) m1 (by omega)] at R3
    rw [rev_again (mayR_iff.mpr ⟨n1, n2, by omega, n4, fun _ => ⟨hm2, rfl, rfl⟩⟩) m1] at R4
    rw [hr]
    by_cases hl : a18 < a17 - (n + 1)
    · have d1 : decide (a18 < a17 - (n + 1)) = true := decide_eq_true hl
      rw [d1] at R2 R4
      by_cases hk : a17 - (n + 1) - a18 < m + 1
      · have hk' : a17 - a18 < n + m + 2 := by omega
        simp [outT, h0, d1, R2, R3, R4, hk, hk', bursarlaw24_ReverseParts.j1, bursarref14_Left.f, awake_some]
      · have hk' : ¬ a17 - a18 < n + m + 2 := by omega
        have e5 : a17 - (n + 1) - (m + 1) = a17 - (n + m + 2) := by omega
        simp [outT, h0, d1, R2, R3, R4, hk, hk', e5, bursarlaw24_ReverseParts.j1, bursarref14_Left.f, awake_some]
    · have d1 : decide (a18 < a17 - (n + 1)) = false := decide_eq_false hl
      rw [d1] at R2 R4
      have hk' : a17 - a18 < n + m + 2 := by omega
      simp [outT, h0, d1, R2, R3, R4, hk', bursarlaw24_ReverseParts.j1, awake_some]
end Go.Proofs.Ytkbhocncfldifaa.XRQ
