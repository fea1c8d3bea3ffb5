/- Plain laws of disputes: what the program's and the document's answers are, as one total function; the law holds of it. -/
import Derived.Test.YtmdpomilhejbcaaXDC13
namespace Go.Proofs.Ytmdpomilhejbcaa.XDC
open Go.RowKit Go.Proofs.YtmdpomilhejbcaaW.PrintWords Pu
set_option linter.unusedVariables false
set_option linter.unusedSimpArgs false
theorem text_some (s : ByteArray) : ∃ t, bursarlaw22_text.f s = some t ∧ t.size ≤ 40 := by
  unfold bursarlaw22_text.f
  by_cases h : (s.size : Int) > 40
  · have h2 : 40 ≤ (s.size : Int) := by omega
    simp only [if_pos h, if_pos h2, if_pos (show (0 : Int) ≤ 40 by decide)]
    exact ⟨_, rfl, by rw [ByteArray.size_extract]; omega⟩
  · rw [if_neg h]
    exact ⟨_, rfl, by omega⟩
theorem few_some (a0 : ByteArray) (a1 : ByteArray) (a2 : ByteArray) (a3 : Int) (a4 : ByteArray) (a5 : ByteArray) (a6 : ByteArray) (a7 : ByteArray) (a8 : ByteArray) (a9 : Int) (a10 : Int) (a11 : ByteArray) (a12 : Bool) (a13 : Int) (a14 : ByteArray) (a15 : ByteArray) (a16 : ByteArray) (a17 : Int) (a18 : Int) (a19 : Int) (a20 : Bool) (a21 : Bool) (a22 : Int) (a23 : Int) (a24 : Bool) : ∃ b0 b1 b2 b6 b7 b14 b15 b16 : ByteArray, bursarlaw22_Few.f a0 a1 a2 a3 a4 a5 a6 a7 a8 a9 a10 a11 a12 a13 a14 a15 a16 a17 a18 a19 a20 a21 a22 a23 a24 = some (b0, b1, b2, a3, a4, a5, b6, b7, a8, a9, a10, a11, a12, a13, b14, b15, b16, a17, a18, a19, a20, a21, a22, a23, a24) ∧ b0.size ≤ 40 ∧ b1.size ≤ 40 ∧ b2.size ≤ 40 ∧ b6.size ≤ 40 ∧ b7.size ≤ 40 ∧ b14.size ≤ 40 ∧ b15.size ≤ 40 ∧ b16.size ≤ 40 := by
  obtain ⟨b0, h0, z0⟩ := text_some a0
  obtain ⟨b1, h1, z1⟩ := text_some a1
  obtain ⟨b2, h2, z2⟩ := text_some a2
  obtain ⟨b6, h6, z6⟩ := text_some a6
  obtain ⟨b7, h7, z7⟩ := text_some a7
  obtain ⟨b14, h14, z14⟩ := text_some a14
  obtain ⟨b15, h15, z15⟩ := text_some a15
  obtain ⟨b16, h16, z16⟩ := text_some a16
  refine ⟨b0, b1, b2, b6, b7, b14, b15, b16, ?_, z0, z1, z2, z6, z7, z14, z15, z16⟩
  unfold bursarlaw22_Few.f
  simp only [h0, h1, h2, h6, h7, h14, h15, h16, Option.bind_some]
theorem list_if {p q : ByteArray} {α : Type} {x y : α} : (if p.toList = q.toList then x else y) = (if decide (p = q) = true then x else y) := by
  by_cases h : p = q
  · subst h; simp
  · have h' : ¬ p.toList = q.toList := fun e => h (toList_inj.mp e)
    simp [h, h']
def inB (n : Int) : Prop := -9223372036854775808 ≤ n ∧ n ≤ 9223372036854775807
theorem wr {n : Int} (h : inB n) : wrap64 n = n := by unfold inB at h; unfold wrap64; omega
theorem inB_of_wf {n : Int} (h : (Lit.int .i64 n).wf = true) : inB n := by
  simp only [Lit.wf, IntKind.min, IntKind.max, IntKind.signed, IntKind.bits, Bool.and_eq_true, decide_eq_true_eq, if_true] at h
  unfold inB
  omega
def pre2 (s : ByteArray) (x y : UInt8) : Bool := decide (2 ≤ s.size) && ((s.extract 0 2).toList == [x, y])
theorem has2 (s : ByteArray) (x y : UInt8) : strings_HasPrefix.f s ⟨#[x, y]⟩ = some (pre2 s x y) := by
  unfold strings_HasPrefix.f stringslite_HasPrefix.f pre2
  have e : ((⟨#[x, y]⟩ : ByteArray).size : Int) = 2 := rfl
  have e2 : (⟨#[x, y]⟩ : ByteArray).toList = [x, y] := by rw [ByteArray.toList_eq]
  by_cases h : 2 ≤ s.size
  · have g : (s.size : Int) ≥ 2 := by omega
    have g2 : (2 : Int) ≤ (s.size : Int) := by omega
    rw [e, e2, if_pos g, if_pos (by decide), if_pos g2, decide_eq_true h]
    rfl
  · have g : ¬ (s.size : Int) ≥ 2 := by omega
    rw [e, if_neg g, decide_eq_false h]
    rfl
/-- May a question be? -/
def mayA (pan : ByteArray) (am : Int) (acq rrn r2 c2 p2 : ByteArray) (ap ca un : Int) (op fo : Bool) (tick : Int) : Bool :=
  mayB 1 pan && mayB 2 acq && refB rrn && decide (1 ≤ am) && decide (0 ≤ tick) && decide (tick ≤ 2147483547) && (!fo || (hmay r2 c2 p2 ap ca un op && decide (r2 = rrn) && decide (c2 = acq)))
theorem mayA_iff {pan : ByteArray} {am : Int} {acq rrn r2 c2 p2 : ByteArray} {ap ca un : Int} {op fo : Bool} {tick : Int} : mayA pan am acq rrn r2 c2 p2 ap ca un op fo tick = true ↔ mayB 1 pan = true ∧ mayB 2 acq = true ∧ refB rrn = true ∧ 1 ≤ am ∧ 0 ≤ tick ∧ tick ≤ 2147483547 ∧ (fo = true → hmay r2 c2 p2 ap ca un op = true ∧ r2 = rrn ∧ c2 = acq) := by
  unfold mayA
  simp only [Bool.and_eq_true, decide_eq_true_eq, Bool.or_eq_true, Bool.not_eq_true', and_assoc]
  cases fo <;> simp
def c00 : ByteArray := ⟨#[48, 48]⟩
def c12 : ByteArray := ⟨#[49, 50]⟩
def c25 : ByteArray := ⟨#[50, 53]⟩
def c30 : ByteArray := ⟨#[51, 48]⟩
def c54 : ByteArray := ⟨#[53, 52]⟩
def c61 : ByteArray := ⟨#[54, 49]⟩
def c94 : ByteArray := ⟨#[57, 52]⟩
/-- May a dispute be? -/
def mayD (rrn acq pan : ByteArray) (st am un : Int) : Bool := refB rrn && mayB 2 acq && mayB 1 pan && decide (1 ≤ st) && decide (st ≤ 3) && decide (1 ≤ am) && decide (am ≤ 9999999999999) && decide (0 ≤ un) && decide (un ≤ 2147483647)
theorem mayD_iff {rrn acq pan : ByteArray} {st am un : Int} : mayD rrn acq pan st am un = true ↔ refB rrn = true ∧ mayB 2 acq = true ∧ mayB 1 pan = true ∧ 1 ≤ st ∧ st ≤ 3 ∧ 1 ≤ am ∧ am ≤ 9999999999999 ∧ 0 ≤ un ∧ un ≤ 2147483647 := by
  unfold mayD; simp only [Bool.and_eq_true, decide_eq_true_eq, and_assoc]
theorem mayD_p (c0 c1 c2 : ByteArray) (c3 c4 c5 : Int) (h : c0.size ≤ 4096) : dispute_May.f c0 c1 c2 c3 c4 c5 = some (mayD c0 c1 c2 c3 c4 c5) := by
  unfold dispute_May.f dispute_known.f hold_Ref.f chart_May.f dispute_until.f mayD
  simp only [Option.bind_some, if_pos h]
  generalize refB c0 = x1; generalize mayB 2 c1 = x2; generalize mayB 1 c2 = x3
  cases x1
  · simp
  cases x2
  · simp
  cases x3
  · simp
  by_cases h1 : c5 ≥ 0
  rotate_left
  · have e : ¬ 0 ≤ c5 := by omega
    simp [h1, e]
  have e1 : 0 ≤ c5 := h1
  by_cases h2 : c5 ≤ 2147483647
  rotate_left
  · simp [h1, e1, h2]
  by_cases h3 : c3 ≥ 1
  rotate_left
  · have e : ¬ 1 ≤ c3 := by omega
    simp [h1, e1, h2, h3, e]
  have e3 : 1 ≤ c3 := h3
  by_cases h4 : c3 ≤ 3
  rotate_left
  · simp [h1, e1, h2, h3, e3, h4]
  by_cases h5 : c4 ≥ 1
  rotate_left
  · have e : ¬ 1 ≤ c4 := by omega
    simp [h1, e1, h2, h3, e3, h4, h5, e]
  have e5 : 1 ≤ c4 := h5
  simp [h1, e1, h2, h3, e3, h4, h5, e5]
/-- May a question be asked? -/
def askD (am : Int) (acq rrn r2 q2 p2 : ByteArray) (ap ca un : Int) (op fo : Bool) (tick batch : Int) (c0 c1 c2 : ByteArray) (c3 c4 c5 : Int) (there : Bool) : Bool :=
  refB rrn && mayB 2 acq && decide (1 ≤ am) && decide (0 ≤ batch) && decide (batch ≤ 2147483647) && decide (0 ≤ tick) && decide (tick ≤ 2147483447) && (!fo || (hmay r2 q2 p2 ap ca un op && decide (r2 = rrn) && decide (q2 = acq))) && (!there || (mayD c0 c1 c2 c3 c4 c5 && decide (c0 = rrn) && decide (c1 = acq)))
theorem ask_p (k : Nat) (hk : 2 ≤ k) (a0 : ByteArray) (a1 : ByteArray) (a2 : ByteArray) (a3 : Int) (a4 : ByteArray) (a5 : ByteArray) (a6 : ByteArray) (a7 : ByteArray) (a8 : ByteArray) (a9 : Int) (a10 : Int) (a11 : ByteArray) (a12 : Bool) (a13 : Int) (a14 : ByteArray) (a15 : ByteArray) (a16 : ByteArray) (a17 : Int) (a18 : Int) (a19 : Int) (a20 : Bool) (a21 : Bool) (a22 : Int) (a23 : Int) (a24 : Bool) (c0 : ByteArray) (c1 : ByteArray) (c2 : ByteArray) (c3 : Int) (c4 : Int) (c5 : Int) (there : Bool) (h7 : a7.size ≤ 4096) (h14 : a14.size ≤ 4096) (hc0 : c0.size ≤ 4096) : dispute_Asks.f k a0 a1 a2 a3 a4 a5 a6 a7 a8 a9 a10 a11 a12 a13 a14 a15 a16 a17 a18 a19 a20 a21 a22 a23 a24 c0 c1 c2 c3 c4 c5 there = some (askD a3 a6 a7 a14 a15 a16 a17 a18 a19 a20 a21 a22 a23 c0 c1 c2 c3 c4 c5 there) := by
  obtain ⟨k, rfl⟩ : ∃ m, k = m + 2 := ⟨k - 2, by omega⟩
  unfold dispute_Asks.f dispute_known.f hold_Ref.f chart_May.f dispute_until.f
  simp only [Option.bind_some, if_pos h7, if_pos h14, hold_May.f, mayD_p c0 c1 c2 c3 c4 c5 hc0, dispute_Asks.j0, dispute_Asks.j1, list_if, toList_beq, bne]
  unfold askD
  generalize mayB 2 a6 = x2; generalize refB a7 = x3; generalize hmay a14 a15 a16 a17 a18 a19 a20 = x4; generalize decide (a14 = a7) = x5; generalize decide (a15 = a6) = x6; generalize mayD c0 c1 c2 c3 c4 c5 = x7; generalize decide (c0 = a7) = x8; generalize decide (c1 = a6) = x9
  cases x3
  · simp
  cases x2
  · simp
  by_cases h1 : 1 ≤ a3
  rotate_left
  · have e1 : a3 < 1 := by omega
    have e2 : a3 ≤ 0 := by omega
    simp [h1, e1, e2]
  have e1 : ¬ a3 < 1 := by omega
  have e2 : ¬ a3 ≤ 0 := by omega
  by_cases h2 : 0 ≤ a23
  rotate_left
  · have e3 : a23 < 0 := by omega
    have e4 : ¬ a23 ≥ 0 := by omega
    simp [h1, e1, e2, h2, e3, e4]
  have e3 : ¬ a23 < 0 := by omega
  have e4 : a23 ≥ 0 := by omega
  by_cases h3 : a23 ≤ 2147483647
  rotate_left
  · have e5 : a23 > 2147483647 := by omega
    simp [h1, e1, e2, h2, e3, e4, h3, e5]
  have e5 : ¬ a23 > 2147483647 := by omega
  by_cases h4 : 0 ≤ a22
  rotate_left
  · have e6 : a22 < 0 := by omega
    have e7 : ¬ a22 ≥ 0 := by omega
    simp [h1, e1, e2, h2, e3, e4, h3, e5, h4, e6, e7]
  have e6 : ¬ a22 < 0 := by omega
  have e7 : a22 ≥ 0 := by omega
  by_cases h5 : a22 ≤ 2147483447
  rotate_left
  · have e8 : a22 > 2147483447 := by omega
    simp [h1, e1, e2, h2, e3, e4, h3, e5, h4, e6, e7, h5, e8]
  have e8 : ¬ a22 > 2147483447 := by omega
  simp only [h1, e1, e2, h2, e3, e4, h3, e5, h4, e6, e7, h5, e8, if_true, if_false, Bool.false_eq_true, decide_true, decide_false, Bool.true_and, Bool.not_true]
  cases a21 <;> cases x4 <;> cases x5 <;> cases x6 <;> cases there <;> cases x7 <;> cases x8 <;> cases x9 <;> simp
abbrev C6 := ByteArray × ByteArray × ByteArray × Int × Int × Int
abbrev P6 := Int × Int × ByteArray × ByteArray × ByteArray × Int
def z0 : C6 := (⟨#[]⟩, ⟨#[]⟩, ⟨#[]⟩, 0, 0, 0)
def p0 : P6 := (0, 0, ⟨#[]⟩, ⟨#[]⟩, ⟨#[]⟩, 0)
def no (c : ByteArray) : C6 × P6 × ByteArray := (z0, p0, c)
/-- What comes of a question on a dispute. -/
def decT (code : ByteArray) (am : Int) (acq rrn r2 q2 p2 : ByteArray) (ap ca un : Int) (op fo : Bool) (tick batch : Int) (c0 c1 c2 : ByteArray) (c3 c4 c5 : Int) (there : Bool) : C6 × P6 × ByteArray :=
  if askD am acq rrn r2 q2 p2 ap ca un op fo tick batch c0 c1 c2 c3 c4 c5 there = true then
    if pre2 code 48 48 = true then
      if fo = true then
        if there = true then no c94
        else if ca < am ∨ 9999999999999 < am then no c61
        else ((rrn, acq, p2, 1, am, tick + 200), (3, batch, p2, acq, rrn, am), c00)
      else no c25
    else if pre2 code 48 49 = true then
      if there = true then
        if c3 = 1 then if c5 < tick then no c54 else if am = c4 then ((c0, c1, c2, 2, c4, tick + 200), (4, batch, c2, c1, c0, c4), c00) else no c61
        else no c12
      else no c25
    else if pre2 code 48 50 = true then
      if there = true then
        if c3 = 2 then if c5 < tick then no c54 else if am = c4 then ((c0, c1, c2, 3, c4, tick + 200), (3, batch, c2, c1, c0, c4), c00) else no c61
        else no c12
      else no c25
    else no c12
  else no c30
def outD (r : C6 × P6 × ByteArray) : ByteArray × ByteArray × ByteArray × Int × Int × Int × Int × Int × ByteArray × ByteArray × ByteArray × Int × ByteArray :=
  (r.1.1, r.1.2.1, r.1.2.2.1, r.1.2.2.2.1, r.1.2.2.2.2.1, r.1.2.2.2.2.2, r.2.1.1, r.2.1.2.1, r.2.1.2.2.1, r.2.1.2.2.2.1, r.2.1.2.2.2.2.1, r.2.1.2.2.2.2.2, r.2.2)
theorem wrong_0 (k : Nat) (hk : 3 ≤ k) (a0 : ByteArray) (a1 : ByteArray) (a2 : ByteArray) (a3 : Int) (a4 : ByteArray) (a5 : ByteArray) (a6 : ByteArray) (a7 : ByteArray) (a8 : ByteArray) (a9 : Int) (a10 : Int) (a11 : ByteArray) (a12 : Bool) (a13 : Int) (a14 : ByteArray) (a15 : ByteArray) (a16 : ByteArray) (a17 : Int) (a18 : Int) (a19 : Int) (a20 : Bool) (a21 : Bool) (a22 : Int) (a23 : Int) (a24 : Bool) (c0 : ByteArray) (c1 : ByteArray) (c2 : ByteArray) (c3 : Int) (c4 : Int) (c5 : Int) (there : Bool) (s : ByteArray) (post : Int) : dispute_wrong.f k a0 a1 a2 a3 a4 a5 a6 a7 a8 a9 a10 a11 a12 a13 a14 a15 a16 a17 a18 a19 a20 a21 a22 a23 a24 c0 c1 c2 c3 c4 c5 there s 0 post = some (if a21 = true then (if there = true then c94 else if a18 < a3 ∨ 9999999999999 < a3 then c61 else ⟨#[]⟩) else c25) := by
  obtain ⟨k, rfl⟩ : ∃ m, k = m + 3 := ⟨k - 3, by omega⟩
  unfold dispute_wrong.f
  simp only [if_true, dispute_wrong.j0, dispute_wrong.j1, dispute_wrong.j2]
  cases a21 with
  | false => rfl
  | true =>
  cases there with
  | true => rfl
  | false =>
    have e : decide (a3 > mn a18 9999999999999) = decide (a18 < a3 ∨ 9999999999999 < a3) := by
      rw [Bool.eq_iff_iff, decide_eq_true_iff, decide_eq_true_iff]; unfold mn; split <;> omega
    simp only [Bool.not_true, Bool.false_eq_true, if_false, e, if_true]
    by_cases h : a18 < a3 ∨ 9999999999999 < a3
    · simp only [decide_eq_true h, if_true, if_pos h]; rfl
    · simp only [decide_eq_false h, Bool.false_eq_true, if_false, if_neg h]
theorem wrong_n (k : Nat) (hk : 3 ≤ k) (a0 : ByteArray) (a1 : ByteArray) (a2 : ByteArray) (a3 : Int) (a4 : ByteArray) (a5 : ByteArray) (a6 : ByteArray) (a7 : ByteArray) (a8 : ByteArray) (a9 : Int) (a10 : Int) (a11 : ByteArray) (a12 : Bool) (a13 : Int) (a14 : ByteArray) (a15 : ByteArray) (a16 : ByteArray) (a17 : Int) (a18 : Int) (a19 : Int) (a20 : Bool) (a21 : Bool) (a22 : Int) (a23 : Int) (a24 : Bool) (c0 : ByteArray) (c1 : ByteArray) (c2 : ByteArray) (c3 : Int) (c4 : Int) (c5 : Int) (there : Bool) (s : ByteArray) (fr post : Int) (hf : ¬ fr = 0) : dispute_wrong.f k a0 a1 a2 a3 a4 a5 a6 a7 a8 a9 a10 a11 a12 a13 a14 a15 a16 a17 a18 a19 a20 a21 a22 a23 a24 c0 c1 c2 c3 c4 c5 there s fr post = some (if there = true then (if c3 = fr then (if c5 < a22 then c54 else if a3 = c4 then ⟨#[]⟩ else c61) else c12) else c25) := by
  obtain ⟨k, rfl⟩ : ∃ m, k = m + 3 := ⟨k - 3, by omega⟩
  unfold dispute_wrong.f
  simp only [if_neg hf, dispute_wrong.j0, dispute_wrong.j1, dispute_wrong.j2, Bool.false_eq_true, if_false]
  cases there with
  | false => rfl
  | true =>
    simp only [if_true]
    by_cases h : c3 = fr
    · rw [if_pos h, if_pos h]
      by_cases h2 : a22 > c5
      · rw [if_pos h2, if_pos (show c5 < a22 from h2)]; rfl
      · rw [if_neg h2, if_neg (show ¬ c5 < a22 from h2)]
        by_cases h3 : a3 = c4
        · rw [if_pos h3, if_pos h3]
        · rw [if_neg h3, if_neg h3]; rfl
    · rw [if_neg h, if_neg h]; rfl
theorem ne94 : ¬ c94 = (⟨#[]⟩ : ByteArray) := by unfold c94; decide
theorem ne61 : ¬ c61 = (⟨#[]⟩ : ByteArray) := by unfold c61; decide
theorem ne25 : ¬ c25 = (⟨#[]⟩ : ByteArray) := by unfold c25; decide
theorem ne54 : ¬ c54 = (⟨#[]⟩ : ByteArray) := by unfold c54; decide
theorem ne12 : ¬ c12 = (⟨#[]⟩ : ByteArray) := by unfold c12; decide
theorem dec_p (k : Nat) (hk : 3 ≤ k) (a0 : ByteArray) (a1 : ByteArray) (a2 : ByteArray) (a3 : Int) (a4 : ByteArray) (a5 : ByteArray) (a6 : ByteArray) (a7 : ByteArray) (a8 : ByteArray) (a9 : Int) (a10 : Int) (a11 : ByteArray) (a12 : Bool) (a13 : Int) (a14 : ByteArray) (a15 : ByteArray) (a16 : ByteArray) (a17 : Int) (a18 : Int) (a19 : Int) (a20 : Bool) (a21 : Bool) (a22 : Int) (a23 : Int) (a24 : Bool) (c0 : ByteArray) (c1 : ByteArray) (c2 : ByteArray) (c3 : Int) (c4 : Int) (c5 : Int) (there : Bool) (h7 : a7.size ≤ 4096) (h14 : a14.size ≤ 4096) (hc0 : c0.size ≤ 4096) : dispute_Decide.f k a0 a1 a2 a3 a4 a5 a6 a7 a8 a9 a10 a11 a12 a13 a14 a15 a16 a17 a18 a19 a20 a21 a22 a23 a24 c0 c1 c2 c3 c4 c5 there = some (outD (decT a2 a3 a6 a7 a14 a15 a16 a17 a18 a19 a20 a21 a22 a23 c0 c1 c2 c3 c4 c5 there)) := by
  unfold dispute_Decide.f decT
  rw [ask_p k (by omega) _ _ _ _ _ _ _ _ _ _ _ _ _ _ _ _ _ _ _ _ _ _ _ _ _ _ _ _ _ _ _ _ h7 h14 hc0]
  simp only [Option.bind_some]
  by_cases ha : askD a3 a6 a7 a14 a15 a16 a17 a18 a19 a20 a21 a22 a23 c0 c1 c2 c3 c4 c5 there = true
  rotate_left
  · rw [if_neg ha, if_neg ha]; rfl
  rw [if_pos ha, if_pos ha]
  have ht : wrap64 (a22 + 200) = a22 + 200 := by
    unfold askD at ha
    simp only [Bool.and_eq_true, decide_eq_true_eq, and_assoc] at ha
    obtain ⟨_, _, _, _, _, h1, h2, _⟩ := ha
    exact wr (by unfold inB; omega)
  unfold dispute_Decide.rest1 dispute_Decide.rest2 dispute_Decide.rest3 dispute_Decide.rest4
  rw [has2, has2, has2, ht]
  simp only [Option.bind_some]
  by_cases p1 : pre2 a2 48 48 = true
  · rw [if_pos p1, if_pos p1, wrong_0 k hk _ _ _ _ _ _ _ _ _ _ _ _ _ _ _ _ _ _ _ _ _ _ _ _ _ _ _ _ _ _ _ _ _ _]
    simp only [Option.bind_some]
    cases a21 with
    | false => simp only [Bool.false_eq_true, if_false, if_neg ne25]; rfl
    | true =>
    cases there with
    | true => simp only [if_true, if_neg ne94]; rfl
    | false =>
      simp only [if_true, Bool.false_eq_true, if_false]
      by_cases h : a18 < a3 ∨ 9999999999999 < a3
      · simp only [if_pos h, if_neg ne61]; rfl
      · simp only [if_neg h, if_true]; rfl
  rw [if_neg p1, if_neg p1]
  by_cases p2 : pre2 a2 48 49 = true
  · rw [if_pos p2, if_pos p2, wrong_n k hk _ _ _ _ _ _ _ _ _ _ _ _ _ _ _ _ _ _ _ _ _ _ _ _ _ _ _ _ _ _ _ _ _ _ _ (by decide)]
    simp only [Option.bind_some]
    cases there with
    | false => simp only [Bool.false_eq_true, if_false, if_neg ne25]; rfl
    | true =>
      simp only [if_true]
      by_cases h : c3 = 1
      · rw [if_pos h, if_pos h]
        by_cases h2 : c5 < a22
        · simp only [if_pos h2, if_neg ne54]; rfl
        · simp only [if_neg h2]
          by_cases h3 : a3 = c4
          · simp only [if_pos h3, if_true]; rfl
          · simp only [if_neg h3, if_neg ne61]; rfl
      · simp only [if_neg h, if_neg ne12]; rfl
  rw [if_neg p2, if_neg p2]
  by_cases p3 : pre2 a2 48 50 = true
  · rw [if_pos p3, if_pos p3, wrong_n k hk _ _ _ _ _ _ _ _ _ _ _ _ _ _ _ _ _ _ _ _ _ _ _ _ _ _ _ _ _ _ _ _ _ _ _ (by decide)]
    simp only [Option.bind_some]
    cases there with
    | false => simp only [Bool.false_eq_true, if_false, if_neg ne25]; rfl
    | true =>
      simp only [if_true]
      by_cases h : c3 = 2
      · rw [if_pos h, if_pos h]
        by_cases h2 : c5 < a22
        · simp only [if_pos h2, if_neg ne54]; rfl
        · simp only [if_neg h2]
          by_cases h3 : a3 = c4
          · simp only [if_pos h3, if_true]; rfl
          · simp only [if_neg h3, if_neg ne61]; rfl
      · simp only [if_neg h, if_neg ne12]; rfl
  rw [if_neg p3, if_neg p3]; rfl
theorem awake_some (k : Nat) (hk : 3 ≤ k) : bursarlaw26_awake.f k = some true := by
  unfold bursarlaw26_awake.f bursarlaw26_some.f
  simp only [Option.bind_some]
  rw [dec_p k hk _ _ _ _ _ _ _ _ _ _ _ _ _ _ _ _ _ _ _ _ _ _ _ _ _ _ _ _ _ _ _ _ (by decide) (by decide) (by decide)]
  simp only [Option.bind_some]
  rw [dec_p k hk _ _ _ _ _ _ _ _ _ _ _ _ _ _ _ _ _ _ _ _ _ _ _ _ _ _ _ _ _ _ _ _ (by decide) (by decide) (by decide +kernel)]
  simp only [Option.bind_some]
  rw [dec_p k hk _ _ _ _ _ _ _ _ _ _ _ _ _ _ _ _ _ _ _ _ _ _ _ _ _ _ _ _ _ _ _ _ (by decide) (by decide) (by decide +kernel)]
  simp only [Option.bind_some]
  rw [dec_p k hk _ _ _ _ _ _ _ _ _ _ _ _ _ _ _ _ _ _ _ _ _ _ _ _ _ _ _ _ _ _ _ _ (by decide) (by decide) (by decide +kernel)]
  simp only [Option.bind_some, ByteArray.toList_eq]
  kernel_rfl
theorem n94 : ¬ c94.toList = [48, 48] := by unfold c94; decide +kernel
theorem n61 : ¬ c61.toList = [48, 48] := by unfold c61; decide +kernel
theorem n25 : ¬ c25.toList = [48, 48] := by unfold c25; decide +kernel
theorem n54 : ¬ c54.toList = [48, 48] := by unfold c54; decide +kernel
theorem n12 : ¬ c12.toList = [48, 48] := by unfold c12; decide +kernel
theorem n30 : ¬ c30.toList = [48, 48] := by unfold c30; decide +kernel
theorem y00 : c00.toList = [48, 48] := by unfold c00; decide +kernel
/-- What comes of a question: no, or one of the three steps. -/
theorem dec_alt (code : ByteArray) (am : Int) (acq rrn r2 q2 p2 : ByteArray) (ap ca un : Int) (op fo : Bool) (tick batch : Int) (c0 c1 c2 : ByteArray) (c3 c4 c5 : Int) (there : Bool) :
    ((decT code am acq rrn r2 q2 p2 ap ca un op fo tick batch c0 c1 c2 c3 c4 c5 there).1 = z0 ∧ (decT code am acq rrn r2 q2 p2 ap ca un op fo tick batch c0 c1 c2 c3 c4 c5 there).2.1 = p0 ∧ ¬ (decT code am acq rrn r2 q2 p2 ap ca un op fo tick batch c0 c1 c2 c3 c4 c5 there).2.2.toList = [48, 48]) ∨
    (askD am acq rrn r2 q2 p2 ap ca un op fo tick batch c0 c1 c2 c3 c4 c5 there = true ∧
      ((pre2 code 48 48 = true ∧ fo = true ∧ there = false ∧ am ≤ ca ∧ am ≤ 9999999999999 ∧ decT code am acq rrn r2 q2 p2 ap ca un op fo tick batch c0 c1 c2 c3 c4 c5 there = ((rrn, acq, p2, 1, am, tick + 200), (3, batch, p2, acq, rrn, am), c00)) ∨
       (pre2 code 48 48 = false ∧ pre2 code 48 49 = true ∧ there = true ∧ c3 = 1 ∧ am = c4 ∧ ¬ c5 < tick ∧ decT code am acq rrn r2 q2 p2 ap ca un op fo tick batch c0 c1 c2 c3 c4 c5 there = ((c0, c1, c2, 2, c4, tick + 200), (4, batch, c2, c1, c0, c4), c00)) ∨
       (pre2 code 48 48 = false ∧ pre2 code 48 49 = false ∧ pre2 code 48 50 = true ∧ there = true ∧ c3 = 2 ∧ am = c4 ∧ ¬ c5 < tick ∧ decT code am acq rrn r2 q2 p2 ap ca un op fo tick batch c0 c1 c2 c3 c4 c5 there = ((c0, c1, c2, 3, c4, tick + 200), (3, batch, c2, c1, c0, c4), c00)))) := by
  unfold decT
  by_cases ha : askD am acq rrn r2 q2 p2 ap ca un op fo tick batch c0 c1 c2 c3 c4 c5 there = true
  rotate_left
  · simp only [if_neg ha]; exact Or.inl ⟨rfl, rfl, n30⟩
  simp only [if_pos ha]
  by_cases p1 : pre2 code 48 48 = true
  · simp only [if_pos p1]
    cases fo with
    | false => exact Or.inl ⟨rfl, rfl, n25⟩
    | true =>
      cases there with
      | true => exact Or.inl ⟨rfl, rfl, n94⟩
      | false =>
        simp only [if_true, Bool.false_eq_true, if_false]
        by_cases h : ca < am ∨ 9999999999999 < am
        · simp only [if_pos h]; exact Or.inl ⟨rfl, rfl, n61⟩
        · simp only [if_neg h]; exact Or.inr ⟨ha, Or.inl ⟨p1, trivial, trivial, by omega, by omega, trivial⟩⟩
  simp only [if_neg p1]
  have p1' : pre2 code 48 48 = false := by simpa using p1
  by_cases p2_ : pre2 code 48 49 = true
  · simp only [if_pos p2_]
    cases there with
    | false => exact Or.inl ⟨rfl, rfl, n25⟩
    | true =>
      simp only [if_true]
      by_cases h : c3 = 1
      · simp only [if_pos h]
        by_cases h2 : c5 < tick
        · simp only [if_pos h2]; exact Or.inl ⟨rfl, rfl, n54⟩
        · simp only [if_neg h2]
          by_cases h3 : am = c4
          · simp only [if_pos h3]; exact Or.inr ⟨ha, Or.inr (Or.inl ⟨p1', p2_, trivial, h, h3, h2, trivial⟩)⟩
          · simp only [if_neg h3]; exact Or.inl ⟨rfl, rfl, n61⟩
      · simp only [if_neg h]; exact Or.inl ⟨rfl, rfl, n12⟩
  simp only [if_neg p2_]
  have p2' : pre2 code 48 49 = false := by simpa using p2_
  by_cases p3 : pre2 code 48 50 = true
  · simp only [if_pos p3]
    cases there with
    | false => exact Or.inl ⟨rfl, rfl, n25⟩
    | true =>
      simp only [if_true]
      by_cases h : c3 = 2
      · simp only [if_pos h]
        by_cases h2 : c5 < tick
        · simp only [if_pos h2]; exact Or.inl ⟨rfl, rfl, n54⟩
        · simp only [if_neg h2]
          by_cases h3 : am = c4
          · simp only [if_pos h3]; exact Or.inr ⟨ha, Or.inr (Or.inr ⟨p1', p2', p3, trivial, h, h3, h2, trivial⟩)⟩
          · simp only [if_neg h3]; exact Or.inl ⟨rfl, rfl, n61⟩
      · simp only [if_neg h]; exact Or.inl ⟨rfl, rfl, n12⟩
  · simp only [if_neg p3]; exact Or.inl ⟨rfl, rfl, n12⟩
theorem ask_iff (am : Int) (acq rrn r2 q2 p2 : ByteArray) (ap ca un : Int) (op fo : Bool) (tick batch : Int) (c0 c1 c2 : ByteArray) (c3 c4 c5 : Int) (there : Bool) : askD am acq rrn r2 q2 p2 ap ca un op fo tick batch c0 c1 c2 c3 c4 c5 there = true ↔ refB rrn = true ∧ mayB 2 acq = true ∧ 1 ≤ am ∧ 0 ≤ batch ∧ batch ≤ 2147483647 ∧ 0 ≤ tick ∧ tick ≤ 2147483447 ∧ (fo = true → hmay r2 q2 p2 ap ca un op = true ∧ r2 = rrn ∧ q2 = acq) ∧ (there = true → mayD c0 c1 c2 c3 c4 c5 = true ∧ c0 = rrn ∧ c1 = acq) := by
  unfold askD
  simp only [Bool.and_eq_true, decide_eq_true_eq, and_assoc, Bool.or_eq_true, Bool.not_eq_true']
  have e : ∀ (b : Bool) (p q r : Prop), ((b = false ∨ (p ∧ q ∧ r)) ↔ (b = true → p ∧ q ∧ r)) := by
    intro b p q r; cases b <;> simp
  rw [e fo, e there]
theorem step_may (am : Int) (acq rrn p2 : ByteArray) (tick : Int) (st : Int) (h1 : 1 ≤ st) (h3 : st ≤ 3) (hp : mayB 1 p2 = true) (hm : am ≤ 9999999999999)
    (ha : refB rrn = true ∧ mayB 2 acq = true ∧ 1 ≤ am ∧ 0 ≤ tick ∧ tick ≤ 2147483447) : mayD rrn acq p2 st am (tick + 200) = true := by
  obtain ⟨x1, x2, x3, x4, x5⟩ := ha
  exact mayD_iff.mpr ⟨x1, x2, hp, h1, h3, x3, hm, by omega, by omega⟩
theorem against_e (c0 c1 c2 : ByteArray) (c3 c4 c5 : Int) (h0 : c0.size ≤ 4096) (hm : mayD c0 c1 c2 c3 c4 c5 = true) : dispute_Against.f c0 c1 c2 c3 c4 c5 = some (if c3 = 2 then 0 else c4) := by
  unfold dispute_Against.f
  rw [mayD_p _ _ _ _ _ _ h0, Option.bind_some, if_pos hm]
  split <;> rfl
theorem w64 (n : Int) (h0 : -9000000000000000000 ≤ n) (h1 : n ≤ 9000000000000000000) : wrap64 n = n := by unfold wrap64; omega
def cds : List ByteArray := [(⟨#[48, 48, 48, 48, 48, 48]⟩ : ByteArray), (⟨#[48, 49, 48, 48, 48, 48]⟩ : ByteArray), (⟨#[48, 50, 48, 48, 48, 48]⟩ : ByteArray), (⟨#[48, 49, 48, 48, 48, 48]⟩ : ByteArray), (⟨#[48, 50, 48, 48, 48, 48]⟩ : ByteArray), (⟨#[48, 48, 48, 48, 48, 48]⟩ : ByteArray)]
/-- The next round: its tick. -/
theorem round_e (l2 : List Int) (hw : ∀ x ∈ l2, (Lit.int .u8 x).wf = true) (a0 : ByteArray) (a1 : ByteArray) (a4 : ByteArray) (a5 : ByteArray) (a6 : ByteArray) (a7 : ByteArray) (a8 : ByteArray) (a9 : Int) (a10 : Int) (a11 : ByteArray) (a12 : Bool) (a13 : Int) (a14 : ByteArray) (a15 : ByteArray) (a16 : ByteArray) (a17 : Int) (a18 : Int) (a19 : Int) (a20 : Bool) (a21 : Bool) (a23 : Int) (a24 : Bool) (there : Bool) (posted : Int) (i k : Nat) (hi : i < 6) (cd : ByteArray) (am tick : Int) (h0 : 0 ≤ tick) (h1 : tick ≤ 2147483648) (c0 c1 c2 : ByteArray) (c3 c4 c5 : Int) :
    ∃ tick' : Int, tick ≤ tick' ∧ tick' ≤ tick + 199 ∧ bursarlaw26_DisputeCycle.l0 (k + 1) l2 there posted cds (i : Int) a0 a1 cd am a4 a5 a6 a7 a8 a9 a10 a11 a12 a13 a14 a15 a16 a17 a18 a19 a20 a21 tick a23 a24 c0 c1 c2 c3 c4 c5 = bursarlaw26_DisputeCycle.j2 k l2 there posted cds (i : Int) a0 a1 cd am a4 a5 a6 a7 a8 a9 a10 a11 a12 a13 a14 a15 a16 a17 a18 a19 a20 a21 tick' a23 a24 c0 c1 c2 c3 c4 c5 := by
  simp only [bursarlaw26_DisputeCycle.l0]
  have hl : (i : Int) < (cds.length : Int) := by show (i : Int) < 6; omega
  rw [if_pos hl]
  by_cases h2 : (i : Int) < (l2.length : Int)
  · rw [if_pos h2, if_pos (by omega)]
    have hlt : i < l2.length := by omega
    have hrd : rd l2 (i : Int) = l2[i] := by unfold rd; simp [hlt]
    have hx := hw l2[i] (List.getElem_mem hlt)
    have hb : 0 ≤ l2[i] ∧ l2[i] < 256 := by simp [Lit.wf, IntKind.min, IntKind.max, IntKind.signed, IntKind.bits] at hx; omega
    have ht : Int.tmod (rd l2 (i : Int)) 200 = l2[i] % 200 := by rw [hrd]; exact Int.tmod_eq_emod_of_nonneg hb.1
    have hm0 : 0 ≤ l2[i] % 200 := Int.emod_nonneg _ (by decide)
    have hm1 : l2[i] % 200 < 200 := Int.emod_lt_of_pos _ (by decide)
    rw [ht]
    clear ht hb hx hrd
    generalize l2[i] % 200 = m at hm0 hm1 ⊢
    refine ⟨tick + m, Int.le_add_of_nonneg_right hm0, Int.add_le_add_left (Int.le_of_lt_add_one hm1) tick, ?_⟩
    rw [w64 m (Int.le_trans (by decide) hm0) (Int.le_trans (Int.le_of_lt hm1) (by decide)), w64 (tick + m) (Int.le_trans (by decide) (Int.add_nonneg h0 hm0)) (Int.le_trans (Int.add_le_add h1 (Int.le_of_lt hm1)) (by decide))]
  · rw [if_neg h2]; exact ⟨tick, by omega, by omega, rfl⟩
theorem three_ (i : Nat) (h : i < 3) : i = 0 ∨ i = 1 ∨ i = 2 := by omega
/-- A round in which a step is done. -/
theorem round_yes (l2 : List Int) (a0 : ByteArray) (a1 : ByteArray) (a4 : ByteArray) (a5 : ByteArray) (a6 : ByteArray) (a7 : ByteArray) (a8 : ByteArray) (a9 : Int) (a10 : Int) (a11 : ByteArray) (a12 : Bool) (a13 : Int) (a14 : ByteArray) (a15 : ByteArray) (a16 : ByteArray) (a17 : Int) (a18 : Int) (a19 : Int) (a20 : Bool) (a21 : Bool) (a23 : Int) (a24 : Bool) (there : Bool) (posted : Int) (i k : Nat) (hi : i < 3) (hk : 3 ≤ k) (cd : ByteArray) (am tick : Int) (c0 c1 c2 : ByteArray) (c3 c4 c5 : Int) (h7 : a7.size ≤ 4096) (h14 : a14.size ≤ 4096) (hc0 : c0.size ≤ 4096)
    (b0 b1 b2 : ByteArray) (st kind pb : Int) (x y z : ByteArray) (hR : decT (rdOf ByteArray.empty cds (i : Int)) am a6 a7 a14 a15 a16 a17 a18 a19 a20 a21 tick a23 c0 c1 c2 c3 c4 c5 there = ((b0, b1, b2, st, am, tick + 200), (kind, pb, x, y, z, am), c00))
    (hst : st = (i : Int) + 1) (hkind : kind = if st = 2 then 4 else 3) (hb0 : b0.size ≤ 4096) (hm : mayD b0 b1 b2 st am (tick + 200) = true) (hpo : posted = if st = 2 then am else 0) :
    bursarlaw26_DisputeCycle.j2 (k + 1) l2 there posted cds (i : Int) a0 a1 cd am a4 a5 a6 a7 a8 a9 a10 a11 a12 a13 a14 a15 a16 a17 a18 a19 a20 a21 tick a23 a24 c0 c1 c2 c3 c4 c5 = bursarlaw26_DisputeCycle.l0 (k - 1) l2 true (if st = 2 then 0 else am) cds ((i + 1 : Nat) : Int) a0 a1 (rdOf ByteArray.empty cds (i : Int)) am a4 a5 a6 a7 a8 a9 a10 a11 a12 a13 a14 a15 a16 a17 a18 a19 a20 a21 tick a23 a24 b0 b1 b2 st am (tick + 200) := by
  revert hkind hpo
  obtain ⟨k, rfl⟩ : ∃ m, k = m + 1 := ⟨k - 1, by omega⟩
  obtain ⟨_, _, _, s1, s3, m1, m2, _, _⟩ := mayD_iff.mp hm
  have hk' : 3 ≤ k + 1 := hk
  have i0 : 0 ≤ (i : Int) := Int.natCast_nonneg i
  have i6 : (i : Int) < (cds.length : Int) := by show (i : Int) < 6; omega
  have i3 : (i : Int) < 3 := by omega
  have i3' : ¬ (i : Int) ≥ 3 := by omega
  simp only [bursarlaw26_DisputeCycle.j2]
  rw [if_pos i0, if_pos i6, dec_p (k + 1) hk' _ _ _ _ _ _ _ _ _ _ _ _ _ _ _ _ _ _ _ _ _ _ _ _ _ _ _ _ _ _ _ _ h7 h14 hc0, hR]
  simp only [Option.bind_some, outD]
  have hw : wrap64 ((i : Int) + 1) = ((i + 1 : Nat) : Int) := by rw [w64 _ (by omega) (by omega)]; omega
  rw [if_pos y00, if_pos i3, if_neg i3']
  rcases three_ i hi with rfl | rfl | rfl
  · obtain rfl : st = 1 := hst.trans (by decide)
    intro hkind hpo
    simp only [show ¬ (1 : Int) = 2 by decide, if_false] at hkind hpo ⊢
    subst hkind hpo
    rw [if_pos rfl, w64 _ (by omega) (by omega)]
    simp only [bursarlaw26_DisputeCycle.j3]
    rw [if_neg (by decide), if_pos (by omega), against_e _ _ _ _ _ _ hb0 hm, if_neg (by decide), Option.bind_some, if_pos rfl, hw, if_pos (by decide), show (0 : Int) + am = am by omega]
    rfl
  · obtain rfl : st = 2 := hst.trans (by decide)
    intro hkind hpo
    simp only [if_true] at hkind hpo ⊢
    subst hkind hpo
    rw [if_neg (by decide), w64 _ (by omega) (by omega)]
    simp only [bursarlaw26_DisputeCycle.j3]
    rw [if_pos (by decide), if_pos (by omega), against_e _ _ _ _ _ _ hb0 hm, if_pos rfl, Option.bind_some, if_pos rfl, hw, if_pos (by decide), show posted - posted = 0 by omega]
    rfl
  · obtain rfl : st = 3 := hst.trans (by decide)
    intro hkind hpo
    simp only [show ¬ (3 : Int) = 2 by decide, if_false] at hkind hpo ⊢
    subst hkind hpo
    rw [if_pos rfl, w64 _ (by omega) (by omega)]
    simp only [bursarlaw26_DisputeCycle.j3]
    rw [if_neg (by decide), if_pos (by omega), against_e _ _ _ _ _ _ hb0 hm, if_neg (by decide), Option.bind_some, if_pos rfl, hw, if_pos (by decide), show (0 : Int) + am = am by omega]
    rfl
/-- A round in which nothing is done. -/
theorem round_no (l2 : List Int) (a0 : ByteArray) (a1 : ByteArray) (a4 : ByteArray) (a5 : ByteArray) (a6 : ByteArray) (a7 : ByteArray) (a8 : ByteArray) (a9 : Int) (a10 : Int) (a11 : ByteArray) (a12 : Bool) (a13 : Int) (a14 : ByteArray) (a15 : ByteArray) (a16 : ByteArray) (a17 : Int) (a18 : Int) (a19 : Int) (a20 : Bool) (a21 : Bool) (a23 : Int) (a24 : Bool) (there : Bool) (posted : Int) (i k : Nat) (hi : 3 ≤ i) (hi6 : i < 6) (hk : 3 ≤ k) (cd : ByteArray) (am tick : Int) (c0 c1 c2 : ByteArray) (c3 c4 c5 : Int) (h7 : a7.size ≤ 4096) (h14 : a14.size ≤ 4096) (hc0 : c0.size ≤ 4096)
    (hR : ¬ (decT (rdOf ByteArray.empty cds (i : Int)) am a6 a7 a14 a15 a16 a17 a18 a19 a20 a21 tick a23 c0 c1 c2 c3 c4 c5 there).2.2.toList = [48, 48]) :
    bursarlaw26_DisputeCycle.j2 (k + 1) l2 there posted cds (i : Int) a0 a1 cd am a4 a5 a6 a7 a8 a9 a10 a11 a12 a13 a14 a15 a16 a17 a18 a19 a20 a21 tick a23 a24 c0 c1 c2 c3 c4 c5 = bursarlaw26_DisputeCycle.l0 k l2 there posted cds ((i + 1 : Nat) : Int) a0 a1 (rdOf ByteArray.empty cds (i : Int)) am a4 a5 a6 a7 a8 a9 a10 a11 a12 a13 a14 a15 a16 a17 a18 a19 a20 a21 tick a23 a24 c0 c1 c2 c3 c4 c5 := by
  simp only [bursarlaw26_DisputeCycle.j2]
  rw [if_pos (by omega), if_pos (show (i : Int) < (cds.length : Int) by show (i : Int) < 6; omega), dec_p k hk _ _ _ _ _ _ _ _ _ _ _ _ _ _ _ _ _ _ _ _ _ _ _ _ _ _ _ _ _ _ _ _ h7 h14 hc0]
  simp only [Option.bind_some, outD]
  have hw : wrap64 ((i : Int) + 1) = ((i + 1 : Nat) : Int) := by rw [w64 _ (by omega) (by omega)]; omega
  rw [if_neg hR, if_neg (by omega), if_pos (by omega), hw]
theorem cycle_l (l2 : List Int) (hw : ∀ x ∈ l2, (Lit.int .u8 x).wf = true) (a0 : ByteArray) (a1 : ByteArray) (a4 : ByteArray) (a5 : ByteArray) (a6 : ByteArray) (a7 : ByteArray) (a8 : ByteArray) (a9 : Int) (a10 : Int) (a11 : ByteArray) (a12 : Bool) (a13 : Int) (a14 : ByteArray) (a15 : ByteArray) (a16 : ByteArray) (a17 : Int) (a18 : Int) (a19 : Int) (a20 : Bool) (a21 : Bool) (a23 : Int) (a24 : Bool) (cd : ByteArray) (am tick : Int) (h7 : a7.size ≤ 4096) (h14 : a14.size ≤ 4096) (hfo : a21 = true) (hca : am ≤ a18) (ham : am ≤ 9999999999999) (ht : tick ≤ 1073741824)
    (ha : askD am a6 a7 a14 a15 a16 a17 a18 a19 a20 a21 tick a23 (⟨#[]⟩ : ByteArray) (⟨#[]⟩ : ByteArray) (⟨#[]⟩ : ByteArray) 0 0 0 false = true) :
    bursarlaw26_DisputeCycle.l0 30 l2 false 0 cds 0 a0 a1 cd am a4 a5 a6 a7 a8 a9 a10 a11 a12 a13 a14 a15 a16 a17 a18 a19 a20 a21 tick a23 a24 (⟨#[]⟩ : ByteArray) (⟨#[]⟩ : ByteArray) (⟨#[]⟩ : ByteArray) 0 0 0 = some true := by
  obtain ⟨q1, q2, q3, q4, q5, q6, q7, q8, _⟩ := (ask_iff am a6 a7 a14 a15 a16 a17 a18 a19 a20 a21 tick a23 _ _ _ 0 0 0 false).mp ha
  have hp := (hmay_iff.mp (q8 hfo).1).2.1
  have ask : ∀ (t st un : Int) (there : Bool), 0 ≤ t → t ≤ 2147483447 → 1 ≤ st → st ≤ 3 → 0 ≤ un → un ≤ 2147483647 → askD am a6 a7 a14 a15 a16 a17 a18 a19 a20 a21 t a23 a7 a6 a16 st am un there = true := by
    intro t st un there e0 e1 e2 e3 e4 e5
    exact (ask_iff am a6 a7 a14 a15 a16 a17 a18 a19 a20 a21 t a23 a7 a6 a16 st am un there).mpr ⟨q1, q2, q3, q4, q5, e0, e1, q8, fun _ => ⟨mayD_iff.mpr ⟨q1, q2, hp, e2, e3, q3, ham, e4, e5⟩, rfl, rfl⟩⟩
  have ask0 : ∀ t : Int, 0 ≤ t → t ≤ 2147483447 → askD am a6 a7 a14 a15 a16 a17 a18 a19 a20 a21 t a23 (⟨#[]⟩ : ByteArray) (⟨#[]⟩ : ByteArray) (⟨#[]⟩ : ByteArray) 0 0 0 false = true := by
    intro t e0 e1
    exact (ask_iff am a6 a7 a14 a15 a16 a17 a18 a19 a20 a21 t a23 _ _ _ 0 0 0 false).mpr ⟨q1, q2, q3, q4, q5, e0, e1, q8, fun h => by cases h⟩
  have p00 : pre2 (rdOf ByteArray.empty cds ((0 : Nat) : Int)) 48 48 = true := by decide +kernel
  have p10 : pre2 (rdOf ByteArray.empty cds ((1 : Nat) : Int)) 48 48 = false := by decide +kernel
  have p11 : pre2 (rdOf ByteArray.empty cds ((1 : Nat) : Int)) 48 49 = true := by decide +kernel
  have p20 : pre2 (rdOf ByteArray.empty cds ((2 : Nat) : Int)) 48 48 = false := by decide +kernel
  have p21 : pre2 (rdOf ByteArray.empty cds ((2 : Nat) : Int)) 48 49 = false := by decide +kernel
  have p22 : pre2 (rdOf ByteArray.empty cds ((2 : Nat) : Int)) 48 50 = true := by decide +kernel
  have p30 : pre2 (rdOf ByteArray.empty cds ((3 : Nat) : Int)) 48 48 = false := by decide +kernel
  have p31 : pre2 (rdOf ByteArray.empty cds ((3 : Nat) : Int)) 48 49 = true := by decide +kernel
  have p40 : pre2 (rdOf ByteArray.empty cds ((4 : Nat) : Int)) 48 48 = false := by decide +kernel
  have p41 : pre2 (rdOf ByteArray.empty cds ((4 : Nat) : Int)) 48 49 = false := by decide +kernel
  have p42 : pre2 (rdOf ByteArray.empty cds ((4 : Nat) : Int)) 48 50 = true := by decide +kernel
  have p50 : pre2 (rdOf ByteArray.empty cds ((5 : Nat) : Int)) 48 48 = true := by decide +kernel
  -- 0
  obtain ⟨t0, u0, v0, e0⟩ := round_e l2 hw a0 a1 a4 a5 a6 a7 a8 a9 a10 a11 a12 a13 a14 a15 a16 a17 a18 a19 a20 a21 a23 a24 false 0 0 29 (by decide) cd am tick q6 (by omega) (⟨#[]⟩ : ByteArray) (⟨#[]⟩ : ByteArray) (⟨#[]⟩ : ByteArray) 0 0 0
  refine e0.trans ?_
  have m1 : mayD a7 a6 a16 1 am (t0 + 200) = true := mayD_iff.mpr ⟨q1, q2, hp, by decide, by decide, q3, ham, by omega, by omega⟩
  have r0 : decT (rdOf ByteArray.empty cds ((0 : Nat) : Int)) am a6 a7 a14 a15 a16 a17 a18 a19 a20 a21 t0 a23 (⟨#[]⟩ : ByteArray) (⟨#[]⟩ : ByteArray) (⟨#[]⟩ : ByteArray) 0 0 0 false = ((a7, a6, a16, 1, am, t0 + 200), (3, a23, a16, a6, a7, am), c00) := by
    unfold decT
    rw [if_pos (ask0 t0 (by omega) (by omega)), if_pos p00, if_pos hfo, if_neg (by decide), if_neg (by omega)]
  rw [round_yes l2 a0 a1 a4 a5 a6 a7 a8 a9 a10 a11 a12 a13 a14 a15 a16 a17 a18 a19 a20 a21 a23 a24 false 0 0 28 (by decide) (by decide) cd am t0 _ _ _ 0 0 0 h7 h14 (by decide) _ _ _ 1 3 _ _ _ _ r0 (by decide) (by decide) h7 m1 (by rw [if_neg (by decide)]), if_neg (by decide)]
  -- 1
  obtain ⟨t1, u1, v1, e1⟩ := round_e l2 hw a0 a1 a4 a5 a6 a7 a8 a9 a10 a11 a12 a13 a14 a15 a16 a17 a18 a19 a20 a21 a23 a24 true am 1 26 (by decide) (rdOf ByteArray.empty cds ((0 : Nat) : Int)) am t0 (by omega) (by omega) a7 a6 a16 1 am (t0 + 200)
  refine e1.trans ?_
  have m2 : mayD a7 a6 a16 2 am (t1 + 200) = true := mayD_iff.mpr ⟨q1, q2, hp, by decide, by decide, q3, ham, by omega, by omega⟩
  have r1 : decT (rdOf ByteArray.empty cds ((1 : Nat) : Int)) am a6 a7 a14 a15 a16 a17 a18 a19 a20 a21 t1 a23 a7 a6 a16 1 am (t0 + 200) true = ((a7, a6, a16, 2, am, t1 + 200), (4, a23, a16, a6, a7, am), c00) := by
    unfold decT
    rw [if_pos (ask t1 1 (t0 + 200) true (by omega) (by omega) (by decide) (by decide) (by omega) (by omega)), p10, p11, if_neg (by decide), if_pos rfl, if_pos rfl, if_pos rfl, if_neg (by omega), if_pos rfl]
  rw [round_yes l2 a0 a1 a4 a5 a6 a7 a8 a9 a10 a11 a12 a13 a14 a15 a16 a17 a18 a19 a20 a21 a23 a24 true am 1 25 (by decide) (by decide) _ am t1 _ _ _ 1 am _ h7 h14 h7 _ _ _ 2 4 _ _ _ _ r1 (by decide) (by decide) h7 m2 (by rw [if_pos rfl]), if_pos rfl]
  -- 2
  obtain ⟨t2, u2, v2, e2⟩ := round_e l2 hw a0 a1 a4 a5 a6 a7 a8 a9 a10 a11 a12 a13 a14 a15 a16 a17 a18 a19 a20 a21 a23 a24 true 0 2 23 (by decide) (rdOf ByteArray.empty cds ((1 : Nat) : Int)) am t1 (by omega) (by omega) a7 a6 a16 2 am (t1 + 200)
  refine e2.trans ?_
  have m3 : mayD a7 a6 a16 3 am (t2 + 200) = true := mayD_iff.mpr ⟨q1, q2, hp, by decide, by decide, q3, ham, by omega, by omega⟩
  have r2 : decT (rdOf ByteArray.empty cds ((2 : Nat) : Int)) am a6 a7 a14 a15 a16 a17 a18 a19 a20 a21 t2 a23 a7 a6 a16 2 am (t1 + 200) true = ((a7, a6, a16, 3, am, t2 + 200), (3, a23, a16, a6, a7, am), c00) := by
    unfold decT
    rw [if_pos (ask t2 2 (t1 + 200) true (by omega) (by omega) (by decide) (by decide) (by omega) (by omega)), p20, p21, p22, if_neg (by decide), if_neg (by decide), if_pos rfl, if_pos rfl, if_pos rfl, if_neg (by omega), if_pos rfl]
  rw [round_yes l2 a0 a1 a4 a5 a6 a7 a8 a9 a10 a11 a12 a13 a14 a15 a16 a17 a18 a19 a20 a21 a23 a24 true 0 2 22 (by decide) (by decide) _ am t2 _ _ _ 2 am _ h7 h14 h7 _ _ _ 3 3 _ _ _ _ r2 (by decide) (by decide) h7 m3 (by rw [if_neg (by decide)]), if_neg (by decide)]
  -- 3
  obtain ⟨t3, u3, v3, e3⟩ := round_e l2 hw a0 a1 a4 a5 a6 a7 a8 a9 a10 a11 a12 a13 a14 a15 a16 a17 a18 a19 a20 a21 a23 a24 true am 3 20 (by decide) (rdOf ByteArray.empty cds ((2 : Nat) : Int)) am t2 (by omega) (by omega) a7 a6 a16 3 am (t2 + 200)
  refine e3.trans ?_
  have n3 : ¬ (decT (rdOf ByteArray.empty cds ((3 : Nat) : Int)) am a6 a7 a14 a15 a16 a17 a18 a19 a20 a21 t3 a23 a7 a6 a16 3 am (t2 + 200) true).2.2.toList = [48, 48] := by
    rcases dec_alt (rdOf ByteArray.empty cds ((3 : Nat) : Int)) am a6 a7 a14 a15 a16 a17 a18 a19 a20 a21 t3 a23 a7 a6 a16 3 am (t2 + 200) true with ⟨_, _, n⟩ | ⟨_, ⟨x, _⟩ | ⟨_, _, _, x, _⟩ | ⟨_, x, _⟩⟩
    · exact n
    · rw [p30] at x; cases x
    · omega
    · rw [p31] at x; cases x
  rw [round_no l2 a0 a1 a4 a5 a6 a7 a8 a9 a10 a11 a12 a13 a14 a15 a16 a17 a18 a19 a20 a21 a23 a24 true am 3 19 (by decide) (by decide) (by decide) _ am t3 _ _ _ 3 am _ h7 h14 h7 n3]
  -- 4
  obtain ⟨t4, u4, v4, e4⟩ := round_e l2 hw a0 a1 a4 a5 a6 a7 a8 a9 a10 a11 a12 a13 a14 a15 a16 a17 a18 a19 a20 a21 a23 a24 true am 4 18 (by decide) (rdOf ByteArray.empty cds ((3 : Nat) : Int)) am t3 (by omega) (by omega) a7 a6 a16 3 am (t2 + 200)
  refine e4.trans ?_
  have n4 : ¬ (decT (rdOf ByteArray.empty cds ((4 : Nat) : Int)) am a6 a7 a14 a15 a16 a17 a18 a19 a20 a21 t4 a23 a7 a6 a16 3 am (t2 + 200) true).2.2.toList = [48, 48] := by
    rcases dec_alt (rdOf ByteArray.empty cds ((4 : Nat) : Int)) am a6 a7 a14 a15 a16 a17 a18 a19 a20 a21 t4 a23 a7 a6 a16 3 am (t2 + 200) true with ⟨_, _, n⟩ | ⟨_, ⟨x, _⟩ | ⟨_, x, _⟩ | ⟨_, _, _, _, x, _⟩⟩
    · exact n
    · rw [p40] at x; cases x
    · rw [p41] at x; cases x
    · omega
  rw [round_no l2 a0 a1 a4 a5 a6 a7 a8 a9 a10 a11 a12 a13 a14 a15 a16 a17 a18 a19 a20 a21 a23 a24 true am 4 17 (by decide) (by decide) (by decide) _ am t4 _ _ _ 3 am _ h7 h14 h7 n4]
  -- 5
  obtain ⟨t5, u5, v5, e5⟩ := round_e l2 hw a0 a1 a4 a5 a6 a7 a8 a9 a10 a11 a12 a13 a14 a15 a16 a17 a18 a19 a20 a21 a23 a24 true am 5 16 (by decide) (rdOf ByteArray.empty cds ((4 : Nat) : Int)) am t4 (by omega) (by omega) a7 a6 a16 3 am (t2 + 200)
  refine e5.trans ?_
  have n5 : ¬ (decT (rdOf ByteArray.empty cds ((5 : Nat) : Int)) am a6 a7 a14 a15 a16 a17 a18 a19 a20 a21 t5 a23 a7 a6 a16 3 am (t2 + 200) true).2.2.toList = [48, 48] := by
    rcases dec_alt (rdOf ByteArray.empty cds ((5 : Nat) : Int)) am a6 a7 a14 a15 a16 a17 a18 a19 a20 a21 t5 a23 a7 a6 a16 3 am (t2 + 200) true with ⟨_, _, n⟩ | ⟨_, ⟨_, _, x, _⟩ | ⟨x, _⟩ | ⟨x, _⟩⟩
    · exact n
    · cases x
    · rw [p50] at x; cases x
    · rw [p50] at x; cases x
  rw [round_no l2 a0 a1 a4 a5 a6 a7 a8 a9 a10 a11 a12 a13 a14 a15 a16 a17 a18 a19 a20 a21 a23 a24 true am 5 15 (by decide) (by decide) (by decide) _ am t5 _ _ _ 3 am _ h7 h14 h7 n5]
  simp only [bursarlaw26_DisputeCycle.l0]
  rw [if_neg (by decide), awake_some 14 (by decide)]; rfl
theorem cycle_pure (a0 : ByteArray) (a1 : ByteArray) (a2 : ByteArray) (a3 : Int) (a4 : ByteArray) (a5 : ByteArray) (a6 : ByteArray) (a7 : ByteArray) (a8 : ByteArray) (a9 : Int) (a10 : Int) (a11 : ByteArray) (a12 : Bool) (a13 : Int) (a14 : ByteArray) (a15 : ByteArray) (a16 : ByteArray) (a17 : Int) (a18 : Int) (a19 : Int) (a20 : Bool) (a21 : Bool) (a22 : Int) (a23 : Int) (a24 : Bool) (n : Int) (l2 : List Int) (g3 : (Lit.int .i64 a3).wf = true) (g9 : (Lit.int .i64 a9).wf = true) (g10 : (Lit.int .i64 a10).wf = true) (g13 : (Lit.int .i64 a13).wf = true) (g17 : (Lit.int .i64 a17).wf = true) (g18 : (Lit.int .i64 a18).wf = true) (g19 : (Lit.int .i64 a19).wf = true) (g22 : (Lit.int .i64 a22).wf = true) (g23 : (Lit.int .i64 a23).wf = true) (gn : (Lit.int .u16 n).wf = true) (hw : ∀ x ∈ l2, (Lit.int .u8 x).wf = true) : bursarlaw26_DisputeCycle.f 31 a0 a1 a2 a3 a4 a5 a6 a7 a8 a9 a10 a11 a12 a13 a14 a15 a16 a17 a18 a19 a20 a21 a22 a23 a24 n l2 = some true := by
  obtain ⟨b0, b1, b2, b6, b7, b14, b15, b16, hF, z0, z1, z2, z6, z7, z14, z15, z16⟩ := few_some a0 a1 a2 a3 a4 a5 a6 a7 a8 a9 a10 a11 a12 a13 a14 a15 a16 a17 a18 a19 a20 a21 a22 a23 a24
  have hn : 0 ≤ n ∧ n < 65536 := by simp [Lit.wf, IntKind.min, IntKind.max, IntKind.signed, IntKind.bits] at gn; omega
  have e1 : wrap64 (wrap64 n + 1) = n + 1 := by rw [w64 n (by omega) (by omega), w64 _ (by omega) (by omega)]
  unfold bursarlaw26_DisputeCycle.f
  rw [hF, Option.bind_some]
  dsimp only
  rw [e1, ask_p 31 (by decide) _ _ _ _ _ _ _ _ _ _ _ _ _ _ _ _ _ _ _ _ _ _ _ _ _ _ _ _ _ _ _ _ (by omega) (by omega) (by decide), Option.bind_some]
  have hyes : bursarlaw26_DisputeCycle.j0 31 l2 true b0 b1 b2 (n + 1) a4 a5 b6 b7 a8 a9 a10 a11 a12 a13 b14 b15 b16 a17 a18 a19 a20 a21 a22 a23 a24 = some true := by
    simp only [bursarlaw26_DisputeCycle.j0]
    rw [if_pos trivial, awake_some 30 (by decide)]; rfl
  by_cases ha : askD (n + 1) b6 b7 b14 b15 b16 a17 a18 a19 a20 a21 a22 a23 (⟨#[]⟩ : ByteArray) (⟨#[]⟩ : ByteArray) (⟨#[]⟩ : ByteArray) 0 0 0 false = true
  rotate_left
  · rw [if_neg ha]; exact hyes
  rw [if_pos ha]
  by_cases hfo : a21 = true
  rotate_left
  · rw [if_neg hfo]; exact hyes
  rw [if_pos hfo]
  by_cases hca : a18 < n + 1
  · rw [if_pos hca]; exact hyes
  rw [if_neg hca]
  by_cases ht : a22 > 1073741824
  · rw [decide_eq_true ht]; exact hyes
  rw [decide_eq_false ht]
  simp only [bursarlaw26_DisputeCycle.j0]
  rw [if_neg (by decide)]
  exact cycle_l l2 hw b0 b1 a4 a5 b6 b7 a8 a9 a10 a11 a12 a13 b14 b15 b16 a17 a18 a19 a20 a21 a23 a24 _ (n + 1) a22 (by omega) (by omega) hfo (by omega) (by omega) (by omega) ha
end Go.Proofs.Ytmdpomilhejbcaa.XDC
