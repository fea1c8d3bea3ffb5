/- Plain laws of disputes: what the program's and the document's answers are, as one total function; the law holds of it. -/
import Derived.Test.YtddlmcaclbkopaaXDG13
namespace Go.Proofs.Ytddlmcaclbkopaa.XDG
open Go.RowKit Go.Proofs.YtddlmcaclbkopaaW.PrintWords Pu
set_option linter.unusedVariables false
set_option linter.unusedSimpArgs false
theorem text_some (s : ByteArray) : ∃ t, bursarlaw22_text.f s = some t ∧ t.size ≤ 40 := by
  unfold bursarlaw22_text.f
  by_cases h : (s.size : Int) > 40
  · have h2 : 40 ≤ (s.size : Int) := by omega
    simp only [if_pos h, if_pos h2, if_pos (show (0 : Int) ≤ 40 by decide)]
    exact ⟨_, rfl, by rw [ByteArray.size_extract]; omega⟩
  · rw [if_neg h]
    exact ⟨_, rfl, by omega⟩
theorem few_some (a0 : ByteArray) (a1 : ByteArray) (a2 : ByteArray) (a3 : Int) (a4 : ByteArray) (a5 : ByteArray) (a6 : ByteArray) (a7 : ByteArray) (a8 : ByteArray) (a9 : Int) (a10 : Int) (a11 : ByteArray) (a12 : Bool) (a13 : Int) (a14 : ByteArray) (a15 : ByteArray) (a16 : ByteArray) (a17 : Int) (a18 : Int) (a19 : Int) (a20 : Bool) (a21 : Bool) (a22 : Int) (a23 : Int) (a24 : Bool) : ∃ b0 b1 b2 b6 b7 b14 b15 b16 : ByteArray, bursarlaw22_Few.f a0 a1 a2 a3 a4 a5 a6 a7 a8 a9 a10 a11 a12 a13 a14 a15 a16 a17 a18 a19 a20 a21 a22 a23 a24 = some (b0, b1, b2, a3, a4, a5, b6, b7, a8, a9, a10, a11, a12, a13, b14, b15, b16, a17, a18, a19, a20, a21, a22, a23, a24) ∧ b0.size ≤ 40 ∧ b1.size ≤ 40 ∧ b2.size ≤ 40 ∧ b6.size ≤ 40 ∧ b7.size ≤ 40 ∧ b14.size ≤ 40 ∧ b15.size ≤ 40 ∧ b16.size ≤ 40 := by
  obtain ⟨b0, h0, z0⟩ := text_some a0
  obtain ⟨b1, h1, z1⟩ := text_some a1
  obtain ⟨b2, h2, z2⟩ := text_some a2
  obtain ⟨b6, h6, z6⟩ := text_some a6
  obtain ⟨b7, h7, z7⟩ := text_some a7
  obtain ⟨b14, h14, z14⟩ := text_some a14
  obtain ⟨b15, h15, z15⟩ := text_some a15
  obtain ⟨b16, h16, z16⟩ := text_some a16
  refine ⟨b0, b1, b2, b6, b7, b14, b15, b16, ?_, z0, z1, z2, z6, z7, z14, z15, z16⟩
  unfold bursarlaw22_Few.f
  simp only [h0, h1, h2, h6, h7, h14, h15, h16, Option.bind_some]
theorem list_if {p q : ByteArray} {α : Type} {x y : α} : (if p.toList = q.toList then x else y) = (if decide (p = q) = true then x else y) := by
  by_cases h : p = q
  · subst h; simp
  · have h' : ¬ p.toList = q.toList := fun e => h (toList_inj.mp e)
    simp [h, h']
def inB (n : Int) : Prop := -9223372036854775808 ≤ n ∧ n ≤ 9223372036854775807
theorem wr {n : Int} (h : inB n) : wrap64 n = n := by unfold inB at h; unfold wrap64; omega
theorem inB_of_wf {n : Int} (h : (Lit.int .i64 n).wf = true) : inB n := by
  simp only [Lit.wf, IntKind.min, IntKind.max, IntKind.signed, IntKind.bits, Bool.and_eq_true, decide_eq_true_eq, if_true] at h
  unfold inB
  omega
def pre2 (s : ByteArray) (x y : UInt8) : Bool := decide (2 ≤ s.size) && ((s.extract 0 2).toList == [x, y])
theorem has2 (s : ByteArray) (x y : UInt8) : strings_HasPrefix.f s ⟨#[x, y]⟩ = some (pre2 s x y) := by
  unfold strings_HasPrefix.f stringslite_HasPrefix.f pre2
  have e : ((⟨#[x, y]⟩ : ByteArray).size : Int) = 2 := rfl
  have e2 : (⟨#[x, y]⟩ : ByteArray).toList = [x, y] := by rw [ByteArray.toList_eq]
  by_cases h : 2 ≤ s.size
  · have g : (s.size : Int) ≥ 2 := by omega
    have g2 : (2 : Int) ≤ (s.size : Int) := by omega
    rw [e, e2, if_pos g, if_pos (by decide), if_pos g2, decide_eq_true h]
    rfl
  · have g : ¬ (s.size : Int) ≥ 2 := by omega
    rw [e, if_neg g, decide_eq_false h]
    rfl
/-- May a question be? -/
def mayA (pan : ByteArray) (am : Int) (acq rrn r2 c2 p2 : ByteArray) (ap ca un : Int) (op fo : Bool) (tick : Int) : Bool :=
  mayB 1 pan && mayB 2 acq && refB rrn && decide (1 ≤ am) && decide (0 ≤ tick) && decide (tick ≤ 2147483547) && (!fo || (hmay r2 c2 p2 ap ca un op && decide (r2 = rrn) && decide (c2 = acq)))
theorem mayA_iff {pan : ByteArray} {am : Int} {acq rrn r2 c2 p2 : ByteArray} {ap ca un : Int} {op fo : Bool} {tick : Int} : mayA pan am acq rrn r2 c2 p2 ap ca un op fo tick = true ↔ mayB 1 pan = true ∧ mayB 2 acq = true ∧ refB rrn = true ∧ 1 ≤ am ∧ 0 ≤ tick ∧ tick ≤ 2147483547 ∧ (fo = true → hmay r2 c2 p2 ap ca un op = true ∧ r2 = rrn ∧ c2 = acq) := by
  unfold mayA
  simp only [Bool.and_eq_true, decide_eq_true_eq, Bool.or_eq_true, Bool.not_eq_true', and_assoc]
  cases fo <;> simp
def c00 : ByteArray := ⟨#[48, 48]⟩
def c12 : ByteArray := ⟨#[49, 50]⟩
def c25 : ByteArray := ⟨#[50, 53]⟩
def c30 : ByteArray := ⟨#[51, 48]⟩
def c54 : ByteArray := ⟨#[53, 52]⟩
def c61 : ByteArray := ⟨#[54, 49]⟩
def c94 : ByteArray := ⟨#[57, 52]⟩
theorem ctext_some (s : ByteArray) : ∃ t, bursarlaw26_text.f s = some t ∧ t.size ≤ 50 := by
  unfold bursarlaw26_text.f
  by_cases h : (s.size : Int) > 50
  · have h2 : 50 ≤ (s.size : Int) := by omega
    simp only [if_pos h, if_pos h2]
    exact ⟨_, rfl, by rw [ByteArray.size_extract]; omega⟩
  · rw [if_neg h]
    exact ⟨_, rfl, by omega⟩
/-- May a dispute be? -/
def mayD (rrn acq pan : ByteArray) (st am un : Int) : Bool := refB rrn && mayB 2 acq && mayB 1 pan && decide (1 ≤ st) && decide (st ≤ 3) && decide (1 ≤ am) && decide (am ≤ 9999999999999) && decide (0 ≤ un) && decide (un ≤ 2147483647)
theorem mayD_iff {rrn acq pan : ByteArray} {st am un : Int} : mayD rrn acq pan st am un = true ↔ refB rrn = true ∧ mayB 2 acq = true ∧ mayB 1 pan = true ∧ 1 ≤ st ∧ st ≤ 3 ∧ 1 ≤ am ∧ am ≤ 9999999999999 ∧ 0 ≤ un ∧ un ≤ 2147483647 := by
  unfold mayD; simp only [Bool.and_eq_true, decide_eq_true_eq, and_assoc]
theorem mayD_p (c0 c1 c2 : ByteArray) (c3 c4 c5 : Int) (h : c0.size ≤ 4096) : dispute_May.f c0 c1 c2 c3 c4 c5 = some (mayD c0 c1 c2 c3 c4 c5) := by
  unfold dispute_May.f dispute_known.f hold_Ref.f chart_May.f dispute_until.f mayD
  simp only [Option.bind_some, if_pos h]
  generalize refB c0 = x1; generalize mayB 2 c1 = x2; generalize mayB 1 c2 = x3
  cases x1
  · simp
  cases x2
  · simp
  cases x3
  · simp
  by_cases h1 : c5 ≥ 0
  rotate_left
  · have e : ¬ 0 ≤ c5 := by omega
    simp [h1, e]
  have e1 : 0 ≤ c5 := h1
  by_cases h2 : c5 ≤ 2147483647
  rotate_left
  · simp [h1, e1, h2]
  by_cases h3 : c3 ≥ 1
  rotate_left
  · have e : ¬ 1 ≤ c3 := by omega
    simp [h1, e1, h2, h3, e]
  have e3 : 1 ≤ c3 := h3
  by_cases h4 : c3 ≤ 3
  rotate_left
  · simp [h1, e1, h2, h3, e3, h4]
  by_cases h5 : c4 ≥ 1
  rotate_left
  · have e : ¬ 1 ≤ c4 := by omega
    simp [h1, e1, h2, h3, e3, h4, h5, e]
  have e5 : 1 ≤ c4 := h5
  simp [h1, e1, h2, h3, e3, h4, h5, e5]
/-- May a question be asked? -/
def askD (am : Int) (acq rrn r2 q2 p2 : ByteArray) (ap ca un : Int) (op fo : Bool) (tick batch : Int) (c0 c1 c2 : ByteArray) (c3 c4 c5 : Int) (there : Bool) : Bool :=
  refB rrn && mayB 2 acq && decide (1 ≤ am) && decide (0 ≤ batch) && decide (batch ≤ 2147483647) && decide (0 ≤ tick) && decide (tick ≤ 2147483447) && (!fo || (hmay r2 q2 p2 ap ca un op && decide (r2 = rrn) && decide (q2 = acq))) && (!there || (mayD c0 c1 c2 c3 c4 c5 && decide (c0 = rrn) && decide (c1 = acq)))
theorem ask_p (k : Nat) (hk : 2 ≤ k) (a0 : ByteArray) (a1 : ByteArray) (a2 : ByteArray) (a3 : Int) (a4 : ByteArray) (a5 : ByteArray) (a6 : ByteArray) (a7 : ByteArray) (a8 : ByteArray) (a9 : Int) (a10 : Int) (a11 : ByteArray) (a12 : Bool) (a13 : Int) (a14 : ByteArray) (a15 : ByteArray) (a16 : ByteArray) (a17 : Int) (a18 : Int) (a19 : Int) (a20 : Bool) (a21 : Bool) (a22 : Int) (a23 : Int) (a24 : Bool) (c0 : ByteArray) (c1 : ByteArray) (c2 : ByteArray) (c3 : Int) (c4 : Int) (c5 : Int) (there : Bool) (h7 : a7.size ≤ 4096) (h14 : a14.size ≤ 4096) (hc0 : c0.size ≤ 4096) : dispute_Asks.f k a0 a1 a2 a3 a4 a5 a6 a7 a8 a9 a10 a11 a12 a13 a14 a15 a16 a17 a18 a19 a20 a21 a22 a23 a24 c0 c1 c2 c3 c4 c5 there = some (askD a3 a6 a7 a14 a15 a16 a17 a18 a19 a20 a21 a22 a23 c0 c1 c2 c3 c4 c5 there) := by
  obtain ⟨k, rfl⟩ : ∃ m, k = m + 2 := ⟨k - 2, by omega⟩
  unfold dispute_Asks.f dispute_known.f hold_Ref.f chart_May.f dispute_until.f
  simp only [Option.bind_some, if_pos h7, if_pos h14, hold_May.f, mayD_p c0 c1 c2 c3 c4 c5 hc0, dispute_Asks.j0, dispute_Asks.j1, list_if, toList_beq, bne]
  unfold askD
  generalize mayB 2 a6 = x2; generalize refB a7 = x3; generalize hmay a14 a15 a16 a17 a18 a19 a20 = x4; generalize decide (a14 = a7) = x5; generalize decide (a15 = a6) = x6; generalize mayD c0 c1 c2 c3 c4 c5 = x7; generalize decide (c0 = a7) = x8; generalize decide (c1 = a6) = x9
  cases x3
  · simp
  cases x2
  · simp
  by_cases h1 : 1 ≤ a3
  rotate_left
  · have e1 : a3 < 1 := by omega
    have e2 : a3 ≤ 0 := by omega
    simp [h1, e1, e2]
  have e1 : ¬ a3 < 1 := by omega
  have e2 : ¬ a3 ≤ 0 := by omega
  by_cases h2 : 0 ≤ a23
  rotate_left
  · have e3 : a23 < 0 := by omega
    have e4 : ¬ a23 ≥ 0 := by omega
    simp [h1, e1, e2, h2, e3, e4]
  have e3 : ¬ a23 < 0 := by omega
  have e4 : a23 ≥ 0 := by omega
  by_cases h3 : a23 ≤ 2147483647
  rotate_left
  · have e5 : a23 > 2147483647 := by omega
    simp [h1, e1, e2, h2, e3, e4, h3, e5]
  have e5 : ¬ a23 > 2147483647 := by omega
  by_cases h4 : 0 ≤ a22
  rotate_left
  · have e6 : a22 < 0 := by omega
    have e7 : ¬ a22 ≥ 0 := by omega
    simp [h1, e1, e2, h2, e3, e4, h3, e5, h4, e6, e7]
  have e6 : ¬ a22 < 0 := by omega
  have e7 : a22 ≥ 0 := by omega
  by_cases h5 : a22 ≤ 2147483447
  rotate_left
  · have e8 : a22 > 2147483447 := by omega
    simp [h1, e1, e2, h2, e3, e4, h3, e5, h4, e6, e7, h5, e8]
  have e8 : ¬ a22 > 2147483447 := by omega
  simp only [h1, e1, e2, h2, e3, e4, h3, e5, h4, e6, e7, h5, e8, if_true, if_false, Bool.false_eq_true, decide_true, decide_false, Bool.true_and, Bool.not_true]
  cases a21 <;> cases x4 <;> cases x5 <;> cases x6 <;> cases there <;> cases x7 <;> cases x8 <;> cases x9 <;> simp
abbrev C6 := ByteArray × ByteArray × ByteArray × Int × Int × Int
abbrev P6 := Int × Int × ByteArray × ByteArray × ByteArray × Int
def z0 : C6 := (⟨#[]⟩, ⟨#[]⟩, ⟨#[]⟩, 0, 0, 0)
def p0 : P6 := (0, 0, ⟨#[]⟩, ⟨#[]⟩, ⟨#[]⟩, 0)
def no (c : ByteArray) : C6 × P6 × ByteArray := (z0, p0, c)
/-- What comes of a question on a dispute. -/
def decT (code : ByteArray) (am : Int) (acq rrn r2 q2 p2 : ByteArray) (ap ca un : Int) (op fo : Bool) (tick batch : Int) (c0 c1 c2 : ByteArray) (c3 c4 c5 : Int) (there : Bool) : C6 × P6 × ByteArray :=
  if askD am acq rrn r2 q2 p2 ap ca un op fo tick batch c0 c1 c2 c3 c4 c5 there = true then
    if pre2 code 48 48 = true then
      if fo = true then
        if there = true then no c94
        else if ca < am ∨ 9999999999999 < am then no c61
        else ((rrn, acq, p2, 1, am, tick + 200), (3, batch, p2, acq, rrn, am), c00)
      else no c25
    else if pre2 code 48 49 = true then
      if there = true then
        if c3 = 1 then if c5 < tick then no c54 else if am = c4 then ((c0, c1, c2, 2, c4, tick + 200), (4, batch, c2, c1, c0, c4), c00) else no c61
        else no c12
      else no c25
    else if pre2 code 48 50 = true then
      if there = true then
        if c3 = 2 then if c5 < tick then no c54 else if am = c4 then ((c0, c1, c2, 3, c4, tick + 200), (3, batch, c2, c1, c0, c4), c00) else no c61
        else no c12
      else no c25
    else no c12
  else no c30
def outD (r : C6 × P6 × ByteArray) : ByteArray × ByteArray × ByteArray × Int × Int × Int × Int × Int × ByteArray × ByteArray × ByteArray × Int × ByteArray :=
  (r.1.1, r.1.2.1, r.1.2.2.1, r.1.2.2.2.1, r.1.2.2.2.2.1, r.1.2.2.2.2.2, r.2.1.1, r.2.1.2.1, r.2.1.2.2.1, r.2.1.2.2.2.1, r.2.1.2.2.2.2.1, r.2.1.2.2.2.2.2, r.2.2)
theorem wrong_0 (k : Nat) (hk : 3 ≤ k) (a0 : ByteArray) (a1 : ByteArray) (a2 : ByteArray) (a3 : Int) (a4 : ByteArray) (a5 : ByteArray) (a6 : ByteArray) (a7 : ByteArray) (a8 : ByteArray) (a9 : Int) (a10 : Int) (a11 : ByteArray) (a12 : Bool) (a13 : Int) (a14 : ByteArray) (a15 : ByteArray) (a16 : ByteArray) (a17 : Int) (a18 : Int) (a19 : Int) (a20 : Bool) (a21 : Bool) (a22 : Int) (a23 : Int) (a24 : Bool) (c0 : ByteArray) (c1 : ByteArray) (c2 : ByteArray) (c3 : Int) (c4 : Int) (c5 : Int) (there : Bool) (s : ByteArray) (post : Int) : dispute_wrong.f k a0 a1 a2 a3 a4 a5 a6 a7 a8 a9 a10 a11 a12 a13 a14 a15 a16 a17 a18 a19 a20 a21 a22 a23 a24 c0 c1 c2 c3 c4 c5 there s 0 post = some (if a21 = true then (if there = true then c94 else if a18 < a3 ∨ 9999999999999 < a3 then c61 else ⟨#[]⟩) else c25) := by
  obtain ⟨k, rfl⟩ : ∃ m, k = m + 3 := ⟨k - 3, by omega⟩
  unfold dispute_wrong.f
  simp only [if_true, dispute_wrong.j0, dispute_wrong.j1, dispute_wrong.j2]
  cases a21 with
  | false => rfl
  | true =>
  cases there with
  | true => rfl
  | false =>
    have e : decide (a3 > mn a18 9999999999999) = decide (a18 < a3 ∨ 9999999999999 < a3) := by
      rw [Bool.eq_iff_iff, decide_eq_true_iff, decide_eq_true_iff]; unfold mn; split <;> omega
    simp only [Bool.not_true, Bool.false_eq_true, if_false, e, if_true]
    by_cases h : a18 < a3 ∨ 9999999999999 < a3
    · simp only [decide_eq_true h, if_true, if_pos h]; rfl
    · simp only [decide_eq_false h, Bool.false_eq_true, if_false, if_neg h]
theorem wrong_n (k : Nat) (hk : 3 ≤ k) (a0 : ByteArray) (a1 : ByteArray) (a2 : ByteArray) (a3 : Int) (a4 : ByteArray) (a5 : ByteArray) (a6 : ByteArray) (a7 : ByteArray) (a8 : ByteArray) (a9 : Int) (a10 : Int) (a11 : ByteArray) (a12 : Bool) (a13 : Int) (a14 : ByteArray) (a15 : ByteArray) (a16 : ByteArray) (a17 : Int) (a18 : Int) (a19 : Int) (a20 : Bool) (a21 : Bool) (a22 : Int) (a23 : Int) (a24 : Bool) (c0 : ByteArray) (c1 : ByteArray) (c2 : ByteArray) (c3 : Int) (c4 : Int) (c5 : Int) (there : Bool) (s : ByteArray) (fr post : Int) (hf : ¬ fr = 0) : dispute_wrong.f k a0 a1 a2 a3 a4 a5 a6 a7 a8 a9 a10 a11 a12 a13 a14 a15 a16 a17 a18 a19 a20 a21 a22 a23 a24 c0 c1 c2 c3 c4 c5 there s fr post = some (if there = true then (if c3 = fr then (if c5 < a22 then c54 else if a3 = c4 then ⟨#[]⟩ else c61) else c12) else c25) := by
  obtain ⟨k, rfl⟩ : ∃ m, k = m + 3 := ⟨k - 3, by omega⟩
  unfold dispute_wrong.f
  simp only [if_neg hf, dispute_wrong.j0, dispute_wrong.j1, dispute_wrong.j2, Bool.false_eq_true, if_false]
  cases there with
  | false => rfl
  | true =>
    simp only [if_true]
    by_cases h : c3 = fr
    · rw [if_pos h, if_pos h]
      by_cases h2 : a22 > c5
      · rw [if_pos h2, if_pos (show c5 < a22 from h2)]; rfl
      · rw [if_neg h2, if_neg (show ¬ c5 < a22 from h2)]
        by_cases h3 : a3 = c4
        · rw [if_pos h3, if_pos h3]
        · rw [if_neg h3, if_neg h3]; rfl
    · rw [if_neg h, if_neg h]; rfl
theorem ne94 : ¬ c94 = (⟨#[]⟩ : ByteArray) := by unfold c94; decide
theorem ne61 : ¬ c61 = (⟨#[]⟩ : ByteArray) := by unfold c61; decide
theorem ne25 : ¬ c25 = (⟨#[]⟩ : ByteArray) := by unfold c25; decide
theorem ne54 : ¬ c54 = (⟨#[]⟩ : ByteArray) := by unfold c54; decide
theorem ne12 : ¬ c12 = (⟨#[]⟩ : ByteArray) := by unfold c12; decide
theorem dec_p (k : Nat) (hk : 3 ≤ k) (a0 : ByteArray) (a1 : ByteArray) (a2 : ByteArray) (a3 : Int) (a4 : ByteArray) (a5 : ByteArray) (a6 : ByteArray) (a7 : ByteArray) (a8 : ByteArray) (a9 : Int) (a10 : Int) (a11 : ByteArray) (a12 : Bool) (a13 : Int) (a14 : ByteArray) (a15 : ByteArray) (a16 : ByteArray) (a17 : Int) (a18 : Int) (a19 : Int) (a20 : Bool) (a21 : Bool) (a22 : Int) (a23 : Int) (a24 : Bool) (c0 : ByteArray) (c1 : ByteArray) (c2 : ByteArray) (c3 : Int) (c4 : Int) (c5 : Int) (there : Bool) (h7 : a7.size ≤ 4096) (h14 : a14.size ≤ 4096) (hc0 : c0.size ≤ 4096) : dispute_Decide.f k a0 a1 a2 a3 a4 a5 a6 a7 a8 a9 a10 a11 a12 a13 a14 a15 a16 a17 a18 a19 a20 a21 a22 a23 a24 c0 c1 c2 c3 c4 c5 there = some (outD (decT a2 a3 a6 a7 a14 a15 a16 a17 a18 a19 a20 a21 a22 a23 c0 c1 c2 c3 c4 c5 there)) := by
  unfold dispute_Decide.f decT
  rw [ask_p k (by omega) _ _ _ _ _ _ _ _ _ _ _ _ _ _ _ _ _ _ _ _ _ _ _ _ _ _ _ _ _ _ _ _ h7 h14 hc0]
  simp only [Option.bind_some]
  by_cases ha : askD a3 a6 a7 a14 a15 a16 a17 a18 a19 a20 a21 a22 a23 c0 c1 c2 c3 c4 c5 there = true
  rotate_left
  · rw [if_neg ha, if_neg ha]; rfl
  rw [if_pos ha, if_pos ha]
  have ht : wrap64 (a22 + 200) = a22 + 200 := by
    unfold askD at ha
    simp only [Bool.and_eq_true, decide_eq_true_eq, and_assoc] at ha
    obtain ⟨_, _, _, _, _, h1, h2, _⟩ := ha
    exact wr (by unfold inB; omega)
  unfold dispute_Decide.rest1 dispute_Decide.rest2 dispute_Decide.rest3 dispute_Decide.rest4
  rw [has2, has2, has2, ht]
  simp only [Option.bind_some]
  by_cases p1 : pre2 a2 48 48 = true
  · rw [if_pos p1, if_pos p1, wrong_0 k hk _ _ _ _ _ _ _ _ _ _ _ _ _ _ _ _ _ _ _ _ _ _ _ _ _ _ _ _ _ _ _ _ _ _]
    simp only [Option.bind_some]
    cases a21 with
    | false => simp only [Bool.false_eq_true, if_false, if_neg ne25]; rfl
    | true =>
    cases there with
    | true => simp only [if_true, if_neg ne94]; rfl
    | false =>
      simp only [if_true, Bool.false_eq_true, if_false]
      by_cases h : a18 < a3 ∨ 9999999999999 < a3
      · simp only [if_pos h, if_neg ne61]; rfl
      · simp only [if_neg h, if_true]; rfl
  rw [if_neg p1, if_neg p1]
  by_cases p2 : pre2 a2 48 49 = true
  · rw [if_pos p2, if_pos p2, wrong_n k hk _ _ _ _ _ _ _ _ _ _ _ _ _ _ _ _ _ _ _ _ _ _ _ _ _ _ _ _ _ _ _ _ _ _ _ (by decide)]
    simp only [Option.bind_some]
    cases there with
    | false => simp only [Bool.false_eq_true, if_false, if_neg ne25]; rfl
    | true =>
      simp only [if_true]
      by_cases h : c3 = 1
      · rw [if_pos h, if_pos h]
        by_cases h2 : c5 < a22
        · simp only [if_pos h2, if_neg ne54]; rfl
        · simp only [if_neg h2]
          by_cases h3 : a3 = c4
          · simp only [if_pos h3, if_true]; rfl
          · simp only [if_neg h3, if_neg ne61]; rfl
      · simp only [if_neg h, if_neg ne12]; rfl
  rw [if_neg p2, if_neg p2]
  by_cases p3 : pre2 a2 48 50 = true
  · rw [if_pos p3, if_pos p3, wrong_n k hk _ _ _ _ _ _ _ _ _ _ _ _ _ _ _ _ _ _ _ _ _ _ _ _ _ _ _ _ _ _ _ _ _ _ _ (by decide)]
    simp only [Option.bind_some]
    cases there with
    | false => simp only [Bool.false_eq_true, if_false, if_neg ne25]; rfl
    | true =>
      simp only [if_true]
      by_cases h : c3 = 2
      · rw [if_pos h, if_pos h]
        by_cases h2 : c5 < a22
        · simp only [if_pos h2, if_neg ne54]; rfl
        · simp only [if_neg h2]
          by_cases h3 : a3 = c4
          · simp only [if_pos h3, if_true]; rfl
          · simp only [if_neg h3, if_neg ne61]; rfl
      · simp only [if_neg h, if_neg ne12]; rfl
  rw [if_neg p3, if_neg p3]; rfl
theorem awake_some (k : Nat) (hk : 3 ≤ k) : bursarlaw26_awake.f k = some true := by
  unfold bursarlaw26_awake.f bursarlaw26_some.f
  simp only [Option.bind_some]
  rw [dec_p k hk _ _ _ _ _ _ _ _ _ _ _ _ _ _ _ _ _ _ _ _ _ _ _ _ _ _ _ _ _ _ _ _ (by decide) (by decide) (by decide)]
  simp only [Option.bind_some]
  rw [dec_p k hk _ _ _ _ _ _ _ _ _ _ _ _ _ _ _ _ _ _ _ _ _ _ _ _ _ _ _ _ _ _ _ _ (by decide) (by decide) (by decide +kernel)]
  simp only [Option.bind_some]
  rw [dec_p k hk _ _ _ _ _ _ _ _ _ _ _ _ _ _ _ _ _ _ _ _ _ _ _ _ _ _ _ _ _ _ _ _ (by decide) (by decide) (by decide +kernel)]
  simp only [Option.bind_some]
  rw [dec_p k hk _ _ _ _ _ _ _ _ _ _ _ _ _ _ _ _ _ _ _ _ _ _ _ _ _ _ _ _ _ _ _ _ (by decide) (by decide) (by decide +kernel)]
  simp only [Option.bind_some, ByteArray.toList_eq]
  kernel_rfl
theorem n94 : ¬ c94.toList = [48, 48] := by unfold c94; decide +kernel
theorem n61 : ¬ c61.toList = [48, 48] := by unfold c61; decide +kernel
theorem n25 : ¬ c25.toList = [48, 48] := by unfold c25; decide +kernel
theorem n54 : ¬ c54.toList = [48, 48] := by unfold c54; decide +kernel
theorem n12 : ¬ c12.toList = [48, 48] := by unfold c12; decide +kernel
theorem n30 : ¬ c30.toList = [48, 48] := by unfold c30; decide +kernel
theorem y00 : c00.toList = [48, 48] := by unfold c00; decide +kernel
/-- What comes of a question: no, or one of the three steps. -/
theorem dec_alt (code : ByteArray) (am : Int) (acq rrn r2 q2 p2 : ByteArray) (ap ca un : Int) (op fo : Bool) (tick batch : Int) (c0 c1 c2 : ByteArray) (c3 c4 c5 : Int) (there : Bool) :
    ((decT code am acq rrn r2 q2 p2 ap ca un op fo tick batch c0 c1 c2 c3 c4 c5 there).1 = z0 ∧ (decT code am acq rrn r2 q2 p2 ap ca un op fo tick batch c0 c1 c2 c3 c4 c5 there).2.1 = p0 ∧ ¬ (decT code am acq rrn r2 q2 p2 ap ca un op fo tick batch c0 c1 c2 c3 c4 c5 there).2.2.toList = [48, 48]) ∨
    (askD am acq rrn r2 q2 p2 ap ca un op fo tick batch c0 c1 c2 c3 c4 c5 there = true ∧
      ((pre2 code 48 48 = true ∧ fo = true ∧ there = false ∧ am ≤ ca ∧ am ≤ 9999999999999 ∧ decT code am acq rrn r2 q2 p2 ap ca un op fo tick batch c0 c1 c2 c3 c4 c5 there = ((rrn, acq, p2, 1, am, tick + 200), (3, batch, p2, acq, rrn, am), c00)) ∨
       (pre2 code 48 48 = false ∧ pre2 code 48 49 = true ∧ there = true ∧ c3 = 1 ∧ am = c4 ∧ ¬ c5 < tick ∧ decT code am acq rrn r2 q2 p2 ap ca un op fo tick batch c0 c1 c2 c3 c4 c5 there = ((c0, c1, c2, 2, c4, tick + 200), (4, batch, c2, c1, c0, c4), c00)) ∨
       (pre2 code 48 48 = false ∧ pre2 code 48 49 = false ∧ pre2 code 48 50 = true ∧ there = true ∧ c3 = 2 ∧ am = c4 ∧ ¬ c5 < tick ∧ decT code am acq rrn r2 q2 p2 ap ca un op fo tick batch c0 c1 c2 c3 c4 c5 there = ((c0, c1, c2, 3, c4, tick + 200), (3, batch, c2, c1, c0, c4), c00)))) := by
  unfold decT
  by_cases ha : askD am acq rrn r2 q2 p2 ap ca un op fo tick batch c0 c1 c2 c3 c4 c5 there = true
  rotate_left
  · simp only [if_neg ha]; exact Or.inl ⟨rfl, rfl, n30⟩
  simp only [if_pos ha]
  by_cases p1 : pre2 code 48 48 = true
  · simp only [if_pos p1]
    cases fo with
    | false => exact Or.inl ⟨rfl, rfl, n25⟩
    | true =>
      cases there with
      | true => exact Or.inl ⟨rfl, rfl, n94⟩
      | false =>
        simp only [if_true, Bool.false_eq_true, if_false]
        by_cases h : ca < am ∨ 9999999999999 < am
        · simp only [if_pos h]; exact Or.inl ⟨rfl, rfl, n61⟩
        · simp only [if_neg h]; exact Or.inr ⟨ha, Or.inl ⟨p1, trivial, trivial, by omega, by omega, trivial⟩⟩
  simp only [if_neg p1]
  have p1' : pre2 code 48 48 = false := by simpa using p1
  by_cases p2_ : pre2 code 48 49 = true
  · simp only [if_pos p2_]
    cases there with
    | false => exact Or.inl ⟨rfl, rfl, n25⟩
    | true =>
      simp only [if_true]
      by_cases h : c3 = 1
      · simp only [if_pos h]
        by_cases h2 : c5 < tick
        · simp only [if_pos h2]; exact Or.inl ⟨rfl, rfl, n54⟩
        · simp only [if_neg h2]
          by_cases h3 : am = c4
          · simp only [if_pos h3]; exact Or.inr ⟨ha, Or.inr (Or.inl ⟨p1', p2_, trivial, h, h3, h2, trivial⟩)⟩
          · simp only [if_neg h3]; exact Or.inl ⟨rfl, rfl, n61⟩
      · simp only [if_neg h]; exact Or.inl ⟨rfl, rfl, n12⟩
  simp only [if_neg p2_]
  have p2' : pre2 code 48 49 = false := by simpa using p2_
  by_cases p3 : pre2 code 48 50 = true
  · simp only [if_pos p3]
    cases there with
    | false => exact Or.inl ⟨rfl, rfl, n25⟩
    | true =>
      simp only [if_true]
      by_cases h : c3 = 2
      · simp only [if_pos h]
        by_cases h2 : c5 < tick
        · simp only [if_pos h2]; exact Or.inl ⟨rfl, rfl, n54⟩
        · simp only [if_neg h2]
          by_cases h3 : am = c4
          · simp only [if_pos h3]; exact Or.inr ⟨ha, Or.inr (Or.inr ⟨p1', p2', p3, trivial, h, h3, h2, trivial⟩)⟩
          · simp only [if_neg h3]; exact Or.inl ⟨rfl, rfl, n61⟩
      · simp only [if_neg h]; exact Or.inl ⟨rfl, rfl, n12⟩
  · simp only [if_neg p3]; exact Or.inl ⟨rfl, rfl, n12⟩
theorem ask_iff (am : Int) (acq rrn r2 q2 p2 : ByteArray) (ap ca un : Int) (op fo : Bool) (tick batch : Int) (c0 c1 c2 : ByteArray) (c3 c4 c5 : Int) (there : Bool) : askD am acq rrn r2 q2 p2 ap ca un op fo tick batch c0 c1 c2 c3 c4 c5 there = true ↔ refB rrn = true ∧ mayB 2 acq = true ∧ 1 ≤ am ∧ 0 ≤ batch ∧ batch ≤ 2147483647 ∧ 0 ≤ tick ∧ tick ≤ 2147483447 ∧ (fo = true → hmay r2 q2 p2 ap ca un op = true ∧ r2 = rrn ∧ q2 = acq) ∧ (there = true → mayD c0 c1 c2 c3 c4 c5 = true ∧ c0 = rrn ∧ c1 = acq) := by
  unfold askD
  simp only [Bool.and_eq_true, decide_eq_true_eq, and_assoc, Bool.or_eq_true, Bool.not_eq_true']
  have e : ∀ (b : Bool) (p q r : Prop), ((b = false ∨ (p ∧ q ∧ r)) ↔ (b = true → p ∧ q ∧ r)) := by
    intro b p q r; cases b <;> simp
  rw [e fo, e there]
theorem step_may (am : Int) (acq rrn p2 : ByteArray) (tick : Int) (st : Int) (h1 : 1 ≤ st) (h3 : st ≤ 3) (hp : mayB 1 p2 = true) (hm : am ≤ 9999999999999)
    (ha : refB rrn = true ∧ mayB 2 acq = true ∧ 1 ≤ am ∧ 0 ≤ tick ∧ tick ≤ 2147483447) : mayD rrn acq p2 st am (tick + 200) = true := by
  obtain ⟨x1, x2, x3, x4, x5⟩ := ha
  exact mayD_iff.mpr ⟨x1, x2, hp, h1, h3, x3, hm, by omega, by omega⟩
theorem acq20 (s : ByteArray) : bursarref20_acq.f s = some (mayB 2 s) := by
  unfold bursarref20_acq.f bursarref02_All.f
  rw [mayB_2]
  by_cases h : s.size = 6
  · rw [if_pos (by omega), if_pos (by omega), decide_eq_true h]; rfl
  · rw [if_neg (by omega), decide_eq_false h]; rfl
theorem post_may (k : Nat) (hk : 2 ≤ k) (kind batch am : Int) (pan acq rrn : ByteArray) (hkind : kind = 3 ∨ kind = 4) (hb : 0 ≤ batch ∧ batch ≤ 2147483647) (ha : 1 ≤ am ∧ am ≤ 9999999999999)
    (h1 : mayB 1 pan = true) (h2 : mayB 2 acq = true) (h3 : refB rrn = true) : bursarref20_May.f k kind batch pan acq rrn am = some true := by
  obtain ⟨k, rfl⟩ : ∃ m, k = m + 2 := ⟨k - 2, by omega⟩
  unfold bursarref20_May.f
  rw [if_neg (by omega), if_neg (by omega), if_neg (by omega), decide_eq_false (by omega)]
  have e1 : ¬ kind = 1 := by omega
  have e5 : ¬ kind = 5 := by omega
  have e6 : (kind == 6) = false := by rw [beq_eq_false_iff_ne]; omega
  simp only [bursarref20_May.j0, bursarref20_May.j1, bursarref20_pan.f, bursarref11_Name.f, acq20, bursarref14_Ref.f, Option.bind_some, h1, h2, h3]
  rw [if_neg (by decide), if_neg e1, if_neg e5, e6, if_neg (by decide), if_pos (by omega), if_pos (by omega)]
  rfl
theorem against_e (c0 c1 c2 : ByteArray) (c3 c4 c5 : Int) (h0 : c0.size ≤ 4096) (hm : mayD c0 c1 c2 c3 c4 c5 = true) : dispute_Against.f c0 c1 c2 c3 c4 c5 = some (if c3 = 2 then 0 else c4) := by
  unfold dispute_Against.f
  rw [mayD_p _ _ _ _ _ _ h0, Option.bind_some, if_pos hm]
  split <;> rfl
theorem w64 (n : Int) (h0 : -9000000000000000000 ≤ n) (h1 : n ≤ 9000000000000000000) : wrap64 n = n := by unfold wrap64; omega
/-- What stands between two questions. -/
def Inv (ca posted : Int) (there : Bool) (c0 c1 c2 : ByteArray) (c3 c4 c5 : Int) : Prop :=
  c0.size ≤ 4096 ∧ ((there = false ∧ posted = 0 ∧ c3 = 0) ∨ (there = true ∧ posted = (if c3 = 2 then 0 else c4) ∧ c4 ≤ ca ∧ 1 ≤ c3 ∧ c3 ≤ 3 ∧ 1 ≤ c4 ∧ c4 ≤ 9999999999999))
theorem goes_l (l1 : List S23) (l2 : List Int) (a0 : ByteArray) (a1 : ByteArray) (a2 : ByteArray) (a3 : Int) (a4 : ByteArray) (a5 : ByteArray) (a6 : ByteArray) (a7 : ByteArray) (a8 : ByteArray) (a9 : Int) (a10 : Int) (a11 : ByteArray) (a12 : Bool) (a13 : Int) (a14 : ByteArray) (a15 : ByteArray) (a16 : ByteArray) (a17 : Int) (a18 : Int) (a19 : Int) (a20 : Bool) (a21 : Bool) (a22 : Int) (a23 : Int) (a24 : Bool) (h7 : a7.size ≤ 4096) (h14 : a14.size ≤ 4096) : ∀ (d i k : Nat) (tick posted : Int) (there : Bool) (c0 c1 c2 : ByteArray) (c3 c4 c5 : Int),
    i + d = 20 → 4 * d + 6 ≤ k → Inv a18 posted there c0 c1 c2 c3 c4 c5 → bursarlaw26_DisputeGoes.l0 k l1 l2 there posted tick (i : Int) a0 a1 a2 a3 a4 a5 a6 a7 a8 a9 a10 a11 a12 a13 a14 a15 a16 a17 a18 a19 a20 a21 a22 a23 a24 c0 c1 c2 c3 c4 c5 = some true := by
  intro d
  induction d with
  | zero =>
    intro i k tick posted there c0 c1 c2 c3 c4 c5 hi hk hinv
    obtain ⟨k, rfl⟩ : ∃ m, k = m + 2 := ⟨k - 2, by omega⟩
    have e : decide ((i : Int) < 20) = false := decide_eq_false (by omega)
    simp only [bursarlaw26_DisputeGoes.l0, e, ite_self]
    simp only [bursarlaw26_DisputeGoes.j1]
    rw [if_neg (by decide), awake_some k (by omega)]; rfl
  | succ d ih =>
    intro i k tick0 posted there c0 c1 c2 c3 c4 c5 hi hk hinv
    obtain ⟨k, rfl⟩ : ∃ m, k = m + 4 := ⟨k - 4, by omega⟩
    have e : decide ((i : Int) < 20) = true := decide_eq_true (by omega)
    simp only [bursarlaw26_DisputeGoes.l0]
    by_cases hl : (i : Int) < (l1.length : Int)
    rotate_left
    · rw [if_neg hl]
      simp only [bursarlaw26_DisputeGoes.j1]
      rw [if_neg (by decide), awake_some _ (by omega)]; rfl
    rw [if_pos hl, e]
    simp only [bursarlaw26_DisputeGoes.j1, if_true]
    have key : ∀ tick : Int, bursarlaw26_DisputeGoes.j2 (k + 2) l1 l2 there posted tick (i : Int) a0 a1 a2 a3 a4 a5 a6 a7 a8 a9 a10 a11 a12 a13 a14 a15 a16 a17 a18 a19 a20 a21 a22 a23 a24 c0 c1 c2 c3 c4 c5 = some true := by
      intro tick
      obtain ⟨code, hc, _⟩ := ctext_some ((rd_T23 l1 (i : Int)).f2)
      simp only [bursarlaw26_DisputeGoes.j2]
      rw [if_pos (by omega), if_pos hl, hc, Option.bind_some]
      generalize (rd_T23 l1 (i : Int)).f3 = am
      have hw : wrap64 ((i : Int) + 1) = ((i + 1 : Nat) : Int) := by rw [w64 _ (by omega) (by omega)]; omega
      rw [hw, dec_p (k + 1) (by omega) _ _ _ _ _ _ _ _ _ _ _ _ _ _ _ _ _ _ _ _ _ _ _ _ _ _ _ _ _ _ _ _ h7 h14 hinv.1]
      simp only [Option.bind_some, outD]
      have alt := dec_alt code am a6 a7 a14 a15 a16 a17 a18 a19 a20 a21 tick a23 c0 c1 c2 c3 c4 c5 there
      generalize hR : decT code am a6 a7 a14 a15 a16 a17 a18 a19 a20 a21 tick a23 c0 c1 c2 c3 c4 c5 there = R at alt ⊢
      rcases alt with ⟨z, p, n⟩ | ⟨ha, steps⟩
      · rw [if_neg n, z, p, if_neg (by decide +kernel), if_neg (by decide +kernel)]
        exact ih (i + 1) (k + 1) tick posted there c0 c1 c2 c3 c4 c5 (by omega) (by omega) hinv
      obtain ⟨q1, q2, q3, q4, q5, q6, q7, q8, q9⟩ := (ask_iff am a6 a7 a14 a15 a16 a17 a18 a19 a20 a21 tick a23 c0 c1 c2 c3 c4 c5 there).mp ha
      have hw2 : wrap64 (tick + 200) = tick + 200 := w64 _ (by omega) (by omega)
      have hfin : ∀ (b0 b1 b2 : ByteArray) (st kind : Int), (st = 1 ∨ st = 2 ∨ st = 3) → (kind = if st = 2 then 4 else 3) → b0.size ≤ 4096 → mayD b0 b1 b2 st am (tick + 200) = true → am ≤ a18 → am ≤ 9999999999999 →
          posted = (if st = 2 then am else 0) → ∀ x y z u, bursarlaw26_DisputeGoes.j3 (k + 1) l1 l2 posted tick (i : Int) false a0 a1 a2 a3 a4 a5 a6 a7 a8 a9 a10 a11 a12 a13 a14 a15 a16 a17 a18 a19 a20 a21 a22 a23 a24 b0 b1 b2 st am (tick + 200) kind x y z u am = some true := by
        intro b0 b1 b2 st kind hst hkind hb0 hm hca hmx hpo x y z u
        simp only [bursarlaw26_DisputeGoes.j3]
        rw [if_neg (by decide), against_e _ _ _ _ _ _ hb0 hm, hw]
        simp only [Option.bind_some]
        rcases hst with rfl | rfl | rfl
        · simp only [show ¬ (1 : Int) = 2 by decide, if_false] at hkind hpo ⊢
          subst hkind hpo
          rw [w64 _ (by omega) (by omega), if_pos rfl, if_pos (by omega), if_neg (by omega), if_neg (by omega)]
          exact ih (i + 1) k tick _ true _ _ _ _ _ _ (by omega) (by omega) ⟨hb0, Or.inr ⟨rfl, by rw [if_neg (by decide)]; omega, hca, by decide, by decide, q3, hmx⟩⟩
        · simp only [if_true] at hkind hpo ⊢
          subst hkind hpo
          rw [if_neg (by decide), w64 _ (by omega) (by omega), if_pos (by omega), if_neg (by omega), if_neg (by omega)]
          exact ih (i + 1) k tick _ true _ _ _ _ _ _ (by omega) (by omega) ⟨hb0, Or.inr ⟨rfl, by rw [if_pos rfl]; omega, hca, by decide, by decide, q3, hmx⟩⟩
        · simp only [show ¬ (3 : Int) = 2 by decide, if_false] at hkind hpo ⊢
          subst hkind hpo
          rw [w64 _ (by omega) (by omega), if_pos rfl, if_pos (by omega), if_neg (by omega), if_neg (by omega)]
          exact ih (i + 1) k tick _ true _ _ _ _ _ _ (by omega) (by omega) ⟨hb0, Or.inr ⟨rfl, by rw [if_neg (by decide)]; omega, hca, by decide, by decide, q3, hmx⟩⟩
      obtain ⟨hc0, hcases⟩ := hinv
      clear hR
      rcases steps with ⟨s1, s2, s3, s4, s5, s6⟩ | ⟨s1, s2, s3, s4, s5, s6, s7⟩ | ⟨s1, s2, s3, s4, s5, s6, s7, s8⟩
      · have hp := (hmay_iff.mp (q8 s2).1).2.1
        obtain ⟨rfl, h3⟩ : posted = 0 ∧ c3 = 0 := by
          rcases hcases with ⟨_, x1, x2⟩ | ⟨x, _⟩
          · exact ⟨x1, x2⟩
          · rw [s3] at x; cases x
        subst s6 h3
        dsimp only
        rw [if_pos y00, post_may (k + 1) (by omega) 3 a23 am a16 a6 a7 (Or.inl rfl) ⟨q4, q5⟩ ⟨q3, s5⟩ hp q2 q1, Option.bind_some, if_pos rfl, if_pos rfl, if_pos (by rw [w64 _ (by decide) (by decide)]; rfl), hw2, bne_self_eq_false]
        exact hfin _ _ _ 1 3 (Or.inl rfl) (by decide) h7 (step_may am a6 a7 a16 tick 1 (by decide) (by decide) hp s5 ⟨q1, q2, q3, q6, q7⟩) s4 s5 (by rw [if_neg (by decide)]) _ _ _ _
      · obtain ⟨m1, m2, m3⟩ := q9 s3
        obtain ⟨_, _, w3, _, _, w6, w7, _⟩ := mayD_iff.mp m1
        obtain ⟨hpo, hca⟩ : posted = c4 ∧ c4 ≤ a18 := by
          rcases hcases with ⟨x, _⟩ | ⟨_, x1, x2, _⟩
          · rw [s3] at x; cases x
          · rw [s4, if_neg (by decide)] at x1; exact ⟨x1, x2⟩
        subst s7 s5 s4 hpo m2 m3
        dsimp only
        rw [if_pos y00, post_may (k + 1) (by omega) 4 a23 posted c2 c1 c0 (Or.inr rfl) ⟨q4, q5⟩ ⟨w6, w7⟩ w3 q2 q1, Option.bind_some, if_pos rfl, if_pos rfl, if_pos (by rw [w64 _ (by decide) (by decide)]; rfl), hw2, bne_self_eq_false]
        exact hfin _ _ _ 2 4 (Or.inr (Or.inl rfl)) (by decide) hc0 (step_may posted c1 c0 c2 tick 2 (by decide) (by decide) w3 w7 ⟨q1, q2, q3, q6, q7⟩) hca w7 (by rw [if_pos rfl]) _ _ _ _
      · obtain ⟨m1, m2, m3⟩ := q9 s4
        obtain ⟨_, _, w3, _, _, w6, w7, _⟩ := mayD_iff.mp m1
        obtain ⟨hpo, hca⟩ : posted = 0 ∧ c4 ≤ a18 := by
          rcases hcases with ⟨x, _⟩ | ⟨_, x1, x2, _⟩
          · rw [s4] at x; cases x
          · rw [s5, if_pos rfl] at x1; exact ⟨x1, x2⟩
        subst s8 s6 s5 hpo m2 m3
        dsimp only
        rw [if_pos y00, post_may (k + 1) (by omega) 3 a23 am c2 c1 c0 (Or.inl rfl) ⟨q4, q5⟩ ⟨w6, w7⟩ w3 q2 q1, Option.bind_some, if_pos rfl, if_pos rfl, if_pos (by rw [w64 _ (by decide) (by decide)]; rfl), hw2, bne_self_eq_false]
        exact hfin _ _ _ 3 3 (Or.inr (Or.inr rfl)) (by decide) hc0 (step_may am c1 c0 c2 tick 3 (by decide) (by decide) w3 w7 ⟨q1, q2, q3, q6, q7⟩) hca w7 (by rw [if_neg (by decide)]) _ _ _ _
    by_cases h2 : (i : Int) < (l2.length : Int)
    · rw [if_pos h2, if_pos (by omega)]; exact key _
    · rw [if_neg h2]; exact key _
theorem goes_pure (a0 : ByteArray) (a1 : ByteArray) (a2 : ByteArray) (a3 : Int) (a4 : ByteArray) (a5 : ByteArray) (a6 : ByteArray) (a7 : ByteArray) (a8 : ByteArray) (a9 : Int) (a10 : Int) (a11 : ByteArray) (a12 : Bool) (a13 : Int) (a14 : ByteArray) (a15 : ByteArray) (a16 : ByteArray) (a17 : Int) (a18 : Int) (a19 : Int) (a20 : Bool) (a21 : Bool) (a22 : Int) (a23 : Int) (a24 : Bool) (l1 : List S23) (l2 : List Int) (g3 : (Lit.int .i64 a3).wf = true) (g9 : (Lit.int .i64 a9).wf = true) (g10 : (Lit.int .i64 a10).wf = true) (g13 : (Lit.int .i64 a13).wf = true) (g17 : (Lit.int .i64 a17).wf = true) (g18 : (Lit.int .i64 a18).wf = true) (g19 : (Lit.int .i64 a19).wf = true) (g22 : (Lit.int .i64 a22).wf = true) (g23 : (Lit.int .i64 a23).wf = true) (hw2 : ∀ x ∈ l2, (Lit.int .u16 x).wf = true) : bursarlaw26_DisputeGoes.f 90 a0 a1 a2 a3 a4 a5 a6 a7 a8 a9 a10 a11 a12 a13 a14 a15 a16 a17 a18 a19 a20 a21 a22 a23 a24 l1 l2 = some true := by
  obtain ⟨b0, b1, b2, b6, b7, b14, b15, b16, hF, z0, z1, z2, z6, z7, z14, z15, z16⟩ := few_some a0 a1 a2 a3 a4 a5 a6 a7 a8 a9 a10 a11 a12 a13 a14 a15 a16 a17 a18 a19 a20 a21 a22 a23 a24
  unfold bursarlaw26_DisputeGoes.f
  rw [hF, Option.bind_some]
  exact goes_l l1 l2 b0 b1 b2 a3 a4 a5 b6 b7 a8 a9 a10 a11 a12 a13 b14 b15 b16 a17 a18 a19 a20 a21 a22 a23 a24 (by omega) (by omega) 20 0 90 0 0 false _ _ _ 0 0 0 (by decide) (by decide) ⟨by decide, Or.inl ⟨rfl, rfl, rfl⟩⟩
end Go.Proofs.Ytddlmcaclbkopaa.XDG
