/- Plain laws of disputes: what the program's and the document's answers are, as one total function; the law holds of it. -/
import Derived.Test.YtkfpocggjbfomaaDoorXT18
namespace Go.Proofs.YtkfpocggjbfomaaDoor.XT
open Go.RowKit Go.Proofs.YtkfpocggjbfomaaDoorW.PrintWords Pu
set_option linter.unusedVariables false
set_option linter.unusedSimpArgs false
theorem list_if {p q : ByteArray} {α : Type} {x y : α} : (if p.toList = q.toList then x else y) = (if decide (p = q) = true then x else y) := by
  by_cases h : p = q
  · subst h; simp
  · have h' : ¬ p.toList = q.toList := fun e => h (toList_inj.mp e)
    simp [h, h']
def inB (n : Int) : Prop := -9223372036854775808 ≤ n ∧ n ≤ 9223372036854775807
theorem wr {n : Int} (h : inB n) : wrap64 n = n := by unfold inB at h; unfold wrap64; omega
theorem inB_of_wf {n : Int} (h : (Lit.int .i64 n).wf = true) : inB n := by
  simp only [Lit.wf, IntKind.min, IntKind.max, IntKind.signed, IntKind.bits, Bool.and_eq_true, decide_eq_true_eq, if_true] at h
  unfold inB
  omega
def pre2 (s : ByteArray) (x y : UInt8) : Bool := decide (2 ≤ s.size) && ((s.extract 0 2).toList == [x, y])
theorem has2 (s : ByteArray) (x y : UInt8) : strings_HasPrefix.f s ⟨#[x, y]⟩ = some (pre2 s x y) := by
  unfold strings_HasPrefix.f stringslite_HasPrefix.f pre2
  have e : ((⟨#[x, y]⟩ : ByteArray).size : Int) = 2 := rfl
  have e2 : (⟨#[x, y]⟩ : ByteArray).toList = [x, y] := by rw [ByteArray.toList_eq]
  by_cases h : 2 ≤ s.size
  · have g : (s.size : Int) ≥ 2 := by omega
    have g2 : (2 : Int) ≤ (s.size : Int) := by omega
    rw [e, e2, if_pos g, if_pos (by decide), if_pos g2, decide_eq_true h]
    rfl
  · have g : ¬ (s.size : Int) ≥ 2 := by omega
    rw [e, if_neg g, decide_eq_false h]
    rfl
/-- May a question be? -/
def mayA (pan : ByteArray) (am : Int) (acq rrn r2 c2 p2 : ByteArray) (ap ca un : Int) (op fo : Bool) (tick : Int) : Bool :=
  mayB 1 pan && mayB 2 acq && refB rrn && decide (1 ≤ am) && decide (0 ≤ tick) && decide (tick ≤ 2147483547) && (!fo || (hmay r2 c2 p2 ap ca un op && decide (r2 = rrn) && decide (c2 = acq)))
theorem mayA_iff {pan : ByteArray} {am : Int} {acq rrn r2 c2 p2 : ByteArray} {ap ca un : Int} {op fo : Bool} {tick : Int} : mayA pan am acq rrn r2 c2 p2 ap ca un op fo tick = true ↔ mayB 1 pan = true ∧ mayB 2 acq = true ∧ refB rrn = true ∧ 1 ≤ am ∧ 0 ≤ tick ∧ tick ≤ 2147483547 ∧ (fo = true → hmay r2 c2 p2 ap ca un op = true ∧ r2 = rrn ∧ c2 = acq) := by
  unfold mayA
  simp only [Bool.and_eq_true, decide_eq_true_eq, Bool.or_eq_true, Bool.not_eq_true', and_assoc]
  cases fo <;> simp
def c00 : ByteArray := ⟨#[48, 48]⟩
def c12 : ByteArray := ⟨#[49, 50]⟩
def c25 : ByteArray := ⟨#[50, 53]⟩
def c30 : ByteArray := ⟨#[51, 48]⟩
def c54 : ByteArray := ⟨#[53, 52]⟩
def c61 : ByteArray := ⟨#[54, 49]⟩
def c94 : ByteArray := ⟨#[57, 52]⟩
theorem ctext_some (s : ByteArray) : ∃ t, bursarlaw26_text.f s = some t ∧ t.size ≤ 50 := by
  unfold bursarlaw26_text.f
  by_cases h : (s.size : Int) > 50
  · have h2 : 50 ≤ (s.size : Int) := by omega
    simp only [if_pos h, if_pos h2]
    exact ⟨_, rfl, by rw [ByteArray.size_extract]; omega⟩
  · rw [if_neg h]
    exact ⟨_, rfl, by omega⟩
theorem cfew_some (c0 c1 c2 : ByteArray) (c3 c4 c5 : Int) : ∃ d0 d1 d2 : ByteArray, bursarlaw26_few.f c0 c1 c2 c3 c4 c5 = some (d0, d1, d2, c3, c4, c5) ∧ d0.size ≤ 50 ∧ d1.size ≤ 50 ∧ d2.size ≤ 50 := by
  obtain ⟨d0, h0, z0⟩ := ctext_some c0
  obtain ⟨d1, h1, z1⟩ := ctext_some c1
  obtain ⟨d2, h2, z2⟩ := ctext_some c2
  refine ⟨d0, d1, d2, ?_, z0, z1, z2⟩
  unfold bursarlaw26_few.f
  simp only [h0, h1, h2, Option.bind_some]
/-- May a dispute be? -/
def mayD (rrn acq pan : ByteArray) (st am un : Int) : Bool := refB rrn && mayB 2 acq && mayB 1 pan && decide (1 ≤ st) && decide (st ≤ 3) && decide (1 ≤ am) && decide (am ≤ 9999999999999) && decide (0 ≤ un) && decide (un ≤ 2147483647)
theorem mayD_iff {rrn acq pan : ByteArray} {st am un : Int} : mayD rrn acq pan st am un = true ↔ refB rrn = true ∧ mayB 2 acq = true ∧ mayB 1 pan = true ∧ 1 ≤ st ∧ st ≤ 3 ∧ 1 ≤ am ∧ am ≤ 9999999999999 ∧ 0 ≤ un ∧ un ≤ 2147483647 := by
  unfold mayD; simp only [Bool.and_eq_true, decide_eq_true_eq, and_assoc]
theorem mayD_p (c0 c1 c2 : ByteArray) (c3 c4 c5 : Int) (h : c0.size ≤ 4096) : dispute_May.f c0 c1 c2 c3 c4 c5 = some (mayD c0 c1 c2 c3 c4 c5) := by
  unfold dispute_May.f dispute_known.f hold_Ref.f chart_May.f dispute_until.f mayD
  simp only [Option.bind_some, if_pos h]
  generalize refB c0 = x1; generalize mayB 2 c1 = x2; generalize mayB 1 c2 = x3
  cases x1
  · simp
  cases x2
  · simp
  cases x3
  · simp
  by_cases h1 : c5 ≥ 0
  rotate_left
  · have e : ¬ 0 ≤ c5 := by omega
    simp [h1, e]
  have e1 : 0 ≤ c5 := h1
  by_cases h2 : c5 ≤ 2147483647
  rotate_left
  · simp [h1, e1, h2]
  by_cases h3 : c3 ≥ 1
  rotate_left
  · have e : ¬ 1 ≤ c3 := by omega
    simp [h1, e1, h2, h3, e]
  have e3 : 1 ≤ c3 := h3
  by_cases h4 : c3 ≤ 3
  rotate_left
  · simp [h1, e1, h2, h3, e3, h4]
  by_cases h5 : c4 ≥ 1
  rotate_left
  · have e : ¬ 1 ≤ c4 := by omega
    simp [h1, e1, h2, h3, e3, h4, h5, e]
  have e5 : 1 ≤ c4 := h5
  simp [h1, e1, h2, h3, e3, h4, h5, e5]
/-- May a question be asked? -/
def askD (am : Int) (acq rrn r2 q2 p2 : ByteArray) (ap ca un : Int) (op fo : Bool) (tick batch : Int) (c0 c1 c2 : ByteArray) (c3 c4 c5 : Int) (there : Bool) : Bool :=
  refB rrn && mayB 2 acq && decide (1 ≤ am) && decide (0 ≤ batch) && decide (batch ≤ 2147483647) && decide (0 ≤ tick) && decide (tick ≤ 2147483447) && (!fo || (hmay r2 q2 p2 ap ca un op && decide (r2 = rrn) && decide (q2 = acq))) && (!there || (mayD c0 c1 c2 c3 c4 c5 && decide (c0 = rrn) && decide (c1 = acq)))
theorem ask_p (k : Nat) (hk : 2 ≤ k) (a0 : ByteArray) (a1 : ByteArray) (a2 : ByteArray) (a3 : Int) (a4 : ByteArray) (a5 : ByteArray) (a6 : ByteArray) (a7 : ByteArray) (a8 : ByteArray) (a9 : Int) (a10 : Int) (a11 : ByteArray) (a12 : Bool) (a13 : Int) (a14 : ByteArray) (a15 : ByteArray) (a16 : ByteArray) (a17 : Int) (a18 : Int) (a19 : Int) (a20 : Bool) (a21 : Bool) (a22 : Int) (a23 : Int) (a24 : Bool) (c0 : ByteArray) (c1 : ByteArray) (c2 : ByteArray) (c3 : Int) (c4 : Int) (c5 : Int) (there : Bool) (h7 : a7.size ≤ 4096) (h14 : a14.size ≤ 4096) (hc0 : c0.size ≤ 4096) : dispute_Asks.f k a0 a1 a2 a3 a4 a5 a6 a7 a8 a9 a10 a11 a12 a13 a14 a15 a16 a17 a18 a19 a20 a21 a22 a23 a24 c0 c1 c2 c3 c4 c5 there = some (askD a3 a6 a7 a14 a15 a16 a17 a18 a19 a20 a21 a22 a23 c0 c1 c2 c3 c4 c5 there) := by
  obtain ⟨k, rfl⟩ : ∃ m, k = m + 2 := ⟨k - 2, by omega⟩
  unfold dispute_Asks.f dispute_known.f hold_Ref.f chart_May.f dispute_until.f
  simp only [Option.bind_some, if_pos h7, if_pos h14, hold_May.f, mayD_p c0 c1 c2 c3 c4 c5 hc0, dispute_Asks.j0, dispute_Asks.j1, list_if, toList_beq, bne]
  unfold askD
  generalize mayB 2 a6 = x2; generalize refB a7 = x3; generalize hmay a14 a15 a16 a17 a18 a19 a20 = x4; generalize decide (a14 = a7) = x5; generalize decide (a15 = a6) = x6; generalize mayD c0 c1 c2 c3 c4 c5 = x7; generalize decide (c0 = a7) = x8; generalize decide (c1 = a6) = x9
  cases x3
  · simp
  cases x2
  · simp
  by_cases h1 : 1 ≤ a3
  rotate_left
  · have e1 : a3 < 1 := by omega
    have e2 : a3 ≤ 0 := by omega
    simp [h1, e1, e2]
  have e1 : ¬ a3 < 1 := by omega
  have e2 : ¬ a3 ≤ 0 := by omega
  by_cases h2 : 0 ≤ a23
  rotate_left
  · have e3 : a23 < 0 := by omega
    have e4 : ¬ a23 ≥ 0 := by omega
    simp [h1, e1, e2, h2, e3, e4]
  have e3 : ¬ a23 < 0 := by omega
  have e4 : a23 ≥ 0 := by omega
  by_cases h3 : a23 ≤ 2147483647
  rotate_left
  · have e5 : a23 > 2147483647 := by omega
    simp [h1, e1, e2, h2, e3, e4, h3, e5]
  have e5 : ¬ a23 > 2147483647 := by omega
  by_cases h4 : 0 ≤ a22
  rotate_left
  · have e6 : a22 < 0 := by omega
    have e7 : ¬ a22 ≥ 0 := by omega
    simp [h1, e1, e2, h2, e3, e4, h3, e5, h4, e6, e7]
  have e6 : ¬ a22 < 0 := by omega
  have e7 : a22 ≥ 0 := by omega
  by_cases h5 : a22 ≤ 2147483447
  rotate_left
  · have e8 : a22 > 2147483447 := by omega
    simp [h1, e1, e2, h2, e3, e4, h3, e5, h4, e6, e7, h5, e8]
  have e8 : ¬ a22 > 2147483447 := by omega
  simp only [h1, e1, e2, h2, e3, e4, h3, e5, h4, e6, e7, h5, e8, if_true, if_false, Bool.false_eq_true, decide_true, decide_false, Bool.true_and, Bool.not_true]
  cases a21 <;> cases x4 <;> cases x5 <;> cases x6 <;> cases there <;> cases x7 <;> cases x8 <;> cases x9 <;> simp
theorem acqR (s : ByteArray) : bursarref26_acq.f s = some (mayB 2 s) := by unfold bursarref26_acq.f bursarref11_Name.f; rfl
theorem mayD_r (c0 c1 c2 : ByteArray) (c3 c4 c5 : Int) : bursarref26_May.f c0 c1 c2 c3 c4 c5 = some (mayD c0 c1 c2 c3 c4 c5) := by
  unfold bursarref26_May.f bursarref14_Ref.f bursarref11_Name.f mayD
  simp only [Option.bind_some, acqR]
  generalize refB c0 = x1; generalize mayB 2 c1 = x2; generalize mayB 1 c2 = x3
  cases x1
  · simp
  cases x2
  · simp
  cases x3
  · simp
  by_cases h3 : 1 ≤ c3
  rotate_left
  · simp [h3]
  by_cases h4 : c3 ≤ 3
  rotate_left
  · simp [h3, h4]
  by_cases h5 : 1 ≤ c4
  rotate_left
  · simp [h3, h4, h5]
  by_cases h6 : c4 ≤ 9999999999999
  rotate_left
  · simp [h3, h4, h5, h6]
  by_cases h1 : 0 ≤ c5
  rotate_left
  · simp [h3, h4, h5, h6, h1]
  simp [h1, h3, h4, h5, h6]
abbrev C6 := ByteArray × ByteArray × ByteArray × Int × Int × Int
abbrev P6 := Int × Int × ByteArray × ByteArray × ByteArray × Int
def z0 : C6 := (⟨#[]⟩, ⟨#[]⟩, ⟨#[]⟩, 0, 0, 0)
def p0 : P6 := (0, 0, ⟨#[]⟩, ⟨#[]⟩, ⟨#[]⟩, 0)
def no (c : ByteArray) : C6 × P6 × ByteArray := (z0, p0, c)
/-- What comes of a question on a dispute. -/
def decT (code : ByteArray) (am : Int) (acq rrn r2 q2 p2 : ByteArray) (ap ca un : Int) (op fo : Bool) (tick batch : Int) (c0 c1 c2 : ByteArray) (c3 c4 c5 : Int) (there : Bool) : C6 × P6 × ByteArray :=
  if askD am acq rrn r2 q2 p2 ap ca un op fo tick batch c0 c1 c2 c3 c4 c5 there = true then
    if pre2 code 48 48 = true then
      if fo = true then
        if there = true then no c94
        else if ca < am ∨ 9999999999999 < am then no c61
        else ((rrn, acq, p2, 1, am, tick + 200), (3, batch, p2, acq, rrn, am), c00)
      else no c25
    else if pre2 code 48 49 = true then
      if there = true then
        if c3 = 1 then if c5 < tick then no c54 else if am = c4 then ((c0, c1, c2, 2, c4, tick + 200), (4, batch, c2, c1, c0, c4), c00) else no c61
        else no c12
      else no c25
    else if pre2 code 48 50 = true then
      if there = true then
        if c3 = 2 then if c5 < tick then no c54 else if am = c4 then ((c0, c1, c2, 3, c4, tick + 200), (3, batch, c2, c1, c0, c4), c00) else no c61
        else no c12
      else no c25
    else no c12
  else no c30
def outD (r : C6 × P6 × ByteArray) : ByteArray × ByteArray × ByteArray × Int × Int × Int × Int × Int × ByteArray × ByteArray × ByteArray × Int × ByteArray :=
  (r.1.1, r.1.2.1, r.1.2.2.1, r.1.2.2.2.1, r.1.2.2.2.2.1, r.1.2.2.2.2.2, r.2.1.1, r.2.1.2.1, r.2.1.2.2.1, r.2.1.2.2.2.1, r.2.1.2.2.2.2.1, r.2.1.2.2.2.2.2, r.2.2)
theorem wrong_0 (k : Nat) (hk : 3 ≤ k) (a0 : ByteArray) (a1 : ByteArray) (a2 : ByteArray) (a3 : Int) (a4 : ByteArray) (a5 : ByteArray) (a6 : ByteArray) (a7 : ByteArray) (a8 : ByteArray) (a9 : Int) (a10 : Int) (a11 : ByteArray) (a12 : Bool) (a13 : Int) (a14 : ByteArray) (a15 : ByteArray) (a16 : ByteArray) (a17 : Int) (a18 : Int) (a19 : Int) (a20 : Bool) (a21 : Bool) (a22 : Int) (a23 : Int) (a24 : Bool) (c0 : ByteArray) (c1 : ByteArray) (c2 : ByteArray) (c3 : Int) (c4 : Int) (c5 : Int) (there : Bool) (s : ByteArray) (post : Int) : dispute_wrong.f k a0 a1 a2 a3 a4 a5 a6 a7 a8 a9 a10 a11 a12 a13 a14 a15 a16 a17 a18 a19 a20 a21 a22 a23 a24 c0 c1 c2 c3 c4 c5 there s 0 post = some (if a21 = true then (if there = true then c94 else if a18 < a3 ∨ 9999999999999 < a3 then c61 else ⟨#[]⟩) else c25) := by
  obtain ⟨k, rfl⟩ : ∃ m, k = m + 3 := ⟨k - 3, by omega⟩
  unfold dispute_wrong.f
  simp only [if_true, dispute_wrong.j0, dispute_wrong.j1, dispute_wrong.j2]
  cases a21 with
  | false => rfl
  | true =>
  cases there with
  | true => rfl
  | false =>
    have e : decide (a3 > mn a18 9999999999999) = decide (a18 < a3 ∨ 9999999999999 < a3) := by
      rw [Bool.eq_iff_iff, decide_eq_true_iff, decide_eq_true_iff]; unfold mn; split <;> omega
    simp only [Bool.not_true, Bool.false_eq_true, if_false, e, if_true]
    by_cases h : a18 < a3 ∨ 9999999999999 < a3
    · simp only [decide_eq_true h, if_true, if_pos h]; rfl
    · simp only [decide_eq_false h, Bool.false_eq_true, if_false, if_neg h]
theorem wrong_n (k : Nat) (hk : 3 ≤ k) (a0 : ByteArray) (a1 : ByteArray) (a2 : ByteArray) (a3 : Int) (a4 : ByteArray) (a5 : ByteArray) (a6 : ByteArray) (a7 : ByteArray) (a8 : ByteArray) (a9 : Int) (a10 : Int) (a11 : ByteArray) (a12 : Bool) (a13 : Int) (a14 : ByteArray) (a15 : ByteArray) (a16 : ByteArray) (a17 : Int) (a18 : Int) (a19 : Int) (a20 : Bool) (a21 : Bool) (a22 : Int) (a23 : Int) (a24 : Bool) (c0 : ByteArray) (c1 : ByteArray) (c2 : ByteArray) (c3 : Int) (c4 : Int) (c5 : Int) (there : Bool) (s : ByteArray) (fr post : Int) (hf : ¬ fr = 0) : dispute_wrong.f k a0 a1 a2 a3 a4 a5 a6 a7 a8 a9 a10 a11 a12 a13 a14 a15 a16 a17 a18 a19 a20 a21 a22 a23 a24 c0 c1 c2 c3 c4 c5 there s fr post = some (if there = true then (if c3 = fr then (if c5 < a22 then c54 else if a3 = c4 then ⟨#[]⟩ else c61) else c12) else c25) := by
  obtain ⟨k, rfl⟩ : ∃ m, k = m + 3 := ⟨k - 3, by omega⟩
  unfold dispute_wrong.f
  simp only [if_neg hf, dispute_wrong.j0, dispute_wrong.j1, dispute_wrong.j2, Bool.false_eq_true, if_false]
  cases there with
  | false => rfl
  | true =>
    simp only [if_true]
    by_cases h : c3 = fr
    · rw [if_pos h, if_pos h]
      by_cases h2 : a22 > c5
      · rw [if_pos h2, if_pos (show c5 < a22 from h2)]; rfl
      · rw [if_neg h2, if_neg (show ¬ c5 < a22 from h2)]
        by_cases h3 : a3 = c4
        · rw [if_pos h3, if_pos h3]
        · rw [if_neg h3, if_neg h3]; rfl
    · rw [if_neg h, if_neg h]; rfl
theorem ne94 : ¬ c94 = (⟨#[]⟩ : ByteArray) := by unfold c94; decide
theorem ne61 : ¬ c61 = (⟨#[]⟩ : ByteArray) := by unfold c61; decide
theorem ne25 : ¬ c25 = (⟨#[]⟩ : ByteArray) := by unfold c25; decide
theorem ne54 : ¬ c54 = (⟨#[]⟩ : ByteArray) := by unfold c54; decide
theorem ne12 : ¬ c12 = (⟨#[]⟩ : ByteArray) := by unfold c12; decide
theorem dec_p (k : Nat) (hk : 3 ≤ k) (a0 : ByteArray) (a1 : ByteArray) (a2 : ByteArray) (a3 : Int) (a4 : ByteArray) (a5 : ByteArray) (a6 : ByteArray) (a7 : ByteArray) (a8 : ByteArray) (a9 : Int) (a10 : Int) (a11 : ByteArray) (a12 : Bool) (a13 : Int) (a14 : ByteArray) (a15 : ByteArray) (a16 : ByteArray) (a17 : Int) (a18 : Int) (a19 : Int) (a20 : Bool) (a21 : Bool) (a22 : Int) (a23 : Int) (a24 : Bool) (c0 : ByteArray) (c1 : ByteArray) (c2 : ByteArray) (c3 : Int) (c4 : Int) (c5 : Int) (there : Bool) (h7 : a7.size ≤ 4096) (h14 : a14.size ≤ 4096) (hc0 : c0.size ≤ 4096) : dispute_Decide.f k a0 a1 a2 a3 a4 a5 a6 a7 a8 a9 a10 a11 a12 a13 a14 a15 a16 a17 a18 a19 a20 a21 a22 a23 a24 c0 c1 c2 c3 c4 c5 there = some (outD (decT a2 a3 a6 a7 a14 a15 a16 a17 a18 a19 a20 a21 a22 a23 c0 c1 c2 c3 c4 c5 there)) := by
  unfold dispute_Decide.f decT
  rw [ask_p k (by omega) _ _ _ _ _ _ _ _ _ _ _ _ _ _ _ _ _ _ _ _ _ _ _ _ _ _ _ _ _ _ _ _ h7 h14 hc0]
  simp only [Option.bind_some]
  by_cases ha : askD a3 a6 a7 a14 a15 a16 a17 a18 a19 a20 a21 a22 a23 c0 c1 c2 c3 c4 c5 there = true
  rotate_left
  · rw [if_neg ha, if_neg ha]; rfl
  rw [if_pos ha, if_pos ha]
  have ht : wrap64 (a22 + 200) = a22 + 200 := by
    unfold askD at ha
    simp only [Bool.and_eq_true, decide_eq_true_eq, and_assoc] at ha
    obtain ⟨_, _, _, _, _, h1, h2, _⟩ := ha
    exact wr (by unfold inB; omega)
  unfold dispute_Decide.rest1 dispute_Decide.rest2 dispute_Decide.rest3 dispute_Decide.rest4
  rw [has2, has2, has2, ht]
  simp only [Option.bind_some]
  by_cases p1 : pre2 a2 48 48 = true
  · rw [if_pos p1, if_pos p1, wrong_0 k hk _ _ _ _ _ _ _ _ _ _ _ _ _ _ _ _ _ _ _ _ _ _ _ _ _ _ _ _ _ _ _ _ _ _]
    simp only [Option.bind_some]
    cases a21 with
    | false => simp only [Bool.false_eq_true, if_false, if_neg ne25]; rfl
    | true =>
    cases there with
    | true => simp only [if_true, if_neg ne94]; rfl
    | false =>
      simp only [if_true, Bool.false_eq_true, if_false]
      by_cases h : a18 < a3 ∨ 9999999999999 < a3
      · simp only [if_pos h, if_neg ne61]; rfl
      · simp only [if_neg h, if_true]; rfl
  rw [if_neg p1, if_neg p1]
  by_cases p2 : pre2 a2 48 49 = true
  · rw [if_pos p2, if_pos p2, wrong_n k hk _ _ _ _ _ _ _ _ _ _ _ _ _ _ _ _ _ _ _ _ _ _ _ _ _ _ _ _ _ _ _ _ _ _ _ (by decide)]
    simp only [Option.bind_some]
    cases there with
    | false => simp only [Bool.false_eq_true, if_false, if_neg ne25]; rfl
    | true =>
      simp only [if_true]
      by_cases h : c3 = 1
      · rw [if_pos h, if_pos h]
        by_cases h2 : c5 < a22
        · simp only [if_pos h2, if_neg ne54]; rfl
        · simp only [if_neg h2]
          by_cases h3 : a3 = c4
          · simp only [if_pos h3, if_true]; rfl
          · simp only [if_neg h3, if_neg ne61]; rfl
      · simp only [if_neg h, if_neg ne12]; rfl
  rw [if_neg p2, if_neg p2]
  by_cases p3 : pre2 a2 48 50 = true
  · rw [if_pos p3, if_pos p3, wrong_n k hk _ _ _ _ _ _ _ _ _ _ _ _ _ _ _ _ _ _ _ _ _ _ _ _ _ _ _ _ _ _ _ _ _ _ _ (by decide)]
    simp only [Option.bind_some]
    cases there with
    | false => simp only [Bool.false_eq_true, if_false, if_neg ne25]; rfl
    | true =>
      simp only [if_true]
      by_cases h : c3 = 2
      · rw [if_pos h, if_pos h]
        by_cases h2 : c5 < a22
        · simp only [if_pos h2, if_neg ne54]; rfl
        · simp only [if_neg h2]
          by_cases h3 : a3 = c4
          · simp only [if_pos h3, if_true]; rfl
          · simp only [if_neg h3, if_neg ne61]; rfl
      · simp only [if_neg h, if_neg ne12]; rfl
  rw [if_neg p3, if_neg p3]; rfl
theorem awake_some (k : Nat) (hk : 3 ≤ k) : bursarlaw26_awake.f k = some true := by
  unfold bursarlaw26_awake.f bursarlaw26_some.f
  simp only [Option.bind_some]
  rw [dec_p k hk _ _ _ _ _ _ _ _ _ _ _ _ _ _ _ _ _ _ _ _ _ _ _ _ _ _ _ _ _ _ _ _ (by decide) (by decide) (by decide)]
  simp only [Option.bind_some]
  rw [dec_p k hk _ _ _ _ _ _ _ _ _ _ _ _ _ _ _ _ _ _ _ _ _ _ _ _ _ _ _ _ _ _ _ _ (by decide) (by decide) (by decide +kernel)]
  simp only [Option.bind_some]
  rw [dec_p k hk _ _ _ _ _ _ _ _ _ _ _ _ _ _ _ _ _ _ _ _ _ _ _ _ _ _ _ _ _ _ _ _ (by decide) (by decide) (by decide +kernel)]
  simp only [Option.bind_some]
  rw [dec_p k hk _ _ _ _ _ _ _ _ _ _ _ _ _ _ _ _ _ _ _ _ _ _ _ _ _ _ _ _ _ _ _ _ (by decide) (by decide) (by decide +kernel)]
  simp only [Option.bind_some, ByteArray.toList_eq]
  kernel_rfl
theorem bt_vals (s : ByteArray) (i : Nat) (hi : i < s.size) : ∃ c : UInt8, s.data.toList.drop i = c :: s.data.toList.drop (i + 1) ∧ bt s i = c.toNat := by
  have hl : i < s.data.toList.length := by rw [Pu.data_len]; exact hi
  refine ⟨s.data.toList[i], List.drop_eq_getElem_cons hl, ?_⟩
  have h := Pu.bs_get s i hi
  unfold Pu.bs at h
  rw [List.getElem?_map, List.getElem?_eq_getElem hl] at h
  simpa using h.symm

theorem get_l (s : ByteArray) (hs : s.size ≤ 19) (hd : Pu.allD s = true) : ∀ (d i k acc : Nat), i + d = s.size → d < k → acc < 10 ^ i →
    bursarref02_Get.l0 k s acc i = some (((Dg.vals acc (s.data.toList.drop i) : Nat) : Int), 0) := by
  intro d
  induction d with
  | zero =>
    intro i k acc hi hk ha
    obtain ⟨k, rfl⟩ : ∃ m, k = m + 1 := ⟨k - 1, by omega⟩
    simp only [bursarref02_Get.l0]
    rw [if_neg (by omega), show i = s.size by omega, ← Pu.data_len, List.drop_length, Dg.vals_nil]
  | succ d ih =>
    intro i k acc hi hk ha
    obtain ⟨k, rfl⟩ : ∃ m, k = m + 1 := ⟨k - 1, by omega⟩
    obtain ⟨c, hc, hb⟩ := bt_vals s i (by omega)
    have hdig := Pu.bt_dig s hd i (by omega)
    have h19 : 10 ^ i ≤ 10 ^ 18 := Nat.pow_le_pow_right (by omega) (by omega)
    simp only [bursarref02_Get.l0]
    rw [if_pos (by omega), if_pos (by omega), hc, Dg.vals_cons]
    have e1 : IntKind.u64.wrap ((IntKind.u64.wrap ((IntKind.u64.wrap (10 * (acc : Int))) + (IntKind.u64.wrap (bt s i)))) - 48) = ((acc * 10 + (c.toNat - 48) : Nat) : Int) := by
      rw [hb] at hdig ⊢
      simp only [IntKind.wrap_u64]
      omega
    have e2 : wrap64 ((i : Int) + 1) = ((i + 1 : Nat) : Int) := by unfold wrap64; omega
    rw [e1, e2]
    exact ih (i + 1) k _ (by omega) (by omega) (by rw [Nat.pow_succ]; rw [hb] at hdig; omega)
theorem nil_ba : (⟨#[]⟩ : ByteArray) = Dg.ba [] := rfl
theorem put_l (W : Nat) (hW : W ≤ 19) : ∀ (d i k n : Nat) (acc : List UInt8), i + d = W → d < k → n < 18446744073709551616 → acc.length ≤ i →
    bursarref02_Put.l0 k n W (Dg.ba acc) i = some (Dg.ba (Dg.dgs d n ++ acc), ((n / 10 ^ d : Nat) : Int) == 0) := by
  intro d
  induction d with
  | zero =>
    intro i k n acc hi hk hn ha
    obtain ⟨k, rfl⟩ : ∃ m, k = m + 1 := ⟨k - 1, by omega⟩
    simp only [bursarref02_Put.l0]
    rw [if_neg (by omega), Nat.pow_zero, Nat.div_one]; rfl
  | succ d ih =>
    intro i k n acc hi hk hn ha
    obtain ⟨k, rfl⟩ : ∃ m, k = m + 1 := ⟨k - 1, by omega⟩
    have h20 : acc.length ≤ 19 := by omega
    have e0 : Int.tmod (n : Int) 10 = ((n % 10 : Nat) : Int) := by rw [Int.tmod_eq_emod_of_nonneg (by omega)]; omega
    have e1 : (IntKind.u64.wrap (48 + (Int.tmod (n : Int) 10))) % 256 = ((48 + n % 10 : Nat) : Int) := by rw [e0, IntKind.wrap_u64]; omega
    have e2 : IntKind.u64.wrap (Int.tdiv (n : Int) 10) = ((n / 10 : Nat) : Int) := by rw [Int.tdiv_eq_ediv_of_nonneg (by omega), IntKind.wrap_u64]; omega
    have e3 : wrap64 ((i : Int) + 1) = ((i + 1 : Nat) : Int) := by unfold wrap64; omega
    have e4 : strOfNums [((48 + n % 10 : Nat) : Int)] ++ Dg.ba acc = Dg.ba (UInt8.ofNat (48 + n % 10) :: acc) := by
      apply Pu.ba_ext; rw [Pu.data_append, strOfNums_data]; rfl
    have hlim : (strOfNums [((48 + n % 10 : Nat) : Int)]).size + (Dg.ba acc).size ≤ 9223372036854775807 := by
      rw [strOfNums_size, Dg.ba_size, List.length_singleton]; exact Nat.le_trans (Nat.add_le_add_left h20 1) (by decide)
    simp only [bursarref02_Put.l0, Option.bind_some]
    rw [if_pos (by omega), e1, e2, e3, e4, if_pos hlim, ih (i + 1) k (n / 10) _ (by omega) (by omega) (by omega) (by simp; omega), Dg.dgs, List.append_assoc, Nat.div_div_eq_div_mul, Nat.pow_succ, Nat.mul_comm 10]
    rfl
theorem refput_e (n W : Nat) (hn : n < 18446744073709551616) (hW : W ≤ 19) (k : Nat) (hk : 19 < k) : bursarref02_Put.f k n W = some (Dg.ba (Dg.dgs W n), ((n / 10 ^ W : Nat) : Int) == 0) := by
  unfold bursarref02_Put.f
  have h := put_l W hW W 0 k n [] (by omega) (by omega) hn (by simp)
  rw [List.append_nil] at h
  exact h
theorem put_e (n : Nat) (hn : n < 18446744073709551616) (w : Int) : digit_Put.f n w = some (Dg.putS n w) := by
  unfold digit_Put.f; rw [if_pos (by omega), Int.toNat_natCast]
theorem toList_ba (l : List UInt8) : (Dg.ba l).toList = l := by rw [ByteArray.toList_eq]; rfl
theorem get_k (s : ByteArray) (h1 : 1 ≤ s.size) (hs : s.size ≤ 19) (k : Nat) (hk : 22 ≤ k) : bursarref02_Get.f k s = some (Dg.getS s) := by
  obtain ⟨k, rfl⟩ : ∃ m, k = m + 1 := ⟨k - 1, by omega⟩
  unfold bursarref02_Get.f Dg.getS
  have hno : ¬ (s.size < 1 ∨ 19 < s.size) := by omega
  rw [if_neg (show ¬ (s.size : Int) < 1 by omega), decide_eq_false (show ¬ (s.size : Int) > 19 by omega), if_neg hno]
  simp only [bursarref02_Get.j0, bursarref02_All.f]
  rw [if_neg (show ¬ (false = true) by decide), if_pos (show s.size ≤ 4096 by omega), Option.bind_some]
  cases ha : Pu.allD s
  · rfl
  · rw [if_pos rfl, if_pos rfl]
    exact get_l s (by omega) ha s.size 0 k 0 (by omega) (by omega) (by decide)
theorem dgs_vals : ∀ (w : Nat) (l : List UInt8), l.length = w → l.all Dg.dig8 = true → Dg.dgs w (Dg.vals 0 l) = l := by
  intro w
  induction w with
  | zero => intro l h _; rw [List.eq_nil_of_length_eq_zero h]; rfl
  | succ w ih =>
    intro l h ha
    rcases List.eq_nil_or_concat l with rfl | ⟨l', c, rfl⟩
    · cases h
    · rw [List.concat_eq_append] at h ha ⊢
      rw [List.all_append] at ha
      simp only [List.all_cons, List.all_nil, Bool.and_true, Bool.and_eq_true] at ha
      have hc := ha.2
      simp only [Dg.dig8, Bool.and_eq_true, decide_eq_true_eq] at hc
      have hl : l'.length = w := by simp at h; omega
      rw [Dg.val_app, Dg.vals_cons, Dg.vals_nil, Dg.dgs, show (Dg.vals 0 l' * 10 + (c.toNat - 48)) / 10 = Dg.vals 0 l' by omega, show (Dg.vals 0 l' * 10 + (c.toNat - 48)) % 10 = c.toNat - 48 by omega, ih l' hl ha.1, show 48 + (c.toNat - 48) = c.toNat by omega]
      simp
def vl (s : ByteArray) : Nat := Dg.vals 0 s.data.toList
def gv (s : ByteArray) : Int := if Pu.allD s = true then (vl s : Int) else 0
theorem getS_in (s : ByteArray) (h1 : 1 ≤ s.size) (hs : s.size ≤ 19) : Dg.getS s = (gv s, if Pu.allD s = true then 0 else 4) := by
  unfold Dg.getS gv
  rw [if_neg (by omega)]
  cases Pu.allD s <;> rfl
theorem gv_range (s : ByteArray) (hs : s.size ≤ 14) : 0 ≤ gv s ∧ gv s < 100000000000000 := by
  unfold gv
  by_cases h : Pu.allD s = true
  · rw [if_pos h]
    have := Dg.val_lt s.data.toList 0 1 (by rw [← Dg.all_bs]; exact h) (by omega)
    rw [Nat.one_mul, Pu.data_len] at this
    have h2 : 10 ^ s.size ≤ 10 ^ 14 := Nat.pow_le_pow_right (by omega) hs
    unfold vl; omega
  · rw [if_neg h]; omega
theorem gv_wrap (s : ByteArray) (hs : s.size ≤ 14) : wrap64 (gv s) = gv s := by have := gv_range s hs; unfold wrap64; omega
def textL (pan : ByteArray) (st am un : Int) : List UInt8 := Dg.dgs 1 st.toNat ++ (Dg.dgs 14 am.toNat ++ (Dg.dgs 10 un.toNat ++ pan.data.toList))
theorem textL_len (pan : ByteArray) (st am un : Int) : (textL pan st am un).length = 25 + pan.size := by
  unfold textL; rw [List.length_append, List.length_append, List.length_append, Dg.dgs_len, Dg.dgs_len, Dg.dgs_len, Pu.data_len]; omega
theorem u64_id (n : Int) (h0 : 0 ≤ n) (h1 : n < 18446744073709551616) : IntKind.u64.wrap n = n := by rw [IntKind.wrap_u64]; omega
theorem put_in (n w : Nat) (h1 : 1 ≤ w) (h19 : w ≤ 19) (hn : n < 10 ^ w) (h64 : n < 18446744073709551616) : digit_Put.f (n : Int) (w : Int) = some (Dg.ba (Dg.dgs w n), 0) := by
  rw [put_e n h64]; unfold Dg.putS; rw [if_neg (by omega), Int.toNat_natCast, if_pos ((Dg.nDigits_le n w h1).mpr hn)]
theorem join3 (a b c : List UInt8) (d : ByteArray) : ((Dg.ba a ++ Dg.ba b) ++ Dg.ba c) ++ d = Dg.ba (a ++ (b ++ (c ++ d.data.toList))) := by
  apply Pu.ba_ext; simp only [Pu.data_append, Dg.ba_data, List.append_assoc]
theorem text_p (c0 c1 c2 : ByteArray) (c3 c4 c5 : Int) (h0 : c0.size ≤ 4096) (h2 : c2.size ≤ 4096) :
    dispute_Text.f c0 c1 c2 c3 c4 c5 = some (if mayD c0 c1 c2 c3 c4 c5 = true then (Dg.ba (textL c2 c3 c4 c5), 0) else (⟨#[]⟩, 1)) := by
  unfold dispute_Text.f
  rw [mayD_p _ _ _ _ _ _ h0, Option.bind_some]
  by_cases hm : mayD c0 c1 c2 c3 c4 c5 = true
  · rw [if_pos hm, if_pos hm]
    obtain ⟨_, _, _, s1, s2, a1, a2, u1, u2⟩ := mayD_iff.mp hm
    obtain ⟨st, rfl⟩ : ∃ n : Nat, c3 = n := ⟨c3.toNat, by omega⟩
    obtain ⟨am, rfl⟩ : ∃ n : Nat, c4 = n := ⟨c4.toNat, by omega⟩
    obtain ⟨un, rfl⟩ : ∃ n : Nat, c5 = n := ⟨c5.toNat, by omega⟩
    rw [u64_id _ (by omega) (by omega), u64_id _ (by omega) (by omega)]
    have p1 := put_in am 14 (by omega) (by omega) (by omega) (by omega)
    have p2 := put_in un 10 (by omega) (by omega) (by omega) (by omega)
    have p3 : strconv_Itoa_16.f (st : Int) = some (Dg.ba (Dg.dgs 1 st)) := by
      unfold strconv_Itoa_16.f
      rw [if_pos (by omega), Int.toNat_natCast, Lib.decDigits_one (by omega), Dg.dgs, Dg.dgs, Nat.mod_eq_of_lt (by omega)]; rfl
    rw [show ((14 : Nat) : Int) = 14 from rfl] at p1
    rw [show ((10 : Nat) : Int) = 10 from rfl] at p2
    rw [p1, Option.bind_some, p2, Option.bind_some, p3, Option.bind_some]
    have hb : c2.size + 25 ≤ 9223372036854775807 := Nat.le_trans (Nat.add_le_add_right h2 25) (by decide)
    simp only [ByteArray.size_append, Dg.ba_size, Dg.dgs_len]
    rw [if_pos (by omega), if_pos (by omega), if_pos (by omega), join3]; rfl
  · rw [if_neg hm, if_neg hm]
theorem of_r (k : Nat) (hk : 19 < k) (n w : Nat) (h19 : w ≤ 19) (hn : n < 18446744073709551616) : bursarref02_Of.f k (n : Int) (w : Int) = some (Dg.ba (Dg.dgs w n)) := by
  unfold bursarref02_Of.f; rw [refput_e n w hn h19 k hk, Option.bind_some]
theorem text_r (k : Nat) (hk : 19 < k) (c0 c1 c2 : ByteArray) (c3 c4 c5 : Int) (h2 : c2.size ≤ 4096) (hm : mayD c0 c1 c2 c3 c4 c5 = true) :
    bursarref26_Text.f k c0 c1 c2 c3 c4 c5 = some (Dg.ba (textL c2 c3 c4 c5)) := by
  obtain ⟨_, _, _, s1, s2, a1, a2, u1, u2⟩ := mayD_iff.mp hm
  obtain ⟨st, rfl⟩ : ∃ n : Nat, c3 = n := ⟨c3.toNat, by omega⟩
  obtain ⟨am, rfl⟩ : ∃ n : Nat, c4 = n := ⟨c4.toNat, by omega⟩
  obtain ⟨un, rfl⟩ : ∃ n : Nat, c5 = n := ⟨c5.toNat, by omega⟩
  unfold bursarref26_Text.f
  rw [u64_id _ (by omega) (by omega), u64_id _ (by omega) (by omega), u64_id _ (by omega) (by omega)]
  have p0 := of_r k hk st 1 (by omega) (by omega)
  have p1 := of_r k hk am 14 (by omega) (by omega)
  have p2 := of_r k hk un 10 (by omega) (by omega)
  rw [show ((14 : Nat) : Int) = 14 from rfl] at p1
  rw [show ((10 : Nat) : Int) = 10 from rfl] at p2
  rw [show ((1 : Nat) : Int) = 1 from rfl] at p0
  rw [p0, Option.bind_some, p1, Option.bind_some]
  have hb : c2.size + 25 ≤ 9223372036854775807 := Nat.le_trans (Nat.add_le_add_right h2 25) (by decide)
  simp only [ByteArray.size_append, Dg.ba_size, Dg.dgs_len]
  rw [if_pos (by omega), p2, Option.bind_some]
  simp only [ByteArray.size_append, Dg.ba_size, Dg.dgs_len]
  rw [if_pos (by omega), if_pos (by omega), join3]; rfl
/-- Does a text spell a dispute? -/
def good (a0 a1 s : ByteArray) : Bool :=
  decide (s.size = 41) && (Pu.allD (s.extract 0 1) && (Pu.allD (s.extract 1 15) && (Pu.allD (s.extract 15 25) && mayD a0 a1 (s.extract 25 s.size) (gv (s.extract 0 1)) (gv (s.extract 1 15)) (gv (s.extract 15 25)))))
theorem parts_of (s : ByteArray) (h : s.size = 41) : s.data.toList = (s.extract 0 1).data.toList ++ ((s.extract 1 15).data.toList ++ ((s.extract 15 25).data.toList ++ (s.extract 25 s.size).data.toList)) := by
  have hl := Pu.data_len s
  simp only [Pu.data_extract, List.drop_zero]
  have e : ∀ l : List UInt8, l.length = 41 → l = l.take (1 - 0) ++ ((l.drop 1).take (15 - 1) ++ ((l.drop 15).take (25 - 15) ++ (l.drop 25).take (s.size - 25))) := by
    intro l hl
    rw [h, List.take_of_length_le (l := l.drop 25) (by rw [List.length_drop]; omega)]
    have e1 : (l.drop 15).take (25 - 15) ++ l.drop 25 = l.drop 15 := by
      have := List.take_append_drop (25 - 15) (l.drop 15); rw [List.drop_drop] at this; exact this
    have e2 : (l.drop 1).take (15 - 1) ++ l.drop 15 = l.drop 1 := by
      have := List.take_append_drop (15 - 1) (l.drop 1); rw [List.drop_drop] at this; exact this
    rw [e1, e2]
    exact (List.take_append_drop 1 l).symm
  exact e _ (by omega)
theorem ext_size (s : ByteArray) (a b : Nat) (h : b ≤ s.size) (hab : a ≤ b) : (s.extract a b).size = b - a := by rw [ByteArray.size_extract]; omega
theorem spell (x : ByteArray) (w : Nat) (hx : x.size = w) (ha : Pu.allD x = true) : Dg.dgs w (gv x).toNat = x.data.toList := by
  unfold gv vl
  rw [if_pos ha, Int.toNat_natCast]
  exact dgs_vals w _ (by rw [Pu.data_len]; exact hx) (by rw [← Dg.all_bs]; exact ha)
theorem spelt (x : ByteArray) (w n : Nat) (h : Dg.dgs w n = x.data.toList) : Pu.allD x = true := by rw [Dg.all_bs, ← h]; exact Dg.dgs_dig w n
theorem parse_p (a0 a1 s : ByteArray) (h0 : a0.size ≤ 4096) (hs : s.size ≤ 4096) :
    dispute_Parse.f a0 a1 s = some (if good a0 a1 s = true then (a0, a1, s.extract 25 s.size, gv (s.extract 0 1), gv (s.extract 1 15), gv (s.extract 15 25), 0) else (⟨#[]⟩, ⟨#[]⟩, ⟨#[]⟩, 0, 0, 0, 4)) := by
  unfold dispute_Parse.f
  by_cases h41 : s.size = 41
  · have z1 : (s.extract 0 1).size = 1 := ext_size s 0 1 (by omega) (by omega)
    have z2 : (s.extract 1 15).size = 14 := ext_size s 1 15 (by omega) (by omega)
    have z3 : (s.extract 15 25).size = 10 := ext_size s 15 25 (by omega) (by omega)
    have z4 : (s.extract 25 s.size).size = 16 := by rw [ext_size s 25 s.size (by omega) (by omega)]; omega
    simp only [digit_Get.f, z1, z2, z3]
    rw [if_pos (by omega), if_pos (by omega), if_pos (by omega), Option.bind_some, if_pos (by omega), if_pos (by omega), Option.bind_some, if_pos (by omega), if_pos (by omega), Option.bind_some]
    rw [getS_in _ (by omega) (by omega), getS_in _ (by omega) (by omega), getS_in _ (by omega) (by omega)]
    simp only [gv_wrap _ (show (s.extract 0 1).size ≤ 14 by omega), gv_wrap _ (show (s.extract 1 15).size ≤ 14 by omega), gv_wrap _ (show (s.extract 15 25).size ≤ 14 by omega)]
    rw [text_p _ _ _ _ _ _ h0 (by omega), Option.bind_some]
    by_cases hm : mayD a0 a1 (s.extract 25 s.size) (gv (s.extract 0 1)) (gv (s.extract 1 15)) (gv (s.extract 15 25)) = true
    · rw [if_pos hm]
      dsimp only
      rw [if_pos rfl]
      by_cases hd : Pu.allD (s.extract 0 1) = true ∧ Pu.allD (s.extract 1 15) = true ∧ Pu.allD (s.extract 15 25) = true
      · have hg : good a0 a1 s = true := by unfold good; rw [decide_eq_true h41, hd.1, hd.2.1, hd.2.2, hm]; rfl
        have ht : (Dg.ba (textL (s.extract 25 s.size) (gv (s.extract 0 1)) (gv (s.extract 1 15)) (gv (s.extract 15 25)))).toList = s.toList := by
          rw [ByteArray.toList_eq, ByteArray.toList_eq, Dg.ba_data, parts_of s h41]
          unfold textL
          rw [spell _ 1 z1 hd.1, spell _ 14 z2 hd.2.1, spell _ 10 z3 hd.2.2]
        rw [if_pos ht, if_pos hg]
      · have hg : ¬ good a0 a1 s = true := by
          unfold good; simp only [Bool.and_eq_true]; rintro ⟨_, x1, x2, x3, _⟩; exact hd ⟨x1, x2, x3⟩
        rw [if_neg hg, if_neg]
        intro ht
        rw [ByteArray.toList_eq, ByteArray.toList_eq, Dg.ba_data, parts_of s h41] at ht
        unfold textL at ht
        obtain ⟨q1, ht⟩ := List.append_inj ht (by rw [Dg.dgs_len, Pu.data_len, z1])
        obtain ⟨q2, ht⟩ := List.append_inj ht (by rw [Dg.dgs_len, Pu.data_len, z2])
        obtain ⟨q3, _⟩ := List.append_inj ht (by rw [Dg.dgs_len, Pu.data_len, z3])
        exact hd ⟨spelt _ _ _ q1, spelt _ _ _ q2, spelt _ _ _ q3⟩
    · have hg : ¬ good a0 a1 s = true := by
        unfold good; simp only [Bool.and_eq_true]; rintro ⟨_, _, _, _, x⟩; exact hm x
      rw [if_neg hm, if_neg hg]; rfl
  · rw [if_neg (by omega), if_neg]
    unfold good; rw [decide_eq_false h41]; simp
theorem parse_r (k : Nat) (hk : 22 ≤ k) (a0 a1 s : ByteArray) :
    (good a0 a1 s = true → bursarref26_Parse.f k a0 a1 s = some (a0, a1, s.extract 25 s.size, gv (s.extract 0 1), gv (s.extract 1 15), gv (s.extract 15 25), true)) ∧
    (¬ good a0 a1 s = true → ∃ r1 r2 r3 r4 r5 r6, bursarref26_Parse.f k a0 a1 s = some (r1, r2, r3, r4, r5, r6, false)) := by
  unfold bursarref26_Parse.f
  by_cases h41 : s.size = 41
  · have z1 : (s.extract 0 1).size = 1 := ext_size s 0 1 (by omega) (by omega)
    have z2 : (s.extract 1 15).size = 14 := ext_size s 1 15 (by omega) (by omega)
    have z3 : (s.extract 15 25).size = 10 := ext_size s 15 25 (by omega) (by omega)
    rw [if_pos (by omega), if_pos (by omega), get_k _ (by omega) (by omega) k hk, Option.bind_some, if_pos (by omega), get_k _ (by omega) (by omega) k hk, Option.bind_some, if_pos (by omega), get_k _ (by omega) (by omega) k hk, Option.bind_some]
    rw [getS_in _ (by omega) (by omega), getS_in _ (by omega) (by omega), getS_in _ (by omega) (by omega)]
    simp only [gv_wrap _ (show (s.extract 0 1).size ≤ 14 by omega), gv_wrap _ (show (s.extract 1 15).size ≤ 14 by omega), gv_wrap _ (show (s.extract 15 25).size ≤ 14 by omega)]
    unfold good
    rw [decide_eq_true h41, mayD_r, Option.bind_some]
    cases Pu.allD (s.extract 0 1)
    · refine ⟨fun h => by simp at h, fun _ => ?_⟩
      rw [if_neg (by decide)]; exact ⟨_, _, _, _, _, _, rfl⟩
    cases Pu.allD (s.extract 1 15)
    · refine ⟨fun h => by simp at h, fun _ => ?_⟩
      rw [if_pos (by decide), if_neg (by decide)]; exact ⟨_, _, _, _, _, _, rfl⟩
    cases Pu.allD (s.extract 15 25)
    · refine ⟨fun h => by simp at h, fun _ => ?_⟩
      rw [if_pos (by decide), if_pos (by decide), if_neg (by decide)]; exact ⟨_, _, _, _, _, _, rfl⟩
    rw [if_pos (by decide), if_pos (by decide), if_pos (by decide)]
    refine ⟨fun h => ?_, fun h => ?_⟩
    · simp only [Bool.true_and] at h; rw [h]
    · simp only [Bool.true_and] at h; rw [Bool.eq_false_iff.mpr h]; exact ⟨_, _, _, _, _, _, rfl⟩
  · rw [if_neg (by omega)]
    refine ⟨fun h => ?_, fun _ => ⟨_, _, _, _, _, _, rfl⟩⟩
    unfold good at h; rw [decide_eq_false h41] at h; simp at h
theorem good_text (c0 c1 c2 : ByteArray) (c3 c4 c5 : Int) (hm : mayD c0 c1 c2 c3 c4 c5 = true) :
    good c0 c1 (Dg.ba (textL c2 c3 c4 c5)) = true ∧ (Dg.ba (textL c2 c3 c4 c5)).extract 25 (Dg.ba (textL c2 c3 c4 c5)).size = c2 ∧ gv ((Dg.ba (textL c2 c3 c4 c5)).extract 0 1) = c3 ∧ gv ((Dg.ba (textL c2 c3 c4 c5)).extract 1 15) = c4 ∧ gv ((Dg.ba (textL c2 c3 c4 c5)).extract 15 25) = c5 := by
  obtain ⟨_, _, hp, s1, s2, a1, a2, u1, u2⟩ := mayD_iff.mp hm
  have h16 : c2.size = 16 := by rw [mayB_1, Bool.and_eq_true, decide_eq_true_eq] at hp; exact hp.1
  obtain ⟨st, rfl⟩ : ∃ n : Nat, c3 = n := ⟨c3.toNat, by omega⟩
  obtain ⟨am, rfl⟩ : ∃ n : Nat, c4 = n := ⟨c4.toNat, by omega⟩
  obtain ⟨un, rfl⟩ : ∃ n : Nat, c5 = n := ⟨c5.toNat, by omega⟩
  have hz : (Dg.ba (textL c2 st am un)).size = 41 := by rw [Dg.ba_size, textL_len]; omega
  have hpt := parts_of _ hz
  rw [Dg.ba_data] at hpt
  have z1 := ext_size _ 0 1 (by omega : 1 ≤ (Dg.ba (textL c2 st am un)).size) (by omega)
  have z2 := ext_size _ 1 15 (by omega : 15 ≤ (Dg.ba (textL c2 st am un)).size) (by omega)
  have z3 := ext_size _ 15 25 (by omega : 25 ≤ (Dg.ba (textL c2 st am un)).size) (by omega)
  unfold good
  generalize (Dg.ba (textL c2 st am un)).extract 0 1 = x1 at *
  generalize (Dg.ba (textL c2 st am un)).extract 1 15 = x2 at *
  generalize (Dg.ba (textL c2 st am un)).extract 15 25 = x3 at *
  have hx4 : (Dg.ba (textL c2 st am un)).extract 25 (Dg.ba (textL c2 st am un)).size = c2 := by
    generalize (Dg.ba (textL c2 st am un)).extract 25 (Dg.ba (textL c2 st am un)).size = x4 at hpt
    unfold textL at hpt
    obtain ⟨_, hpt⟩ := List.append_inj hpt (by rw [Dg.dgs_len, Pu.data_len, z1])
    obtain ⟨_, hpt⟩ := List.append_inj hpt (by rw [Dg.dgs_len, Pu.data_len, z2])
    obtain ⟨_, hpt⟩ := List.append_inj hpt (by rw [Dg.dgs_len, Pu.data_len, z3])
    exact (Pu.ba_ext hpt).symm
  unfold textL at hpt
  obtain ⟨q1, hpt⟩ := List.append_inj hpt (by rw [Dg.dgs_len, Pu.data_len, z1])
  obtain ⟨q2, hpt⟩ := List.append_inj hpt (by rw [Dg.dgs_len, Pu.data_len, z2])
  obtain ⟨q3, _⟩ := List.append_inj hpt (by rw [Dg.dgs_len, Pu.data_len, z3])
  have vv : ∀ (x : ByteArray) (w n : Nat), Dg.dgs w n = x.data.toList → n < 10 ^ w → gv x = n := by
    intro x w n h hn
    unfold gv vl; rw [if_pos (spelt _ _ _ h), ← h, Dg.val_dgs, Nat.mod_eq_of_lt hn]
  simp only [Int.toNat_natCast] at q1 q2 q3
  have v1 := vv x1 1 st q1 (by omega)
  have v2 := vv x2 14 am q2 (by omega)
  have v3 := vv x3 10 un q3 (by omega)
  refine ⟨?_, hx4, v1, v2, v3⟩
  rw [decide_eq_true hz, hx4, spelt _ _ _ q1, spelt _ _ _ q2, spelt _ _ _ q3, v1, v2, v3, hm]; rfl
theorem texts_j (k : Nat) (hk : 24 ≤ k) (d0 d1 d2 : ByteArray) (c3 c4 c5 : Int) (y0 : d0.size ≤ 50) (y2 : d2.size ≤ 50) : bursarlaw26_DisputeTexts.j1 k false d0 d1 d2 c3 c4 c5 = some true := by
  obtain ⟨k, rfl⟩ : ∃ m, k = m + 1 := ⟨k - 1, by omega⟩
  simp only [bursarlaw26_DisputeTexts.j1]
  rw [if_neg (by decide), text_p _ _ _ _ _ _ (by omega) (by omega), Option.bind_some, mayD_r, Option.bind_some]
  by_cases hm : mayD d0 d1 d2 c3 c4 c5 = true
  · rw [if_pos hm, if_pos hm]
    obtain ⟨g1, g2, g3, g4, g5⟩ := good_text d0 d1 d2 c3 c4 c5 hm
    dsimp only
    rw [parse_p _ _ _ (by omega) (by rw [Dg.ba_size, textL_len]; omega), if_pos g1, g2, g3, g4, g5, Option.bind_some, text_r k (by omega) _ _ _ _ _ _ (by omega) hm, Option.bind_some]
    dsimp only
    rw [if_pos rfl, if_pos rfl, if_pos (by simp), if_pos rfl, awake_some k (by omega)]; rfl
  · rw [if_neg hm, if_neg hm]
    dsimp only
    rw [if_pos (by rw [nil_ba, toList_ba]), if_pos rfl, awake_some k (by omega)]; rfl
theorem texts_pure (c0 c1 c2 : ByteArray) (c3 c4 c5 : Int) (s : ByteArray) (e3 : (Lit.int .i64 c3).wf = true) (e4 : (Lit.int .i64 c4).wf = true) (e5 : (Lit.int .i64 c5).wf = true) : bursarlaw26_DisputeTexts.f 26 c0 c1 c2 c3 c4 c5 s = some true := by
  obtain ⟨d0, d1, d2, hC, y0, y1, y2⟩ := cfew_some c0 c1 c2 c3 c4 c5
  obtain ⟨t, hT, ht⟩ := ctext_some s
  unfold bursarlaw26_DisputeTexts.f
  rw [hC, Option.bind_some, hT, Option.bind_some]
  dsimp only
  rw [parse_p d0 d1 t (by omega) (by omega), Option.bind_some]
  obtain ⟨r1, r2⟩ := parse_r 26 (by omega) d0 d1 t
  by_cases hg : good d0 d1 t = true
  · rw [r1 hg, Option.bind_some, if_pos hg]
    dsimp only
    rw [if_pos rfl]
    simp only [bursarlaw26_DisputeTexts.j0]
    rw [if_neg (by simp), if_neg (by decide), if_pos trivial]
    exact texts_j 25 (by decide) _ _ _ _ _ _ y0 y2
  · obtain ⟨x1, x2, x3, x4, x5, x6, hx⟩ := r2 hg
    rw [hx, Option.bind_some, if_neg hg]
    dsimp only
    rw [if_neg (by decide)]
    simp only [bursarlaw26_DisputeTexts.j0]
    rw [if_neg (by simp), if_neg (by decide), if_neg (by decide)]
    exact texts_j 25 (by decide) _ _ _ _ _ _ y0 y2
end Go.Proofs.YtkfpocggjbfomaaDoor.XT
