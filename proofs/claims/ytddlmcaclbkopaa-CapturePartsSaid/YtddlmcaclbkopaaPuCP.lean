/- Plain laws of captures: what the program's and the document's answers are, as one total function; the law holds of it. -/
import Derived.Test.YtddlmcaclbkopaaXCP10
namespace Go.Proofs.Ytddlmcaclbkopaa.XCP
open Go.RowKit Go.Proofs.YtddlmcaclbkopaaW.PrintWords Pu
set_option linter.unusedVariables false
set_option linter.unusedSimpArgs false
theorem text_some (s : ByteArray) : ∃ t, bursarlaw22_text.f s = some t ∧ t.size ≤ 40 := by
  unfold bursarlaw22_text.f
  by_cases h : (s.size : Int) > 40
  · have h2 : 40 ≤ (s.size : Int) := by omega
    simp only [if_pos h, if_pos h2, if_pos (show (0 : Int) ≤ 40 by decide)]
    exact ⟨_, rfl, by rw [ByteArray.size_extract]; omega⟩
  · rw [if_neg h]
    exact ⟨_, rfl, by omega⟩
theorem few_some (a0 : ByteArray) (a1 : ByteArray) (a2 : ByteArray) (a3 : Int) (a4 : ByteArray) (a5 : ByteArray) (a6 : ByteArray) (a7 : ByteArray) (a8 : ByteArray) (a9 : Int) (a10 : Int) (a11 : ByteArray) (a12 : Bool) (a13 : Int) (a14 : ByteArray) (a15 : ByteArray) (a16 : ByteArray) (a17 : Int) (a18 : Int) (a19 : Int) (a20 : Bool) (a21 : Bool) (a22 : Int) (a23 : Int) (a24 : Bool) : ∃ b0 b1 b2 b6 b7 b14 b15 b16 : ByteArray, bursarlaw22_Few.f a0 a1 a2 a3 a4 a5 a6 a7 a8 a9 a10 a11 a12 a13 a14 a15 a16 a17 a18 a19 a20 a21 a22 a23 a24 = some (b0, b1, b2, a3, a4, a5, b6, b7, a8, a9, a10, a11, a12, a13, b14, b15, b16, a17, a18, a19, a20, a21, a22, a23, a24) ∧ b0.size ≤ 40 ∧ b1.size ≤ 40 ∧ b2.size ≤ 40 ∧ b6.size ≤ 40 ∧ b7.size ≤ 40 ∧ b14.size ≤ 40 ∧ b15.size ≤ 40 ∧ b16.size ≤ 40 := by
  obtain ⟨b0, h0, z0⟩ := text_some a0
  obtain ⟨b1, h1, z1⟩ := text_some a1
  obtain ⟨b2, h2, z2⟩ := text_some a2
  obtain ⟨b6, h6, z6⟩ := text_some a6
  obtain ⟨b7, h7, z7⟩ := text_some a7
  obtain ⟨b14, h14, z14⟩ := text_some a14
  obtain ⟨b15, h15, z15⟩ := text_some a15
  obtain ⟨b16, h16, z16⟩ := text_some a16
  refine ⟨b0, b1, b2, b6, b7, b14, b15, b16, ?_, z0, z1, z2, z6, z7, z14, z15, z16⟩
  unfold bursarlaw22_Few.f
  simp only [h0, h1, h2, h6, h7, h14, h15, h16, Option.bind_some]
theorem list_if {p q : ByteArray} {α : Type} {x y : α} : (if p.toList = q.toList then x else y) = (if decide (p = q) = true then x else y) := by
  by_cases h : p = q
  · subst h; simp
  · have h' : ¬ p.toList = q.toList := fun e => h (toList_inj.mp e)
    simp [h, h']
def inB (n : Int) : Prop := -9223372036854775808 ≤ n ∧ n ≤ 9223372036854775807
theorem wr {n : Int} (h : inB n) : wrap64 n = n := by unfold inB at h; unfold wrap64; omega
theorem inB_of_wf {n : Int} (h : (Lit.int .i64 n).wf = true) : inB n := by
  simp only [Lit.wf, IntKind.min, IntKind.max, IntKind.signed, IntKind.bits, Bool.and_eq_true, decide_eq_true_eq, if_true] at h
  unfold inB
  omega
def pre2 (s : ByteArray) (x y : UInt8) : Bool := decide (2 ≤ s.size) && ((s.extract 0 2).toList == [x, y])
theorem has2 (s : ByteArray) (x y : UInt8) : strings_HasPrefix.f s ⟨#[x, y]⟩ = some (pre2 s x y) := by
  unfold strings_HasPrefix.f stringslite_HasPrefix.f pre2
  have e : ((⟨#[x, y]⟩ : ByteArray).size : Int) = 2 := rfl
  have e2 : (⟨#[x, y]⟩ : ByteArray).toList = [x, y] := by rw [ByteArray.toList_eq]
  by_cases h : 2 ≤ s.size
  · have g : (s.size : Int) ≥ 2 := by omega
    have g2 : (2 : Int) ≤ (s.size : Int) := by omega
    rw [e, e2, if_pos g, if_pos (by decide), if_pos g2, decide_eq_true h]
    rfl
  · have g : ¬ (s.size : Int) ≥ 2 := by omega
    rw [e, if_neg g, decide_eq_false h]
    rfl
/-- May a question be? -/
def mayA (pan : ByteArray) (am : Int) (acq rrn r2 c2 p2 : ByteArray) (ap ca un : Int) (op fo : Bool) (tick : Int) : Bool :=
  mayB 1 pan && mayB 2 acq && refB rrn && decide (1 ≤ am) && decide (0 ≤ tick) && decide (tick ≤ 2147483547) && (!fo || (hmay r2 c2 p2 ap ca un op && decide (r2 = rrn) && decide (c2 = acq)))
theorem mayA_iff {pan : ByteArray} {am : Int} {acq rrn r2 c2 p2 : ByteArray} {ap ca un : Int} {op fo : Bool} {tick : Int} : mayA pan am acq rrn r2 c2 p2 ap ca un op fo tick = true ↔ mayB 1 pan = true ∧ mayB 2 acq = true ∧ refB rrn = true ∧ 1 ≤ am ∧ 0 ≤ tick ∧ tick ≤ 2147483547 ∧ (fo = true → hmay r2 c2 p2 ap ca un op = true ∧ r2 = rrn ∧ c2 = acq) := by
  unfold mayA
  simp only [Bool.and_eq_true, decide_eq_true_eq, Bool.or_eq_true, Bool.not_eq_true', and_assoc]
  cases fo <;> simp
theorem may_p (k : Nat) (hk : 1 ≤ k) (a0 : ByteArray) (a1 : ByteArray) (a2 : ByteArray) (a3 : Int) (a4 : ByteArray) (a5 : ByteArray) (a6 : ByteArray) (a7 : ByteArray) (a8 : ByteArray) (a9 : Int) (a10 : Int) (a11 : ByteArray) (a12 : Bool) (a13 : Int) (a14 : ByteArray) (a15 : ByteArray) (a16 : ByteArray) (a17 : Int) (a18 : Int) (a19 : Int) (a20 : Bool) (a21 : Bool) (a22 : Int) (a23 : Int) (a24 : Bool) (h7 : a7.size ≤ 4096) (h14 : a14.size ≤ 4096) : auth_May.f k a0 a1 a2 a3 a4 a5 a6 a7 a8 a9 a10 a11 a12 a13 a14 a15 a16 a17 a18 a19 a20 a21 a22 a23 a24 = some (mayA a1 a3 a6 a7 a14 a15 a16 a17 a18 a19 a20 a21 a22) := by
  obtain ⟨k, rfl⟩ : ∃ m, k = m + 1 := ⟨k - 1, by omega⟩
  unfold auth_May.f chart_May.f hold_Ref.f
  simp only [Option.bind_some, if_pos h7, if_pos h14, hold_May.f, auth_May.j0, list_if, toList_beq]
  unfold mayA
  generalize mayB 1 a1 = x1; generalize mayB 2 a6 = x2; generalize refB a7 = x3; generalize hmay a14 a15 a16 a17 a18 a19 a20 = x4; generalize decide (a14 = a7) = x5; generalize decide (a15 = a6) = x6
  cases x1
  · cases x2 <;> simp
  cases x2
  · simp
  cases x3
  · simp
  by_cases h1 : a3 < 1
  · have e : ¬ 1 ≤ a3 := by omega
    simp [h1, e]
  have e1 : 1 ≤ a3 := by omega
  by_cases h2 : a22 < 0
  · have e : ¬ 0 ≤ a22 := by omega
    simp [h1, h2, e]
  have e2 : 0 ≤ a22 := by omega
  by_cases h3 : a22 > 2147483547
  · have e : ¬ a22 ≤ 2147483547 := by omega
    simp [h1, h2, h3, e]
  have e3 : a22 ≤ 2147483547 := by omega
  have e4 : decide (a22 > 2147483547) = false := decide_eq_false h3
  simp only [h1, h2, e4, e1, e2, e3, if_true, if_false, Bool.false_eq_true, decide_true, Bool.true_and]
  cases a21 <;> cases x4 <;> cases x5 <;> cases x6 <;> simp
abbrev P6 := Int × Int × ByteArray × ByteArray × ByteArray × Int
def p0 : P6 := (0, 0, ⟨#[]⟩, ⟨#[]⟩, ⟨#[]⟩, 0)
def c00 : ByteArray := ⟨#[48, 48]⟩
def c12 : ByteArray := ⟨#[49, 50]⟩
def c14 : ByteArray := ⟨#[49, 52]⟩
def c30 : ByteArray := ⟨#[51, 48]⟩
def c51 : ByteArray := ⟨#[53, 49]⟩
def c54 : ByteArray := ⟨#[53, 52]⟩
def c61 : ByteArray := ⟨#[54, 49]⟩
def c96 : ByteArray := ⟨#[57, 54]⟩
def no (c : ByteArray) : ByteArray × H7 × Bool × P6 := (c, h0, false, p0)
def advB (m : ByteArray) : Bool := (m.toList == [48, 49, 50, 48]) || (m.toList == [48, 50, 50, 48]) || (m.toList == [48, 52, 50, 48])
/-- What comes of a question: the code, the hold, is it new, what is posted. -/
def capT (mti pan code : ByteArray) (am : Int) (acq rrn : ByteArray) (card : Bool) (free : Int) (r2 c2 p2 : ByteArray) (ap ca un : Int) (op fo : Bool) (tick batch : Int) (early : Bool) : ByteArray × H7 × Bool × P6 :=
  if mayA pan am acq rrn r2 c2 p2 ap ca un op fo tick = true ∧ 0 ≤ batch ∧ batch ≤ 2147483647 then
    if early = true then no c12
    else if (pre2 code 48 48 || pre2 code 48 49) = true then
      if card = true then
        if am > 9999999999999 then no c96
        else if fo = true then
          if p2 = pan then
            if op = true then
              if ap - ca < am then no c61
              else (c00, (r2, c2, p2, ap, ca + am, un, !pre2 code 48 48 && decide (ca + am < ap)), true, (2, batch, pan, acq, rrn, am))
            else no c54
          else no c14
        else if advB mti = true ∨ am ≤ free then (c00, h0, false, (2, batch, pan, acq, rrn, am))
        else no c51
      else no c14
    else no c12
  else no c30
def outC (r : ByteArray × H7 × Bool × P6) : ByteArray × ByteArray × ByteArray × ByteArray × Int × Int × Int × Bool × Bool × Int × Int × ByteArray × ByteArray × ByteArray × Int :=
  (r.1, r.2.1.1, r.2.1.2.1, r.2.1.2.2.1, r.2.1.2.2.2.1, r.2.1.2.2.2.2.1, r.2.1.2.2.2.2.2.1, r.2.1.2.2.2.2.2.2, r.2.2.1, r.2.2.2.1, r.2.2.2.2.1, r.2.2.2.2.2.1, r.2.2.2.2.2.2.1, r.2.2.2.2.2.2.2.1, r.2.2.2.2.2.2.2.2)
theorem trade2 (k : Nat) (hk : 2 ≤ k) (batch : Int) (pan acq rrn : ByteArray) (am : Int) (hr : rrn.size ≤ 4096) (h1 : 0 ≤ batch) (h2 : batch ≤ 2147483647) (h3 : 1 ≤ am) (h4 : am ≤ 9999999999999) (h5 : mayB 1 pan = true) (h6 : mayB 2 acq = true) (h7 : refB rrn = true) :
    trade_May.f k 2 batch pan acq rrn am = some true := by
  obtain ⟨k, rfl⟩ : ∃ m, k = m + 2 := ⟨k - 2, by omega⟩
  unfold trade_May.f
  rw [if_neg (by omega), if_neg (by omega), if_neg (by omega), decide_eq_false (by omega)]
  simp [trade_May.j0, trade_May.j1, trade_pan.f, trade_acq.f, chart_May.f, hold_Ref.f, h5, h6, h7, hr]
theorem taken_p (k : Nat) (hk : 2 ≤ k) (a0 : ByteArray) (a1 : ByteArray) (a2 : ByteArray) (a3 : Int) (a4 : ByteArray) (a5 : ByteArray) (a6 : ByteArray) (a7 : ByteArray) (a8 : ByteArray) (a9 : Int) (a10 : Int) (a11 : ByteArray) (a12 : Bool) (a13 : Int) (a14 : ByteArray) (a15 : ByteArray) (a16 : ByteArray) (a17 : Int) (a18 : Int) (a19 : Int) (a20 : Bool) (a21 : Bool) (a22 : Int) (a23 : Int) (a24 : Bool) (y0 y1 y2 : ByteArray) (y3 y4 y5 : Int) (y6 y7 : Bool) (hr : a7.size ≤ 4096) (h1 : 0 ≤ a23) (h2 : a23 ≤ 2147483647) (h3 : 1 ≤ a3) (h4 : a3 ≤ 9999999999999) (h5 : mayB 1 a1 = true) (h6 : mayB 2 a6 = true) (h7 : refB a7 = true) :
    capture_asked_taken.f k a0 a1 a2 a3 a4 a5 a6 a7 a8 a9 a10 a11 a12 a13 a14 a15 a16 a17 a18 a19 a20 a21 a22 a23 a24 y0 y1 y2 y3 y4 y5 y6 y7 = some (c00, y0, y1, y2, y3, y4, y5, y6, y7, 2, a23, a1, a6, a7, a3) := by
  unfold capture_asked_taken.f
  rw [trade2 k hk a23 a1 a6 a7 a3 hr h1 h2 h3 h4 h5 h6 h7]
  rfl
theorem adv_p (a0 : ByteArray) (a1 : ByteArray) (a2 : ByteArray) (a3 : Int) (a4 : ByteArray) (a5 : ByteArray) (a6 : ByteArray) (a7 : ByteArray) (a8 : ByteArray) (a9 : Int) (a10 : Int) (a11 : ByteArray) : auth_Advice.f a0 a1 a2 a3 a4 a5 a6 a7 a8 a9 a10 a11 = some (advB a0) := by
  unfold auth_Advice.f advB
  (repeat' split) <;> simp_all
theorem cap_p (k : Nat) (hk : 6 ≤ k) (a0 : ByteArray) (a1 : ByteArray) (a2 : ByteArray) (a3 : Int) (a4 : ByteArray) (a5 : ByteArray) (a6 : ByteArray) (a7 : ByteArray) (a8 : ByteArray) (a9 : Int) (a10 : Int) (a11 : ByteArray) (a12 : Bool) (a13 : Int) (a14 : ByteArray) (a15 : ByteArray) (a16 : ByteArray) (a17 : Int) (a18 : Int) (a19 : Int) (a20 : Bool) (a21 : Bool) (a22 : Int) (a23 : Int) (a24 : Bool) (h7 : a7.size ≤ 4096) (h14 : a14.size ≤ 4096) (w17 : inB a17) : capture_Capture.f k a0 a1 a2 a3 a4 a5 a6 a7 a8 a9 a10 a11 a12 a13 a14 a15 a16 a17 a18 a19 a20 a21 a22 a23 a24 = some (outC (capT a0 a1 a2 a3 a6 a7 a12 a13 a14 a15 a16 a17 a18 a19 a20 a21 a22 a23 a24)) := by
  obtain ⟨k, rfl⟩ : ∃ m, k = m + 6 := ⟨k - 6, by omega⟩
  have hX : capture_Capture.f (k + 6) a0 a1 a2 a3 a4 a5 a6 a7 a8 a9 a10 a11 a12 a13 a14 a15 a16 a17 a18 a19 a20 a21 a22 a23 a24 = capture_Capture.j0 (k + 6) (pre2 a2 48 48 || pre2 a2 48 49) a0 a1 a2 a3 a4 a5 a6 a7 a8 a9 a10 a11 a12 a13 a14 a15 a16 a17 a18 a19 a20 a21 a22 a23 a24 := by
    unfold capture_Capture.f
    rw [has2, has2]
    cases pre2 a2 48 48 <;> rfl
  rw [hX]
  unfold capT
  generalize hkn : (pre2 a2 48 48 || pre2 a2 48 49) = kn
  by_cases hm : mayA a1 a3 a6 a7 a14 a15 a16 a17 a18 a19 a20 a21 a22 = true
  rotate_left
  · rw [if_neg (fun h => hm h.1)]
    have hm' := Bool.eq_false_iff.mpr hm
    cases a21 <;> simp [capture_Capture.j0, may_p (k + 5) (by omega) _ _ _ _ _ _ _ _ _ _ _ _ _ _ _ _ _ _ _ _ _ _ _ _ _ h7 h14, hm', capture_Capture.j1, capture_Capture.j3] <;> rfl
  by_cases hb1 : a23 < 0
  · rw [if_neg (fun h => by omega)]
    cases a21 <;> simp [capture_Capture.j0, may_p (k + 5) (by omega) _ _ _ _ _ _ _ _ _ _ _ _ _ _ _ _ _ _ _ _ _ _ _ _ _ h7 h14, hm, hb1, capture_Capture.j1, capture_Capture.j3] <;> rfl
  by_cases hb2 : a23 > 2147483647
  · rw [if_neg (fun h => by omega)]
    cases a21 <;> simp [capture_Capture.j0, may_p (k + 5) (by omega) _ _ _ _ _ _ _ _ _ _ _ _ _ _ _ _ _ _ _ _ _ _ _ _ _ h7 h14, hm, hb1, hb2, capture_Capture.j1, capture_Capture.j3] <;> rfl
  rw [if_pos ⟨hm, by omega, by omega⟩]
  have hb3 : decide (a23 > 2147483647) = false := decide_eq_false hb2
  have hJ : capture_Capture.j0 (k + 6) kn a0 a1 a2 a3 a4 a5 a6 a7 a8 a9 a10 a11 a12 a13 a14 a15 a16 a17 a18 a19 a20 a21 a22 a23 a24 = if a21 = true then capture_Capture.j1 (k + 5) kn false a0 a1 a2 a3 a4 a5 a6 a7 a8 a9 a10 a11 a12 a13 a14 a15 a16 a17 a18 a19 a20 a21 a22 a23 a24 else capture_Capture.j3 (k + 5) kn false a0 a1 a2 a3 a4 a5 a6 a7 a8 a9 a10 a11 a12 a13 a14 a15 a16 a17 a18 a19 a20 a21 a22 a23 a24 := by
    simp only [capture_Capture.j0, may_p (k + 5) (by omega) _ _ _ _ _ _ _ _ _ _ _ _ _ _ _ _ _ _ _ _ _ _ _ _ _ h7 h14, hm, Option.bind_some, if_true, if_neg hb1, hb3]
  rw [hJ]
  by_cases he : a24 = true
  · subst he
    rw [if_pos rfl]
    cases a21 <;> simp [capture_Capture.j1, capture_Capture.j2, capture_Capture.j3, capture_Capture.j4] <;> rfl
  have he' := Bool.eq_false_iff.mpr he
  subst he'
  rw [if_neg (show ¬ (false = true) by decide)]
  cases kn with
  | false =>
    rw [if_neg (show ¬ (false = true) by decide)]
    cases a21 <;> simp [capture_Capture.j1, capture_Capture.j2, capture_Capture.j3, capture_Capture.j4] <;> rfl
  | true =>
  rw [if_pos rfl]
  by_cases hc : a12 = true
  rotate_left
  · have hc' := Bool.eq_false_iff.mpr hc
    subst hc'
    rw [if_neg (show ¬ (false = true) by decide)]
    cases a21 <;> simp [capture_Capture.j1, capture_Capture.j2, capture_Capture.j3, capture_Capture.j4] <;> rfl
  subst hc
  rw [if_pos rfl]
  by_cases ha : a3 > 9999999999999
  · rw [if_pos ha]
    cases a21 <;> simp [capture_Capture.j1, capture_Capture.j2, capture_Capture.j3, capture_Capture.j4, ha] <;> rfl
  rw [if_neg ha]
  obtain ⟨m1, m2, m3, m4, m5, m6, m7⟩ := mayA_iff.mp hm
  cases a21 with
  | false =>
    rw [if_neg (show ¬ (false = true) by decide), if_neg (show ¬ (false = true) by decide)]
    simp only [capture_Capture.j3, capture_Capture.j4, Bool.false_eq_true, if_false, Bool.not_true, if_true, if_neg ha]
    unfold capture_asked_bare.f
    rw [adv_p, taken_p (k + 3) (by omega) _ _ _ _ _ _ _ _ _ _ _ _ _ _ _ _ _ _ _ _ _ _ _ _ _ _ _ _ _ _ _ _ _ h7 (by omega) (by omega) m4 (by omega) m1 m2 m3]
    simp only [Option.bind_some]
    by_cases hd : advB a0 = true
    · rw [if_pos hd, if_pos (.inl hd)]; rfl
    · rw [if_neg hd]
      by_cases hf : a3 > a13
      · rw [if_pos hf, if_neg (fun h => h.elim hd (fun g => by omega))]; rfl
      · rw [if_neg hf, if_pos (.inr (by omega))]; rfl
  | true =>
    rw [if_pos rfl, if_pos rfl]
    obtain ⟨g1, g2, g3⟩ := m7 rfl
    obtain ⟨_, _, _, _, _, q1, q2, q3⟩ := hmay_iff.mp g1
    simp only [capture_Capture.j1, capture_Capture.j2, Bool.false_eq_true, if_false, Bool.not_true, if_true, if_neg ha]
    unfold capture_asked_held.f
    rw [list_if, has2]
    by_cases hp : a16 = a1
    rotate_left
    · rw [if_neg (by simpa using hp), if_neg hp]; rfl
    rw [if_pos (by simpa using hp), if_pos hp]
    simp only [Option.bind_some]
    unfold hold_Take.f
    rw [if_pos h14]
    have hw : wrap64 (a17 - a18) = a17 - a18 := wr (by unfold inB at *; omega)
    unfold takeS wrongS
    rw [if_pos g1, hw]
    cases a20 with
    | false => simp [h0, no, outC, p0]; rfl
    | true =>
      rw [if_pos rfl]
      have e1 : ¬ a3 < 1 := by omega
      simp only [if_true, if_neg e1, ne_eq, not_true_eq_false, if_false]
      by_cases hl : a17 - a18 < a3
      · have hl' : a3 > a17 - a18 := by omega
        simp only [if_pos hl, if_pos hl', Option.bind_some]
        rfl
      · have hl' : ¬ a3 > a17 - a18 := by omega
        have hw2 : wrap64 (a18 + a3) = a18 + a3 := wr (by unfold inB at *; omega)
        simp only [if_neg hl, if_neg hl', hw2, Option.bind_some, if_true]
        rw [taken_p (k + 3) (by omega) _ _ _ _ _ _ _ _ _ _ _ _ _ _ _ _ _ _ _ _ _ _ _ _ _ _ _ _ _ _ _ _ _ h7 (by omega) (by omega) m4 (by omega) m1 m2 m3]
        rfl
theorem awake_some (k : Nat) (hk : 6 ≤ k) : bursarlaw23_awake.f k = some true := by
  unfold bursarlaw23_awake.f bursarlaw23_some.f
  simp only [Option.bind_some]
  rw [cap_p k hk]
  rotate_left
  · decide
  · decide
  · unfold inB; decide
  simp only [Option.bind_some]
  rw [cap_p k hk]
  rotate_left
  · decide
  · decide
  · unfold inB; decide
  simp only [Option.bind_some]
  rw [cap_p k hk]
  rotate_left
  · decide
  · decide
  · unfold inB; decide
  simp only [Option.bind_some, ByteArray.toList_eq]
  kernel_rfl
theorem c00_list : c00.toList = [48, 48] := by rw [ByteArray.toList_eq]; rfl
theorem c54_list : c54.toList = [53, 52] := by rw [ByteArray.toList_eq]; rfl
theorem nil_list : (⟨#[]⟩ : ByteArray).toList = [] := by rw [ByteArray.toList_eq]
theorem cap_cases (mti pan code : ByteArray) (am : Int) (acq rrn : ByteArray) (card : Bool) (free : Int) (r2 c2 p2 : ByteArray) (ap ca un : Int) (op fo : Bool) (tick batch : Int) (early : Bool) :
    (∃ c : ByteArray, c.toList ≠ [48, 48] ∧ capT mti pan code am acq rrn card free r2 c2 p2 ap ca un op fo tick batch early = no c) ∨
    (mayA pan am acq rrn r2 c2 p2 ap ca un op fo tick = true ∧ 0 ≤ batch ∧ batch ≤ 2147483647 ∧ early = false ∧ (pre2 code 48 48 || pre2 code 48 49) = true ∧ card = true ∧ am ≤ 9999999999999 ∧
      ((fo = true ∧ p2 = pan ∧ op = true ∧ am ≤ ap - ca ∧ capT mti pan code am acq rrn card free r2 c2 p2 ap ca un op fo tick batch early = (c00, (r2, c2, p2, ap, ca + am, un, !pre2 code 48 48 && decide (ca + am < ap)), true, (2, batch, pan, acq, rrn, am))) ∨
       (fo = false ∧ (advB mti = true ∨ am ≤ free) ∧ capT mti pan code am acq rrn card free r2 c2 p2 ap ca un op fo tick batch early = (c00, h0, false, (2, batch, pan, acq, rrn, am))))) := by
  have q12 : c12.toList ≠ [48, 48] := by rw [ByteArray.toList_eq]; decide
  have q14 : c14.toList ≠ [48, 48] := by rw [ByteArray.toList_eq]; decide
  have q30 : c30.toList ≠ [48, 48] := by rw [ByteArray.toList_eq]; decide
  have q51 : c51.toList ≠ [48, 48] := by rw [ByteArray.toList_eq]; decide
  have q54 : c54.toList ≠ [48, 48] := by rw [ByteArray.toList_eq]; decide
  have q61 : c61.toList ≠ [48, 48] := by rw [ByteArray.toList_eq]; decide
  have q96 : c96.toList ≠ [48, 48] := by rw [ByteArray.toList_eq]; decide
  unfold capT
  by_cases h1 : mayA pan am acq rrn r2 c2 p2 ap ca un op fo tick = true ∧ 0 ≤ batch ∧ batch ≤ 2147483647
  rotate_left
  · rw [if_neg h1]; exact .inl ⟨_, q30, rfl⟩
  rw [if_pos h1]
  cases early with
  | true => exact .inl ⟨_, q12, rfl⟩
  | false =>
  rw [if_neg (show ¬ (false = true) by decide)]
  by_cases h2 : (pre2 code 48 48 || pre2 code 48 49) = true
  rotate_left
  · rw [if_neg h2]; exact .inl ⟨_, q12, rfl⟩
  rw [if_pos h2]
  cases card with
  | false => exact .inl ⟨_, q14, rfl⟩
  | true =>
  rw [if_pos rfl]
  by_cases h3 : am > 9999999999999
  · rw [if_pos h3]; exact .inl ⟨_, q96, rfl⟩
  rw [if_neg h3]
  cases fo with
  | false =>
    rw [if_neg (show ¬ (false = true) by decide)]
    by_cases h4 : advB mti = true ∨ am ≤ free
    · rw [if_pos h4]; exact .inr ⟨h1.1, h1.2.1, h1.2.2, rfl, h2, rfl, by omega, .inr ⟨rfl, h4, rfl⟩⟩
    · rw [if_neg h4]; exact .inl ⟨_, q51, rfl⟩
  | true =>
  rw [if_pos rfl]
  by_cases h4 : p2 = pan
  rotate_left
  · rw [if_neg h4]; exact .inl ⟨_, q14, rfl⟩
  rw [if_pos h4]
  cases op with
  | false => exact .inl ⟨_, q54, rfl⟩
  | true =>
  rw [if_pos rfl]
  by_cases h5 : ap - ca < am
  · rw [if_pos h5]; exact .inl ⟨_, q61, rfl⟩
  · rw [if_neg h5]; exact .inr ⟨h1.1, h1.2.1, h1.2.2, rfl, h2, rfl, by omega, .inl ⟨rfl, h4, rfl, by omega, rfl⟩⟩
theorem pre_q : (pre2 (⟨#[48, 49, 48, 48, 48, 48]⟩ : ByteArray) 48 48) = false := by unfold pre2; rw [ByteArray.toList_eq]; decide
theorem loop (b1 : ByteArray) (a4 : ByteArray) (a5 : ByteArray) (b6 : ByteArray) (b7 : ByteArray) (a8 : ByteArray) (a9 : Int) (a10 : Int) (a11 : ByteArray) (a12 : Bool) (a13 : Int) (b14 : ByteArray) (b15 : ByteArray) (b16 : ByteArray) (a17 : Int) (a19 : Int) (a22 : Int) (a23 : Int) (a24 : Bool) (l : List Int) (L ca0 : Int) (z7 : b7.size ≤ 40) (z14 : b14.size ≤ 40) (w17 : inB a17) (hL : L ≤ a17) (d : Nat) :
    ∀ (k : Nat) (i p am ca : Int) (op : Bool), 0 ≤ i → i + d = 20 → 2 * d + 12 ≤ k → 0 ≤ p → p ≤ L → ca = ca0 + p → op = decide (p < L) → (p < L → a17 - ca0 = L) → hmay b14 b15 b16 a17 ca a19 op = true →
      bursarlaw23_CaptureParts.l0 k l L p i (⟨#[48, 50, 48, 48]⟩ : ByteArray) b1 (⟨#[48, 49, 48, 48, 48, 48]⟩ : ByteArray) am a4 a5 b6 b7 a8 a9 a10 a11 a12 a13 b14 b15 b16 a17 ca a19 op true a22 a23 a24 = some true := by
  induction d with
  | zero =>
    intro k i p am ca op hi hd hk hp hpL hca hop hL2 hm
    obtain ⟨k, rfl⟩ : ∃ m, k = m + 2 := ⟨k - 2, by omega⟩
    have AW := awake_some k (by omega)
    obtain ⟨_, _, _, _, _, q1, q2, q3⟩ := hmay_iff.mp hm
    have h20 : decide (i < 20) = false := decide_eq_false (by omega)
    have hE : bursarlaw23_CaptureParts.j2 (k + 1) l L p i false (⟨#[48, 50, 48, 48]⟩ : ByteArray) b1 (⟨#[48, 49, 48, 48, 48, 48]⟩ : ByteArray) am a4 a5 b6 b7 a8 a9 a10 a11 a12 a13 b14 b15 b16 a17 ca a19 op true a22 a23 a24 = some true := by
      simp only [bursarlaw23_CaptureParts.j2, Bool.false_eq_true, if_false, if_pos hpL, AW, Option.bind_some]
      by_cases h0 : p = 0
      · rw [if_pos h0]
      · rw [if_neg h0, if_pos q2]
    by_cases hlen : i < (l.length : Int)
    · simp only [bursarlaw23_CaptureParts.l0, if_pos hlen, h20]; exact hE
    · simp only [bursarlaw23_CaptureParts.l0, if_neg hlen]; exact hE
  | succ d ih =>
    intro k i p am ca op hi hd hk hp hpL hca hop hL2 hm
    obtain ⟨k, rfl⟩ : ∃ m, k = m + 2 := ⟨k - 2, by omega⟩
    have AW := awake_some k (by omega)
    obtain ⟨x1, x2, x3, x4, x5, q1, q2, q3⟩ := hmay_iff.mp hm
    by_cases hlen : i < (l.length : Int)
    rotate_left
    · have hE : bursarlaw23_CaptureParts.j2 (k + 1) l L p i false (⟨#[48, 50, 48, 48]⟩ : ByteArray) b1 (⟨#[48, 49, 48, 48, 48, 48]⟩ : ByteArray) am a4 a5 b6 b7 a8 a9 a10 a11 a12 a13 b14 b15 b16 a17 ca a19 op true a22 a23 a24 = some true := by
        simp only [bursarlaw23_CaptureParts.j2, Bool.false_eq_true, if_false, if_pos hpL, AW, Option.bind_some]
        by_cases h0 : p = 0
        · rw [if_pos h0]
        · rw [if_neg h0, if_pos q2]
      simp only [bursarlaw23_CaptureParts.l0, if_neg hlen]; exact hE
    have h20 : decide (i < 20) = true := decide_eq_true (by omega)
    have ei : wrap64 (i + 1) = i + 1 := wr (by unfold inB; omega)
    have R := cap_p k (by omega) (⟨#[48, 50, 48, 48]⟩ : ByteArray) b1 (⟨#[48, 49, 48, 48, 48, 48]⟩ : ByteArray) (wrap64 (rd l i)) a4 a5 b6 b7 a8 a9 a10 a11 a12 a13 b14 b15 b16 a17 ca a19 op true a22 a23 a24 (by omega) (by omega) w17
    simp only [bursarlaw23_CaptureParts.l0, if_pos hlen, h20, bursarlaw23_CaptureParts.j2, if_true, if_pos hi, R, Option.bind_some, ei]
    rcases cap_cases (⟨#[48, 50, 48, 48]⟩ : ByteArray) b1 (⟨#[48, 49, 48, 48, 48, 48]⟩ : ByteArray) (wrap64 (rd l i)) b6 b7 a12 a13 b14 b15 b16 a17 ca a19 op true a22 a23 a24 with ⟨c, hc, hr⟩ | ⟨hm', hb1, hb2, he, hk', hcd, ha, h⟩
    · rw [hr]
      simp only [outC, no, hc, if_false]
      exact ih k (i + 1) p (wrap64 (rd l i)) ca op (by omega) (by omega) (by omega) hp hpL hca hop hL2 hm
    rcases h with ⟨_, hpp, ho, hl, hr⟩ | ⟨hfo, _, _⟩
    rotate_left
    · cases hfo
    obtain ⟨_, _, _, m4, _, _, _⟩ := mayA_iff.mp hm'
    rw [hr]
    generalize wrap64 (rd l i) = n at *
    have hpl : p < L := by rw [hop] at ho; exact of_decide_eq_true ho
    have hL3 := hL2 hpl
    have e1 : wrap64 (p + n) = p + n := wr (by unfold inB at *; omega)
    have e2 : wrap64 (L - (p + n)) = L - (p + n) := wr (by unfold inB at *; omega)
    have e3 : wrap64 (a17 - (ca + n)) = L - (p + n) := by rw [show a17 - (ca + n) = L - (p + n) by omega]; exact e2
    by_cases hz : ca + n < a17
    · have z1 : decide (ca + n < a17) = true := decide_eq_true hz
      have z2 : L > p + n := by omega
      have hm2 : hmay b14 b15 b16 a17 (ca + n) a19 true = true := hmay_iff.mpr ⟨x1, x2, x3, x4, x5, by omega, by omega, fun _ => hz⟩
      simp only [outC, c00_list, pre_q, Bool.not_false, Bool.true_and, z1, if_true, bursarref14_Left.f, Option.bind_some, e1, e2, e3, if_pos z2]
      exact ih k (i + 1) (p + n) n (ca + n) true (by omega) (by omega) (by omega) (by omega) (by omega) (by omega) (decide_eq_true (by omega)).symm (fun _ => by omega) hm2
    · have z1 : decide (ca + n < a17) = false := decide_eq_false hz
      have z2 : ¬ L > p + n := by omega
      have z3 : L - (p + n) = 0 := by omega
      have e0 : wrap64 0 = 0 := wr (by unfold inB; omega)
      have hm2 : hmay b14 b15 b16 a17 (ca + n) a19 false = true := hmay_iff.mpr ⟨x1, x2, x3, x4, x5, by omega, by omega, fun h => by cases h⟩
      simp only [outC, c00_list, pre_q, Bool.not_false, Bool.true_and, z1, if_true, Bool.false_eq_true, if_false, bursarref14_Left.f, Option.bind_some, e1, e2, z3, e0, if_neg z2]
      exact ih k (i + 1) (p + n) n (ca + n) false (by omega) (by omega) (by omega) (by omega) (by omega) (by omega) (decide_eq_false (by omega)).symm (fun _ => by omega) hm2
theorem parts_pure (a0 : ByteArray) (a1 : ByteArray) (a2 : ByteArray) (a3 : Int) (a4 : ByteArray) (a5 : ByteArray) (a6 : ByteArray) (a7 : ByteArray) (a8 : ByteArray) (a9 : Int) (a10 : Int) (a11 : ByteArray) (a12 : Bool) (a13 : Int) (a14 : ByteArray) (a15 : ByteArray) (a16 : ByteArray) (a17 : Int) (a18 : Int) (a19 : Int) (a20 : Bool) (a21 : Bool) (a22 : Int) (a23 : Int) (a24 : Bool) (l : List Int) (g3 : (Lit.int .i64 a3).wf = true) (g9 : (Lit.int .i64 a9).wf = true) (g10 : (Lit.int .i64 a10).wf = true) (g13 : (Lit.int .i64 a13).wf = true) (g17 : (Lit.int .i64 a17).wf = true) (g18 : (Lit.int .i64 a18).wf = true) (g19 : (Lit.int .i64 a19).wf = true) (g22 : (Lit.int .i64 a22).wf = true) (g23 : (Lit.int .i64 a23).wf = true) (_ : ∀ n ∈ l, (Lit.int .u16 n).wf = true) : bursarlaw23_CaptureParts.f 60 a0 a1 a2 a3 a4 a5 a6 a7 a8 a9 a10 a11 a12 a13 a14 a15 a16 a17 a18 a19 a20 a21 a22 a23 a24 l = some true := by
  obtain ⟨b0, b1, b2, b6, b7, b14, b15, b16, hF, z0, z1, z2, z6, z7, z14, z15, z16⟩ := few_some a0 a1 a2 a3 a4 a5 a6 a7 a8 a9 a10 a11 a12 a13 a14 a15 a16 a17 a18 a19 a20 a21 a22 a23 a24
  unfold bursarlaw23_CaptureParts.f
  rw [hF]
  simp only [Option.bind_some, bursarref14_Left.f, bursarref14_May.f]
  have w17 := inB_of_wf g17
  have w18 := inB_of_wf g18
  have AW := awake_some 59 (by decide)
  have hJ : ∀ (L : Int) (x : ByteArray × Bool), True := fun _ _ => True.intro
  cases a21 with
  | false =>
    cases a20 <;> simp [bursarlaw23_CaptureParts.j0, AW]
  | true =>
  cases hm : hmay b14 b15 b16 a17 a18 a19 a20 with
  | false =>
    cases a20 <;> simp [bursarlaw23_CaptureParts.j0, AW]
  | true =>
    obtain ⟨x1, x2, x3, x4, x5, q1, q2, q3⟩ := hmay_iff.mp hm
    cases a20 with
    | false =>
      have := loop b1 a4 a5 b6 b7 a8 a9 a10 a11 a12 a13 b14 b15 b16 a17 a19 a22 a23 a24 l 0 a18 z7 z14 w17 (by omega) 20 59 0 0 a3 a18 false (by omega) (by omega) (by omega) (by omega) (by omega) (by omega) rfl (fun h => by omega) hm
      simp only [if_true, Option.bind_some, Bool.not_true, bursarlaw23_CaptureParts.j0, Bool.false_eq_true, if_false]
      exact this
    | true =>
      have q4 := q3 rfl
      have e1 : wrap64 (a17 - a18) = a17 - a18 := wr (by unfold inB at *; omega)
      have := loop b1 a4 a5 b6 b7 a8 a9 a10 a11 a12 a13 b14 b15 b16 a17 a19 a22 a23 a24 l (a17 - a18) a18 z7 z14 w17 (by omega) 20 59 0 0 a3 a18 true (by omega) (by omega) (by omega) (by omega) (by omega) (by omega) (decide_eq_true (by omega)).symm (fun _ => rfl) hm
      simp only [if_true, Option.bind_some, Bool.not_true, bursarlaw23_CaptureParts.j0, Bool.false_eq_true, if_false, e1]
      exact this
end Go.Proofs.Ytddlmcaclbkopaa.XCP
