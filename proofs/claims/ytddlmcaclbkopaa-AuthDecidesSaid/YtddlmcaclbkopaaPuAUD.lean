/- Plain laws of authorizations: what the program's and the document's answers are, as one total function; the law holds of it. -/
import Derived.Test.YtddlmcaclbkopaaXAU23
namespace Go.Proofs.Ytddlmcaclbkopaa.XAU
open Go.RowKit Go.Proofs.YtddlmcaclbkopaaW.PrintWords Pu
set_option linter.unusedVariables false
set_option linter.unusedSimpArgs false
theorem text_some (s : ByteArray) : ∃ t, bursarlaw22_text.f s = some t ∧ t.size ≤ 40 := by
  unfold bursarlaw22_text.f
  by_cases h : (s.size : Int) > 40
  · have h2 : 40 ≤ (s.size : Int) := by omega
    simp only [if_pos h, if_pos h2, if_pos (show (0 : Int) ≤ 40 by decide)]
    exact ⟨_, rfl, by rw [ByteArray.size_extract]; omega⟩
  · rw [if_neg h]
    exact ⟨_, rfl, by omega⟩
theorem few_some (a0 : ByteArray) (a1 : ByteArray) (a2 : ByteArray) (a3 : Int) (a4 : ByteArray) (a5 : ByteArray) (a6 : ByteArray) (a7 : ByteArray) (a8 : ByteArray) (a9 : Int) (a10 : Int) (a11 : ByteArray) (a12 : Bool) (a13 : Int) (a14 : ByteArray) (a15 : ByteArray) (a16 : ByteArray) (a17 : Int) (a18 : Int) (a19 : Int) (a20 : Bool) (a21 : Bool) (a22 : Int) (a23 : Int) (a24 : Bool) : ∃ b0 b1 b2 b6 b7 b14 b15 b16 : ByteArray, bursarlaw22_Few.f a0 a1 a2 a3 a4 a5 a6 a7 a8 a9 a10 a11 a12 a13 a14 a15 a16 a17 a18 a19 a20 a21 a22 a23 a24 = some (b0, b1, b2, a3, a4, a5, b6, b7, a8, a9, a10, a11, a12, a13, b14, b15, b16, a17, a18, a19, a20, a21, a22, a23, a24) ∧ b0.size ≤ 40 ∧ b1.size ≤ 40 ∧ b2.size ≤ 40 ∧ b6.size ≤ 40 ∧ b7.size ≤ 40 ∧ b14.size ≤ 40 ∧ b15.size ≤ 40 ∧ b16.size ≤ 40 := by
  obtain ⟨b0, h0, z0⟩ := text_some a0
  obtain ⟨b1, h1, z1⟩ := text_some a1
  obtain ⟨b2, h2, z2⟩ := text_some a2
  obtain ⟨b6, h6, z6⟩ := text_some a6
  obtain ⟨b7, h7, z7⟩ := text_some a7
  obtain ⟨b14, h14, z14⟩ := text_some a14
  obtain ⟨b15, h15, z15⟩ := text_some a15
  obtain ⟨b16, h16, z16⟩ := text_some a16
  refine ⟨b0, b1, b2, b6, b7, b14, b15, b16, ?_, z0, z1, z2, z6, z7, z14, z15, z16⟩
  unfold bursarlaw22_Few.f
  simp only [h0, h1, h2, h6, h7, h14, h15, h16, Option.bind_some]
theorem list_if {p q : ByteArray} {α : Type} {x y : α} : (if p.toList = q.toList then x else y) = (if decide (p = q) = true then x else y) := by
  by_cases h : p = q
  · subst h; simp
  · have h' : ¬ p.toList = q.toList := fun e => h (toList_inj.mp e)
    simp [h, h']
def inB (n : Int) : Prop := -9223372036854775808 ≤ n ∧ n ≤ 9223372036854775807
theorem wr {n : Int} (h : inB n) : wrap64 n = n := by unfold inB at h; unfold wrap64; omega
theorem inB_of_wf {n : Int} (h : (Lit.int .i64 n).wf = true) : inB n := by
  simp only [Lit.wf, IntKind.min, IntKind.max, IntKind.signed, IntKind.bits, Bool.and_eq_true, decide_eq_true_eq, if_true] at h
  unfold inB
  omega
def pre2 (s : ByteArray) (x y : UInt8) : Bool := decide (2 ≤ s.size) && ((s.extract 0 2).toList == [x, y])
theorem has2 (s : ByteArray) (x y : UInt8) : strings_HasPrefix.f s ⟨#[x, y]⟩ = some (pre2 s x y) := by
  unfold strings_HasPrefix.f stringslite_HasPrefix.f pre2
  have e : ((⟨#[x, y]⟩ : ByteArray).size : Int) = 2 := rfl
  have e2 : (⟨#[x, y]⟩ : ByteArray).toList = [x, y] := by rw [ByteArray.toList_eq]
  by_cases h : 2 ≤ s.size
  · have g : (s.size : Int) ≥ 2 := by omega
    have g2 : (2 : Int) ≤ (s.size : Int) := by omega
    rw [e, e2, if_pos g, if_pos (by decide), if_pos g2, decide_eq_true h]
    rfl
  · have g : ¬ (s.size : Int) ≥ 2 := by omega
    rw [e, if_neg g, decide_eq_false h]
    rfl
/-- May a question be? -/
def mayA (pan : ByteArray) (am : Int) (acq rrn r2 c2 p2 : ByteArray) (ap ca un : Int) (op fo : Bool) (tick : Int) : Bool :=
  mayB 1 pan && mayB 2 acq && refB rrn && decide (1 ≤ am) && decide (0 ≤ tick) && decide (tick ≤ 2147483547) && (!fo || (hmay r2 c2 p2 ap ca un op && decide (r2 = rrn) && decide (c2 = acq)))
theorem mayA_iff {pan : ByteArray} {am : Int} {acq rrn r2 c2 p2 : ByteArray} {ap ca un : Int} {op fo : Bool} {tick : Int} : mayA pan am acq rrn r2 c2 p2 ap ca un op fo tick = true ↔ mayB 1 pan = true ∧ mayB 2 acq = true ∧ refB rrn = true ∧ 1 ≤ am ∧ 0 ≤ tick ∧ tick ≤ 2147483547 ∧ (fo = true → hmay r2 c2 p2 ap ca un op = true ∧ r2 = rrn ∧ c2 = acq) := by
  unfold mayA
  simp only [Bool.and_eq_true, decide_eq_true_eq, Bool.or_eq_true, Bool.not_eq_true', and_assoc]
  cases fo <;> simp
theorem may_p (k : Nat) (hk : 1 ≤ k) (a0 : ByteArray) (a1 : ByteArray) (a2 : ByteArray) (a3 : Int) (a4 : ByteArray) (a5 : ByteArray) (a6 : ByteArray) (a7 : ByteArray) (a8 : ByteArray) (a9 : Int) (a10 : Int) (a11 : ByteArray) (a12 : Bool) (a13 : Int) (a14 : ByteArray) (a15 : ByteArray) (a16 : ByteArray) (a17 : Int) (a18 : Int) (a19 : Int) (a20 : Bool) (a21 : Bool) (a22 : Int) (a23 : Int) (a24 : Bool) (h7 : a7.size ≤ 4096) (h14 : a14.size ≤ 4096) : auth_May.f k a0 a1 a2 a3 a4 a5 a6 a7 a8 a9 a10 a11 a12 a13 a14 a15 a16 a17 a18 a19 a20 a21 a22 a23 a24 = some (mayA a1 a3 a6 a7 a14 a15 a16 a17 a18 a19 a20 a21 a22) := by
  obtain ⟨k, rfl⟩ : ∃ m, k = m + 1 := ⟨k - 1, by omega⟩
  unfold auth_May.f chart_May.f hold_Ref.f
  simp only [Option.bind_some, if_pos h7, if_pos h14, hold_May.f, auth_May.j0, list_if, toList_beq]
  unfold mayA
  generalize mayB 1 a1 = x1; generalize mayB 2 a6 = x2; generalize refB a7 = x3; generalize hmay a14 a15 a16 a17 a18 a19 a20 = x4; generalize decide (a14 = a7) = x5; generalize decide (a15 = a6) = x6
  cases x1
  · cases x2 <;> simp
  cases x2
  · simp
  cases x3
  · simp
  by_cases h1 : a3 < 1
  · have e : ¬ 1 ≤ a3 := by omega
    simp [h1, e]
  have e1 : 1 ≤ a3 := by omega
  by_cases h2 : a22 < 0
  · have e : ¬ 0 ≤ a22 := by omega
    simp [h1, h2, e]
  have e2 : 0 ≤ a22 := by omega
  by_cases h3 : a22 > 2147483547
  · have e : ¬ a22 ≤ 2147483547 := by omega
    simp [h1, h2, h3, e]
  have e3 : a22 ≤ 2147483547 := by omega
  have e4 : decide (a22 > 2147483547) = false := decide_eq_false h3
  simp only [h1, h2, e4, e1, e2, e3, if_true, if_false, Bool.false_eq_true, decide_true, Bool.true_and]
  cases a21 <;> cases x4 <;> cases x5 <;> cases x6 <;> simp
theorem may_r (k : Nat) (hk : 1 ≤ k) (a0 : ByteArray) (a1 : ByteArray) (a2 : ByteArray) (a3 : Int) (a4 : ByteArray) (a5 : ByteArray) (a6 : ByteArray) (a7 : ByteArray) (a8 : ByteArray) (a9 : Int) (a10 : Int) (a11 : ByteArray) (a12 : Bool) (a13 : Int) (a14 : ByteArray) (a15 : ByteArray) (a16 : ByteArray) (a17 : Int) (a18 : Int) (a19 : Int) (a20 : Bool) (a21 : Bool) (a22 : Int) (a23 : Int) (a24 : Bool) : bursarref22_May.f k a0 a1 a2 a3 a4 a5 a6 a7 a8 a9 a10 a11 a12 a13 a14 a15 a16 a17 a18 a19 a20 a21 a22 a23 a24 = some (mayA a1 a3 a6 a7 a14 a15 a16 a17 a18 a19 a20 a21 a22) := by
  obtain ⟨k, rfl⟩ : ∃ m, k = m + 1 := ⟨k - 1, by omega⟩
  unfold bursarref22_May.f bursarref11_Name.f bursarref14_Ref.f
  simp only [Option.bind_some, bursarref14_May.f, bursarref22_May.j0, list_if, toList_beq]
  unfold mayA
  generalize mayB 1 a1 = x1; generalize mayB 2 a6 = x2; generalize refB a7 = x3; generalize hmay a14 a15 a16 a17 a18 a19 a20 = x4; generalize decide (a14 = a7) = x5; generalize decide (a15 = a6) = x6
  cases x1
  · cases x2 <;> simp
  cases x2
  · simp
  cases x3
  · simp
  by_cases h1 : a3 ≤ 0
  · have e : ¬ 1 ≤ a3 := by omega
    simp [h1, e]
  have e1 : 1 ≤ a3 := by omega
  by_cases h2 : a22 < 0
  · have e : ¬ 0 ≤ a22 := by omega
    simp [h1, h2, e]
  have e2 : 0 ≤ a22 := by omega
  by_cases h3 : a22 > 2147483547
  · have e : ¬ a22 ≤ 2147483547 := by omega
    simp [h1, h2, h3, e]
  have e3 : a22 ≤ 2147483547 := by omega
  have e4 : decide (a22 > 2147483547) = false := decide_eq_false h3
  simp only [h1, h2, e4, e1, e2, e3, if_true, if_false, Bool.false_eq_true, decide_true, Bool.true_and]
  cases a21 <;> cases x4 <;> cases x5 <;> cases x6 <;> simp
abbrev P6 := Int × Int × ByteArray × ByteArray × ByteArray × Int
def p0 : P6 := (0, 0, ⟨#[]⟩, ⟨#[]⟩, ⟨#[]⟩, 0)
def c00 : ByteArray := ⟨#[48, 48]⟩
def c12 : ByteArray := ⟨#[49, 50]⟩
def c14 : ByteArray := ⟨#[49, 52]⟩
def c25 : ByteArray := ⟨#[50, 53]⟩
def c30 : ByteArray := ⟨#[51, 48]⟩
def c51 : ByteArray := ⟨#[53, 49]⟩
def c54 : ByteArray := ⟨#[53, 52]⟩
def c94 : ByteArray := ⟨#[57, 52]⟩
def c96 : ByteArray := ⟨#[57, 54]⟩
def no (c : ByteArray) : ByteArray × H7 × Bool × P6 := (c, h0, false, p0)
def advB (m : ByteArray) : Bool := (m.toList == [48, 49, 50, 48]) || (m.toList == [48, 50, 50, 48]) || (m.toList == [48, 52, 50, 48])
/-- What comes of a question: the code, the hold, is it new, what is posted. -/
def authT (mti pan code : ByteArray) (am : Int) (acq rrn : ByteArray) (card : Bool) (free : Int) (r2 c2 p2 : ByteArray) (ap ca un : Int) (op fo : Bool) (tick : Int) (early : Bool) : ByteArray × H7 × Bool × P6 :=
  if mayA pan am acq rrn r2 c2 p2 ap ca un op fo tick = true then
    if early = true then no c12
    else if card = true then
      if pre2 code 48 48 = true then
        if fo = true then no c94
        else if (!advB mti && decide (free < am)) = true then no c51
        else if am > 9999999999999 then no c96
        else (c00, (rrn, acq, pan, am, 0, tick + 100, true), true, p0)
      else if pre2 code 48 50 = true then
        if fo = true then
          if p2 = pan then
            if op = true then
              if (!advB mti && decide (free < am)) = true then no c51
              else if ap + am > 9999999999999 then no c96
              else (c00, (r2, c2, p2, ap + am, ca, tick + 100, true), true, p0)
            else no c54
          else no c14
        else no c25
      else no c12
    else no c14
  else no c30
def outC (r : ByteArray × H7 × Bool × P6) : ByteArray × ByteArray × ByteArray × ByteArray × Int × Int × Int × Bool × Bool × Int × Int × ByteArray × ByteArray × ByteArray × Int :=
  (r.1, r.2.1.1, r.2.1.2.1, r.2.1.2.2.1, r.2.1.2.2.2.1, r.2.1.2.2.2.2.1, r.2.1.2.2.2.2.2.1, r.2.1.2.2.2.2.2.2, r.2.2.1, r.2.2.2.1, r.2.2.2.2.1, r.2.2.2.2.2.1, r.2.2.2.2.2.2.1, r.2.2.2.2.2.2.2.1, r.2.2.2.2.2.2.2.2)
theorem adv_p (a0 : ByteArray) (a1 : ByteArray) (a2 : ByteArray) (a3 : Int) (a4 : ByteArray) (a5 : ByteArray) (a6 : ByteArray) (a7 : ByteArray) (a8 : ByteArray) (a9 : Int) (a10 : Int) (a11 : ByteArray) : auth_Advice.f a0 a1 a2 a3 a4 a5 a6 a7 a8 a9 a10 a11 = some (advB a0) := by
  unfold auth_Advice.f advB
  (repeat' split) <;> simp_all
theorem held_p (r2 c2 p2 : ByteArray) (ap ca un : Int) (op : Bool) : auth_held.f r2 c2 p2 ap ca un op = some (outC (if ap > 9999999999999 then no c96 else (c00, (r2, c2, p2, ap, ca, un, op), true, p0))) := by
  unfold auth_held.f auth_Over.f
  simp only [Option.bind_some, decide_eq_true_eq]
  by_cases h : ap > 9999999999999
  · simp only [if_pos h]; rfl
  · simp only [if_neg h]; rfl
theorem auth_p (k : Nat) (hk : 1 ≤ k) (a0 : ByteArray) (a1 : ByteArray) (a2 : ByteArray) (a3 : Int) (a4 : ByteArray) (a5 : ByteArray) (a6 : ByteArray) (a7 : ByteArray) (a8 : ByteArray) (a9 : Int) (a10 : Int) (a11 : ByteArray) (a12 : Bool) (a13 : Int) (a14 : ByteArray) (a15 : ByteArray) (a16 : ByteArray) (a17 : Int) (a18 : Int) (a19 : Int) (a20 : Bool) (a21 : Bool) (a22 : Int) (a23 : Int) (a24 : Bool) (h7 : a7.size ≤ 4096) (h14 : a14.size ≤ 4096) (w3 : inB a3) (w17 : inB a17) : auth_Auth.f k a0 a1 a2 a3 a4 a5 a6 a7 a8 a9 a10 a11 a12 a13 a14 a15 a16 a17 a18 a19 a20 a21 a22 a23 a24 = some (outC (authT a0 a1 a2 a3 a6 a7 a12 a13 a14 a15 a16 a17 a18 a19 a20 a21 a22 a24)) := by
  unfold auth_Auth.f authT
  rw [may_p k hk _ _ _ _ _ _ _ _ _ _ _ _ _ _ _ _ _ _ _ _ _ _ _ _ _ h7 h14]
  simp only [Option.bind_some]
  by_cases hm : mayA a1 a3 a6 a7 a14 a15 a16 a17 a18 a19 a20 a21 a22 = true
  rotate_left
  · rw [if_neg hm, if_neg hm]; rfl
  rw [if_pos hm, if_pos hm, adv_p]
  simp only [Option.bind_some]
  obtain ⟨m1, m2, m3, m4, m5, m6, m7⟩ := mayA_iff.mp hm
  have ht : wrap64 (a22 + 100) = a22 + 100 := wr (by unfold inB; omega)
  rw [ht]
  by_cases he : a24 = true
  · rw [if_pos he, if_pos he]; rfl
  rw [if_neg he, if_neg he]
  by_cases hc : a12 = true
  rotate_left
  · rw [if_neg hc, if_neg hc]; rfl
  rw [if_pos hc, if_pos hc, has2, has2]
  simp only [Option.bind_some]
  by_cases k0 : pre2 a2 48 48 = true
  · rw [if_pos k0, if_pos k0]
    by_cases hf : a21 = true
    · rw [if_pos hf, if_pos hf]; rfl
    rw [if_neg hf, if_neg hf]
    by_cases hs : (!advB a0 && decide (a13 < a3)) = true
    · rw [if_pos hs, if_pos hs]; rfl
    rw [if_neg hs, if_neg hs, held_p]
  rw [if_neg k0, if_neg k0]
  by_cases k2 : pre2 a2 48 50 = true
  rotate_left
  · rw [if_neg k2, if_neg k2]; rfl
  rw [if_pos k2, if_pos k2]
  by_cases hf : a21 = true
  rotate_left
  · rw [if_neg hf, if_neg hf]; rfl
  rw [if_pos hf, if_pos hf]
  by_cases hp : a16 = a1
  rotate_left
  · rw [if_neg hp, if_neg hp]; rfl
  rw [if_pos hp, if_pos hp]
  by_cases ho : a20 = true
  rotate_left
  · rw [if_neg ho, if_neg ho]; rfl
  rw [if_pos ho, if_pos ho]
  by_cases hs : (!advB a0 && decide (a13 < a3)) = true
  · rw [if_pos hs, if_pos hs]; rfl
  rw [if_neg hs, if_neg hs]
  obtain ⟨g1, g2, g3⟩ := m7 hf
  subst ho; subst hp
  obtain ⟨_, _, _, _, _, q1, q2, q3⟩ := hmay_iff.mp g1
  unfold hold_More.f moreS wrongS
  rw [if_pos ⟨h14, w17, w3⟩, if_pos g1, if_pos rfl, if_neg (by omega)]
  rw [if_neg (by omega)]
  by_cases hi : inI64 (a17 + a3)
  · have hd : decide (a18 < a17 + a3) = true := decide_eq_true (by omega)
    simp only [if_pos hi, Option.bind_some, if_true, held_p, hd]
  · have hg : a17 + a3 > 9999999999999 := by unfold inI64 at hi; omega
    simp only [if_neg hi, Option.bind_some, if_pos hg]
    rfl
theorem c00_list : c00.toList = [48, 48] := by rw [ByteArray.toList_eq]; rfl
theorem nil_list : (⟨#[]⟩ : ByteArray).toList = [] := by rw [ByteArray.toList_eq]
theorem awake_some (k : Nat) (hk : 1 ≤ k) : bursarlaw22_awake.f k = some true := by
  unfold bursarlaw22_awake.f bursarlaw22_some.f
  simp only [Option.bind_some]
  rw [auth_p k hk]
  rotate_left
  · decide
  · decide
  · unfold inB; decide
  · unfold inB; decide
  simp only [Option.bind_some]
  rw [auth_p k hk]
  rotate_left
  · decide
  · decide
  · unfold inB; decide
  · unfold inB; decide
  simp only [Option.bind_some]
  rw [auth_p k hk]
  rotate_left
  · decide
  · decide
  · unfold inB; decide
  · unfold inB; decide
  simp only [Option.bind_some, ByteArray.toList_eq]
  kernel_rfl
theorem auth_cases (mti pan code : ByteArray) (am : Int) (acq rrn : ByteArray) (card : Bool) (free : Int) (r2 c2 p2 : ByteArray) (ap ca un : Int) (op fo : Bool) (tick : Int) (early : Bool) :
    (∃ c : ByteArray, c.toList ≠ [48, 48] ∧ authT mti pan code am acq rrn card free r2 c2 p2 ap ca un op fo tick early = no c) ∨
    (mayA pan am acq rrn r2 c2 p2 ap ca un op fo tick = true ∧ early = false ∧ card = true ∧ (advB mti = true ∨ am ≤ free) ∧
      ((pre2 code 48 48 = true ∧ fo = false ∧ am ≤ 9999999999999 ∧ authT mti pan code am acq rrn card free r2 c2 p2 ap ca un op fo tick early = (c00, (rrn, acq, pan, am, 0, tick + 100, true), true, p0)) ∨
       (pre2 code 48 48 = false ∧ pre2 code 48 50 = true ∧ fo = true ∧ p2 = pan ∧ op = true ∧ ap + am ≤ 9999999999999 ∧ authT mti pan code am acq rrn card free r2 c2 p2 ap ca un op fo tick early = (c00, (r2, c2, p2, ap + am, ca, tick + 100, true), true, p0)))) := by
  have q12 : c12.toList ≠ [48, 48] := by rw [ByteArray.toList_eq]; decide
  have q14 : c14.toList ≠ [48, 48] := by rw [ByteArray.toList_eq]; decide
  have q25 : c25.toList ≠ [48, 48] := by rw [ByteArray.toList_eq]; decide
  have q30 : c30.toList ≠ [48, 48] := by rw [ByteArray.toList_eq]; decide
  have q51 : c51.toList ≠ [48, 48] := by rw [ByteArray.toList_eq]; decide
  have q54 : c54.toList ≠ [48, 48] := by rw [ByteArray.toList_eq]; decide
  have q94 : c94.toList ≠ [48, 48] := by rw [ByteArray.toList_eq]; decide
  have q96 : c96.toList ≠ [48, 48] := by rw [ByteArray.toList_eq]; decide
  have hsh : ¬ (!advB mti && decide (free < am)) = true → advB mti = true ∨ am ≤ free := fun h => by
    cases ha : advB mti with
    | true => exact .inl rfl
    | false => rw [ha] at h; simp at h; exact .inr (by omega)
  unfold authT
  by_cases h1 : mayA pan am acq rrn r2 c2 p2 ap ca un op fo tick = true
  rotate_left
  · rw [if_neg h1]; exact .inl ⟨_, q30, rfl⟩
  rw [if_pos h1]
  cases early with
  | true => exact .inl ⟨_, q12, rfl⟩
  | false =>
  rw [if_neg (show ¬ (false = true) by decide)]
  cases card with
  | false => exact .inl ⟨_, q14, rfl⟩
  | true =>
  rw [if_pos rfl]
  by_cases k0 : pre2 code 48 48 = true
  · rw [if_pos k0]
    cases fo with
    | true => exact .inl ⟨_, q94, rfl⟩
    | false =>
    rw [if_neg (show ¬ (false = true) by decide)]
    by_cases hs : (!advB mti && decide (free < am)) = true
    · rw [if_pos hs]; exact .inl ⟨_, q51, rfl⟩
    rw [if_neg hs]
    by_cases ha : am > 9999999999999
    · rw [if_pos ha]; exact .inl ⟨_, q96, rfl⟩
    rw [if_neg ha]
    exact .inr ⟨h1, rfl, rfl, hsh hs, .inl ⟨k0, rfl, by omega, rfl⟩⟩
  rw [if_neg k0]
  by_cases k2 : pre2 code 48 50 = true
  rotate_left
  · rw [if_neg k2]; exact .inl ⟨_, q12, rfl⟩
  rw [if_pos k2]
  cases fo with
  | false => exact .inl ⟨_, q25, rfl⟩
  | true =>
  rw [if_pos rfl]
  by_cases hp : p2 = pan
  rotate_left
  · rw [if_neg hp]; exact .inl ⟨_, q14, rfl⟩
  rw [if_pos hp]
  cases op with
  | false => exact .inl ⟨_, q54, rfl⟩
  | true =>
  rw [if_pos rfl]
  by_cases hs : (!advB mti && decide (free < am)) = true
  · rw [if_pos hs]; exact .inl ⟨_, q51, rfl⟩
  rw [if_neg hs]
  by_cases ha : ap + am > 9999999999999
  · rw [if_pos ha]; exact .inl ⟨_, q96, rfl⟩
  rw [if_neg ha]
  exact .inr ⟨h1, rfl, rfl, hsh hs, .inr ⟨Bool.eq_false_iff.mpr k0, k2, rfl, hp, rfl, by omega, rfl⟩⟩
theorem advR_p (a0 : ByteArray) (a1 : ByteArray) (a2 : ByteArray) (a3 : Int) (a4 : ByteArray) (a5 : ByteArray) (a6 : ByteArray) (a7 : ByteArray) (a8 : ByteArray) (a9 : Int) (a10 : Int) (a11 : ByteArray) : bursarref22_Advice.f a0 a1 a2 a3 a4 a5 a6 a7 a8 a9 a10 a11 = some (advB a0) := by
  unfold bursarref22_Advice.f advB
  (repeat' split) <;> simp_all
theorem sum_two (k : Nat) (hk : 12 ≤ k) (x y : Int) (h0 : 0 ≤ x) (h1 : 0 < y) (h2 : x ≤ 9223372036854775807) (h3 : y ≤ 9223372036854775807) :
    bursarref01_Sum.f k [x, y] = some (if x + y ≤ 9223372036854775807 then (x + y, true) else (0, false)) := by
  obtain ⟨k, rfl⟩ : ∃ m, k = m + 12 := ⟨k - 12, by omega⟩
  have r0 : rd [x, y] 0 = x := rfl
  have r1 : rd [x, y] 1 = y := rfl
  have w1 : wrap64 (0 + 1) = 1 := wr (by unfold inB; omega)
  have w2 : wrap64 (1 + 1) = 2 := wr (by unfold inB; omega)
  have w3 : wrap64 (9223372036854775807 - x) = 9223372036854775807 - x := wr (by unfold inB; omega)
  have w4 : wrap64 (9223372036854775807 - y) = 9223372036854775807 - y := wr (by unfold inB; omega)
  have w5 : wrap64 (0 + x) = x := by rw [Int.zero_add]; exact wr (by unfold inB; omega)
  have g1 : ¬ (0 : Int) > 9223372036854775807 - x := by omega
  have g2 : ¬ x < 0 := by omega
  have g3 : ¬ y < 0 := by omega
  have g4 : y ≥ 0 := by omega
  have step0 : bursarref01_Sum.f (k + 12) [x, y] = bursarref01_Sum.l1 (k + 9) [x, y] [] 0 0 0 := by
    have a1 : bursarref01_Sum.l0 (k + 12) [x, y] [] [] 0 = bursarref01_Sum.l0 (k + 11) [x, y] [x] [] 1 := by
      conv => lhs; rw [bursarref01_Sum.l0]
      simp only [List.length_cons, List.length_nil]
      rw [if_pos (by decide), if_pos (by decide), r0, if_pos (show x ≥ 0 from h0), if_pos (by decide), w1]; rfl
    have a2 : bursarref01_Sum.l0 (k + 11) [x, y] [x] [] 1 = bursarref01_Sum.l0 (k + 10) [x, y] [x, y] [] 2 := by
      conv => lhs; rw [bursarref01_Sum.l0]
      simp only [List.length_cons, List.length_nil]
      rw [if_pos (by decide), if_pos (by decide), r1, if_pos g4, if_pos (by decide), w2]; rfl
    have a3 : bursarref01_Sum.l0 (k + 10) [x, y] [x, y] [] 2 = bursarref01_Sum.l1 (k + 9) [x, y] [] 0 0 0 := by
      conv => lhs; rw [bursarref01_Sum.l0]
      simp only [List.length_cons, List.length_nil]
      rw [if_neg (by decide)]
    unfold bursarref01_Sum.f
    rw [a1, a2, a3]
  have step1 : bursarref01_Sum.l1 (k + 9) [x, y] [] 0 0 0 = bursarref01_Sum.l1 (k + 6) [x, y] [] x 1 0 := by
    conv => lhs; rw [bursarref01_Sum.l1]
    simp only [List.length_cons, List.length_nil]
    rw [if_pos (by decide), bursarref01_Sum.j2]
    simp only [List.length_nil, if_true]
    rw [if_pos (by decide), bursarref01_Sum.j3]
    simp only [List.length_cons, List.length_nil, if_true]
    rw [if_pos (by decide), if_pos (by decide), r0, w3, w5, w1, if_neg g1, if_neg g2]
    by_cases hx : x > 0
    · rw [if_pos hx]
    · rw [if_neg hx]
  have step2 : bursarref01_Sum.l1 (k + 6) [x, y] [] x 1 0 = if x > 9223372036854775807 - y then some (0, false) else bursarref01_Sum.l1 (k + 3) [x, y] [] (wrap64 (x + y)) 2 0 := by
    conv => lhs; rw [bursarref01_Sum.l1]
    simp only [List.length_cons, List.length_nil]
    rw [if_pos (by decide), bursarref01_Sum.j2]
    simp only [List.length_nil, if_true]
    rw [if_pos (by decide), bursarref01_Sum.j3]
    simp only [List.length_cons, List.length_nil, if_true]
    rw [if_pos (by decide), if_pos (by decide), r1, w4, w2, if_pos (show y > 0 from h1), if_neg g3]
  rw [step0, step1, step2]
  by_cases hs : x + y ≤ 9223372036854775807
  · have w6 : wrap64 (x + y) = x + y := wr (by unfold inB; omega)
    rw [if_neg (by omega), if_pos hs, w6]
    rw [bursarref01_Sum.l1]
    simp only [List.length_cons, List.length_nil]
    rw [if_neg (by decide), bursarref01_Sum.j2, if_neg (by decide)]
  · rw [if_pos (by omega), if_neg hs]
theorem auth_r (k : Nat) (hk : 20 ≤ k) (a0 : ByteArray) (a1 : ByteArray) (a2 : ByteArray) (a3 : Int) (a4 : ByteArray) (a5 : ByteArray) (a6 : ByteArray) (a7 : ByteArray) (a8 : ByteArray) (a9 : Int) (a10 : Int) (a11 : ByteArray) (a12 : Bool) (a13 : Int) (a14 : ByteArray) (a15 : ByteArray) (a16 : ByteArray) (a17 : Int) (a18 : Int) (a19 : Int) (a20 : Bool) (a21 : Bool) (a22 : Int) (a23 : Int) (a24 : Bool) (w3 : inB a3) (w17 : inB a17) : bursarref22_Auth.f k a0 a1 a2 a3 a4 a5 a6 a7 a8 a9 a10 a11 a12 a13 a14 a15 a16 a17 a18 a19 a20 a21 a22 a23 a24 = some (outC (authT a0 a1 a2 a3 a6 a7 a12 a13 a14 a15 a16 a17 a18 a19 a20 a21 a22 a24)) := by
  obtain ⟨k, rfl⟩ : ∃ m, k = m + 20 := ⟨k - 20, by omega⟩
  unfold bursarref22_Auth.f authT
  rw [may_r (k + 20) (by omega)]
  simp only [Option.bind_some]
  by_cases hm : mayA a1 a3 a6 a7 a14 a15 a16 a17 a18 a19 a20 a21 a22 = true
  rotate_left
  · rw [if_neg hm, if_neg hm]; rfl
  rw [if_pos hm, if_pos hm]
  obtain ⟨m1, m2, m3, m4, m5, m6, m7⟩ := mayA_iff.mp hm
  have ht : wrap64 (a22 + 100) = a22 + 100 := wr (by unfold inB; omega)
  by_cases he : a24 = true
  · rw [if_pos he, if_pos he]; rfl
  rw [if_neg he, if_neg he]
  by_cases hc : a12 = true
  rotate_left
  · rw [if_neg hc, if_neg hc]; rfl
  rw [if_pos hc, if_pos hc]
  have hJ : ∃ kind : ByteArray, (if (a2.size : Int) ≥ 2 then (if 2 ≤ (a2.size : Int) then bursarref22_Auth.j0 (k + 20) (a2.extract 0 2) a0 a1 a2 a3 a4 a5 a6 a7 a8 a9 a10 a11 a12 a13 a14 a15 a16 a17 a18 a19 a20 a21 a22 a23 a24 else none) else bursarref22_Auth.j0 (k + 20) (⟨#[]⟩ : ByteArray) a0 a1 a2 a3 a4 a5 a6 a7 a8 a9 a10 a11 a12 a13 a14 a15 a16 a17 a18 a19 a20 a21 a22 a23 a24) = bursarref22_Auth.j0 (k + 20) kind a0 a1 a2 a3 a4 a5 a6 a7 a8 a9 a10 a11 a12 a13 a14 a15 a16 a17 a18 a19 a20 a21 a22 a23 a24 ∧ (∀ x y : UInt8, (kind.toList == [x, y]) = pre2 a2 x y) := by
    by_cases h : 2 ≤ a2.size
    · have h1 : (a2.size : Int) ≥ 2 := by omega
      have h2 : 2 ≤ (a2.size : Int) := by omega
      exact ⟨a2.extract 0 2, by rw [if_pos h1, if_pos h2], fun x y => by unfold pre2; rw [decide_eq_true h, Bool.true_and]⟩
    · have h1 : ¬ (a2.size : Int) ≥ 2 := by omega
      exact ⟨⟨#[]⟩, by rw [if_neg h1], fun x y => by unfold pre2; rw [decide_eq_false h, Bool.false_and, ByteArray.toList_eq]; rfl⟩
  obtain ⟨kind, hJ, hk⟩ := hJ
  rw [hJ]
  have hk0 := hk 48 48
  have hk2 := hk 48 50
  have hJ2 : bursarref22_Auth.j0 (k + 20) kind a0 a1 a2 a3 a4 a5 a6 a7 a8 a9 a10 a11 a12 a13 a14 a15 a16 a17 a18 a19 a20 a21 a22 a23 a24 = bursarref22_Auth.j1 (k + 19) kind (!advB a0 && decide (a13 < a3)) a0 a1 a2 a3 a4 a5 a6 a7 a8 a9 a10 a11 a12 a13 a14 a15 a16 a17 a18 a19 a20 a21 a22 a23 a24 := by
    simp only [bursarref22_Auth.j0, advR_p, Option.bind_some]
    cases advB a0 with
    | true => rfl
    | false => rfl
  rw [hJ2]
  have li : ∀ (x y : UInt8), (kind.toList = [x, y]) = (pre2 a2 x y = true) := fun x y => by rw [← hk x y]; simp
  simp only [bursarref22_Auth.j1, li, ht, bursarref22_no.f, Option.bind_some, list_if]
  by_cases k0 : pre2 a2 48 48 = true
  · rw [if_pos k0, if_pos k0]
    by_cases hf : a21 = true
    · rw [if_pos hf, if_pos hf]; rfl
    rw [if_neg hf, if_neg hf]
    by_cases hs : (!advB a0 && decide (a13 < a3)) = true
    · rw [if_pos hs, if_pos hs]; rfl
    rw [if_neg hs, if_neg hs]
    by_cases ha : a3 > 9999999999999
    · rw [if_pos ha, if_pos ha]; rfl
    · rw [if_neg ha, if_neg ha]; rfl
  rw [if_neg k0, if_neg k0]
  by_cases k2 : pre2 a2 48 50 = true
  rotate_left
  · rw [if_neg k2, if_neg k2]; rfl
  rw [if_pos k2, if_pos k2]
  by_cases hf : a21 = true
  rotate_left
  · rw [if_neg hf, if_neg hf]; rfl
  rw [if_pos hf, if_pos hf]
  by_cases hp : a16 = a1
  rotate_left
  · rw [if_neg (by simpa using hp), if_neg hp]; rfl
  rw [if_pos (by simpa using hp), if_pos hp]
  by_cases ho : a20 = true
  rotate_left
  · rw [if_neg ho, if_neg ho]; rfl
  rw [if_pos ho, if_pos ho]
  by_cases hs : (!advB a0 && decide (a13 < a3)) = true
  · rw [if_pos hs, if_pos hs]; rfl
  rw [if_neg hs, if_neg hs]
  obtain ⟨g1, g2, g3⟩ := m7 hf
  subst ho; subst hp
  obtain ⟨_, _, _, _, _, q1, q2, q3⟩ := hmay_iff.mp g1
  have e1 : ¬ a3 ≤ 0 := by omega
  have e2 : ¬ a22 + 100 < 0 := by omega
  have e3 : decide (a22 + 100 > 2147483647) = false := decide_eq_false (by omega)
  have hS := sum_two (k + 17) (by omega) a17 a3 (by omega) (by omega) w17.2 w3.2
  simp only [bursarref14_More.f, bursarref14_wrong.f, bursarref14_May.f, Option.bind_some, g1, if_true, if_neg e1, if_neg e2, e3, bursarref14_More.j0, Bool.false_eq_true, if_false, hS]
  by_cases hi : a17 + a3 ≤ 9223372036854775807
  · simp only [if_pos hi, if_true, Option.bind_some]
    by_cases hg : a17 + a3 > 9999999999999
    · simp only [if_pos hg]; rfl
    · simp only [if_neg hg]; rfl
  · have hg : a17 + a3 > 9999999999999 := by omega
    simp only [if_neg hi, Bool.false_eq_true, if_false, Option.bind_some, if_pos hg]
    rfl
theorem decides_pure (a0 : ByteArray) (a1 : ByteArray) (a2 : ByteArray) (a3 : Int) (a4 : ByteArray) (a5 : ByteArray) (a6 : ByteArray) (a7 : ByteArray) (a8 : ByteArray) (a9 : Int) (a10 : Int) (a11 : ByteArray) (a12 : Bool) (a13 : Int) (a14 : ByteArray) (a15 : ByteArray) (a16 : ByteArray) (a17 : Int) (a18 : Int) (a19 : Int) (a20 : Bool) (a21 : Bool) (a22 : Int) (a23 : Int) (a24 : Bool) (g3 : (Lit.int .i64 a3).wf = true) (g9 : (Lit.int .i64 a9).wf = true) (g10 : (Lit.int .i64 a10).wf = true) (g13 : (Lit.int .i64 a13).wf = true) (g17 : (Lit.int .i64 a17).wf = true) (g18 : (Lit.int .i64 a18).wf = true) (g19 : (Lit.int .i64 a19).wf = true) (g22 : (Lit.int .i64 a22).wf = true) (g23 : (Lit.int .i64 a23).wf = true) : bursarlaw22_AuthDecides.f 30 a0 a1 a2 a3 a4 a5 a6 a7 a8 a9 a10 a11 a12 a13 a14 a15 a16 a17 a18 a19 a20 a21 a22 a23 a24 = some true := by
  obtain ⟨b0, b1, b2, b6, b7, b14, b15, b16, hF, z0, z1, z2, z6, z7, z14, z15, z16⟩ := few_some a0 a1 a2 a3 a4 a5 a6 a7 a8 a9 a10 a11 a12 a13 a14 a15 a16 a17 a18 a19 a20 a21 a22 a23 a24
  unfold bursarlaw22_AuthDecides.f
  rw [hF]
  simp only [Option.bind_some]
  rw [auth_p 30 (by decide) _ _ _ _ _ _ _ _ _ _ _ _ _ _ _ _ _ _ _ _ _ _ _ _ _ (by omega) (by omega) (inB_of_wf g3) (inB_of_wf g17), auth_r 30 (by decide) _ _ _ _ _ _ _ _ _ _ _ _ _ _ _ _ _ _ _ _ _ _ _ _ _ (inB_of_wf g3) (inB_of_wf g17), awake_some 30 (by decide), may_p 30 (by decide) _ _ _ _ _ _ _ _ _ _ _ _ _ _ _ _ _ _ _ _ _ _ _ _ _ (by omega) (by omega), may_r 30 (by decide), adv_p, advR_p]
  unfold auth_Over.f
  simp only [Option.bind_some, beq_self_eq_true, Bool.and_self, if_true, decide_eq_true_eq]
  by_cases h : a17 > 9999999999999
  · simp only [if_pos h]
  · simp only [if_neg h]
end Go.Proofs.Ytddlmcaclbkopaa.XAU
