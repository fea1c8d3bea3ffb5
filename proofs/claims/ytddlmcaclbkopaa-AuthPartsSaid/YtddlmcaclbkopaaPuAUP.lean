/- Plain laws of authorizations: what the program's and the document's answers are, as one total function; the law holds of it. -/
import Derived.Test.YtddlmcaclbkopaaXAU26
namespace Go.Proofs.Ytddlmcaclbkopaa.XAU
open Go.RowKit Go.Proofs.YtddlmcaclbkopaaW.PrintWords Pu
set_option linter.unusedVariables false
set_option linter.unusedSimpArgs false
theorem text_some (s : ByteArray) : ∃ t, bursarlaw22_text.f s = some t ∧ t.size ≤ 40 := by
  unfold bursarlaw22_text.f
  by_cases h : (s.size : Int) > 40
  · have h2 : 40 ≤ (s.size : Int) := by omega
    simp only [if_pos h, if_pos h2, if_pos (show (0 : Int) ≤ 40 by decide)]
    exact ⟨_, rfl, by rw [ByteArray.size_extract]; omega⟩
  · rw [if_neg h]
    exact ⟨_, rfl, by omega⟩
theorem few_some (a0 : ByteArray) (a1 : ByteArray) (a2 : ByteArray) (a3 : Int) (a4 : ByteArray) (a5 : ByteArray) (a6 : ByteArray) (a7 : ByteArray) (a8 : ByteArray) (a9 : Int) (a10 : Int) (a11 : ByteArray) (a12 : Bool) (a13 : Int) (a14 : ByteArray) (a15 : ByteArray) (a16 : ByteArray) (a17 : Int) (a18 : Int) (a19 : Int) (a20 : Bool) (a21 : Bool) (a22 : Int) (a23 : Int) (a24 : Bool) : ∃ b0 b1 b2 b6 b7 b14 b15 b16 : ByteArray, bursarlaw22_Few.f a0 a1 a2 a3 a4 a5 a6 a7 a8 a9 a10 a11 a12 a13 a14 a15 a16 a17 a18 a19 a20 a21 a22 a23 a24 = some (b0, b1, b2, a3, a4, a5, b6, b7, a8, a9, a10, a11, a12, a13, b14, b15, b16, a17, a18, a19, a20, a21, a22, a23, a24) ∧ b0.size ≤ 40 ∧ b1.size ≤ 40 ∧ b2.size ≤ 40 ∧ b6.size ≤ 40 ∧ b7.size ≤ 40 ∧ b14.size ≤ 40 ∧ b15.size ≤ 40 ∧ b16.size ≤ 40 := by
  obtain ⟨b0, h0, z0⟩ := text_some a0
  obtain ⟨b1, h1, z1⟩ := text_some a1
  obtain ⟨b2, h2, z2⟩ := text_some a2
  obtain ⟨b6, h6, z6⟩ := text_some a6
  obtain ⟨b7, h7, z7⟩ := text_some a7
  obtain ⟨b14, h14, z14⟩ := text_some a14
  obtain ⟨b15, h15, z15⟩ := text_some a15
  obtain ⟨b16, h16, z16⟩ := text_some a16
  refine ⟨b0, b1, b2, b6, b7, b14, b15, b16, ?_, z0, z1, z2, z6, z7, z14, z15, z16⟩
  unfold bursarlaw22_Few.f
  simp only [h0, h1, h2, h6, h7, h14, h15, h16, Option.bind_some]
theorem list_if {p q : ByteArray} {α : Type} {x y : α} : (if p.toList = q.toList then x else y) = (if decide (p = q) = true then x else y) := by
  by_cases h : p = q
  · subst h; simp
  · have h' : ¬ p.toList = q.toList := fun e => h (toList_inj.mp e)
    simp [h, h']
def inB (n : Int) : Prop := -9223372036854775808 ≤ n ∧ n ≤ 9223372036854775807
theorem wr {n : Int} (h : inB n) : wrap64 n = n := by unfold inB at h; unfold wrap64; omega
theorem inB_of_wf {n : Int} (h : (Lit.int .i64 n).wf = true) : inB n := by
  simp only [Lit.wf, IntKind.min, IntKind.max, IntKind.signed, IntKind.bits, Bool.and_eq_true, decide_eq_true_eq, if_true] at h
  unfold inB
  omega
def pre2 (s : ByteArray) (x y : UInt8) : Bool := decide (2 ≤ s.size) && ((s.extract 0 2).toList == [x, y])
theorem has2 (s : ByteArray) (x y : UInt8) : strings_HasPrefix.f s ⟨#[x, y]⟩ = some (pre2 s x y) := by
  unfold strings_HasPrefix.f stringslite_HasPrefix.f pre2
  have e : ((⟨#[x, y]⟩ : ByteArray).size : Int) = 2 := rfl
  have e2 : (⟨#[x, y]⟩ : ByteArray).toList = [x, y] := by rw [ByteArray.toList_eq]
  by_cases h : 2 ≤ s.size
  · have g : (s.size : Int) ≥ 2 := by omega
    have g2 : (2 : Int) ≤ (s.size : Int) := by omega
    rw [e, e2, if_pos g, if_pos (by decide), if_pos g2, decide_eq_true h]
    rfl
  · have g : ¬ (s.size : Int) ≥ 2 := by omega
    rw [e, if_neg g, decide_eq_false h]
    rfl
/-- May a question be? -/
def mayA (pan : ByteArray) (am : Int) (acq rrn r2 c2 p2 : ByteArray) (ap ca un : Int) (op fo : Bool) (tick : Int) : Bool :=
  mayB 1 pan && mayB 2 acq && refB rrn && decide (1 ≤ am) && decide (0 ≤ tick) && decide (tick ≤ 2147483547) && (!fo || (hmay r2 c2 p2 ap ca un op && decide (r2 = rrn) && decide (c2 = acq)))
theorem mayA_iff {pan : ByteArray} {am : Int} {acq rrn r2 c2 p2 : ByteArray} {ap ca un : Int} {op fo : Bool} {tick : Int} : mayA pan am acq rrn r2 c2 p2 ap ca un op fo tick = true ↔ mayB 1 pan = true ∧ mayB 2 acq = true ∧ refB rrn = true ∧ 1 ≤ am ∧ 0 ≤ tick ∧ tick ≤ 2147483547 ∧ (fo = true → hmay r2 c2 p2 ap ca un op = true ∧ r2 = rrn ∧ c2 = acq) := by
  unfold mayA
  simp only [Bool.and_eq_true, decide_eq_true_eq, Bool.or_eq_true, Bool.not_eq_true', and_assoc]
  cases fo <;> simp
theorem may_p (k : Nat) (hk : 1 ≤ k) (a0 : ByteArray) (a1 : ByteArray) (a2 : ByteArray) (a3 : Int) (a4 : ByteArray) (a5 : ByteArray) (a6 : ByteArray) (a7 : ByteArray) (a8 : ByteArray) (a9 : Int) (a10 : Int) (a11 : ByteArray) (a12 : Bool) (a13 : Int) (a14 : ByteArray) (a15 : ByteArray) (a16 : ByteArray) (a17 : Int) (a18 : Int) (a19 : Int) (a20 : Bool) (a21 : Bool) (a22 : Int) (a23 : Int) (a24 : Bool) (h7 : a7.size ≤ 4096) (h14 : a14.size ≤ 4096) : auth_May.f k a0 a1 a2 a3 a4 a5 a6 a7 a8 a9 a10 a11 a12 a13 a14 a15 a16 a17 a18 a19 a20 a21 a22 a23 a24 = some (mayA a1 a3 a6 a7 a14 a15 a16 a17 a18 a19 a20 a21 a22) := by
  obtain ⟨k, rfl⟩ : ∃ m, k = m + 1 := ⟨k - 1, by omega⟩
  unfold auth_May.f chart_May.f hold_Ref.f
  simp only [Option.bind_some, if_pos h7, if_pos h14, hold_May.f, auth_May.j0, list_if, toList_beq]
  unfold mayA
  generalize mayB 1 a1 = x1; generalize mayB 2 a6 = x2; generalize refB a7 = x3; generalize hmay a14 a15 a16 a17 a18 a19 a20 = x4; generalize decide (a14 = a7) = x5; generalize decide (a15 = a6) = x6
  cases x1
  · cases x2 <;> simp
  cases x2
  · simp
  cases x3
  · simp
  by_cases h1 : a3 < 1
  · have e : ¬ 1 ≤ a3 := by omega
    simp [h1, e]
  have e1 : 1 ≤ a3 := by omega
  by_cases h2 : a22 < 0
  · have e : ¬ 0 ≤ a22 := by omega
    simp [h1, h2, e]
  have e2 : 0 ≤ a22 := by omega
  by_cases h3 : a22 > 2147483547
  · have e : ¬ a22 ≤ 2147483547 := by omega
    simp [h1, h2, h3, e]
  have e3 : a22 ≤ 2147483547 := by omega
  have e4 : decide (a22 > 2147483547) = false := decide_eq_false h3
  simp only [h1, h2, e4, e1, e2, e3, if_true, if_false, Bool.false_eq_true, decide_true, Bool.true_and]
  cases a21 <;> cases x4 <;> cases x5 <;> cases x6 <;> simp
abbrev P6 := Int × Int × ByteArray × ByteArray × ByteArray × Int
def p0 : P6 := (0, 0, ⟨#[]⟩, ⟨#[]⟩, ⟨#[]⟩, 0)
def c00 : ByteArray := ⟨#[48, 48]⟩
def c12 : ByteArray := ⟨#[49, 50]⟩
def c14 : ByteArray := ⟨#[49, 52]⟩
def c25 : ByteArray := ⟨#[50, 53]⟩
def c30 : ByteArray := ⟨#[51, 48]⟩
def c51 : ByteArray := ⟨#[53, 49]⟩
def c54 : ByteArray := ⟨#[53, 52]⟩
def c94 : ByteArray := ⟨#[57, 52]⟩
def c96 : ByteArray := ⟨#[57, 54]⟩
def no (c : ByteArray) : ByteArray × H7 × Bool × P6 := (c, h0, false, p0)
def advB (m : ByteArray) : Bool := (m.toList == [48, 49, 50, 48]) || (m.toList == [48, 50, 50, 48]) || (m.toList == [48, 52, 50, 48])
/-- What comes of a question: the code, the hold, is it new, what is posted. -/
def authT (mti pan code : ByteArray) (am : Int) (acq rrn : ByteArray) (card : Bool) (free : Int) (r2 c2 p2 : ByteArray) (ap ca un : Int) (op fo : Bool) (tick : Int) (early : Bool) : ByteArray × H7 × Bool × P6 :=
  if mayA pan am acq rrn r2 c2 p2 ap ca un op fo tick = true then
    if early = true then no c12
    else if card = true then
      if pre2 code 48 48 = true then
        if fo = true then no c94
        else if (!advB mti && decide (free < am)) = true then no c51
        else if am > 9999999999999 then no c96
        else (c00, (rrn, acq, pan, am, 0, tick + 100, true), true, p0)
      else if pre2 code 48 50 = true then
        if fo = true then
          if p2 = pan then
            if op = true then
              if (!advB mti && decide (free < am)) = true then no c51
              else if ap + am > 9999999999999 then no c96
              else (c00, (r2, c2, p2, ap + am, ca, tick + 100, true), true, p0)
            else no c54
          else no c14
        else no c25
      else no c12
    else no c14
  else no c30
def outC (r : ByteArray × H7 × Bool × P6) : ByteArray × ByteArray × ByteArray × ByteArray × Int × Int × Int × Bool × Bool × Int × Int × ByteArray × ByteArray × ByteArray × Int :=
  (r.1, r.2.1.1, r.2.1.2.1, r.2.1.2.2.1, r.2.1.2.2.2.1, r.2.1.2.2.2.2.1, r.2.1.2.2.2.2.2.1, r.2.1.2.2.2.2.2.2, r.2.2.1, r.2.2.2.1, r.2.2.2.2.1, r.2.2.2.2.2.1, r.2.2.2.2.2.2.1, r.2.2.2.2.2.2.2.1, r.2.2.2.2.2.2.2.2)
theorem adv_p (a0 : ByteArray) (a1 : ByteArray) (a2 : ByteArray) (a3 : Int) (a4 : ByteArray) (a5 : ByteArray) (a6 : ByteArray) (a7 : ByteArray) (a8 : ByteArray) (a9 : Int) (a10 : Int) (a11 : ByteArray) : auth_Advice.f a0 a1 a2 a3 a4 a5 a6 a7 a8 a9 a10 a11 = some (advB a0) := by
  unfold auth_Advice.f advB
  (repeat' split) <;> simp_all
theorem held_p (r2 c2 p2 : ByteArray) (ap ca un : Int) (op : Bool) : auth_held.f r2 c2 p2 ap ca un op = some (outC (if ap > 9999999999999 then no c96 else (c00, (r2, c2, p2, ap, ca, un, op), true, p0))) := by
  unfold auth_held.f auth_Over.f
  simp only [Option.bind_some, decide_eq_true_eq]
  by_cases h : ap > 9999999999999
  · simp only [if_pos h]; rfl
  · simp only [if_neg h]; rfl
theorem auth_p (k : Nat) (hk : 1 ≤ k) (a0 : ByteArray) (a1 : ByteArray) (a2 : ByteArray) (a3 : Int) (a4 : ByteArray) (a5 : ByteArray) (a6 : ByteArray) (a7 : ByteArray) (a8 : ByteArray) (a9 : Int) (a10 : Int) (a11 : ByteArray) (a12 : Bool) (a13 : Int) (a14 : ByteArray) (a15 : ByteArray) (a16 : ByteArray) (a17 : Int) (a18 : Int) (a19 : Int) (a20 : Bool) (a21 : Bool) (a22 : Int) (a23 : Int) (a24 : Bool) (h7 : a7.size ≤ 4096) (h14 : a14.size ≤ 4096) (w3 : inB a3) (w17 : inB a17) : auth_Auth.f k a0 a1 a2 a3 a4 a5 a6 a7 a8 a9 a10 a11 a12 a13 a14 a15 a16 a17 a18 a19 a20 a21 a22 a23 a24 = some (outC (authT a0 a1 a2 a3 a6 a7 a12 a13 a14 a15 a16 a17 a18 a19 a20 a21 a22 a24)) := by
  unfold auth_Auth.f authT
  rw [may_p k hk _ _ _ _ _ _ _ _ _ _ _ _ _ _ _ _ _ _ _ _ _ _ _ _ _ h7 h14]
  simp only [Option.bind_some]
  by_cases hm : mayA a1 a3 a6 a7 a14 a15 a16 a17 a18 a19 a20 a21 a22 = true
  rotate_left
  · rw [if_neg hm, if_neg hm]; rfl
  rw [if_pos hm, if_pos hm, adv_p]
  simp only [Option.bind_some]
  obtain ⟨m1, m2, m3, m4, m5, m6, m7⟩ := mayA_iff.mp hm
  have ht : wrap64 (a22 + 100) = a22 + 100 := wr (by unfold inB; omega)
  rw [ht]
  by_cases he : a24 = true
  · rw [if_pos he, if_pos he]; rfl
  rw [if_neg he, if_neg he]
  by_cases hc : a12 = true
  rotate_left
  · rw [if_neg hc, if_neg hc]; rfl
  rw [if_pos hc, if_pos hc, has2, has2]
  simp only [Option.bind_some]
  by_cases k0 : pre2 a2 48 48 = true
  · rw [if_pos k0, if_pos k0]
    by_cases hf : a21 = true
    · rw [if_pos hf, if_pos hf]; rfl
    rw [if_neg hf, if_neg hf]
    by_cases hs : (!advB a0 && decide (a13 < a3)) = true
    · rw [if_pos hs, if_pos hs]; rfl
    rw [if_neg hs, if_neg hs, held_p]
  rw [if_neg k0, if_neg k0]
  by_cases k2 : pre2 a2 48 50 = true
  rotate_left
  · rw [if_neg k2, if_neg k2]; rfl
  rw [if_pos k2, if_pos k2]
  by_cases hf : a21 = true
  rotate_left
  · rw [if_neg hf, if_neg hf]; rfl
  rw [if_pos hf, if_pos hf]
  by_cases hp : a16 = a1
  rotate_left
  · rw [if_neg hp, if_neg hp]; rfl
  rw [if_pos hp, if_pos hp]
  by_cases ho : a20 = true
  rotate_left
  · rw [if_neg ho, if_neg ho]; rfl
  rw [if_pos ho, if_pos ho]
  by_cases hs : (!advB a0 && decide (a13 < a3)) = true
  · rw [if_pos hs, if_pos hs]; rfl
  rw [if_neg hs, if_neg hs]
  obtain ⟨g1, g2, g3⟩ := m7 hf
  subst ho; subst hp
  obtain ⟨_, _, _, _, _, q1, q2, q3⟩ := hmay_iff.mp g1
  unfold hold_More.f moreS wrongS
  rw [if_pos ⟨h14, w17, w3⟩, if_pos g1, if_pos rfl, if_neg (by omega)]
  rw [if_neg (by omega)]
  by_cases hi : inI64 (a17 + a3)
  · have hd : decide (a18 < a17 + a3) = true := decide_eq_true (by omega)
    simp only [if_pos hi, Option.bind_some, if_true, held_p, hd]
  · have hg : a17 + a3 > 9999999999999 := by unfold inI64 at hi; omega
    simp only [if_neg hi, Option.bind_some, if_pos hg]
    rfl
theorem c00_list : c00.toList = [48, 48] := by rw [ByteArray.toList_eq]; rfl
theorem nil_list : (⟨#[]⟩ : ByteArray).toList = [] := by rw [ByteArray.toList_eq]
theorem awake_some (k : Nat) (hk : 1 ≤ k) : bursarlaw22_awake.f k = some true := by
  unfold bursarlaw22_awake.f bursarlaw22_some.f
  simp only [Option.bind_some]
  rw [auth_p k hk]
  rotate_left
  · decide
  · decide
  · unfold inB; decide
  · unfold inB; decide
  simp only [Option.bind_some]
  rw [auth_p k hk]
  rotate_left
  · decide
  · decide
  · unfold inB; decide
  · unfold inB; decide
  simp only [Option.bind_some]
  rw [auth_p k hk]
  rotate_left
  · decide
  · decide
  · unfold inB; decide
  · unfold inB; decide
  simp only [Option.bind_some, ByteArray.toList_eq]
  kernel_rfl
theorem auth_cases (mti pan code : ByteArray) (am : Int) (acq rrn : ByteArray) (card : Bool) (free : Int) (r2 c2 p2 : ByteArray) (ap ca un : Int) (op fo : Bool) (tick : Int) (early : Bool) :
    (∃ c : ByteArray, c.toList ≠ [48, 48] ∧ authT mti pan code am acq rrn card free r2 c2 p2 ap ca un op fo tick early = no c) ∨
    (mayA pan am acq rrn r2 c2 p2 ap ca un op fo tick = true ∧ early = false ∧ card = true ∧ (advB mti = true ∨ am ≤ free) ∧
      ((pre2 code 48 48 = true ∧ fo = false ∧ am ≤ 9999999999999 ∧ authT mti pan code am acq rrn card free r2 c2 p2 ap ca un op fo tick early = (c00, (rrn, acq, pan, am, 0, tick + 100, true), true, p0)) ∨
       (pre2 code 48 48 = false ∧ pre2 code 48 50 = true ∧ fo = true ∧ p2 = pan ∧ op = true ∧ ap + am ≤ 9999999999999 ∧ authT mti pan code am acq rrn card free r2 c2 p2 ap ca un op fo tick early = (c00, (r2, c2, p2, ap + am, ca, tick + 100, true), true, p0)))) := by
  have q12 : c12.toList ≠ [48, 48] := by rw [ByteArray.toList_eq]; decide
  have q14 : c14.toList ≠ [48, 48] := by rw [ByteArray.toList_eq]; decide
  have q25 : c25.toList ≠ [48, 48] := by rw [ByteArray.toList_eq]; decide
  have q30 : c30.toList ≠ [48, 48] := by rw [ByteArray.toList_eq]; decide
  have q51 : c51.toList ≠ [48, 48] := by rw [ByteArray.toList_eq]; decide
  have q54 : c54.toList ≠ [48, 48] := by rw [ByteArray.toList_eq]; decide
  have q94 : c94.toList ≠ [48, 48] := by rw [ByteArray.toList_eq]; decide
  have q96 : c96.toList ≠ [48, 48] := by rw [ByteArray.toList_eq]; decide
  have hsh : ¬ (!advB mti && decide (free < am)) = true → advB mti = true ∨ am ≤ free := fun h => by
    cases ha : advB mti with
    | true => exact .inl rfl
    | false => rw [ha] at h; simp at h; exact .inr (by omega)
  unfold authT
  by_cases h1 : mayA pan am acq rrn r2 c2 p2 ap ca un op fo tick = true
  rotate_left
  · rw [if_neg h1]; exact .inl ⟨_, q30, rfl⟩
  rw [if_pos h1]
  cases early with
  | true => exact .inl ⟨_, q12, rfl⟩
  | false =>
  rw [if_neg (show ¬ (false = true) by decide)]
  cases card with
  | false => exact .inl ⟨_, q14, rfl⟩
  | true =>
  rw [if_pos rfl]
  by_cases k0 : pre2 code 48 48 = true
  · rw [if_pos k0]
    cases fo with
    | true => exact .inl ⟨_, q94, rfl⟩
    | false =>
    rw [if_neg (show ¬ (false = true) by decide)]
    by_cases hs : (!advB mti && decide (free < am)) = true
    · rw [if_pos hs]; exact .inl ⟨_, q51, rfl⟩
    rw [if_neg hs]
    by_cases ha : am > 9999999999999
    · rw [if_pos ha]; exact .inl ⟨_, q96, rfl⟩
    rw [if_neg ha]
    exact .inr ⟨h1, rfl, rfl, hsh hs, .inl ⟨k0, rfl, by omega, rfl⟩⟩
  rw [if_neg k0]
  by_cases k2 : pre2 code 48 50 = true
  rotate_left
  · rw [if_neg k2]; exact .inl ⟨_, q12, rfl⟩
  rw [if_pos k2]
  cases fo with
  | false => exact .inl ⟨_, q25, rfl⟩
  | true =>
  rw [if_pos rfl]
  by_cases hp : p2 = pan
  rotate_left
  · rw [if_neg hp]; exact .inl ⟨_, q14, rfl⟩
  rw [if_pos hp]
  cases op with
  | false => exact .inl ⟨_, q54, rfl⟩
  | true =>
  rw [if_pos rfl]
  by_cases hs : (!advB mti && decide (free < am)) = true
  · rw [if_pos hs]; exact .inl ⟨_, q51, rfl⟩
  rw [if_neg hs]
  by_cases ha : ap + am > 9999999999999
  · rw [if_pos ha]; exact .inl ⟨_, q96, rfl⟩
  rw [if_neg ha]
  exact .inr ⟨h1, rfl, rfl, hsh hs, .inr ⟨Bool.eq_false_iff.mpr k0, k2, rfl, hp, rfl, by omega, rfl⟩⟩
theorem u16_of_wf {n : Int} (h : (Lit.int .u16 n).wf = true) : 0 ≤ n ∧ n ≤ 65535 := by
  simp only [Lit.wf, IntKind.min, IntKind.max, IntKind.signed, IntKind.bits, Bool.and_eq_true, decide_eq_true_eq, if_true] at h
  constructor <;> first | omega | (simp at h; omega)
theorem p00 : pre2 (⟨#[48, 48, 48, 48, 48, 48]⟩ : ByteArray) 48 48 = true := by unfold pre2; rw [ByteArray.toList_eq]; decide
theorem p20 : pre2 (⟨#[48, 50, 48, 48, 48, 48]⟩ : ByteArray) 48 48 = false := by unfold pre2; rw [ByteArray.toList_eq]; decide
theorem p22 : pre2 (⟨#[48, 50, 48, 48, 48, 48]⟩ : ByteArray) 48 50 = true := by unfold pre2; rw [ByteArray.toList_eq]; decide
theorem adv1 : advB (⟨#[48, 49, 48, 48]⟩ : ByteArray) = false := by unfold advB; rw [ByteArray.toList_eq]; decide
theorem parts_pure (a0 : ByteArray) (a1 : ByteArray) (a2 : ByteArray) (a3 : Int) (a4 : ByteArray) (a5 : ByteArray) (a6 : ByteArray) (a7 : ByteArray) (a8 : ByteArray) (a9 : Int) (a10 : Int) (a11 : ByteArray) (a12 : Bool) (a13 : Int) (a14 : ByteArray) (a15 : ByteArray) (a16 : ByteArray) (a17 : Int) (a18 : Int) (a19 : Int) (a20 : Bool) (a21 : Bool) (a22 : Int) (a23 : Int) (a24 : Bool) (n m : Int) (g3 : (Lit.int .i64 a3).wf = true) (g9 : (Lit.int .i64 a9).wf = true) (g10 : (Lit.int .i64 a10).wf = true) (g13 : (Lit.int .i64 a13).wf = true) (g17 : (Lit.int .i64 a17).wf = true) (g18 : (Lit.int .i64 a18).wf = true) (g19 : (Lit.int .i64 a19).wf = true) (g22 : (Lit.int .i64 a22).wf = true) (g23 : (Lit.int .i64 a23).wf = true) (gn : (Lit.int .u16 n).wf = true) (gm : (Lit.int .u16 m).wf = true) : bursarlaw22_AuthParts.f 9 a0 a1 a2 a3 a4 a5 a6 a7 a8 a9 a10 a11 a12 a13 a14 a15 a16 a17 a18 a19 a20 a21 a22 a23 a24 n m = some true := by
  obtain ⟨b0, b1, b2, b6, b7, b14, b15, b16, hF, z0, z1, z2, z6, z7, z14, z15, z16⟩ := few_some a0 a1 a2 a3 a4 a5 a6 a7 a8 a9 a10 a11 a12 a13 a14 a15 a16 a17 a18 a19 a20 a21 a22 a23 a24
  unfold bursarlaw22_AuthParts.f
  rw [hF]
  simp only [Option.bind_some]
  have w13 := inB_of_wf g13
  obtain ⟨u1, u2⟩ := u16_of_wf gn
  obtain ⟨v1, v2⟩ := u16_of_wf gm
  have AW := awake_some 9 (by decide)
  have en : wrap64 n = n := wr (by unfold inB; omega)
  have em : wrap64 m = m := wr (by unfold inB; omega)
  have es : wrap64 (n + m) = n + m := wr (by unfold inB; omega)
  have R1 := auth_p 9 (by decide) (⟨#[48, 49, 48, 48]⟩ : ByteArray) b1 (⟨#[48, 48, 48, 48, 48, 48]⟩ : ByteArray) (n + m) a4 a5 b6 b7 a8 a9 a10 a11 a12 a13 (⟨#[]⟩ : ByteArray) (⟨#[]⟩ : ByteArray) (⟨#[]⟩ : ByteArray) 0 0 0 false false a22 a23 a24 (by omega) (by decide) (by unfold inB; omega) (by unfold inB; decide)
  have R2 := auth_p 9 (by decide) (⟨#[48, 49, 48, 48]⟩ : ByteArray) b1 (⟨#[48, 48, 48, 48, 48, 48]⟩ : ByteArray) n a4 a5 b6 b7 a8 a9 a10 a11 a12 a13 (⟨#[]⟩ : ByteArray) (⟨#[]⟩ : ByteArray) (⟨#[]⟩ : ByteArray) 0 0 0 false false a22 a23 a24 (by omega) (by decide) (by unfold inB; omega) (by unfold inB; decide)
  simp only [en, em, es, R1, R2, Option.bind_some]
  rcases auth_cases (⟨#[48, 49, 48, 48]⟩ : ByteArray) b1 (⟨#[48, 48, 48, 48, 48, 48]⟩ : ByteArray) n b6 b7 a12 a13 (⟨#[]⟩ : ByteArray) (⟨#[]⟩ : ByteArray) (⟨#[]⟩ : ByteArray) 0 0 0 false false a22 a24 with ⟨c, hc, hr⟩ | ⟨hm, he, hcd, hd, h⟩
  · rw [hr]; simp [outC, no, AW]
  rcases h with ⟨_, _, ha, hr⟩ | ⟨hx, _⟩
  rotate_left
  · rw [p00] at hx; cases hx
  have hnf : n ≤ a13 := by
    rcases hd with hd | hd
    · rw [adv1] at hd; cases hd
    · exact hd
  obtain ⟨m1, m2, m3, m4, m5, m6, _⟩ := mayA_iff.mp hm
  have ef : wrap64 (a13 - n) = a13 - n := wr (by unfold inB at *; omega)
  have hh : hmay b7 b6 b1 n 0 (a22 + 100) true = true := hmay_iff.mpr ⟨m3, m1, m2, by omega, by omega, by omega, by omega, fun _ => by omega⟩
  have R3 := auth_p 9 (by decide) (⟨#[48, 49, 48, 48]⟩ : ByteArray) b1 (⟨#[48, 50, 48, 48, 48, 48]⟩ : ByteArray) m a4 a5 b6 b7 a8 a9 a10 a11 a12 (a13 - n) b7 b6 b1 n 0 (a22 + 100) true true a22 a23 a24 (by omega) (by omega) (by unfold inB; omega) (by unfold inB; omega)
  rw [hr]
  simp only [outC, if_true, ef, R3, Option.bind_some]
  subst he; subst hcd
  have hT1 : authT (⟨#[48, 49, 48, 48]⟩ : ByteArray) b1 (⟨#[48, 48, 48, 48, 48, 48]⟩ : ByteArray) (n + m) b6 b7 true a13 (⟨#[]⟩ : ByteArray) (⟨#[]⟩ : ByteArray) (⟨#[]⟩ : ByteArray) 0 0 0 false false a22 false = if a13 < n + m then no c51 else (c00, (b7, b6, b1, n + m, 0, a22 + 100, true), true, p0) := by
    unfold authT
    rw [if_pos (mayA_iff.mpr ⟨m1, m2, m3, by omega, m5, m6, fun h => by cases h⟩), if_neg (show ¬ (false = true) by decide), if_pos rfl, if_pos p00, if_neg (show ¬ (false = true) by decide), adv1]
    by_cases hz : a13 < n + m
    · simp [hz]
    · have : ¬ n + m > 9999999999999 := by omega
      simp [hz, this]
  have hT3 : authT (⟨#[48, 49, 48, 48]⟩ : ByteArray) b1 (⟨#[48, 50, 48, 48, 48, 48]⟩ : ByteArray) m b6 b7 true (a13 - n) b7 b6 b1 n 0 (a22 + 100) true true a22 false = if m = 0 then no c30 else if a13 < n + m then no c51 else (c00, (b7, b6, b1, n + m, 0, a22 + 100, true), true, p0) := by
    unfold authT
    by_cases h0 : m = 0
    · rw [if_neg (fun h => by have := (mayA_iff.mp h).2.2.2.1; omega), if_pos h0]
    rw [if_pos (mayA_iff.mpr ⟨m1, m2, m3, by omega, m5, m6, fun _ => ⟨hh, rfl, rfl⟩⟩), if_neg (show ¬ (false = true) by decide), if_pos rfl, if_neg (by rw [p20]; decide), if_pos p22, if_pos rfl, if_pos rfl, if_pos rfl, adv1, if_neg h0]
    by_cases hz : a13 < n + m
    · have hz' : a13 - n < m := by omega
      simp [hz, hz']
    · have hz' : ¬ a13 - n < m := by omega
      have : ¬ n + m > 9999999999999 := by omega
      simp [hz, hz', this]
  rw [hT1, hT3]
  by_cases h0 : m = 0
  · simp [h0, no, AW]
  by_cases hz : a13 < n + m
  · have hz' : n + m > a13 := hz
    simp [h0, hz, hz', no, AW]
  · have hz' : n + m ≤ a13 := by omega
    simp [h0, hz, hz', AW]
end Go.Proofs.Ytddlmcaclbkopaa.XAU
