/- Plain laws of authorizations: what the program's and the document's answers are, as one total function; the law holds of it. -/
import Derived.Test.YtmdpomilhejbcaaXAE12
namespace Go.Proofs.Ytmdpomilhejbcaa.XAE
open Go.RowKit Go.Proofs.YtmdpomilhejbcaaW.PrintWords Pu
set_option linter.unusedVariables false
set_option linter.unusedSimpArgs false
theorem text_some (s : ByteArray) : ∃ t, bursarlaw22_text.f s = some t ∧ t.size ≤ 40 := by
  unfold bursarlaw22_text.f
  by_cases h : (s.size : Int) > 40
  · have h2 : 40 ≤ (s.size : Int) := by omega
    simp only [if_pos h, if_pos h2, if_pos (show (0 : Int) ≤ 40 by decide)]
    exact ⟨_, rfl, by rw [ByteArray.size_extract]; omega⟩
  · rw [if_neg h]
    exact ⟨_, rfl, by omega⟩
theorem few_some (a0 : ByteArray) (a1 : ByteArray) (a2 : ByteArray) (a3 : Int) (a4 : ByteArray) (a5 : ByteArray) (a6 : ByteArray) (a7 : ByteArray) (a8 : ByteArray) (a9 : Int) (a10 : Int) (a11 : ByteArray) (a12 : Bool) (a13 : Int) (a14 : ByteArray) (a15 : ByteArray) (a16 : ByteArray) (a17 : Int) (a18 : Int) (a19 : Int) (a20 : Bool) (a21 : Bool) (a22 : Int) (a23 : Int) (a24 : Bool) : ∃ b0 b1 b2 b6 b7 b14 b15 b16 : ByteArray, bursarlaw22_Few.f a0 a1 a2 a3 a4 a5 a6 a7 a8 a9 a10 a11 a12 a13 a14 a15 a16 a17 a18 a19 a20 a21 a22 a23 a24 = some (b0, b1, b2, a3, a4, a5, b6, b7, a8, a9, a10, a11, a12, a13, b14, b15, b16, a17, a18, a19, a20, a21, a22, a23, a24) ∧ b0.size ≤ 40 ∧ b1.size ≤ 40 ∧ b2.size ≤ 40 ∧ b6.size ≤ 40 ∧ b7.size ≤ 40 ∧ b14.size ≤ 40 ∧ b15.size ≤ 40 ∧ b16.size ≤ 40 := by
  obtain ⟨b0, h0, z0⟩ := text_some a0
  obtain ⟨b1, h1, z1⟩ := text_some a1
  obtain ⟨b2, h2, z2⟩ := text_some a2
  obtain ⟨b6, h6, z6⟩ := text_some a6
  obtain ⟨b7, h7, z7⟩ := text_some a7
  obtain ⟨b14, h14, z14⟩ := text_some a14
  obtain ⟨b15, h15, z15⟩ := text_some a15
  obtain ⟨b16, h16, z16⟩ := text_some a16
  refine ⟨b0, b1, b2, b6, b7, b14, b15, b16, ?_, z0, z1, z2, z6, z7, z14, z15, z16⟩
  unfold bursarlaw22_Few.f
  simp only [h0, h1, h2, h6, h7, h14, h15, h16, Option.bind_some]
theorem list_if {p q : ByteArray} {α : Type} {x y : α} : (if p.toList = q.toList then x else y) = (if decide (p = q) = true then x else y) := by
  by_cases h : p = q
  · subst h; simp
  · have h' : ¬ p.toList = q.toList := fun e => h (toList_inj.mp e)
    simp [h, h']
def inB (n : Int) : Prop := -9223372036854775808 ≤ n ∧ n ≤ 9223372036854775807
theorem wr {n : Int} (h : inB n) : wrap64 n = n := by unfold inB at h; unfold wrap64; omega
theorem inB_of_wf {n : Int} (h : (Lit.int .i64 n).wf = true) : inB n := by
  simp only [Lit.wf, IntKind.min, IntKind.max, IntKind.signed, IntKind.bits, Bool.and_eq_true, decide_eq_true_eq, if_true] at h
  unfold inB
  omega
def pre2 (s : ByteArray) (x y : UInt8) : Bool := decide (2 ≤ s.size) && ((s.extract 0 2).toList == [x, y])
theorem has2 (s : ByteArray) (x y : UInt8) : strings_HasPrefix.f s ⟨#[x, y]⟩ = some (pre2 s x y) := by
  unfold strings_HasPrefix.f stringslite_HasPrefix.f pre2
  have e : ((⟨#[x, y]⟩ : ByteArray).size : Int) = 2 := rfl
  have e2 : (⟨#[x, y]⟩ : ByteArray).toList = [x, y] := by rw [ByteArray.toList_eq]
  by_cases h : 2 ≤ s.size
  · have g : (s.size : Int) ≥ 2 := by omega
    have g2 : (2 : Int) ≤ (s.size : Int) := by omega
    rw [e, e2, if_pos g, if_pos (by decide), if_pos g2, decide_eq_true h]
    rfl
  · have g : ¬ (s.size : Int) ≥ 2 := by omega
    rw [e, if_neg g, decide_eq_false h]
    rfl
/-- May a question be? -/
def mayA (pan : ByteArray) (am : Int) (acq rrn r2 c2 p2 : ByteArray) (ap ca un : Int) (op fo : Bool) (tick : Int) : Bool :=
  mayB 1 pan && mayB 2 acq && refB rrn && decide (1 ≤ am) && decide (0 ≤ tick) && decide (tick ≤ 2147483547) && (!fo || (hmay r2 c2 p2 ap ca un op && decide (r2 = rrn) && decide (c2 = acq)))
theorem mayA_iff {pan : ByteArray} {am : Int} {acq rrn r2 c2 p2 : ByteArray} {ap ca un : Int} {op fo : Bool} {tick : Int} : mayA pan am acq rrn r2 c2 p2 ap ca un op fo tick = true ↔ mayB 1 pan = true ∧ mayB 2 acq = true ∧ refB rrn = true ∧ 1 ≤ am ∧ 0 ≤ tick ∧ tick ≤ 2147483547 ∧ (fo = true → hmay r2 c2 p2 ap ca un op = true ∧ r2 = rrn ∧ c2 = acq) := by
  unfold mayA
  simp only [Bool.and_eq_true, decide_eq_true_eq, Bool.or_eq_true, Bool.not_eq_true', and_assoc]
  cases fo <;> simp
theorem may_p (k : Nat) (hk : 1 ≤ k) (a0 : ByteArray) (a1 : ByteArray) (a2 : ByteArray) (a3 : Int) (a4 : ByteArray) (a5 : ByteArray) (a6 : ByteArray) (a7 : ByteArray) (a8 : ByteArray) (a9 : Int) (a10 : Int) (a11 : ByteArray) (a12 : Bool) (a13 : Int) (a14 : ByteArray) (a15 : ByteArray) (a16 : ByteArray) (a17 : Int) (a18 : Int) (a19 : Int) (a20 : Bool) (a21 : Bool) (a22 : Int) (a23 : Int) (a24 : Bool) (h7 : a7.size ≤ 4096) (h14 : a14.size ≤ 4096) : auth_May.f k a0 a1 a2 a3 a4 a5 a6 a7 a8 a9 a10 a11 a12 a13 a14 a15 a16 a17 a18 a19 a20 a21 a22 a23 a24 = some (mayA a1 a3 a6 a7 a14 a15 a16 a17 a18 a19 a20 a21 a22) := by
  obtain ⟨k, rfl⟩ : ∃ m, k = m + 1 := ⟨k - 1, by omega⟩
  unfold auth_May.f chart_May.f hold_Ref.f
  simp only [Option.bind_some, if_pos h7, if_pos h14, hold_May.f, auth_May.j0, list_if, toList_beq]
  unfold mayA
  generalize mayB 1 a1 = x1; generalize mayB 2 a6 = x2; generalize refB a7 = x3; generalize hmay a14 a15 a16 a17 a18 a19 a20 = x4; generalize decide (a14 = a7) = x5; generalize decide (a15 = a6) = x6
  cases x1
  · cases x2 <;> simp
  cases x2
  · simp
  cases x3
  · simp
  by_cases h1 : a3 < 1
  · have e : ¬ 1 ≤ a3 := by omega
    simp [h1, e]
  have e1 : 1 ≤ a3 := by omega
  by_cases h2 : a22 < 0
  · have e : ¬ 0 ≤ a22 := by omega
    simp [h1, h2, e]
  have e2 : 0 ≤ a22 := by omega
  by_cases h3 : a22 > 2147483547
  · have e : ¬ a22 ≤ 2147483547 := by omega
    simp [h1, h2, h3, e]
  have e3 : a22 ≤ 2147483547 := by omega
  have e4 : decide (a22 > 2147483547) = false := decide_eq_false h3
  simp only [h1, h2, e4, e1, e2, e3, if_true, if_false, Bool.false_eq_true, decide_true, Bool.true_and]
  cases a21 <;> cases x4 <;> cases x5 <;> cases x6 <;> simp
abbrev P6 := Int × Int × ByteArray × ByteArray × ByteArray × Int
def p0 : P6 := (0, 0, ⟨#[]⟩, ⟨#[]⟩, ⟨#[]⟩, 0)
def c00 : ByteArray := ⟨#[48, 48]⟩
def c12 : ByteArray := ⟨#[49, 50]⟩
def c14 : ByteArray := ⟨#[49, 52]⟩
def c25 : ByteArray := ⟨#[50, 53]⟩
def c30 : ByteArray := ⟨#[51, 48]⟩
def c51 : ByteArray := ⟨#[53, 49]⟩
def c54 : ByteArray := ⟨#[53, 52]⟩
def c94 : ByteArray := ⟨#[57, 52]⟩
def c96 : ByteArray := ⟨#[57, 54]⟩
def no (c : ByteArray) : ByteArray × H7 × Bool × P6 := (c, h0, false, p0)
def advB (m : ByteArray) : Bool := (m.toList == [48, 49, 50, 48]) || (m.toList == [48, 50, 50, 48]) || (m.toList == [48, 52, 50, 48])
/-- What comes of a question: the code, the hold, is it new, what is posted. -/
def authT (mti pan code : ByteArray) (am : Int) (acq rrn : ByteArray) (card : Bool) (free : Int) (r2 c2 p2 : ByteArray) (ap ca un : Int) (op fo : Bool) (tick : Int) (early : Bool) : ByteArray × H7 × Bool × P6 :=
  if mayA pan am acq rrn r2 c2 p2 ap ca un op fo tick = true then
    if early = true then no c12
    else if card = true then
      if pre2 code 48 48 = true then
        if fo = true then no c94
        else if (!advB mti && decide (free < am)) = true then no c51
        else if am > 9999999999999 then no c96
        else (c00, (rrn, acq, pan, am, 0, tick + 100, true), true, p0)
      else if pre2 code 48 50 = true then
        if fo = true then
          if p2 = pan then
            if op = true then
              if (!advB mti && decide (free < am)) = true then no c51
              else if ap + am > 9999999999999 then no c96
              else (c00, (r2, c2, p2, ap + am, ca, tick + 100, true), true, p0)
            else no c54
          else no c14
        else no c25
      else no c12
    else no c14
  else no c30
def outC (r : ByteArray × H7 × Bool × P6) : ByteArray × ByteArray × ByteArray × ByteArray × Int × Int × Int × Bool × Bool × Int × Int × ByteArray × ByteArray × ByteArray × Int :=
  (r.1, r.2.1.1, r.2.1.2.1, r.2.1.2.2.1, r.2.1.2.2.2.1, r.2.1.2.2.2.2.1, r.2.1.2.2.2.2.2.1, r.2.1.2.2.2.2.2.2, r.2.2.1, r.2.2.2.1, r.2.2.2.2.1, r.2.2.2.2.2.1, r.2.2.2.2.2.2.1, r.2.2.2.2.2.2.2.1, r.2.2.2.2.2.2.2.2)
theorem adv_p (a0 : ByteArray) (a1 : ByteArray) (a2 : ByteArray) (a3 : Int) (a4 : ByteArray) (a5 : ByteArray) (a6 : ByteArray) (a7 : ByteArray) (a8 : ByteArray) (a9 : Int) (a10 : Int) (a11 : ByteArray) : auth_Advice.f a0 a1 a2 a3 a4 a5 a6 a7 a8 a9 a10 a11 = some (advB a0) := by
  unfold auth_Advice.f advB
  (repeat' split) <;> simp_all
theorem held_p (r2 c2 p2 : ByteArray) (ap ca un : Int) (op : Bool) : auth_held.f r2 c2 p2 ap ca un op = some (outC (if ap > 9999999999999 then no c96 else (c00, (r2, c2, p2, ap, ca, un, op), true, p0))) := by
  unfold auth_held.f auth_Over.f
  simp only [Option.bind_some, decide_eq_true_eq]
  by_cases h : ap > 9999999999999
  · simp only [if_pos h]; rfl
  · simp only [if_neg h]; rfl
theorem auth_p (k : Nat) (hk : 1 ≤ k) (a0 : ByteArray) (a1 : ByteArray) (a2 : ByteArray) (a3 : Int) (a4 : ByteArray) (a5 : ByteArray) (a6 : ByteArray) (a7 : ByteArray) (a8 : ByteArray) (a9 : Int) (a10 : Int) (a11 : ByteArray) (a12 : Bool) (a13 : Int) (a14 : ByteArray) (a15 : ByteArray) (a16 : ByteArray) (a17 : Int) (a18 : Int) (a19 : Int) (a20 : Bool) (a21 : Bool) (a22 : Int) (a23 : Int) (a24 : Bool) (h7 : a7.size ≤ 4096) (h14 : a14.size ≤ 4096) (w3 : inB a3) (w17 : inB a17) : auth_Auth.f k a0 a1 a2 a3 a4 a5 a6 a7 a8 a9 a10 a11 a12 a13 a14 a15 a16 a17 a18 a19 a20 a21 a22 a23 a24 = some (outC (authT a0 a1 a2 a3 a6 a7 a12 a13 a14 a15 a16 a17 a18 a19 a20 a21 a22 a24)) := by
  unfold auth_Auth.f authT
  rw [may_p k hk _ _ _ _ _ _ _ _ _ _ _ _ _ _ _ _ _ _ _ _ _ _ _ _ _ h7 h14]
  simp only [Option.bind_some]
  by_cases hm : mayA a1 a3 a6 a7 a14 a15 a16 a17 a18 a19 a20 a21 a22 = true
  rotate_left
  · rw [if_neg hm, if_neg hm]; rfl
  rw [if_pos hm, if_pos hm, adv_p]
  simp only [Option.bind_some]
  obtain ⟨m1, m2, m3, m4, m5, m6, m7⟩ := mayA_iff.mp hm
  have ht : wrap64 (a22 + 100) = a22 + 100 := wr (by unfold inB; omega)
  rw [ht]
  by_cases he : a24 = true
  · rw [if_pos he, if_pos he]; rfl
  rw [if_neg he, if_neg he]
  by_cases hc : a12 = true
  rotate_left
  · rw [if_neg hc, if_neg hc]; rfl
  rw [if_pos hc, if_pos hc, has2, has2]
  simp only [Option.bind_some]
  by_cases k0 : pre2 a2 48 48 = true
  · rw [if_pos k0, if_pos k0]
    by_cases hf : a21 = true
    · rw [if_pos hf, if_pos hf]; rfl
    rw [if_neg hf, if_neg hf]
    by_cases hs : (!advB a0 && decide (a13 < a3)) = true
    · rw [if_pos hs, if_pos hs]; rfl
    rw [if_neg hs, if_neg hs, held_p]
  rw [if_neg k0, if_neg k0]
  by_cases k2 : pre2 a2 48 50 = true
  rotate_left
  · rw [if_neg k2, if_neg k2]; rfl
  rw [if_pos k2, if_pos k2]
  by_cases hf : a21 = true
  rotate_left
  · rw [if_neg hf, if_neg hf]; rfl
  rw [if_pos hf, if_pos hf]
  by_cases hp : a16 = a1
  rotate_left
  · rw [if_neg hp, if_neg hp]; rfl
  rw [if_pos hp, if_pos hp]
  by_cases ho : a20 = true
  rotate_left
  · rw [if_neg ho, if_neg ho]; rfl
  rw [if_pos ho, if_pos ho]
  by_cases hs : (!advB a0 && decide (a13 < a3)) = true
  · rw [if_pos hs, if_pos hs]; rfl
  rw [if_neg hs, if_neg hs]
  obtain ⟨g1, g2, g3⟩ := m7 hf
  subst ho; subst hp
  obtain ⟨_, _, _, _, _, q1, q2, q3⟩ := hmay_iff.mp g1
  unfold hold_More.f moreS wrongS
  rw [if_pos ⟨h14, w17, w3⟩, if_pos g1, if_pos rfl, if_neg (by omega)]
  rw [if_neg (by omega)]
  by_cases hi : inI64 (a17 + a3)
  · have hd : decide (a18 < a17 + a3) = true := decide_eq_true (by omega)
    simp only [if_pos hi, Option.bind_some, if_true, held_p, hd]
  · have hg : a17 + a3 > 9999999999999 := by unfold inI64 at hi; omega
    simp only [if_neg hi, Option.bind_some, if_pos hg]
    rfl
theorem c00_list : c00.toList = [48, 48] := by rw [ByteArray.toList_eq]; rfl
theorem nil_list : (⟨#[]⟩ : ByteArray).toList = [] := by rw [ByteArray.toList_eq]
theorem awake_some (k : Nat) (hk : 1 ≤ k) : bursarlaw22_awake.f k = some true := by
  unfold bursarlaw22_awake.f bursarlaw22_some.f
  simp only [Option.bind_some]
  rw [auth_p k hk]
  rotate_left
  · decide
  · decide
  · unfold inB; decide
  · unfold inB; decide
  simp only [Option.bind_some]
  rw [auth_p k hk]
  rotate_left
  · decide
  · decide
  · unfold inB; decide
  · unfold inB; decide
  simp only [Option.bind_some]
  rw [auth_p k hk]
  rotate_left
  · decide
  · decide
  · unfold inB; decide
  · unfold inB; decide
  simp only [Option.bind_some, ByteArray.toList_eq]
  kernel_rfl
theorem auth_cases (mti pan code : ByteArray) (am : Int) (acq rrn : ByteArray) (card : Bool) (free : Int) (r2 c2 p2 : ByteArray) (ap ca un : Int) (op fo : Bool) (tick : Int) (early : Bool) :
    (∃ c : ByteArray, c.toList ≠ [48, 48] ∧ authT mti pan code am acq rrn card free r2 c2 p2 ap ca un op fo tick early = no c) ∨
    (mayA pan am acq rrn r2 c2 p2 ap ca un op fo tick = true ∧ early = false ∧ card = true ∧ (advB mti = true ∨ am ≤ free) ∧
      ((pre2 code 48 48 = true ∧ fo = false ∧ am ≤ 9999999999999 ∧ authT mti pan code am acq rrn card free r2 c2 p2 ap ca un op fo tick early = (c00, (rrn, acq, pan, am, 0, tick + 100, true), true, p0)) ∨
       (pre2 code 48 48 = false ∧ pre2 code 48 50 = true ∧ fo = true ∧ p2 = pan ∧ op = true ∧ ap + am ≤ 9999999999999 ∧ authT mti pan code am acq rrn card free r2 c2 p2 ap ca un op fo tick early = (c00, (r2, c2, p2, ap + am, ca, tick + 100, true), true, p0)))) := by
  have q12 : c12.toList ≠ [48, 48] := by rw [ByteArray.toList_eq]; decide
  have q14 : c14.toList ≠ [48, 48] := by rw [ByteArray.toList_eq]; decide
  have q25 : c25.toList ≠ [48, 48] := by rw [ByteArray.toList_eq]; decide
  have q30 : c30.toList ≠ [48, 48] := by rw [ByteArray.toList_eq]; decide
  have q51 : c51.toList ≠ [48, 48] := by rw [ByteArray.toList_eq]; decide
  have q54 : c54.toList ≠ [48, 48] := by rw [ByteArray.toList_eq]; decide
  have q94 : c94.toList ≠ [48, 48] := by rw [ByteArray.toList_eq]; decide
  have q96 : c96.toList ≠ [48, 48] := by rw [ByteArray.toList_eq]; decide
  have hsh : ¬ (!advB mti && decide (free < am)) = true → advB mti = true ∨ am ≤ free := fun h => by
    cases ha : advB mti with
    | true => exact .inl rfl
    | false => rw [ha] at h; simp at h; exact .inr (by omega)
  unfold authT
  by_cases h1 : mayA pan am acq rrn r2 c2 p2 ap ca un op fo tick = true
  rotate_left
  · rw [if_neg h1]; exact .inl ⟨_, q30, rfl⟩
  rw [if_pos h1]
  cases early with
  | true => exact .inl ⟨_, q12, rfl⟩
  | false =>
  rw [if_neg (show ¬ (false = true) by decide)]
  cases card with
  | false => exact .inl ⟨_, q14, rfl⟩
  | true =>
  rw [if_pos rfl]
  by_cases k0 : pre2 code 48 48 = true
  · rw [if_pos k0]
    cases fo with
    | true => exact .inl ⟨_, q94, rfl⟩
    | false =>
    rw [if_neg (show ¬ (false = true) by decide)]
    by_cases hs : (!advB mti && decide (free < am)) = true
    · rw [if_pos hs]; exact .inl ⟨_, q51, rfl⟩
    rw [if_neg hs]
    by_cases ha : am > 9999999999999
    · rw [if_pos ha]; exact .inl ⟨_, q96, rfl⟩
    rw [if_neg ha]
    exact .inr ⟨h1, rfl, rfl, hsh hs, .inl ⟨k0, rfl, by omega, rfl⟩⟩
  rw [if_neg k0]
  by_cases k2 : pre2 code 48 50 = true
  rotate_left
  · rw [if_neg k2]; exact .inl ⟨_, q12, rfl⟩
  rw [if_pos k2]
  cases fo with
  | false => exact .inl ⟨_, q25, rfl⟩
  | true =>
  rw [if_pos rfl]
  by_cases hp : p2 = pan
  rotate_left
  · rw [if_neg hp]; exact .inl ⟨_, q14, rfl⟩
  rw [if_pos hp]
  cases op with
  | false => exact .inl ⟨_, q54, rfl⟩
  | true =>
  rw [if_pos rfl]
  by_cases hs : (!advB mti && decide (free < am)) = true
  · rw [if_pos hs]; exact .inl ⟨_, q51, rfl⟩
  rw [if_neg hs]
  by_cases ha : ap + am > 9999999999999
  · rw [if_pos ha]; exact .inl ⟨_, q96, rfl⟩
  rw [if_neg ha]
  exact .inr ⟨h1, rfl, rfl, hsh hs, .inr ⟨Bool.eq_false_iff.mpr k0, k2, rfl, hp, rfl, by omega, rfl⟩⟩
theorem u8_of_wf {n : Int} (h : (Lit.int .u8 n).wf = true) : 0 ≤ n ∧ n ≤ 255 := by
  simp only [Lit.wf, IntKind.min, IntKind.max, IntKind.signed, IntKind.bits, Bool.and_eq_true, decide_eq_true_eq, if_true] at h
  constructor <;> first | omega | (simp at h; omega)
theorem kind_size (n : Int) : (strOfNums ([(48 + (Int.tmod n 10)) % 256] : List Int)).size = 1 := rfl
theorem kind_size2 (n : Int) : ((⟨#[48]⟩ : ByteArray) ++ (strOfNums ([(48 + (Int.tmod n 10)) % 256] : List Int))).size = 2 := by rw [ByteArray.size_append, kind_size]; rfl
theorem kind_code (n : Int) (h : 0 ≤ n ∧ n ≤ 255) : pre2 (((⟨#[48]⟩ : ByteArray) ++ (strOfNums ([(48 + (Int.tmod n 10)) % 256] : List Int))) ++ (⟨#[48, 48, 48, 48]⟩ : ByteArray)) 48 48 = decide (Int.tmod n 10 = 0) ∧ pre2 (((⟨#[48]⟩ : ByteArray) ++ (strOfNums ([(48 + (Int.tmod n 10)) % 256] : List Int))) ++ (⟨#[48, 48, 48, 48]⟩ : ByteArray)) 48 50 = decide (Int.tmod n 10 = 2) := by
  have h1 : Int.tmod n 10 = 0 ∨ Int.tmod n 10 = 1 ∨ Int.tmod n 10 = 2 ∨ Int.tmod n 10 = 3 ∨ Int.tmod n 10 = 4 ∨ Int.tmod n 10 = 5 ∨ Int.tmod n 10 = 6 ∨ Int.tmod n 10 = 7 ∨ Int.tmod n 10 = 8 ∨ Int.tmod n 10 = 9 := by
    have e : Int.tmod n 10 = n % 10 := Int.tmod_eq_emod_of_nonneg h.1
    omega
  generalize Int.tmod n 10 = d at h1 ⊢
  rcases h1 with rfl | rfl | rfl | rfl | rfl | rfl | rfl | rfl | rfl | rfl <;> decide +kernel
theorem c12_list : c12.toList = [49, 50] := by rw [ByteArray.toList_eq]; rfl
theorem c30_list : c30.toList = [51, 48] := by rw [ByteArray.toList_eq]; rfl
theorem c14_list : c14.toList = [49, 52] := by rw [ByteArray.toList_eq]; rfl
theorem code_some (mti pan code : ByteArray) (am : Int) (acq rrn : ByteArray) (card : Bool) (free : Int) (r2 c2 p2 : ByteArray) (ap ca un : Int) (op fo : Bool) (tick : Int) (early : Bool) : ((authT mti pan code am acq rrn card free r2 c2 p2 ap ca un op fo tick early).1.toList = []) = False := by
  refine eq_false ?_
  unfold authT
  (repeat' split) <;> (simp only [no, ByteArray.toList_eq]; decide)
theorem mayA_zero (pan acq rrn r2 c2 p2 : ByteArray) (ap ca un : Int) (op fo : Bool) (tick : Int) : mayA pan 0 acq rrn r2 c2 p2 ap ca un op fo tick = false := by
  unfold mayA
  simp
theorem early_pure (a0 : ByteArray) (a1 : ByteArray) (a2 : ByteArray) (a3 : Int) (a4 : ByteArray) (a5 : ByteArray) (a6 : ByteArray) (a7 : ByteArray) (a8 : ByteArray) (a9 : Int) (a10 : Int) (a11 : ByteArray) (a12 : Bool) (a13 : Int) (a14 : ByteArray) (a15 : ByteArray) (a16 : ByteArray) (a17 : Int) (a18 : Int) (a19 : Int) (a20 : Bool) (a21 : Bool) (a22 : Int) (a23 : Int) (a24 : Bool) (n : Int) (g3 : (Lit.int .i64 a3).wf = true) (g9 : (Lit.int .i64 a9).wf = true) (g10 : (Lit.int .i64 a10).wf = true) (g13 : (Lit.int .i64 a13).wf = true) (g17 : (Lit.int .i64 a17).wf = true) (g18 : (Lit.int .i64 a18).wf = true) (g19 : (Lit.int .i64 a19).wf = true) (g22 : (Lit.int .i64 a22).wf = true) (g23 : (Lit.int .i64 a23).wf = true) (gn : (Lit.int .u8 n).wf = true) : bursarlaw22_AuthEarly.f 9 a0 a1 a2 a3 a4 a5 a6 a7 a8 a9 a10 a11 a12 a13 a14 a15 a16 a17 a18 a19 a20 a21 a22 a23 a24 n = some true := by
  obtain ⟨b0, b1, b2, b6, b7, b14, b15, b16, hF, z0, z1, z2, z6, z7, z14, z15, z16⟩ := few_some a0 a1 a2 a3 a4 a5 a6 a7 a8 a9 a10 a11 a12 a13 a14 a15 a16 a17 a18 a19 a20 a21 a22 a23 a24
  unfold bursarlaw22_AuthEarly.f
  rw [hF]
  simp only [Option.bind_some]
  have w3 := inB_of_wf g3
  have w17 := inB_of_wf g17
  obtain ⟨k0, k2⟩ := kind_code n (u8_of_wf gn)
  have AW := awake_some 8 (by decide)
  have R1 := auth_p 9 (by decide) b0 b1 b2 a3 a4 a5 b6 b7 a8 a9 a10 a11 a12 a13 b14 b15 b16 a17 a18 a19 a20 a21 a22 a23 true (by omega) (by omega) w3 w17
  have R2 := auth_p 9 (by decide) b0 b1 b2 a3 a4 a5 b6 b7 a8 a9 a10 a11 false a13 b14 b15 b16 a17 a18 a19 a20 a21 a22 a23 a24 (by omega) (by omega) w3 w17
  have R3 := auth_p 9 (by decide) b0 b1 (((⟨#[48]⟩ : ByteArray) ++ (strOfNums ([(48 + (Int.tmod n 10)) % 256] : List Int))) ++ (⟨#[48, 48, 48, 48]⟩ : ByteArray)) a3 a4 a5 b6 b7 a8 a9 a10 a11 a12 a13 b14 b15 b16 a17 a18 a19 a20 a21 a22 a23 a24 (by omega) (by omega) w3 w17
  have R4 := auth_p 9 (by decide) b0 b1 b2 0 a4 a5 b6 b7 a8 a9 a10 a11 a12 a13 b14 b15 b16 a17 a18 a19 a20 a21 a22 a23 a24 (by omega) (by omega) (by unfold inB; decide) w17
  have MY := may_p 8 (by decide) b0 b1 b2 a3 a4 a5 b6 b7 a8 a9 a10 a11 a12 a13 b14 b15 b16 a17 a18 a19 a20 a21 a22 a23 a24 (by omega) (by omega)
  have E1 : authT b0 b1 b2 a3 b6 b7 a12 a13 b14 b15 b16 a17 a18 a19 a20 a21 a22 true = if mayA b1 a3 b6 b7 b14 b15 b16 a17 a18 a19 a20 a21 a22 = true then no c12 else no c30 := by unfold authT; rw [if_pos (rfl : true = true)]
  have E2 : authT b0 b1 b2 a3 b6 b7 false a13 b14 b15 b16 a17 a18 a19 a20 a21 a22 a24 = if mayA b1 a3 b6 b7 b14 b15 b16 a17 a18 a19 a20 a21 a22 = true then (if a24 = true then no c12 else no c14) else no c30 := by unfold authT; rw [if_neg (show ¬ (false = true) by decide)]
  have E4 : authT b0 b1 b2 0 b6 b7 a12 a13 b14 b15 b16 a17 a18 a19 a20 a21 a22 a24 = no c30 := by unfold authT; rw [mayA_zero, if_neg (show ¬ (false = true) by decide)]
  have C3 := code_some b0 b1 (((⟨#[48]⟩ : ByteArray) ++ (strOfNums ([(48 + (Int.tmod n 10)) % 256] : List Int))) ++ (⟨#[48, 48, 48, 48]⟩ : ByteArray)) a3 b6 b7 a12 a13 b14 b15 b16 a17 a18 a19 a20 a21 a22 a24
  have N3 : ¬ Int.tmod n 10 = 0 → ¬ Int.tmod n 10 = 2 → (authT b0 b1 (((⟨#[48]⟩ : ByteArray) ++ (strOfNums ([(48 + (Int.tmod n 10)) % 256] : List Int))) ++ (⟨#[48, 48, 48, 48]⟩ : ByteArray)) a3 b6 b7 a12 a13 b14 b15 b16 a17 a18 a19 a20 a21 a22 a24).2.2.1 = false := by
    intro d0 d2
    rcases auth_cases b0 b1 (((⟨#[48]⟩ : ByteArray) ++ (strOfNums ([(48 + (Int.tmod n 10)) % 256] : List Int))) ++ (⟨#[48, 48, 48, 48]⟩ : ByteArray)) a3 b6 b7 a12 a13 b14 b15 b16 a17 a18 a19 a20 a21 a22 a24 with ⟨c, _, hr⟩ | ⟨_, _, _, _, h⟩
    · rw [hr]; rfl
    · rcases h with ⟨h, _⟩ | ⟨_, h, _⟩
      · rw [k0] at h; exact absurd (of_decide_eq_true h) d0
      · rw [k2] at h; exact absurd (of_decide_eq_true h) d2
  rw [if_pos (by rw [kind_size]; decide), if_pos (by rw [kind_size2]; decide)]
  rw [R1, R2, R3, R4]
  simp only [Option.bind_some]
  rw [E1, E2, E4]
  generalize authT b0 b1 (((⟨#[48]⟩ : ByteArray) ++ (strOfNums ([(48 + (Int.tmod n 10)) % 256] : List Int))) ++ (⟨#[48, 48, 48, 48]⟩ : ByteArray)) a3 b6 b7 a12 a13 b14 b15 b16 a17 a18 a19 a20 a21 a22 a24 = z at C3 N3 ⊢
  have b00 : (c12.toList = [48, 48]) = False := eq_false (by rw [c12_list]; decide)
  have b01 : (c14.toList = [48, 48]) = False := eq_false (by rw [c14_list]; decide)
  have b02 : (c30.toList = [48, 48]) = False := eq_false (by rw [c30_list]; decide)
  have b04 : (([49, 50] : List UInt8) = [48, 48]) = False := eq_false (by decide)
  have b03 : (c30.toList != [51, 48]) = false := by rw [c30_list]; rfl
  by_cases hm : mayA b1 a3 b6 b7 b14 b15 b16 a17 a18 a19 a20 a21 a22 = true
  · by_cases he : a24 = true
    · simp only [if_pos hm, if_pos he, outC, no, Bool.false_eq_true, if_false, b00, b03, bursarlaw22_AuthEarly.j0, MY, Option.bind_some, hm, if_true, c12_list, b04, C3, AW]
      by_cases d0 : Int.tmod n 10 = 0
      · rw [if_pos d0]
      rw [if_neg d0]
      by_cases d2 : Int.tmod n 10 = 2
      · rw [if_pos d2]
      rw [if_neg d2, N3 d0 d2, if_neg (show ¬ (false = true) by decide)]
    · simp only [if_pos hm, if_neg he, outC, no, Bool.false_eq_true, if_false, b00, b01, b03, bursarlaw22_AuthEarly.j0, MY, Option.bind_some, hm, if_true, c12_list, b04, C3, AW]
      by_cases d0 : Int.tmod n 10 = 0
      · rw [if_pos d0]
      rw [if_neg d0]
      by_cases d2 : Int.tmod n 10 = 2
      · rw [if_pos d2]
      rw [if_neg d2, N3 d0 d2, if_neg (show ¬ (false = true) by decide)]
  · simp only [if_neg hm, outC, no, Bool.false_eq_true, if_false, b02, b03, bursarlaw22_AuthEarly.j0, MY, Option.bind_some, C3, AW]
    by_cases d0 : Int.tmod n 10 = 0
    · rw [if_pos d0]
    rw [if_neg d0]
    by_cases d2 : Int.tmod n 10 = 2
    · rw [if_pos d2]
    rw [if_neg d2, N3 d0 d2, if_neg (show ¬ (false = true) by decide)]
end Go.Proofs.Ytmdpomilhejbcaa.XAE
