/- Plain Lean: numbers as digits: what digit.Put, Get and Sign answer, and the laws between them; no program in sight. -/
import Derived.Test.YtnelnmlhlmocdaaGreatDoorPu
import Derived.Lib.ItoaNum
import Derived.Lib.ItoaLen
import Derived.Lib.Repeat
import Derived.Lib.ParseIntB
namespace Go.Proofs.YtnelnmlhlmocdaaGreatDoor.Dg
open Go.RowKit Go.Proofs.YtnelnmlhlmocdaaGreatDoorW.PrintWords
set_option linter.unusedVariables false
set_option linter.unusedSimpArgs false

/-- the last w digits of a number -/
def dgs : Nat → Nat → List UInt8
  | 0, _ => []
  | w + 1, u => dgs w (u / 10) ++ [UInt8.ofNat (48 + u % 10)]
theorem dgs_len : ∀ w u, (dgs w u).length = w
  | 0, _ => rfl
  | w + 1, u => by rw [dgs, List.length_append, dgs_len w]; rfl
theorem dgs_zero : ∀ w, dgs w 0 = List.replicate w 48
  | 0 => rfl
  | w + 1 => by rw [dgs, Nat.zero_div, dgs_zero w, List.replicate_succ']; rfl
theorem dgs_pad : ∀ (w u : Nat), Lib.nDigits u ≤ w → List.replicate (w - Lib.nDigits u) 48 ++ Lib.decDigits u = dgs w u
  | 0, u, h => by have := Lib.nDigits_pos u; omega
  | w + 1, u, h => by
    by_cases h10 : u < 10
    · rw [Lib.nDigits_small h10, Lib.decDigits, dif_pos h10, dgs, Nat.div_eq_of_lt h10, dgs_zero, Nat.mod_eq_of_lt h10]; rfl
    · rw [Lib.nDigits_big h10] at h ⊢
      rw [Lib.decDigits, dif_neg h10, dgs, ← dgs_pad w (u / 10) (by omega), List.append_assoc]
      congr 2; omega
theorem nDigits_le (u : Nat) : ∀ w, 1 ≤ w → (Lib.nDigits u ≤ w ↔ u < 10 ^ w) := by
  intro w hw
  constructor
  · intro h; exact Nat.lt_of_lt_of_le (Lib.lt_pow_nDigits u) (Nat.pow_le_pow_right (by omega) h)
  · intro h
    induction w generalizing u with
    | zero => omega
    | succ w ih =>
      by_cases h10 : u < 10
      · rw [Lib.nDigits_small h10]; omega
      · rw [Lib.nDigits_big h10]
        by_cases hw0 : w = 0
        · subst hw0; omega
        · have := ih (u / 10) (by omega) (by rw [Nat.pow_succ] at h; omega)
          omega
theorem dgs_front : ∀ (w u : Nat), dgs (w + 1) u = UInt8.ofNat (48 + u / 10 ^ w % 10) :: dgs w u
  | 0, u => by simp [dgs]
  | w + 1, u => by
    rw [dgs, dgs_front w (u / 10), dgs, List.cons_append, Nat.div_div_eq_div_mul, Nat.pow_succ, Nat.mul_comm 10]
theorem ofNat_toNat {n : Nat} (h : n < 256) : (UInt8.ofNat n).toNat = n := by
  simp [UInt8.toNat_ofNat]; omega
/-- the number that digits spell -/
def vals (acc : Nat) (l : List UInt8) : Nat := l.foldl (fun n c => n * 10 + (c.toNat - 48)) acc
theorem vals_nil (acc : Nat) : vals acc [] = acc := by simp only [vals, List.foldl_nil]
theorem vals_cons (acc : Nat) (c : UInt8) (r : List UInt8) : vals acc (c :: r) = vals (acc * 10 + (c.toNat - 48)) r := by simp only [vals, List.foldl_cons]
theorem val_app (l r : List UInt8) (acc : Nat) : vals acc (l ++ r) = vals (vals acc l) r := by simp only [vals, List.foldl_append]
theorem val_dgs : ∀ (w u : Nat), vals 0 (dgs w u) = u % 10 ^ w
  | 0, u => by rw [dgs, vals_nil, Nat.pow_zero, Nat.mod_one]
  | w + 1, u => by
    rw [dgs, val_app, val_dgs w, vals_cons, vals_nil, ofNat_toNat (by omega), Nat.add_sub_cancel_left, Nat.pow_succ, Nat.mul_comm (10 ^ w) 10, Nat.mod_mul]
    omega
def dig8 (c : UInt8) : Bool := decide (48 ≤ c.toNat) && decide (c.toNat ≤ 57)
theorem dgs_dig : ∀ (w u : Nat), (dgs w u).all dig8 = true
  | 0, u => rfl
  | w + 1, u => by
    rw [dgs, List.all_append, dgs_dig w]
    simp only [List.all_cons, List.all_nil, Bool.and_true, Bool.true_and, dig8]
    rw [ofNat_toNat (by omega)]; simp; omega
theorem all_bs (s : ByteArray) : Pu.allD s = s.data.toList.all dig8 := by
  unfold Pu.allD Pu.bs
  rw [List.all_map]
  congr 1; funext b
  simp only [Function.comp, Pu.dig, dig8]
  rw [Bool.eq_iff_iff]; simp; omega
theorem val_lt : ∀ (l : List UInt8) (acc B : Nat), l.all dig8 = true → acc < B → vals acc l < B * 10 ^ l.length
  | [], acc, B, _, h => by rw [vals_nil, List.length_nil, Nat.pow_zero, Nat.mul_one]; exact h
  | c :: l, acc, B, hd, h => by
    simp only [List.all_cons, Bool.and_eq_true, dig8, decide_eq_true_eq] at hd
    rw [vals_cons, List.length_cons, Nat.pow_succ, Nat.mul_comm (10 ^ l.length), ← Nat.mul_assoc]
    exact val_lt l _ (B * 10) (by simpa [dig8] using hd.2) (by omega)
theorem parse_val : ∀ (l : List UInt8) (acc : Nat), l.all dig8 = true → acc < 10 ^ (19 - l.length) → l.length ≤ 19 → Lib.parseUintM (2 ^ 64 - 1) acc l = .ok (vals acc l)
  | [], acc, _, _, _ => by rw [vals_nil, Lib.parseUintM]
  | c :: l, acc, hd, ha, hl => by
    simp only [List.all_cons, Bool.and_eq_true] at hd
    have hc := hd.1
    simp only [dig8, Bool.and_eq_true, decide_eq_true_eq] at hc
    simp only [List.length_cons] at ha hl
    have h18 : 10 ^ (19 - (l.length + 1)) ≤ 10 ^ 18 := Nat.pow_le_pow_right (by omega) (by omega)
    have h19 : 10 ^ (19 - l.length) = 10 * 10 ^ (19 - (l.length + 1)) := by rw [show 19 - l.length = (19 - (l.length + 1)) + 1 by omega, Nat.pow_succ, Nat.mul_comm]
    rw [Lib.parseUintM, if_pos hc, if_neg (by omega), if_neg (by omega), vals_cons]
    exact parse_val l _ hd.2 (by omega) (by omega)
theorem parse_ok (s : ByteArray) (hd : Pu.allD s = true) (h1 : 1 ≤ s.size) (h19 : s.size ≤ 19) : Lib.parseUintB 64 s.data.toList = .ok (vals 0 s.data.toList) := by
  have hl := Pu.data_len s
  unfold Lib.parseUintB
  rw [if_neg (by intro h; rw [h] at hl; simp at hl; omega)]
  exact parse_val _ 0 (by rw [← all_bs]; exact hd) (Nat.pow_pos (by omega)) (by omega)
theorem val_lt19 (s : ByteArray) (hd : Pu.allD s = true) (h19 : s.size ≤ 19) : vals 0 s.data.toList < 10 ^ 19 := by
  have := val_lt s.data.toList 0 1 (by rw [← all_bs]; exact hd) (by omega)
  rw [Nat.one_mul, Pu.data_len] at this
  exact Nat.lt_of_lt_of_le this (Nat.pow_le_pow_right (by omega) h19)

/-! ### the functions -/
def ba (l : List UInt8) : ByteArray := ⟨l.toArray⟩
theorem ba_data (l : List UInt8) : (ba l).data.toList = l := rfl
theorem ba_size (l : List UInt8) : (ba l).size = l.length := by rw [← Pu.data_len, ba_data]
def putS (n : Nat) (w : Int) : ByteArray × Int :=
  if w < 1 ∨ 19 < w then (⟨#[]⟩, 1) else if Lib.nDigits n ≤ w.toNat then (ba (dgs w.toNat n), 0) else (⟨#[]⟩, 2)
def getS (s : ByteArray) : Int × Int :=
  if s.size < 1 ∨ 19 < s.size then (0, 1) else if Pu.allD s = true then ((vals 0 s.data.toList : Nat), 0) else (0, 4)
/-- the digit that makes digits sound -/
def signD (s : ByteArray) : Int := (10 - Pu.luhn (Pu.bs s ++ [48]) % 10) % 10
def signS (s : ByteArray) : ByteArray × Int :=
  if s.size = 0 ∨ Pu.allD s = false then (⟨#[]⟩, 4) else (s ++ ba (Lib.decDigits (signD s).toNat), 0)

/-! ### sums -/
def luK (k : Nat) : List Int → Int
  | [] => 0
  | c :: t => luK k t + (if (t.length + k) % 2 = 1 then Pu.dbl (c - 48) else c - 48)
theorem luK_zero : ∀ l, luK 0 l = Pu.luhn l
  | [] => rfl
  | c :: t => by rw [luK, Pu.luhn, luK_zero t]; rfl
theorem luK_app : ∀ (l r : List Int) (k : Nat), luK k (l ++ r) = luK (k + r.length) l + luK k r
  | [], r, k => by simp [luK]
  | c :: t, r, k => by rw [List.cons_append, luK, luK_app t, luK, List.length_append, show t.length + r.length + k = t.length + (k + r.length) by omega]; omega
theorem luhn_app (l r : List Int) : Pu.luhn (l ++ r) = luK r.length l + Pu.luhn r := by rw [← luK_zero, luK_app, luK_zero, Nat.zero_add]
theorem luhn_last (l : List Int) (c : Int) : Pu.luhn (l ++ [c]) = Pu.luhn (l ++ [48]) + (c - 48) := by
  rw [luhn_app, luhn_app]; simp [Pu.luhn]
theorem bs_app (a b : ByteArray) : Pu.bs (a ++ b) = Pu.bs a ++ Pu.bs b := by unfold Pu.bs; rw [Pu.data_append, List.map_append]
theorem allD_app (a b : ByteArray) : Pu.allD (a ++ b) = (Pu.allD a && Pu.allD b) := by unfold Pu.allD; rw [bs_app, List.all_append]
theorem signD_range (s : ByteArray) : 0 ≤ signD s ∧ signD s ≤ 9 := by unfold signD; omega
theorem dec_one (d : Int) (h0 : 0 ≤ d) (h9 : d ≤ 9) : Lib.decDigits d.toNat = [UInt8.ofNat (48 + d.toNat)] := Lib.decDigits_one (by omega)
theorem sign_tail (s : ByteArray) : ba (Lib.decDigits (signD s).toNat) = ba [UInt8.ofNat (48 + (signD s).toNat)] := by
  rw [dec_one _ (signD_range s).1 (signD_range s).2]
theorem bs_one (n : Nat) (h : n < 256) : Pu.bs (ba [UInt8.ofNat n]) = [(n : Int)] := by
  unfold Pu.bs; rw [ba_data]; simp only [List.map_cons, List.map_nil]; rw [ofNat_toNat h]
theorem sound_tail (s : ByteArray) (h1 : 1 ≤ s.size) (ha : Pu.allD s = true) (d : Nat) (hd : d ≤ 9) :
    Pu.soundB (s ++ ba [UInt8.ofNat (48 + d)]) = decide ((d : Int) = signD s) := by
  have hs : (s ++ ba [UInt8.ofNat (48 + d)]).size = s.size + 1 := by rw [ByteArray.size_append, ba_size]; rfl
  have hall : Pu.allD (s ++ ba [UInt8.ofNat (48 + d)]) = true := by
    rw [allD_app, ha]; unfold Pu.allD; rw [bs_one _ (by omega)]; simp [Pu.dig]; omega
  unfold Pu.soundB
  rw [hs, hall, bs_app, bs_one _ (by omega), luhn_last]
  have : decide (2 ≤ s.size + 1) = true := decide_eq_true (by omega)
  rw [this, Bool.true_and, Bool.true_and, Bool.eq_iff_iff, decide_eq_true_iff, decide_eq_true_iff]
  unfold signD
  omega
end Go.Proofs.YtnelnmlhlmocdaaGreatDoor.Dg
