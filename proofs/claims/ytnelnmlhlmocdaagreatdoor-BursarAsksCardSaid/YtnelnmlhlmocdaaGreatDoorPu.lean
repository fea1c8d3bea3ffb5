/- Plain Lean: what the layers of the program answer, as total functions over numbers and bytes; no program in sight. -/
import Derived.Test.YtnelnmlhlmocdaaGreatDoorWMore
import Derived.Lib.Strings
namespace Go.Proofs.YtnelnmlhlmocdaaGreatDoor.Pu
open Go.RowKit Go.Proofs.YtnelnmlhlmocdaaGreatDoorW.PrintWords
set_option linter.unusedVariables false
set_option linter.unusedSimpArgs false

/-! ### bytes -/
def bs (s : ByteArray) : List Int := s.data.toList.map fun b => (b.toNat : Int)
theorem bs_length (s : ByteArray) : (bs s).length = s.size := by simp [bs]
theorem bs_get (s : ByteArray) (i : Nat) (h : i < s.size) : (bs s)[i]? = some (bt s i) := by
  unfold bs bt
  have h' : (i : Int).toNat < s.size := by simpa using h
  rw [dif_pos h', List.getElem?_map, List.getElem?_eq_getElem (by simpa using h)]
  rfl
theorem bs_drop (s : ByteArray) (i : Nat) (h : i < s.size) : (bs s).drop i = bt s i :: (bs s).drop (i + 1) := by
  have h1 : i < (bs s).length := by rw [bs_length]; exact h
  rw [List.drop_eq_getElem_cons h1]
  have := bs_get s i h
  rw [List.getElem?_eq_getElem h1] at this
  rw [Option.some.inj this]
theorem bs_drop_all (s : ByteArray) : (bs s).drop s.size = [] := by rw [← bs_length]; exact List.drop_length
theorem wrap_small {i : Int} (h0 : -4611686018427387904 ≤ i) (h : i ≤ 4611686018427387904) : wrap64 i = i := by unfold wrap64; omega

/-! ### digits (layer 2) -/
def dig (c : Int) : Bool := decide (48 ≤ c) && decide (c ≤ 57)
theorem dig_iff (c : Int) : dig c = true ↔ 48 ≤ c ∧ c ≤ 57 := by simp [dig]
theorem dig_no (c : Int) : dig c = false ↔ c < 48 ∨ 57 < c := by
  rw [Bool.eq_false_iff, ne_eq, dig_iff]; omega
def allD (s : ByteArray) : Bool := (bs s).all dig
def dbl (d : Int) : Int := if 5 ≤ d then 2 * d - 9 else 2 * d
def luhn : List Int → Int
  | [] => 0
  | c :: t => luhn t + (if t.length % 2 = 1 then dbl (c - 48) else c - 48)
def soundB (s : ByteArray) : Bool := decide (2 ≤ s.size) && allD s && decide (luhn (bs s) % 10 = 0)

/-! ### accounts (layer 11) -/
def mayB (k : Int) (s : ByteArray) : Bool :=
  if k = 1 then decide (s.size = 16) && soundB s else if k = 2 then decide (s.size = 6) && allD s else if k = 3 ∨ k = 4 then decide (s.size = 0) else false
def letter (k : Int) : ByteArray := if k = 1 then ⟨#[67]⟩ else if k = 2 then ⟨#[65]⟩ else if k = 3 then ⟨#[72]⟩ else if k = 4 then ⟨#[68]⟩ else ⟨#[]⟩

theorem luhn_bound : ∀ l : List Int, l.all dig = true → 0 ≤ luhn l ∧ luhn l ≤ 9 * l.length
  | [] => fun _ => by simp [luhn]
  | c :: t => fun h => by
    rw [List.all_cons, Bool.and_eq_true] at h
    have hc := (dig_iff c).mp h.1
    have := luhn_bound t h.2
    simp only [luhn, List.length_cons, dbl]
    split <;> (try split) <;> omega
theorem all_drop (s : ByteArray) (h : allD s = true) (i : Nat) : ((bs s).drop i).all dig = true := by
  rw [List.all_eq_true]
  intro x hx
  exact (List.all_eq_true.mp h) x (List.mem_of_mem_drop hx)
theorem bt_dig (s : ByteArray) (h : allD s = true) (i : Nat) (hi : i < s.size) : 48 ≤ bt s i ∧ bt s i ≤ 57 := by
  have := all_drop s h i
  rw [bs_drop s i hi, List.all_cons, Bool.and_eq_true] at this
  exact (dig_iff _).mp this.1
theorem luhn_step (s : ByteArray) (i : Nat) (hi : i < s.size) : luhn ((bs s).drop i) = luhn ((bs s).drop (i + 1)) + (if (s.size - (i + 1)) % 2 = 1 then dbl (bt s i - 48) else bt s i - 48) := by
  rw [bs_drop s i hi]
  simp only [luhn, List.length_drop, bs_length]
/-- From the last digit on: one more. -/
theorem luhn_back (s : ByteArray) (k : Nat) (hk : k < s.size) : luhn ((bs s).drop (s.size - (k + 1))) = luhn ((bs s).drop (s.size - k)) + (if k % 2 = 1 then dbl (bt s ((s.size : Int) - 1 - k) - 48) else bt s ((s.size : Int) - 1 - k) - 48) := by
  have h := luhn_step s (s.size - 1 - k) (by omega)
  have e1 : s.size - 1 - k + 1 = s.size - k := by omega
  have e2 : s.size - (k + 1) = s.size - 1 - k := by omega
  have e3 : ((s.size - 1 - k : Nat) : Int) = (s.size : Int) - 1 - k := by omega
  have e4 : s.size - (s.size - k) = k := by omega
  rw [e1, e4, e3] at h
  rw [e2]; exact h
theorem luhn_part (s : ByteArray) (hd : allD s = true) (k : Nat) (hk : k ≤ s.size) : 0 ≤ luhn ((bs s).drop (s.size - k)) ∧ luhn ((bs s).drop (s.size - k)) ≤ 9 * k := by
  have h := luhn_bound ((bs s).drop (s.size - k)) (all_drop s hd _)
  rw [List.length_drop, bs_length] at h
  omega
theorem bt_back (s : ByteArray) (hd : allD s = true) (k : Nat) (hk : k < s.size) : 48 ≤ bt s ((s.size : Int) - 1 - k) ∧ bt s ((s.size : Int) - 1 - k) ≤ 57 := by
  have h := bt_dig s hd (s.size - 1 - k) (by omega)
  have e3 : ((s.size - 1 - k : Nat) : Int) = (s.size : Int) - 1 - k := by omega
  rw [e3] at h; exact h
theorem back_at (s : ByteArray) (hd : allD s = true) (k : Nat) (hk : k < s.size) : ∃ n : Nat, bt s ((s.size : Int) - 1 - k) = (n : Int) ∧ 48 ≤ n ∧ n ≤ 57 ∧ ∀ h : s.size - 1 - k < s.size, (s[s.size - 1 - k]'h).toNat = n := by
  have hb := bt_back s hd k hk
  have hi : ((s.size : Int) - 1 - k).toNat = s.size - 1 - k := by omega
  refine ⟨(bt s ((s.size : Int) - 1 - k)).toNat, by omega, by omega, by omega, fun h => ?_⟩
  have := bt_at s ((s.size : Int) - 1 - k)
  rw [hi] at this
  have := this h
  omega
theorem dbl_bound (d : Int) (h0 : 0 ≤ d) (h9 : d ≤ 9) : 0 ≤ dbl d ∧ dbl d ≤ 9 := by unfold dbl; split <;> omega
theorem toList_inj {a b : ByteArray} : a.toList = b.toList ↔ a = b := by
  constructor
  · intro h
    rw [ByteArray.toList_eq, ByteArray.toList_eq] at h
    exact ByteArray.ext (Array.toList_inj.mp h)
  · intro h; rw [h]
theorem toList_nil {a : ByteArray} : a.toList = [] ↔ a.size = 0 := by
  rw [ByteArray.toList_eq]
  constructor
  · intro h
    have : a.data.toList.length = 0 := by rw [h]; rfl
    rw [Array.length_toList] at this
    exact this
  · intro h
    exact List.eq_nil_of_length_eq_zero (by rw [Array.length_toList]; exact h)
theorem toList_empty (a : ByteArray) : (a.toList == ([] : List UInt8)) = decide (a.size = 0) := by
  rw [Bool.eq_iff_iff, beq_iff_eq, decide_eq_true_iff]; exact toList_nil
theorem toList_beq (a b : ByteArray) : (a.toList == b.toList) = decide (a = b) := by
  rw [Bool.eq_iff_iff, beq_iff_eq, decide_eq_true_iff]; exact toList_inj
theorem tmod_pos {a b : Int} (h : 0 ≤ a) : Int.tmod a b = a % b := Int.tmod_eq_emod_of_nonneg h
theorem luhn_nonneg (s : ByteArray) (h : allD s = true) : 0 ≤ luhn (bs s) := (luhn_bound _ h).1
theorem soundB_yes {s : ByteArray} (h2 : 2 ≤ s.size) (ha : allD s = true) : soundB s = (Int.tmod (luhn (bs s)) 10 == 0) := by
  unfold soundB
  rw [tmod_pos (luhn_nonneg s ha), ha, decide_eq_true h2, Bool.and_true, Bool.true_and, Bool.eq_iff_iff, decide_eq_true_iff, beq_iff_eq]
theorem soundB_short {s : ByteArray} (h2 : ¬ 2 ≤ s.size) : soundB s = false := by unfold soundB; rw [decide_eq_false h2]; rfl
theorem soundB_no {s : ByteArray} (ha : allD s = false) : soundB s = false := by unfold soundB; rw [ha]; simp
theorem size_nil {s : ByteArray} (h : s.size = 0) : s = ⟨#[]⟩ := by
  apply ByteArray.ext
  exact Array.eq_empty_of_size_eq_zero h
theorem app_nil (a : ByteArray) {s : ByteArray} (h : s.size = 0) : a ++ s = a := by
  rw [size_nil h]
  apply ByteArray.ext
  rw [ByteArray.data_append, Array.append_empty]
def nameB (k : Int) (s : ByteArray) : ByteArray := if mayB k s = true then letter k ++ s else ⟨#[]⟩
theorem mayB_1 (s : ByteArray) : mayB 1 s = (decide (s.size = 16) && soundB s) := rfl
theorem mayB_2 (s : ByteArray) : mayB 2 s = (decide (s.size = 6) && allD s) := rfl
theorem mayB_3 (s : ByteArray) : mayB 3 s = decide (s.size = 0) := rfl
theorem mayB_4 (s : ByteArray) : mayB 4 s = decide (s.size = 0) := rfl
theorem mayB_else {k : Int} (s : ByteArray) (h1 : ¬ k = 1) (h2 : ¬ k = 2) (h3 : ¬ k = 3) (h4 : ¬ k = 4) : mayB k s = false := by
  unfold mayB; rw [if_neg h1, if_neg h2, if_neg (by omega)]
theorem mayB_kind {k : Int} {s : ByteArray} (h : mayB k s = true) : (k = 1 ∧ s.size = 16 ∧ soundB s = true) ∨ (k = 2 ∧ s.size = 6 ∧ allD s = true) ∨ (k = 3 ∧ s.size = 0) ∨ (k = 4 ∧ s.size = 0) := by
  by_cases h1 : k = 1
  · subst h1; rw [mayB_1] at h; simp at h; exact .inl ⟨rfl, h⟩
  by_cases h2 : k = 2
  · subst h2; rw [mayB_2] at h; simp at h; exact .inr (.inl ⟨rfl, h⟩)
  by_cases h3 : k = 3
  · subst h3; rw [mayB_3, decide_eq_true_iff] at h; exact .inr (.inr (.inl ⟨rfl, h⟩))
  by_cases h4 : k = 4
  · subst h4; rw [mayB_4, decide_eq_true_iff] at h; exact .inr (.inr (.inr ⟨rfl, h⟩))
  rw [mayB_else s h1 h2 h3 h4] at h; cases h
theorem bne_nil (l : List UInt8) : (l != []) = !l.isEmpty := by cases l <;> rfl
theorem beq_nil (l : List UInt8) : (l == []) = l.isEmpty := by cases l <;> rfl

/-! ### the order of texts -/
def lessL : List UInt8 → List UInt8 → Bool := Op.bytesLess
theorem less_irr : ∀ a : List UInt8, Op.bytesLess a a = false
  | [] => rfl
  | x :: t => by simp [Op.bytesLess, less_irr t]
theorem less_tri : ∀ a b : List UInt8, Op.bytesLess a b = true ∨ a = b ∨ Op.bytesLess b a = true
  | [], [] => .inr (.inl rfl)
  | [], _ :: _ => .inl rfl
  | _ :: _, [] => .inr (.inr rfl)
  | x :: a, y :: b => by
    rcases less_tri a b with h | h | h
    all_goals
      rcases Nat.lt_trichotomy x.toNat y.toNat with g | g | g
      all_goals simp only [Op.bytesLess, Bool.or_eq_true, Bool.and_eq_true, decide_eq_true_eq, beq_iff_eq, List.cons.injEq, UInt8.lt_iff_toNat_lt]
      all_goals first
        | exact .inl (.inl g)
        | exact .inr (.inr (.inl g))
        | (have e := UInt8.toNat_inj.mp g; first | exact .inl (.inr ⟨e, h⟩) | exact .inr (.inl ⟨e, h⟩) | exact .inr (.inr (.inr ⟨e.symm, h⟩)))
theorem less_asym : ∀ a b : List UInt8, Op.bytesLess a b = true → Op.bytesLess b a = false
  | [], [] => fun h => by simp [Op.bytesLess] at h
  | [], _ :: _ => fun _ => rfl
  | _ :: _, [] => fun h => by simp [Op.bytesLess] at h
  | x :: a, y :: b => fun h => by
    simp only [Op.bytesLess, Bool.or_eq_true, Bool.and_eq_true, decide_eq_true_eq, beq_iff_eq, UInt8.lt_iff_toNat_lt] at h
    simp only [Op.bytesLess, Bool.or_eq_false_iff, Bool.and_eq_false_iff, decide_eq_false_iff_not, beq_eq_false_iff_ne, UInt8.lt_iff_toNat_lt]
    rcases h with h | ⟨rfl, h⟩
    · exact ⟨by omega, .inl (fun e => by rw [e] at h; omega)⟩
    · exact ⟨by omega, .inr (less_asym a b h)⟩
def cmpS (a b : ByteArray) : Int := if Op.bytesLess a.toList b.toList = true then -1 else if Op.bytesLess b.toList a.toList = true then 1 else 0
def cmpI (a b : Int) : Int := if a < b then -1 else if a > b then 1 else 0
def orderS (k1 : Int) (s1 : ByteArray) (k2 : Int) (s2 : ByteArray) : Int :=
  if mayB k1 s1 = true ∧ mayB k2 s2 = true then cmpS (nameB k1 s1) (nameB k2 s2) else if cmpI k1 k2 ≠ 0 then cmpI k1 k2 else cmpS s1 s2

/-! ### a name's account -/
def hit (s : ByteArray) (j : Int) : Bool := ((letter j).toList == (s.extract 0 1).toList) && mayB j (s.extract 1 s.size)
def parseB (s : ByteArray) : Int × ByteArray × Bool :=
  if hit s 1 = true then (1, s.extract 1 s.size, true) else if hit s 2 = true then (2, s.extract 1 s.size, true) else if hit s 3 = true then (3, s.extract 1 s.size, true) else if hit s 4 = true then (4, s.extract 1 s.size, true) else (0, ⟨#[]⟩, false)
theorem hit_0 (s : ByteArray) : hit s 0 = false := by unfold hit; rw [mayB_else _ (by decide) (by decide) (by decide) (by decide), Bool.and_false]
theorem parse_hit (s : ByteArray) (k : Nat) (hk : k < 5) (h : ∀ j : Nat, j < k → hit s j = false) (hh : hit s k = true) : parseB s = ((k : Int), s.extract 1 s.size, true) := by
  unfold parseB
  match k, hk with
  | 0, _ => rw [show ((0 : Nat) : Int) = 0 from rfl, hit_0] at hh; cases hh
  | 1, _ => exact if_pos (show hit s 1 = true from hh)
  | 2, _ =>
    have h1 : hit s 1 = false := h 1 (by omega)
    rw [h1, if_neg (by decide)]; exact if_pos (show hit s 2 = true from hh)
  | 3, _ =>
    have h1 : hit s 1 = false := h 1 (by omega)
    have h2 : hit s 2 = false := h 2 (by omega)
    rw [h1, if_neg (by decide), h2, if_neg (by decide)]; exact if_pos (show hit s 3 = true from hh)
  | 4, _ =>
    have h1 : hit s 1 = false := h 1 (by omega)
    have h2 : hit s 2 = false := h 2 (by omega)
    have h3 : hit s 3 = false := h 3 (by omega)
    rw [h1, if_neg (by decide), h2, if_neg (by decide), h3, if_neg (by decide)]; exact if_pos (show hit s 4 = true from hh)
theorem parse_none (s : ByteArray) (h : ∀ j : Nat, j < 5 → hit s j = false) : parseB s = (0, ⟨#[]⟩, false) := by
  unfold parseB
  rw [show hit s 1 = false from h 1 (by omega), show hit s 2 = false from h 2 (by omega), show hit s 3 = false from h 3 (by omega), show hit s 4 = false from h 4 (by omega)]
  rfl
theorem hit_cmp (s : ByteArray) (j : Int) (h : ((letter j).toList == (s.extract 0 1).toList) = false) : hit s j = false := by unfold hit; rw [h, Bool.false_and]
theorem hit_may (s : ByteArray) (j : Int) (h : mayB j (s.extract 1 s.size) = false) : hit s j = false := by unfold hit; rw [h, Bool.and_false]
theorem hit_yes (s : ByteArray) (j : Int) (h : ((letter j).toList == (s.extract 0 1).toList) = true) (h2 : mayB j (s.extract 1 s.size) = true) : hit s j = true := by unfold hit; rw [h, h2]; rfl
theorem ba_ext {a b : ByteArray} (h : a.data.toList = b.data.toList) : a = b := ByteArray.ext (Array.toList_inj.mp h)
theorem data_append (a b : ByteArray) : (a ++ b).data.toList = a.data.toList ++ b.data.toList := by rw [ByteArray.data_append, Array.toList_append]
theorem data_extract (s : ByteArray) (a b : Nat) : (s.extract a b).data.toList = (s.data.toList.drop a).take (b - a) := Lib.extract_data s a b
theorem data_len (s : ByteArray) : s.data.toList.length = s.size := by rw [Array.length_toList]; rfl
theorem ext_split (s : ByteArray) (h : 1 ≤ s.size) : s.extract 0 1 ++ s.extract 1 s.size = s := by
  apply ba_ext
  rw [data_append, data_extract, data_extract, List.drop_zero, show 1 - 0 = 1 from rfl]
  have : (s.data.toList.drop 1).take (s.size - 1) = s.data.toList.drop 1 := List.take_of_length_le (by rw [List.length_drop, data_len]; exact Nat.le_refl _)
  rw [this, List.take_append_drop]
theorem letter_size {j : Int} (h : j = 1 ∨ j = 2 ∨ j = 3 ∨ j = 4) : (letter j).size = 1 := by
  rcases h with rfl | rfl | rfl | rfl <;> rfl
theorem kind_of_may {j : Int} {s : ByteArray} (h : mayB j s = true) : j = 1 ∨ j = 2 ∨ j = 3 ∨ j = 4 := by
  rcases mayB_kind h with h | h | h | h <;> omega
theorem first_of_app (a b : ByteArray) (h : a.size = 1) : (a ++ b).extract 0 1 = a := by
  apply ba_ext
  rw [data_extract, data_append, List.drop_zero, show 1 - 0 = 1 from rfl, ← h, ← data_len a, List.take_left]
theorem rest_of_app (a b : ByteArray) (h : a.size = 1) : (a ++ b).extract 1 (a ++ b).size = b := by
  apply ba_ext
  have hl : a.data.toList.length = 1 := by rw [data_len]; exact h
  have h1 : (a.data.toList ++ b.data.toList).drop 1 = b.data.toList := by
    have := List.drop_left (l₁ := a.data.toList) (l₂ := b.data.toList)
    rw [hl] at this; exact this
  rw [data_extract, data_append, h1]
  exact List.take_of_length_le (by rw [data_len, ByteArray.size_append]; omega)
theorem letter_rest (s : ByteArray) (j : Int) (hc : ((letter j).toList == (s.extract 0 1).toList) = true) (hm : mayB j (s.extract 1 s.size) = true) : letter j ++ s.extract 1 s.size = s := by
  have e := toList_inj.mp (beq_iff_eq.mp hc)
  have h1 : (s.extract 0 1).size = 1 := by rw [← e]; exact letter_size (kind_of_may hm)
  rw [e]
  refine ext_split s ?_
  rw [← data_len, data_extract, List.length_take, List.length_drop, data_len] at h1
  omega
theorem letter_first (s : ByteArray) (j : Int) (hm : mayB j (s.extract 1 s.size) = true) (h : letter j ++ s.extract 1 s.size = s) : ((letter j).toList == (s.extract 0 1).toList) = true := by
  rw [beq_iff_eq, toList_inj]
  have := first_of_app (letter j) (s.extract 1 s.size) (letter_size (kind_of_may hm))
  rw [h] at this; exact this.symm
theorem letter_inj {i j : Int} (hi : i = 1 ∨ i = 2 ∨ i = 3 ∨ i = 4) (hj : j = 1 ∨ j = 2 ∨ j = 3 ∨ j = 4) (h : letter i = letter j) : i = j := by
  have hd : (letter i).data.toList = (letter j).data.toList := by rw [h]
  rcases hi with rfl | rfl | rfl | rfl <;> rcases hj with rfl | rfl | rfl | rfl <;> first | rfl | (revert hd; decide)
theorem parse_name {k : Int} {t : ByteArray} (h : mayB k t = true) : parseB (letter k ++ t) = (k, t, true) := by
  have hk := kind_of_may h
  have e1 := first_of_app (letter k) t (letter_size hk)
  have e2 := rest_of_app (letter k) t (letter_size hk)
  have hh : hit (letter k ++ t) k = true := hit_yes _ _ (by rw [e1, beq_iff_eq]) (by rw [e2]; exact h)
  have hn : ∀ j : Int, (j = 1 ∨ j = 2 ∨ j = 3 ∨ j = 4) → j ≠ k → hit (letter k ++ t) j = false := fun j hj hne => hit_cmp _ _ (by
    rw [e1, beq_eq_false_iff_ne]; exact fun g => hne (letter_inj hj hk (toList_inj.mp g)))
  unfold parseB
  rw [e2]
  rcases hk with rfl | rfl | rfl | rfl
  · rw [if_pos hh]
  · rw [if_neg (by rw [hn 1 (by omega) (by decide)]; decide), if_pos hh]
  · rw [if_neg (by rw [hn 1 (by omega) (by decide)]; decide), if_neg (by rw [hn 2 (by omega) (by decide)]; decide), if_pos hh]
  · rw [if_neg (by rw [hn 1 (by omega) (by decide)]; decide), if_neg (by rw [hn 2 (by omega) (by decide)]; decide), if_neg (by rw [hn 3 (by omega) (by decide)]; decide), if_pos hh]
theorem hit_empty (s : ByteArray) (h0 : s.size = 0) (j : Int) : hit s j = false := by
  rw [size_nil h0]
  by_cases h1 : j = 1
  · subst h1; exact hit_cmp _ _ (by rw [ByteArray.toList_eq, ByteArray.toList_eq]; decide)
  by_cases h2 : j = 2
  · subst h2; exact hit_cmp _ _ (by rw [ByteArray.toList_eq, ByteArray.toList_eq]; decide)
  by_cases h3 : j = 3
  · subst h3; exact hit_cmp _ _ (by rw [ByteArray.toList_eq, ByteArray.toList_eq]; decide)
  by_cases h4 : j = 4
  · subst h4; exact hit_cmp _ _ (by rw [ByteArray.toList_eq, ByteArray.toList_eq]; decide)
  exact hit_may _ _ (mayB_else _ h1 h2 h3 h4)

/-! ### holds (layer 14) -/
def alnum (c : Int) : Bool := (decide (48 ≤ c) && decide (c ≤ 57)) || (decide (65 ≤ c) && decide (c ≤ 90))
def refB (s : ByteArray) : Bool := decide (s.size = 12) && (bs s).all alnum
def hmay (rrn acq pan : ByteArray) (ap ca un : Int) (op : Bool) : Bool :=
  refB rrn && mayB 1 pan && mayB 2 acq && decide (0 ≤ un) && decide (un ≤ 2147483647) && decide (0 ≤ ca) && decide (ca ≤ ap) && (!op || decide (ca < ap))
theorem hmay_iff {rrn acq pan : ByteArray} {ap ca un : Int} {op : Bool} : hmay rrn acq pan ap ca un op = true ↔ refB rrn = true ∧ mayB 1 pan = true ∧ mayB 2 acq = true ∧ 0 ≤ un ∧ un ≤ 2147483647 ∧ 0 ≤ ca ∧ ca ≤ ap ∧ (op = true → ca < ap) := by
  unfold hmay
  simp only [Bool.and_eq_true, decide_eq_true_eq, Bool.or_eq_true, Bool.not_eq_true', and_assoc]
  cases op <;> simp
abbrev H7 := ByteArray × ByteArray × ByteArray × Int × Int × Int × Bool
def h0 : H7 := (⟨#[]⟩, ⟨#[]⟩, ⟨#[]⟩, 0, 0, 0, false)
/-- What is wrong with a hold and an amount: an error's number. -/
def wrongS (rrn acq pan : ByteArray) (ap ca un : Int) (op : Bool) (n : Int) : Int :=
  if hmay rrn acq pan ap ca un op = true then (if op = true then (if n < 1 then 1 else 0) else 14) else 1
def takeS (rrn acq pan : ByteArray) (ap ca un : Int) (op : Bool) (n : Int) (last : Bool) : H7 × Int :=
  if wrongS rrn acq pan ap ca un op n ≠ 0 then (h0, wrongS rrn acq pan ap ca un op n)
  else if n > wrap64 (ap - ca) then (h0, 13)
  else ((rrn, acq, pan, ap, wrap64 (ca + n), un, !last && decide (wrap64 (ca + n) < ap)), 0)
def lessS (rrn acq pan : ByteArray) (ap ca un : Int) (op : Bool) (n : Int) : H7 × Int :=
  if wrongS rrn acq pan ap ca un op n ≠ 0 then (h0, wrongS rrn acq pan ap ca un op n)
  else if n > wrap64 (ap - ca) then (h0, 13)
  else ((rrn, acq, pan, wrap64 (ap - n), ca, un, decide (ca < wrap64 (ap - n))), 0)
def undoS (rrn acq pan : ByteArray) (ap ca un : Int) (op : Bool) : H7 × Int :=
  if wrongS rrn acq pan ap ca un op 1 ≠ 0 then (h0, wrongS rrn acq pan ap ca un op 1)
  else ((rrn, acq, pan, ca, ca, un, false), 0)
def inI64 (n : Int) : Prop := -9223372036854775808 ≤ n ∧ n ≤ 9223372036854775807
instance (n : Int) : Decidable (inI64 n) := inferInstanceAs (Decidable (_ ∧ _))
def moreS (rrn acq pan : ByteArray) (ap ca un : Int) (op : Bool) (n til : Int) : H7 × Int :=
  if wrongS rrn acq pan ap ca un op n ≠ 0 then (h0, wrongS rrn acq pan ap ca un op n)
  else if til < 0 ∨ til > 2147483647 then (h0, 1)
  else if inI64 (ap + n) then ((rrn, acq, pan, ap + n, ca, til, decide (ca < ap + n)), 0)
  else (h0, 2)

/-! ### a store, as an event -/
section
variable {P : Program} {ops : Array Oper} {rest : List Oper} {o : Oper} {a : Act} {Q : Exit → Act → World → Prop}
/-- A whole struct stored into a block that is known whole: the block, and all else, behind it. -/
theorem x_store {W : World} (hgd : o.guard = none) {t : TypeId} {p : Tmp} {v : Operand} (ho : o.op = .store t (.tmp p) v) (hN : o.dst = none) {g : Nat} {cs vs : Array Value} {e : TypeId}
    (hp : a.eval (.tmp p) = .pointer (some ⟨g, 0, none⟩)) (hv : a.eval v = .agg vs) (hb : W.heap[g]? = some (.cells cs e (0, 0))) (hsz : vs.size = cs.size) (ht : (P.info? t).map (·.size) = some vs.size) (h1 : vs.toList.all (fun q => q.oneCell') = true)
    (h : ∀ w1 : World, w1.heap[g]? = some (.cells vs e (0, 0)) → (∀ k, k ≠ g → w1.heap[k]? = W.heap[k]?) → w1.heap.size = W.heap.size → w1.os = W.os → w1.tape = W.tape → w1.output = W.output → wpList P ops Q rest a w1) :
    wpList P ops Q (o :: rest) a W := by
  have hr := run_store_run (P := P) (w := W) (g := g) (o := 0) t (.agg vs) vs.toList hb (by simp [Value.cells]) (by simpa using ht) (by simp [hsz]) (fun q hq => List.all_eq_true.mp h1 q hq)
  refine store_event (w1 := W.setCells g 0 vs.toList) hgd ho hN ?_ ?_
  · unfold execOp
    rw [ho]
    simp only [hp, hv]
    simp [hr]
  · intro w' hw'
    subst hw'
    obtain ⟨cur', h3, h4, h5⟩ := setCells_row (g := g) (e := e) vs.toList 0 W cs hb (by simp [hsz])
    have hc : cur' = vs := by
      apply Array.toList_inj.mp
      rw [h5]; simp [hsz]
    subst hc
    obtain ⟨q1, q2, q3, q4⟩ := setCells_same g cur'.toList 0 W
    exact h _ h3 (fun k hk => setCells_far _ 0 k hk) q4 q1 q2 q3
theorem gate_load {t : TypeId} {p : Tmp} {W : World} (_ho : o.op = .load t (.tmp p)) (h : wpList P ops Q (o :: rest) a W) : wpList P ops Q (o :: rest) a W := h
/-- A whole struct loaded out of a block that is known whole. -/
theorem x_load {W : World} (hgd : o.guard = none) {t : TypeId} {p : Tmp} (ho : o.op = .load t (.tmp p)) {g : Nat} {cs : Array Value} {e : TypeId} {d : TypeDesc}
    (hp : a.eval (.tmp p) = .pointer (some ⟨g, 0, none⟩)) (hb : W.heap[g]? = some (.cells cs e (0, 0))) (hu : P.underlying t = some d) (hd : (match d with | .struct _ | .array _ _ => true | _ => false) = true) (hi : (P.info? t).map (·.size) = some cs.size)
    (h : wpList P ops Q rest (a.put o.dst (.agg cs)) W) : wpList P ops Q (o :: rest) a W := by
  refine Kd.event_run hgd ?_ h
  unfold execOp
  rw [ho]
  simp [hp, Instr.loadAt, Instr.sureAddr, run_loadVar_row W g e t cs (0, 0) d hb hu hd hi]
end
theorem below_stored {w W w1 : World} {g : Nat} (h : Below w.heap.size w W) (hg : w.heap.size ≤ g) (hf : ∀ k, k ≠ g → w1.heap[k]? = W.heap[k]?) (hs : w1.heap.size = W.heap.size) (h1 : w1.os = W.os) (h2 : w1.tape = W.tape) (h3 : w1.output = W.output) : Below w.heap.size w w1 :=
  ⟨h1.trans h.os, h2.trans h.tape, h3.trans h.output, by rw [hs]; exact h.size, fun i hi => (hf i (by omega)).trans (h.block i hi)⟩

/-! ### a callee that writes one block alone -/
structure OnlyB (W : World) (B : Nat) (cs : Array Value) (T : TypeId) (W' : World) : Prop where
  blk : W'.heap[B]? = some (.cells cs T (0, 0))
  size : W.heap.size ≤ W'.heap.size
  rest : ∀ k, k ≠ B → k < W.heap.size → W'.heap[k]? = W.heap[k]?
  os : W'.os = W.os
  tape : W'.tape = W.tape
  output : W'.output = W.output
theorem OnlyB.refl {W : World} {B : Nat} {cs : Array Value} {T : TypeId} (h : W.heap[B]? = some (.cells cs T (0, 0))) : OnlyB W B cs T W := ⟨h, Nat.le_refl _, fun _ _ _ => rfl, rfl, rfl, rfl⟩
theorem OnlyB.drewN {W W' : World} {B : Nat} {cs : Array Value} {T : TypeId} (h : OnlyB W B cs T W') (n : Nat) : OnlyB W B cs T (W'.drewN n) := ⟨h.blk, h.size, h.rest, h.os, h.tape, h.output⟩
theorem OnlyB.drew {W W' : World} {B : Nat} {cs : Array Value} {T : TypeId} (h : OnlyB W B cs T W') : OnlyB W B cs T W'.drew := ⟨h.blk, h.size, h.rest, h.os, h.tape, h.output⟩
theorem OnlyB.set {W W' : World} {B : Nat} {cs cs' : Array Value} {T : TypeId} (h : OnlyB W B cs T W') (i : Nat) (u : Value) (e : cs.setIfInBounds i u = cs') : OnlyB W B cs' T (W'.setCell ⟨B, i, none⟩ u) :=
  ⟨blk_put h.blk i u e, by simpa [World.setCell] using h.size, fun k hk hl => (Below.heap_setCell W' ⟨B, i, none⟩ u k hk).trans (h.rest k hk hl), h.os, h.tape, h.output⟩
theorem OnlyB.below {W W1 W2 : World} {B : Nat} {cs : Array Value} {T : TypeId} (h : OnlyB W B cs T W1) (hb : Below W1.heap.size W1 W2) : OnlyB W B cs T W2 :=
  ⟨blk_below h.blk hb, Nat.le_trans h.size hb.size, fun k hk hl => (hb.block k (Nat.lt_of_lt_of_le hl h.size)).trans (h.rest k hk hl), hb.os.trans h.os, hb.tape.trans h.tape, hb.output.trans h.output⟩
/-- Such a callee's block lies above where the caller began. -/
theorem OnlyB.under {w W W' : World} {B : Nat} {cs : Array Value} {T : TypeId} (h : OnlyB W B cs T W') (hw : Below w.heap.size w W) (hB : w.heap.size ≤ B) : Below w.heap.size w W' :=
  ⟨h.os.trans hw.os, h.tape.trans hw.tape, h.output.trans hw.output, Nat.le_trans hw.size h.size, fun k hk => (h.rest k (by omega) (by have := hw.size; omega)).trans (hw.block k hk)⟩
end Go.Proofs.YtnelnmlhlmocdaaGreatDoor.Pu
