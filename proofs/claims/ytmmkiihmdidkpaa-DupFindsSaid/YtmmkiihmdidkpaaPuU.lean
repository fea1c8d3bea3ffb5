/- Plain Lean: what the printed functions of kept answers come to. -/
import Derived.Test.YtmmkiihmdidkpaaXU3
import Derived.Test.YtmmkiihmdidkpaaXU13
import Derived.Test.YtmmkiihmdidkpaaXU14
import Derived.Test.YtmmkiihmdidkpaaXU16
namespace Go.Proofs.Ytmmkiihmdidkpaa.XU
open Go.RowKit Go.Proofs.YtmmkiihmdidkpaaW.PrintWords
set_option linter.unusedVariables false
def cut (s : ByteArray) : ByteArray := if s.size ≤ 60 then s else s.extract 0 60
theorem cut_size (s : ByteArray) : (cut s).size ≤ 60 := by
  unfold cut; split
  · assumption
  · rw [ByteArray.size_extract]; omega
theorem cut_id {s : ByteArray} (h : s.size ≤ 60) : cut s = s := if_pos h
theorem text_eq (s : ByteArray) : bursarlaw21_text.f s = some (cut s) := by
  unfold bursarlaw21_text.f cut
  by_cases h : s.size ≤ 60
  · rw [if_neg (by omega), if_pos h]
  · rw [if_pos (show (s.size : Int) > 60 by omega), if_pos (show (60 : Int) ≤ (s.size : Int) by omega), if_neg h]
theorem one_eq (n : Int) (k c a : ByteArray) (t : Int) : bursarlaw21_one.f n k c a t = some (n, cut k, cut c, cut a, t) := by
  unfold bursarlaw21_one.f; rw [text_eq, text_eq, text_eq]; rfl
def one1 (x : S24) : S24 := ⟨x.f0, cut x.f1, cut x.f2, cut x.f3, x.f4⟩
theorem one1_id (x : S24) : one1 (one1 x) = one1 x := by
  unfold one1; rw [cut_id (cut_size _), cut_id (cut_size _), cut_id (cut_size _)]
def fewL (l : List S24) : List S24 := (l.take 101).map one1
theorem fewL_len (l : List S24) : (fewL l).length ≤ 101 := by unfold fewL; rw [List.length_map, List.length_take]; omega
theorem fewL_key {l : List S24} {x : S24} (h : x ∈ fewL l) : x.f1.size ≤ 60 := by
  obtain ⟨y, _, rfl⟩ := List.mem_map.mp h; exact cut_size _
theorem fewL_id (l : List S24) : fewL (fewL l) = fewL l := by
  have h := fewL_len l
  unfold fewL at h ⊢
  rw [List.take_of_length_le h, List.map_map]
  exact List.map_congr_left fun x _ => one1_id x
theorem wrap_ok {x : Int} (h0 : -9223372036854775808 ≤ x) (h1 : x ≤ 9223372036854775807) : wrap64 x = x := by unfold wrap64; omega
theorem few_loop (l : List S24) (hl : l.length ≤ 101) : ∀ (d i k : Nat) (acc : List S24), i + d = l.length → d < k → acc.length = i → bursarlaw21_Few.l0 k l acc (i : Int) = some (acc ++ (l.drop i).map one1)
  | 0, i, k, acc, h, hk, ha => by
    obtain ⟨k, rfl⟩ : ∃ m, k = m + 1 := ⟨k - 1, by omega⟩
    simp only [bursarlaw21_Few.l0]
    rw [if_neg (by omega), List.drop_eq_nil_of_le (by omega)]; simp
  | d + 1, i, k, acc, h, hk, ha => by
    obtain ⟨k, rfl⟩ : ∃ m, k = m + 1 := ⟨k - 1, by omega⟩
    simp only [bursarlaw21_Few.l0]
    rw [if_pos (by omega), if_pos (by omega), one_eq, Option.bind_some, if_pos (by omega), wrap_ok (by omega) (by omega)]
    rw [show (i : Int) + 1 = ((i + 1 : Nat) : Int) by omega, few_loop l hl d (i + 1) k _ (by omega) (by omega) (by simp [ha])]
    rw [List.drop_eq_getElem_cons (show i < l.length by omega), List.map_cons, List.append_assoc, rd_get l i (by omega)]; rfl
theorem few_eq (l : List S24) (k : Nat) (hk : 103 ≤ k) : bursarlaw21_Few.f k l = some (fewL l) := by
  unfold bursarlaw21_Few.f
  obtain ⟨k, rfl⟩ : ∃ m, k = m + 1 := ⟨k - 1, by omega⟩
  have key : ∀ m : List S24, m.length ≤ 101 → bursarlaw21_Few.j0 (k + 1) m = some (m.map one1) := fun m hm => by
    simp only [bursarlaw21_Few.j0]
    have := few_loop m hm m.length 0 k [] (by omega) (by omega) rfl
    rw [Int.natCast_zero] at this
    rw [this]; simp
  unfold fewL
  by_cases h : l.length ≤ 101
  · rw [if_neg (by omega), key l h, List.take_of_length_le h]
  · rw [if_pos (by omega), if_pos (by omega), key _ (by rw [List.length_take]; omega)]
/- The reference's One. -/
def lettI (c : Int) : Bool := (decide (48 ≤ c) && decide (c ≤ 57)) || (decide (65 ≤ c) && decide (c ≤ 90))
theorem lettB_eq (s : ByteArray) : Dp.lettB s = (Pu.bs s).all lettI := by
  unfold Dp.lettB Pu.bs
  rw [List.all_map]
  congr 1
  funext b
  show Dp.lettC b.toNat = lettI (b.toNat : Int)
  unfold Dp.lettC lettI
  rw [Bool.eq_iff_iff]; simp; omega
def restB (n : Int) (k c a : ByteArray) (t : Int) : Bool :=
  decide (1 ≤ n) && (decide (n ≤ 2147483647) && (decide (k.size = 35) && (decide (c.size = 2) && (Pu.allD c && (decide (a.size = 6) && (Pu.allD a && (decide (0 ≤ t) && decide (t ≤ 2147483647))))))))
theorem rest_one (n : Int) (k c a : ByteArray) (t : Int) : (Dp.lettB k && restB n k c a t) = Dp.oneB n k c a t := by
  unfold restB Dp.oneB
  cases Dp.lettB k <;> cases Pu.allD c <;> cases Pu.allD a <;> simp
  rw [Bool.eq_iff_iff]; simp; omega
theorem ref_one_end (n : Int) (k c a : ByteArray) (t : Int) : (if 1 ≤ n then (if n ≤ 2147483647 then (if (k.size : Int) = 35 then (if (c.size : Int) = 2 then ((bursarref02_All.f c).bind fun t148 => (if t148 = true then (if (a.size : Int) = 6 then ((bursarref02_All.f a).bind fun t149 => (if t149 = true then (if 0 ≤ t then (some (decide (t ≤ 2147483647))) else (some false)) else (some false))) else (some false)) else (some false))) else (some false)) else (some false)) else (some false)) else (some false)) = some (restB n k c a t) := by
  unfold restB bursarref02_All.f
  by_cases h1 : 1 ≤ n
  · by_cases h2 : n ≤ 2147483647
    · by_cases h3 : k.size = 35
      · by_cases h4 : c.size = 2
        · rw [if_pos h1, if_pos h2, if_pos (by omega), if_pos (by omega), if_pos (by omega), Option.bind_some]
          cases Pu.allD c
          · simp
          · by_cases h5 : a.size = 6
            · rw [if_pos rfl, if_pos (by omega), if_pos (by omega), Option.bind_some]
              cases Pu.allD a
              · simp
              · by_cases h6 : 0 ≤ t
                · rw [if_pos rfl, if_pos h6]; simp [h1, h2, h3, h4, h5, h6]
                · rw [if_pos rfl, if_neg h6]; simp [h6]
            · rw [if_pos rfl, if_neg (by omega)]; simp [h5]
        · rw [if_pos h1, if_pos h2, if_pos (by omega), if_neg (by omega)]; simp [h4]
      · rw [if_pos h1, if_pos h2, if_neg (by omega)]; simp [h3]
    · rw [if_pos h1, if_neg h2]; simp [h2]
  · rw [if_neg h1]; simp [h1]
theorem ref_one_loop (n : Int) (s c a : ByteArray) (t : Int) (hs : s.size ≤ 4096) : ∀ (d i k : Nat), i + d = s.size → d < k → bursarref21_One.l0 k (i : Int) n s c a t = some (((Pu.bs s).drop i).all lettI && restB n s c a t)
  | 0, i, k, h, hk => by
    obtain ⟨k, rfl⟩ : ∃ m, k = m + 1 := ⟨k - 1, by omega⟩
    obtain rfl : i = s.size := by omega
    simp only [bursarref21_One.l0]
    rw [if_neg (by omega), ref_one_end, Pu.bs_drop_all]; simp
  | d + 1, i, k, h, hk => by
    obtain ⟨k, rfl⟩ : ∃ m, k = m + 1 := ⟨k - 1, by omega⟩
    simp only [bursarref21_One.l0]
    rw [if_pos (by omega), if_pos (by omega), Pu.bs_drop s i (by omega), List.all_cons]
    have ih := ref_one_loop n s c a t hs d (i + 1) k (by omega) (by omega)
    rw [wrap_ok (by omega) (by omega), show (i : Int) + 1 = ((i + 1 : Nat) : Int) by omega, ih]
    have hL : lettI (bt s i) = ((decide (48 ≤ bt s i) && decide (bt s i ≤ 57)) || (decide (65 ≤ bt s i) && decide (bt s i ≤ 90))) := rfl
    by_cases h1 : 48 ≤ bt s i <;> by_cases h2 : bt s i ≤ 57 <;> by_cases h3 : 65 ≤ bt s i <;> by_cases h4 : bt s i ≤ 90 <;> simp [h1, h2, h3, h4, hL]
theorem ref_one_eq (x : S24) (k : Nat) (h1 : x.f1.size ≤ 60) (hk : 61 ≤ k) : bursarref21_One.f k x.f0 x.f1 x.f2 x.f3 x.f4 = some (Dp.oneB x.f0 x.f1 x.f2 x.f3 x.f4) := by
  unfold bursarref21_One.f
  have := ref_one_loop x.f0 x.f1 x.f2 x.f3 x.f4 (by omega) x.f1.size 0 k (by omega) (by omega)
  rw [Int.natCast_zero] at this
  rw [this, List.drop_zero, ← lettB_eq, rest_one]
/- Lists that may be. -/
def oneX (x : S24) : Bool := Dp.oneB x.f0 x.f1 x.f2 x.f3 x.f4
theorem st_at : ∀ (l : List S24) (ks : List ByteArray) (n : Int) (i : Nat), i < l.length → dup_st ks n l i = (((l.take i).map S24.f1).reverse ++ ks, if h : 0 < i then (rd_T24 l ((i - 1 : Nat) : Int)).f0 else n)
  | [], _, _, _, h => absurd h (Nat.not_lt_zero _)
  | x :: r, ks, n, 0, _ => by simp [dup_st]
  | x :: r, ks, n, i + 1, h => by
    have h2 : i < r.length := by simpa using h
    show dup_st (x.f1 :: ks) x.f0 r i = _
    rw [st_at r _ _ i h2, dif_pos (Nat.succ_pos _)]
    congr 1
    · simp
    · rw [rd_get (x :: r) (i + 1 - 1) (by simp; omega)]
      by_cases hi : 0 < i
      · rw [dif_pos hi, rd_get r (i - 1) (by omega)]
        obtain ⟨j, rfl⟩ : ∃ j, i = j + 1 := ⟨i - 1, by omega⟩
        rfl
      · obtain rfl : i = 0 := by omega
        rfl
/-- What the reference asks of the i-th. -/
def refBad (l : List S24) (i : Nat) : Bool := !oneX (rd_T24 l (i : Int)) || ((decide (0 < i) && decide ((rd_T24 l (i : Int)).f0 ≤ (rd_T24 l ((i - 1 : Nat) : Int)).f0)) || (l.take i).any fun y => y.f1.toList == (rd_T24 l (i : Int)).f1.toList)
theorem ref_bad (l : List S24) (i : Nat) (h : i < l.length) : refBad l i = dup_bad [] 0 l i := by
  unfold refBad dup_bad oneX
  rw [st_at l [] 0 i h]
  unfold hasK
  rw [List.append_nil, List.any_reverse, List.any_map]
  cases ho : Dp.oneB (rd_T24 l i).f0 (rd_T24 l i).f1 (rd_T24 l i).f2 (rd_T24 l i).f3 (rd_T24 l i).f4
  · simp
  · by_cases hi : 0 < i
    · rw [dif_pos hi, decide_eq_true hi]
      simp [Bool.or_comm, Function.comp_def]
    · obtain rfl : i = 0 := by omega
      have h1 : 1 ≤ (rd_T24 l 0).f0 := by unfold Dp.oneB at ho; simp at ho; exact ho.1.1.1.1.1.1.1.1.1
      simp; omega
theorem walk_bad (l : List S24) : (∀ i, i < l.length → refBad l i = false) ↔ dup_walk [] 0 l = true := by
  constructor
  · intro h
    exact dup_walk_miss l [] 0 fun i hi => by rw [← ref_bad l i hi]; exact h i hi
  · intro h i hi
    cases hb : refBad l i with
    | false => rfl
    | true => rw [ref_bad l i hi] at hb; rw [dup_walk_hit l [] 0 i hi hb] at h; cases h
theorem ref_may_l1 (l : List S24) (hl : l.length ≤ 1000) (i : Nat) (hi : i < l.length) : ∀ (d j k : Nat), j + d = i → d < k → bursarref21_May.l1 k l (i : Int) (j : Int) = if (((l.take i).drop j).any fun y => y.f1.toList == (rd_T24 l (i : Int)).f1.toList) = true then some false else bursarref21_May.l0 (k - d - 1) l ((i + 1 : Nat) : Int)
  | 0, j, k, h, hk => by
    obtain ⟨k, rfl⟩ : ∃ m, k = m + 1 := ⟨k - 1, by omega⟩
    simp only [bursarref21_May.l1]
    rw [if_neg (by omega), List.drop_eq_nil_of_le (by rw [List.length_take]; omega), wrap_ok (by omega) (by omega)]; rfl
  | d + 1, j, k, h, hk => by
    obtain ⟨k, rfl⟩ : ∃ m, k = m + 1 := ⟨k - 1, by omega⟩
    have hj : j < (l.take i).length := by rw [List.length_take]; omega
    simp only [bursarref21_May.l1]
    rw [if_pos (by omega), if_pos (by omega), if_pos (by omega), if_pos (by omega), if_pos (by omega), List.drop_eq_getElem_cons hj, List.any_cons, List.getElem_take, rd_get l j (by omega)]
    by_cases e : l[j].f1.toList = (rd_T24 l (i : Int)).f1.toList
    · rw [if_pos e, beq_iff_eq.mpr e]; simp
    · rw [if_neg e, beq_eq_false_iff_ne.mpr e, Bool.false_or, wrap_ok (by omega) (by omega), show (j : Int) + 1 = ((j + 1 : Nat) : Int) by omega, ref_may_l1 l hl i hi d (j + 1) k (by omega) (by omega), show k + 1 - (d + 1) - 1 = k - d - 1 by omega]
/-- One round of the reference's May. -/
theorem ref_may_l0 (l : List S24) (hl : l.length ≤ 1000) (hz : ∀ x ∈ l, x.f1.size ≤ 60) (i k : Nat) (hi : i < l.length) (hk : i + 65 ≤ k) :
    bursarref21_May.l0 k l (i : Int) = if refBad l i = true then some false else bursarref21_May.l0 (k - i - 3) l ((i + 1 : Nat) : Int) := by
  obtain ⟨k, rfl⟩ : ∃ m, k = m + 2 := ⟨k - 2, by omega⟩
  have hm : (rd_T24 l (i : Int)).f1.size ≤ 60 := by rw [rd_get l i hi]; exact hz _ (List.getElem_mem hi)
  have hone := ref_one_eq (rd_T24 l (i : Int)) (k + 1) hm (by omega)
  have hl1 := ref_may_l1 l hl i hi i 0 k (by omega) (by omega)
  rw [List.drop_zero, Int.natCast_zero] at hl1
  simp only [bursarref21_May.l0]
  rw [if_pos (by omega), if_pos (by omega), hone, Option.bind_some]
  unfold refBad oneX
  cases ho : Dp.oneB (rd_T24 l i).f0 (rd_T24 l i).f1 (rd_T24 l i).f2 (rd_T24 l i).f3 (rd_T24 l i).f4
  · rw [if_neg (by simp)]; simp [bursarref21_May.j1]
  · rw [if_pos rfl]
    by_cases h0 : 0 < i
    · rw [if_pos (by omega), wrap_ok (by omega) (by omega), if_pos (by omega), if_pos (by omega), show (i : Int) - 1 = ((i - 1 : Nat) : Int) by omega]
      by_cases hge : (rd_T24 l ((i - 1 : Nat) : Int)).f0 ≥ (rd_T24 l (i : Int)).f0
      · rw [decide_eq_true hge, decide_eq_true h0]; simp [bursarref21_May.j1]
      · rw [decide_eq_false hge]
        simp only [bursarref21_May.j1]
        rw [if_neg (by simp), hl1, show k - i - 1 = k + 2 - i - 3 by omega]; simp
    · rw [if_neg (by omega), decide_eq_false h0]
      simp only [bursarref21_May.j1]
      rw [if_neg (by simp), hl1, show k - i - 1 = k + 2 - i - 3 by omega]; simp
theorem ref_may_from (l : List S24) (hl : l.length ≤ 1000) (hz : ∀ x ∈ l, x.f1.size ≤ 60) (d : Nat) : ∀ (i k : Nat), i + d = l.length → (d + 1) * (l.length + 70) ≤ k →
    ∃ b, bursarref21_May.l0 k l (i : Int) = some (decide (l.length ≤ 100) && b) ∧ (b = true ↔ ∀ j, i ≤ j → j < l.length → refBad l j = false) := by
  induction d with
  | zero =>
    intro i k h hk
    obtain ⟨k, rfl⟩ : ∃ m, k = m + 1 := ⟨k - 1, by omega⟩
    refine ⟨true, ?_, ⟨fun _ j h1 h2 => by omega, fun _ => rfl⟩⟩
    simp only [bursarref21_May.l0]
    rw [if_neg (by omega), Bool.and_true]
    congr 1
    rw [Bool.eq_iff_iff]; simp; omega
  | succ d ih =>
    intro i k h hk
    rw [Nat.succ_mul] at hk
    obtain ⟨m, hm⟩ : ∃ m, m = (d + 1) * (l.length + 70) := ⟨_, rfl⟩
    rw [← hm] at hk
    rw [ref_may_l0 l hl hz i k (by clear hm ih; omega) (by clear hm ih; omega)]
    cases hb : refBad l i
    · rw [if_neg (by simp)]
      obtain ⟨b, h1, h2⟩ := ih (i + 1) (k - i - 3) (by omega) (by rw [← hm]; clear hm ih; omega)
      refine ⟨b, h1, h2.trans ⟨fun h1 j h2 h3 => ?_, fun h1 j h2 h3 => h1 j (by omega) h3⟩⟩
      rcases Nat.lt_or_ge i j with h4 | h4
      · exact h1 j h4 h3
      · rw [show j = i by omega]; exact hb
    · rw [if_pos rfl]
      exact ⟨false, by rw [Bool.and_false], ⟨fun h => absurd h Bool.false_ne_true, fun h1 => by rw [h1 i (Nat.le_refl _) (by omega)] at hb; cases hb⟩⟩
theorem ref_may_eq (l : List S24) (hl : l.length ≤ 101) (hz : ∀ x ∈ l, x.f1.size ≤ 60) (k : Nat) (hk : 17442 ≤ k) : bursarref21_May.f k l = some (dup_mayL l) := by
  unfold bursarref21_May.f
  have hm : (l.length + 1) * (l.length + 70) ≤ 102 * 171 := Nat.mul_le_mul (by omega) (by omega)
  obtain ⟨b, h1, h2⟩ := ref_may_from l (by omega) hz l.length 0 k (by omega) (by omega)
  rw [Int.natCast_zero] at h1
  rw [h1]
  unfold dup_mayL
  have : b = dup_walk [] 0 l := by
    rw [Bool.eq_iff_iff, h2, ← walk_bad]
    exact ⟨fun h i hi => h i (Nat.zero_le _) hi, fun h i _ hi => h i hi⟩
  rw [this]
theorem dup_may_eq (l : List S24) (hz : ∀ x ∈ l, x.f1.size ≤ 60) : dup_May.f l = some (dup_mayL l) := by
  unfold dup_May.f
  rw [if_pos]
  exact List.all_eq_true.mpr fun x hx => decide_eq_true (by have := hz x hx; omega)
/- What is found. -/
theorem ref_find_from (l : List S24) (key : ByteArray) (hl : l.length ≤ 1000) : ∀ (d i k : Nat), i + d = l.length → d < k → bursarref21_Find.l0 k l key (i : Int) = some (dup_findS (l.drop i) key)
  | 0, i, k, h, hk => by
    obtain ⟨k, rfl⟩ : ∃ m, k = m + 1 := ⟨k - 1, by omega⟩
    simp only [bursarref21_Find.l0]
    rw [if_neg (by omega), List.drop_eq_nil_of_le (by omega)]; rfl
  | d + 1, i, k, h, hk => by
    obtain ⟨k, rfl⟩ : ∃ m, k = m + 1 := ⟨k - 1, by omega⟩
    simp only [bursarref21_Find.l0]
    rw [if_pos (by omega), if_pos (by omega), List.drop_eq_getElem_cons (show i < l.length by omega), rd_get l i (by omega)]
    unfold dup_findS
    by_cases e : l[i].f1.toList = key.toList
    · rw [if_pos e, if_pos e]
    · rw [if_neg e, if_neg e, wrap_ok (by omega) (by omega), show (i : Int) + 1 = ((i + 1 : Nat) : Int) by omega, ref_find_from l key hl d (i + 1) k (by omega) (by omega)]
theorem ref_find_eq (l : List S24) (key : ByteArray) (hl : l.length ≤ 1000) (k : Nat) (hk : 1001 ≤ k) : bursarref21_Find.f k l key = some (dup_findS l key) := by
  unfold bursarref21_Find.f
  have := ref_find_from l key hl l.length 0 k (by omega) (by omega)
  rw [Int.natCast_zero] at this
  rw [this]; rfl
/- What is kept. -/
def lateL (l : List S24) (n : Int) : Bool := decide (0 < l.length) && decide (n ≤ (rd_T24 l ((l.length - 1 : Nat) : Int)).f0)
def keepS (l : List S24) (x : S24) : List S24 × Int :=
  if dup_mayL l = true ∧ oneX x = true ∧ lateL l x.f0 = false then
    (if (dup_findS l x.f1).2.2.2.2.2 = true then ([], 8) else if l.length = 100 then ([], 9) else (l ++ [x], 0))
  else ([], 1)
theorem mayL_len {l : List S24} (h : dup_mayL l = true) : l.length ≤ 100 := by
  unfold dup_mayL at h; simp at h; exact h.1
theorem dup_keep_j (l : List S24) (x : S24) (b : Bool) (k : Nat) (hl : l.length ≤ 1000) : dup_Keep.j0 (k + 1) l b x.f0 x.f1 x.f2 x.f3 x.f4 = some (if b = true then ([], 1) else if (dup_findS l x.f1).2.2.2.2.2 = true then ([], 8) else if l.length = 100 then ([], 9) else (l ++ [x], 0)) := by
  have e : ((l.length : Int) = 100) = (l.length = 100) := propext (by omega)
  simp only [dup_Keep.j0, dup_Find.f, api_Dup_21.f, Option.bind_some, e, if_pos hl]
  generalize (dup_findS l x.f1).2.2.2.2.2 = fb
  have hlt : l.length + [x].length < 2199023255552 := by simp; omega
  cases b <;> cases fb <;> simp only [Bool.false_eq_true, if_false, if_true] <;> try rfl
  split
  · rfl
  · first | rfl | (rw [if_pos hlt]; rfl)
theorem dup_keep_eq (l : List S24) (x : S24) (hl : l.length ≤ 1000) (hz : ∀ x ∈ l, x.f1.size ≤ 60) (k : Nat) (hk : 1 ≤ k) : dup_Keep.f k l x.f0 x.f1 x.f2 x.f3 x.f4 = some (keepS l x) := by
  obtain ⟨k, rfl⟩ : ∃ m, k = m + 1 := ⟨k - 1, by omega⟩
  unfold dup_Keep.f keepS lateL oneX dup_may.f
  rw [dup_may_eq l hz, Option.bind_some]
  simp only [Option.bind_some, dup_keep_j l x _ k hl]
  cases dup_mayL l
  · simp
  · rw [if_pos rfl]
    cases Dp.oneB x.f0 x.f1 x.f2 x.f3 x.f4
    · simp
    · rw [if_pos rfl]
      by_cases h0 : 0 < l.length
      · rw [if_pos (by omega), wrap_ok (by omega) (by omega), if_pos (by omega), if_pos (by omega), show (l.length : Int) - 1 = ((l.length - 1 : Nat) : Int) by omega]
        by_cases hg : (rd_T24 l ((l.length - 1 : Nat) : Int)).f0 ≥ x.f0
        · rw [decide_eq_true hg, decide_eq_true h0]; simp
        · rw [decide_eq_false hg]; simp
      · rw [if_neg (by omega), decide_eq_false h0]; simp
theorem ref_keep_j (l : List S24) (x : S24) (b : Bool) (k : Nat) (hl : l.length ≤ 1000) (hk : 1001 ≤ k) : bursarref21_Keep.j0 (k + 1) l b x.f0 x.f1 x.f2 x.f3 x.f4 = some (if b = true then ([], 1) else if (dup_findS l x.f1).2.2.2.2.2 = true then ([], 8) else if l.length ≥ 100 then ([], 9) else (l ++ [x], 0)) := by
  have e : ((l.length : Int) ≥ 100) = (l.length ≥ 100) := propext (by omega)
  simp only [bursarref21_Keep.j0, ref_find_eq l x.f1 hl k hk, Option.bind_some, e]
  generalize (dup_findS l x.f1).2.2.2.2.2 = fb
  have hlt : ([] ++ l).length + [x].length < 2199023255552 := by simp; omega
  have hlt2 : ([] : List S24).length + l.length < 2199023255552 := by simp; omega
  cases b <;> cases fb <;> simp only [Bool.false_eq_true, if_false, if_true] <;> try rfl
  split
  · rfl
  · first | rfl | (rw [if_pos hlt2, if_pos hlt]; rfl)
theorem ref_keep_eq (l : List S24) (x : S24) (hl : l.length ≤ 101) (hz : ∀ x ∈ l, x.f1.size ≤ 60) (hx : x.f1.size ≤ 60) (k : Nat) (hk : 17442 ≤ k) : bursarref21_Keep.f k l x.f0 x.f1 x.f2 x.f3 x.f4 = some (keepS l x) := by
  unfold bursarref21_Keep.f
  rw [ref_may_eq l hl hz k hk, Option.bind_some, ref_one_eq x k hx (by omega)]
  obtain ⟨k, rfl⟩ : ∃ m, k = m + 1 := ⟨k - 1, by omega⟩
  simp only [Option.bind_some, ref_keep_j l x _ k (by omega) (by omega)]
  unfold keepS lateL oneX
  cases hm : dup_mayL l
  · simp
  · have h100 := mayL_len hm
    have e : (l.length ≥ 100) = (l.length = 100) := propext (by omega)
    simp only [e]
    rw [if_pos trivial]
    cases Dp.oneB x.f0 x.f1 x.f2 x.f3 x.f4
    · simp
    · rw [if_pos rfl]
      by_cases h0 : 0 < l.length
      · rw [if_pos (by omega), wrap_ok (by omega) (by omega), if_pos (by omega), if_pos (by omega), show (l.length : Int) - 1 = ((l.length - 1 : Nat) : Int) by omega]
        by_cases hg : (rd_T24 l ((l.length - 1 : Nat) : Int)).f0 ≥ x.f0
        · rw [decide_eq_true hg, decide_eq_true h0]; simp
        · rw [decide_eq_false hg]; simp
      · rw [if_neg (by omega), decide_eq_false h0]; simp
/- The same lists. -/
theorem same_from (l : List S24) (hl : l.length ≤ 1000) : ∀ (d i k : Nat), i + d = l.length → d < k → bursarref21_Same.l0 k l l (i : Int) = some true
  | 0, i, k, h, hk => by
    obtain ⟨k, rfl⟩ : ∃ m, k = m + 1 := ⟨k - 1, by omega⟩
    simp only [bursarref21_Same.l0]
    rw [if_neg (by omega)]
  | d + 1, i, k, h, hk => by
    obtain ⟨k, rfl⟩ : ∃ m, k = m + 1 := ⟨k - 1, by omega⟩
    simp only [bursarref21_Same.l0]
    rw [if_pos (by omega), if_pos (by omega), if_pos (by omega), if_neg (by simp), wrap_ok (by omega) (by omega), show (i : Int) + 1 = ((i + 1 : Nat) : Int) by omega]
    exact same_from l hl d (i + 1) k (by omega) (by omega)
theorem same_eq (l : List S24) (hl : l.length ≤ 1000) (k : Nat) (hk : 1001 ≤ k) : bursarref21_Same.f k l l = some true := by
  unfold bursarref21_Same.f
  rw [if_pos rfl]
  have := same_from l hl l.length 0 k (by omega) (by omega)
  rw [Int.natCast_zero] at this
  exact this
theorem keepS_len (l : List S24) (x : S24) : (keepS l x).1.length ≤ 1000 := by
  unfold keepS
  split
  · rename_i h
    have := mayL_len h.1
    split
    · simp
    · split
      · simp
      · simp; omega
  · simp
/- The chapter's examples. -/
def keyX : ByteArray := (⟨#[49, 48, 48, 48, 48, 48, 55, 65, 66, 67, 48, 48, 48, 48, 48, 48, 48, 48, 49, 49, 50, 51, 52, 53, 54, 48, 49, 48, 50, 48, 51, 48, 52, 48]⟩ : ByteArray) ++ strOfNums [65]
def exX (n : Int) : S24 := ⟨n, keyX, ⟨#[48, 48]⟩, ⟨#[48, 48, 48, 48, 48, 49]⟩, 10⟩
theorem some_eq (n : Int) : bursarlaw21_some.f n 65 = some (n, keyX, ⟨#[48, 48]⟩, ⟨#[48, 48, 48, 48, 48, 49]⟩, 10) := by
  unfold bursarlaw21_some.f keyX
  simp only [Option.bind_some]
  rw [if_pos (by decide)]
theorem one_ex1 : oneX (exX 1) = true := by kernel_rfl
theorem one_ex2 : oneX (exX 2) = true := by kernel_rfl
theorem size_ex : keyX.size = 35 := by kernel_rfl
theorem keep_ex1 : keepS [] (exX 1) = ([exX 1], 0) := by
  unfold keepS
  rw [if_pos ⟨rfl, one_ex1, rfl⟩]; rfl
theorem may_ex : dup_mayL [exX 1] = true := by
  unfold dup_mayL dup_walk dup_walk hasK
  have h := one_ex1
  unfold oneX at h
  rw [h]; rfl
theorem keep_ex2 : keepS [exX 1] (exX 2) = ([], 8) := by
  unfold keepS
  rw [if_pos ⟨may_ex, one_ex2, rfl⟩]
  unfold dup_findS
  rw [if_pos (show (exX 1).f1.toList = (exX 2).f1.toList from rfl), if_pos rfl]
theorem awake_eq (k : Nat) (hk : 1 ≤ k) : bursarlaw21_awake.f k = some true := by
  unfold bursarlaw21_awake.f
  rw [some_eq, some_eq]
  simp only [Option.bind_some]
  have h1 : dup_Keep.f k [] 1 keyX ⟨#[48, 48]⟩ ⟨#[48, 48, 48, 48, 48, 49]⟩ 10 = some (keepS [] (exX 1)) := dup_keep_eq [] (exX 1) (by simp) (fun x hx => by cases hx) k hk
  rw [h1, keep_ex1]
  simp only [Option.bind_some]
  have h2 : dup_Keep.f k [exX 1] 2 keyX ⟨#[48, 48]⟩ ⟨#[48, 48, 48, 48, 48, 49]⟩ 10 = some (keepS [exX 1] (exX 2)) := dup_keep_eq [exX 1] (exX 2) (by simp) (fun x hx => by
    simp at hx; subst hx; show keyX.size ≤ 60; rw [size_ex]; omega) k hk
  rw [h2, keep_ex2]
  rfl
end Go.Proofs.Ytmmkiihmdidkpaa.XU
