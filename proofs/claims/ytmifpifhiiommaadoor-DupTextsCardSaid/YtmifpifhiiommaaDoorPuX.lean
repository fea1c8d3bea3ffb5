/- Plain Lean: the printed DupTexts answers true at every input. -/
import Derived.Test.YtmifpifhiiommaaDoorXT19
namespace Go.Proofs.YtmifpifhiiommaaDoor.XT
open Go.RowKit Go.Proofs.YtmifpifhiiommaaDoorW.PrintWords
set_option linter.unusedVariables false
def cut (s : ByteArray) : ByteArray := if s.size ≤ 60 then s else s.extract 0 60
theorem cut_size (s : ByteArray) : (cut s).size ≤ 60 := by
  unfold cut; split
  · assumption
  · rw [ByteArray.size_extract]; omega
theorem cut_id {s : ByteArray} (h : s.size ≤ 60) : cut s = s := if_pos h
theorem text_eq (s : ByteArray) : bursarlaw21_text.f s = some (cut s) := by
  unfold bursarlaw21_text.f cut
  by_cases h : s.size ≤ 60
  · rw [if_neg (by omega), if_pos h]
  · rw [if_pos (show (s.size : Int) > 60 by omega), if_pos (show (60 : Int) ≤ (s.size : Int) by omega), if_neg h]
theorem one_eq (n : Int) (k c a : ByteArray) (t : Int) : bursarlaw21_one.f n k c a t = some (n, cut k, cut c, cut a, t) := by
  unfold bursarlaw21_one.f; rw [text_eq, text_eq, text_eq]; rfl
theorem wrap_ok {x : Int} (h0 : -9223372036854775808 ≤ x) (h1 : x ≤ 9223372036854775807) : wrap64 x = x := by unfold wrap64; omega
/- The reference's One. -/
def lettI (c : Int) : Bool := (decide (48 ≤ c) && decide (c ≤ 57)) || (decide (65 ≤ c) && decide (c ≤ 90))
theorem lettB_eq (s : ByteArray) : Dp.lettB s = (Pu.bs s).all lettI := by
  unfold Dp.lettB Pu.bs
  rw [List.all_map]
  congr 1
  funext b
  show Dp.lettC b.toNat = lettI (b.toNat : Int)
  unfold Dp.lettC lettI
  rw [Bool.eq_iff_iff]; simp; omega
def restB (n : Int) (k c a : ByteArray) (t : Int) : Bool :=
  decide (1 ≤ n) && (decide (n ≤ 2147483647) && (decide (k.size = 35) && (decide (c.size = 2) && (Pu.allD c && (decide (a.size = 6) && (Pu.allD a && (decide (0 ≤ t) && decide (t ≤ 2147483647))))))))
theorem rest_one (n : Int) (k c a : ByteArray) (t : Int) : (Dp.lettB k && restB n k c a t) = Dp.oneB n k c a t := by
  unfold restB Dp.oneB
  cases Dp.lettB k <;> cases Pu.allD c <;> cases Pu.allD a <;> simp
  rw [Bool.eq_iff_iff]; simp; omega
theorem ref_one_end (n : Int) (k c a : ByteArray) (t : Int) : (if 1 ≤ n then (if n ≤ 2147483647 then (if (k.size : Int) = 35 then (if (c.size : Int) = 2 then ((bursarref02_All.f c).bind fun t148 => (if t148 = true then (if (a.size : Int) = 6 then ((bursarref02_All.f a).bind fun t149 => (if t149 = true then (if 0 ≤ t then (some (decide (t ≤ 2147483647))) else (some false)) else (some false))) else (some false)) else (some false))) else (some false)) else (some false)) else (some false)) else (some false)) = some (restB n k c a t) := by
  unfold restB bursarref02_All.f
  by_cases h1 : 1 ≤ n
  · by_cases h2 : n ≤ 2147483647
    · by_cases h3 : k.size = 35
      · by_cases h4 : c.size = 2
        · rw [if_pos h1, if_pos h2, if_pos (by omega), if_pos (by omega), if_pos (by omega), Option.bind_some]
          cases Pu.allD c
          · simp
          · by_cases h5 : a.size = 6
            · rw [if_pos rfl, if_pos (by omega), if_pos (by omega), Option.bind_some]
              cases Pu.allD a
              · simp
              · by_cases h6 : 0 ≤ t
                · rw [if_pos rfl, if_pos h6]; simp [h1, h2, h3, h4, h5, h6]
                · rw [if_pos rfl, if_neg h6]; simp [h6]
            · rw [if_pos rfl, if_neg (by omega)]; simp [h5]
        · rw [if_pos h1, if_pos h2, if_pos (by omega), if_neg (by omega)]; simp [h4]
      · rw [if_pos h1, if_pos h2, if_neg (by omega)]; simp [h3]
    · rw [if_pos h1, if_neg h2]; simp [h2]
  · rw [if_neg h1]; simp [h1]
theorem ref_one_loop (n : Int) (s c a : ByteArray) (t : Int) (hs : s.size ≤ 4096) : ∀ (d i k : Nat), i + d = s.size → d < k → bursarref21_One.l0 k (i : Int) n s c a t = some (((Pu.bs s).drop i).all lettI && restB n s c a t)
  | 0, i, k, h, hk => by
    obtain ⟨k, rfl⟩ : ∃ m, k = m + 1 := ⟨k - 1, by omega⟩
    obtain rfl : i = s.size := by omega
    simp only [bursarref21_One.l0]
    rw [if_neg (by omega), ref_one_end, Pu.bs_drop_all]; simp
  | d + 1, i, k, h, hk => by
    obtain ⟨k, rfl⟩ : ∃ m, k = m + 1 := ⟨k - 1, by omega⟩
    simp only [bursarref21_One.l0]
    rw [if_pos (by omega), if_pos (by omega), Pu.bs_drop s i (by omega), List.all_cons]
    have ih := ref_one_loop n s c a t hs d (i + 1) k (by omega) (by omega)
    rw [wrap_ok (by omega) (by omega), show (i : Int) + 1 = ((i + 1 : Nat) : Int) by omega, ih]
    have hL : lettI (bt s i) = ((decide (48 ≤ bt s i) && decide (bt s i ≤ 57)) || (decide (65 ≤ bt s i) && decide (bt s i ≤ 90))) := rfl
    by_cases h1 : 48 ≤ bt s i <;> by_cases h2 : bt s i ≤ 57 <;> by_cases h3 : 65 ≤ bt s i <;> by_cases h4 : bt s i ≤ 90 <;> simp [h1, h2, h3, h4, hL]
def oneX (x : S23) : Bool := Dp.oneB x.f0 x.f1 x.f2 x.f3 x.f4
theorem dup_may_eq (l : List S23) (hz : ∀ x ∈ l, x.f1.size ≤ 60) : dup_May.f l = some (dup_mayL l) := by
  unfold dup_May.f
  rw [if_pos]
  exact List.all_eq_true.mpr fun x hx => decide_eq_true (by have := hz x hx; omega)
/- What is kept. -/
def lateL (l : List S23) (n : Int) : Bool := decide (0 < l.length) && decide (n ≤ (rd_T23 l ((l.length - 1 : Nat) : Int)).f0)
def keepS (l : List S23) (x : S23) : List S23 × Int :=
  if dup_mayL l = true ∧ oneX x = true ∧ lateL l x.f0 = false then
    (if (dup_findS l x.f1).2.2.2.2.2 = true then ([], 8) else if l.length = 100 then ([], 9) else (l ++ [x], 0))
  else ([], 1)
theorem mayL_len {l : List S23} (h : dup_mayL l = true) : l.length ≤ 100 := by
  unfold dup_mayL at h; simp at h; exact h.1
theorem dup_keep_j (l : List S23) (x : S23) (b : Bool) (k : Nat) (hl : l.length ≤ 1000) : dup_Keep.j0 (k + 1) l b x.f0 x.f1 x.f2 x.f3 x.f4 = some (if b = true then ([], 1) else if (dup_findS l x.f1).2.2.2.2.2 = true then ([], 8) else if l.length = 100 then ([], 9) else (l ++ [x], 0)) := by
  have e : ((l.length : Int) = 100) = (l.length = 100) := propext (by omega)
  simp only [dup_Keep.j0, dup_Find.f, api_Dup_28.f, Option.bind_some, e, if_pos hl]
  generalize (dup_findS l x.f1).2.2.2.2.2 = fb
  have hlt : l.length + [x].length < 2199023255552 := by simp; omega
  cases b <;> cases fb <;> simp only [Bool.false_eq_true, if_false, if_true] <;> try rfl
  split
  · rfl
  · first | rfl | (rw [if_pos hlt]; rfl)
theorem dup_keep_eq (l : List S23) (x : S23) (hl : l.length ≤ 1000) (hz : ∀ x ∈ l, x.f1.size ≤ 60) (k : Nat) (hk : 1 ≤ k) : dup_Keep.f k l x.f0 x.f1 x.f2 x.f3 x.f4 = some (keepS l x) := by
  obtain ⟨k, rfl⟩ : ∃ m, k = m + 1 := ⟨k - 1, by omega⟩
  unfold dup_Keep.f keepS lateL oneX dup_may.f
  rw [dup_may_eq l hz, Option.bind_some]
  simp only [Option.bind_some, dup_keep_j l x _ k hl]
  cases dup_mayL l
  · simp
  · rw [if_pos rfl]
    cases Dp.oneB x.f0 x.f1 x.f2 x.f3 x.f4
    · simp
    · rw [if_pos rfl]
      by_cases h0 : 0 < l.length
      · rw [if_pos (by omega), wrap_ok (by omega) (by omega), if_pos (by omega), if_pos (by omega), show (l.length : Int) - 1 = ((l.length - 1 : Nat) : Int) by omega]
        by_cases hg : (rd_T23 l ((l.length - 1 : Nat) : Int)).f0 ≥ x.f0
        · rw [decide_eq_true hg, decide_eq_true h0]; simp
        · rw [decide_eq_false hg]; simp
      · rw [if_neg (by omega), decide_eq_false h0]; simp
/- The chapter's examples. -/
def keyX : ByteArray := (⟨#[49, 48, 48, 48, 48, 48, 55, 65, 66, 67, 48, 48, 48, 48, 48, 48, 48, 48, 49, 49, 50, 51, 52, 53, 54, 48, 49, 48, 50, 48, 51, 48, 52, 48]⟩ : ByteArray) ++ strOfNums [65]
def exX (n : Int) : S23 := ⟨n, keyX, ⟨#[48, 48]⟩, ⟨#[48, 48, 48, 48, 48, 49]⟩, 10⟩
theorem some_eq (n : Int) : bursarlaw21_some.f n 65 = some (n, keyX, ⟨#[48, 48]⟩, ⟨#[48, 48, 48, 48, 48, 49]⟩, 10) := by
  unfold bursarlaw21_some.f keyX
  simp only [Option.bind_some]
  rw [if_pos (by decide)]
theorem one_ex1 : oneX (exX 1) = true := by kernel_rfl
theorem one_ex2 : oneX (exX 2) = true := by kernel_rfl
theorem size_ex : keyX.size = 35 := by kernel_rfl
theorem keep_ex1 : keepS [] (exX 1) = ([exX 1], 0) := by
  unfold keepS
  rw [if_pos ⟨rfl, one_ex1, rfl⟩]; rfl
theorem may_ex : dup_mayL [exX 1] = true := by
  unfold dup_mayL dup_walk dup_walk hasK
  have h := one_ex1
  unfold oneX at h
  rw [h]; rfl
theorem keep_ex2 : keepS [exX 1] (exX 2) = ([], 8) := by
  unfold keepS
  rw [if_pos ⟨may_ex, one_ex2, rfl⟩]
  unfold dup_findS
  rw [if_pos (show (exX 1).f1.toList = (exX 2).f1.toList from rfl), if_pos rfl]
theorem awake_eq (k : Nat) (hk : 1 ≤ k) : bursarlaw21_awake.f k = some true := by
  unfold bursarlaw21_awake.f
  rw [some_eq, some_eq]
  simp only [Option.bind_some]
  have h1 : dup_Keep.f k [] 1 keyX ⟨#[48, 48]⟩ ⟨#[48, 48, 48, 48, 48, 49]⟩ 10 = some (keepS [] (exX 1)) := dup_keep_eq [] (exX 1) (by simp) (fun x hx => by cases hx) k hk
  rw [h1, keep_ex1]
  simp only [Option.bind_some]
  have h2 : dup_Keep.f k [exX 1] 2 keyX ⟨#[48, 48]⟩ ⟨#[48, 48, 48, 48, 48, 49]⟩ 10 = some (keepS [exX 1] (exX 2)) := dup_keep_eq [exX 1] (exX 2) (by simp) (fun x hx => by
    simp at hx; subst hx; show keyX.size ≤ 60; rw [size_ex]; omega) k hk
  rw [h2, keep_ex2]
  rfl
def inB (n : Int) : Prop := -9223372036854775808 ≤ n ∧ n ≤ 9223372036854775807
theorem wr {n : Int} (h : inB n) : wrap64 n = n := by unfold inB at h; unfold wrap64; omega
theorem bt_vals (s : ByteArray) (i : Nat) (hi : i < s.size) : ∃ c : UInt8, s.data.toList.drop i = c :: s.data.toList.drop (i + 1) ∧ bt s i = c.toNat := by
  have hl : i < s.data.toList.length := by rw [Pu.data_len]; exact hi
  refine ⟨s.data.toList[i], List.drop_eq_getElem_cons hl, ?_⟩
  have h := Pu.bs_get s i hi
  unfold Pu.bs at h
  rw [List.getElem?_map, List.getElem?_eq_getElem hl] at h
  simpa using h.symm

theorem get_l (s : ByteArray) (hs : s.size ≤ 19) (hd : Pu.allD s = true) : ∀ (d i k acc : Nat), i + d = s.size → d < k → acc < 10 ^ i →
    bursarref02_Get.l0 k s acc i = some (((Dg.vals acc (s.data.toList.drop i) : Nat) : Int), 0) := by
  intro d
  induction d with
  | zero =>
    intro i k acc hi hk ha
    obtain ⟨k, rfl⟩ : ∃ m, k = m + 1 := ⟨k - 1, by omega⟩
    simp only [bursarref02_Get.l0]
    rw [if_neg (by omega), show i = s.size by omega, ← Pu.data_len, List.drop_length, Dg.vals_nil]
  | succ d ih =>
    intro i k acc hi hk ha
    obtain ⟨k, rfl⟩ : ∃ m, k = m + 1 := ⟨k - 1, by omega⟩
    obtain ⟨c, hc, hb⟩ := bt_vals s i (by omega)
    have hdig := Pu.bt_dig s hd i (by omega)
    have h19 : 10 ^ i ≤ 10 ^ 18 := Nat.pow_le_pow_right (by omega) (by omega)
    simp only [bursarref02_Get.l0]
    rw [if_pos (by omega), if_pos (by omega), hc, Dg.vals_cons]
    have e1 : IntKind.u64.wrap ((IntKind.u64.wrap ((IntKind.u64.wrap (10 * (acc : Int))) + (IntKind.u64.wrap (bt s i)))) - 48) = ((acc * 10 + (c.toNat - 48) : Nat) : Int) := by
      rw [hb] at hdig ⊢
      simp only [IntKind.wrap_u64]
      omega
    have e2 : wrap64 ((i : Int) + 1) = ((i + 1 : Nat) : Int) := by unfold wrap64; omega
    rw [e1, e2]
    exact ih (i + 1) k _ (by omega) (by omega) (by rw [Nat.pow_succ]; rw [hb] at hdig; omega)
theorem nil_ba : (⟨#[]⟩ : ByteArray) = Dg.ba [] := rfl
theorem put_l (W : Nat) (hW : W ≤ 19) : ∀ (d i k n : Nat) (acc : List UInt8), i + d = W → d < k → n < 18446744073709551616 → acc.length ≤ i →
    bursarref02_Put.l0 k n W (Dg.ba acc) i = some (Dg.ba (Dg.dgs d n ++ acc), ((n / 10 ^ d : Nat) : Int) == 0) := by
  intro d
  induction d with
  | zero =>
    intro i k n acc hi hk hn ha
    obtain ⟨k, rfl⟩ : ∃ m, k = m + 1 := ⟨k - 1, by omega⟩
    simp only [bursarref02_Put.l0]
    rw [if_neg (by omega), Nat.pow_zero, Nat.div_one]; rfl
  | succ d ih =>
    intro i k n acc hi hk hn ha
    obtain ⟨k, rfl⟩ : ∃ m, k = m + 1 := ⟨k - 1, by omega⟩
    have h20 : acc.length ≤ 19 := by omega
    have e0 : Int.tmod (n : Int) 10 = ((n % 10 : Nat) : Int) := by rw [Int.tmod_eq_emod_of_nonneg (by omega)]; omega
    have e1 : (IntKind.u64.wrap (48 + (Int.tmod (n : Int) 10))) % 256 = ((48 + n % 10 : Nat) : Int) := by rw [e0, IntKind.wrap_u64]; omega
    have e2 : IntKind.u64.wrap (Int.tdiv (n : Int) 10) = ((n / 10 : Nat) : Int) := by rw [Int.tdiv_eq_ediv_of_nonneg (by omega), IntKind.wrap_u64]; omega
    have e3 : wrap64 ((i : Int) + 1) = ((i + 1 : Nat) : Int) := by unfold wrap64; omega
    have e4 : strOfNums [((48 + n % 10 : Nat) : Int)] ++ Dg.ba acc = Dg.ba (UInt8.ofNat (48 + n % 10) :: acc) := by
      apply Pu.ba_ext; rw [Pu.data_append, strOfNums_data]; rfl
    have hlim : (strOfNums [((48 + n % 10 : Nat) : Int)]).size + (Dg.ba acc).size ≤ 9223372036854775807 := by
      rw [strOfNums_size, Dg.ba_size, List.length_singleton]; exact Nat.le_trans (Nat.add_le_add_left h20 1) (by decide)
    simp only [bursarref02_Put.l0, Option.bind_some]
    rw [if_pos (by omega), e1, e2, e3, e4, if_pos hlim, ih (i + 1) k (n / 10) _ (by omega) (by omega) (by omega) (by simp; omega), Dg.dgs, List.append_assoc, Nat.div_div_eq_div_mul, Nat.pow_succ, Nat.mul_comm 10]
    rfl
theorem refput_e (n W : Nat) (hn : n < 18446744073709551616) (hW : W ≤ 19) (k : Nat) (hk : 19 < k) : bursarref02_Put.f k n W = some (Dg.ba (Dg.dgs W n), ((n / 10 ^ W : Nat) : Int) == 0) := by
  unfold bursarref02_Put.f
  have h := put_l W hW W 0 k n [] (by omega) (by omega) hn (by simp)
  rw [List.append_nil] at h
  exact h
theorem put_e (n : Nat) (hn : n < 18446744073709551616) (w : Int) : digit_Put.f n w = some (Dg.putS n w) := by
  unfold digit_Put.f; rw [if_pos (by omega), Int.toNat_natCast]
theorem toList_ba (l : List UInt8) : (Dg.ba l).toList = l := by rw [ByteArray.toList_eq]; rfl
theorem get_k (s : ByteArray) (h1 : 1 ≤ s.size) (hs : s.size ≤ 19) (k : Nat) (hk : 22 ≤ k) : bursarref02_Get.f k s = some (Dg.getS s) := by
  obtain ⟨k, rfl⟩ : ∃ m, k = m + 1 := ⟨k - 1, by omega⟩
  unfold bursarref02_Get.f Dg.getS
  have hno : ¬ (s.size < 1 ∨ 19 < s.size) := by omega
  rw [if_neg (show ¬ (s.size : Int) < 1 by omega), decide_eq_false (show ¬ (s.size : Int) > 19 by omega), if_neg hno]
  simp only [bursarref02_Get.j0, bursarref02_All.f]
  rw [if_neg (show ¬ (false = true) by decide), if_pos (show s.size ≤ 4096 by omega), Option.bind_some]
  cases ha : Pu.allD s
  · rfl
  · rw [if_pos rfl, if_pos rfl]
    exact get_l s (by omega) ha s.size 0 k 0 (by omega) (by omega) (by decide)
theorem dgs_vals : ∀ (w : Nat) (l : List UInt8), l.length = w → l.all Dg.dig8 = true → Dg.dgs w (Dg.vals 0 l) = l := by
  intro w
  induction w with
  | zero => intro l h _; rw [List.eq_nil_of_length_eq_zero h]; rfl
  | succ w ih =>
    intro l h ha
    rcases List.eq_nil_or_concat l with rfl | ⟨l', c, rfl⟩
    · cases h
    · rw [List.concat_eq_append] at h ha ⊢
      rw [List.all_append] at ha
      simp only [List.all_cons, List.all_nil, Bool.and_true, Bool.and_eq_true] at ha
      have hc := ha.2
      simp only [Dg.dig8, Bool.and_eq_true, decide_eq_true_eq] at hc
      have hl : l'.length = w := by simp at h; omega
      rw [Dg.val_app, Dg.vals_cons, Dg.vals_nil, Dg.dgs, show (Dg.vals 0 l' * 10 + (c.toNat - 48)) / 10 = Dg.vals 0 l' by omega, show (Dg.vals 0 l' * 10 + (c.toNat - 48)) % 10 = c.toNat - 48 by omega, ih l' hl ha.1, show 48 + (c.toNat - 48) = c.toNat by omega]
      simp
def vl (s : ByteArray) : Nat := Dg.vals 0 s.data.toList
def gv (s : ByteArray) : Int := if Pu.allD s = true then (vl s : Int) else 0
theorem getS_in (s : ByteArray) (h1 : 1 ≤ s.size) (hs : s.size ≤ 19) : Dg.getS s = (gv s, if Pu.allD s = true then 0 else 4) := by
  unfold Dg.getS gv
  rw [if_neg (by omega)]
  cases Pu.allD s <;> rfl
theorem gv_range (s : ByteArray) (hs : s.size ≤ 14) : 0 ≤ gv s ∧ gv s < 100000000000000 := by
  unfold gv
  by_cases h : Pu.allD s = true
  · rw [if_pos h]
    have := Dg.val_lt s.data.toList 0 1 (by rw [← Dg.all_bs]; exact h) (by omega)
    rw [Nat.one_mul, Pu.data_len] at this
    have h2 : 10 ^ s.size ≤ 10 ^ 14 := Nat.pow_le_pow_right (by omega) hs
    unfold vl; omega
  · rw [if_neg h]; omega
theorem gv_wrap (s : ByteArray) (hs : s.size ≤ 14) : wrap64 (gv s) = gv s := by have := gv_range s hs; unfold wrap64; omega
theorem u64_id (n : Int) (h0 : 0 ≤ n) (h1 : n < 18446744073709551616) : IntKind.u64.wrap n = n := by rw [IntKind.wrap_u64]; omega
theorem put_in (n w : Nat) (h1 : 1 ≤ w) (h19 : w ≤ 19) (hn : n < 10 ^ w) (h64 : n < 18446744073709551616) : digit_Put.f (n : Int) (w : Int) = some (Dg.ba (Dg.dgs w n), 0) := by
  rw [put_e n h64]; unfold Dg.putS; rw [if_neg (by omega), Int.toNat_natCast, if_pos ((Dg.nDigits_le n w h1).mpr hn)]
theorem of_r (k : Nat) (hk : 19 < k) (n w : Nat) (h19 : w ≤ 19) (hn : n < 18446744073709551616) : bursarref02_Of.f k (n : Int) (w : Int) = some (Dg.ba (Dg.dgs w n)) := by
  unfold bursarref02_Of.f; rw [refput_e n w hn h19 k hk, Option.bind_some]
theorem ext_size (s : ByteArray) (a b : Nat) (h : b ≤ s.size) (hab : a ≤ b) : (s.extract a b).size = b - a := by rw [ByteArray.size_extract]; omega
theorem spell (x : ByteArray) (w : Nat) (hx : x.size = w) (ha : Pu.allD x = true) : Dg.dgs w (gv x).toNat = x.data.toList := by
  unfold gv vl
  rw [if_pos ha, Int.toNat_natCast]
  exact dgs_vals w _ (by rw [Pu.data_len]; exact hx) (by rw [← Dg.all_bs]; exact ha)
theorem spelt (x : ByteArray) (w n : Nat) (h : Dg.dgs w n = x.data.toList) : Pu.allD x = true := by rw [Dg.all_bs, ← h]; exact Dg.dgs_dig w n
theorem ref_one_k (n : Int) (s c a : ByteArray) (t : Int) (hs : s.size ≤ 4096) (k : Nat) (hk : s.size < k) : bursarref21_One.f k n s c a t = some (Dp.oneB n s c a t) := by
  unfold bursarref21_One.f
  have := ref_one_loop n s c a t hs s.size 0 k (by omega) hk
  rw [Int.natCast_zero] at this
  rw [this, List.drop_zero, ← lettB_eq, rest_one]
/- Texts. -/
theorem oneB_iff {n : Int} {k c a : ByteArray} {t : Int} : Dp.oneB n k c a t = true ↔ 1 ≤ n ∧ n ≤ 2147483647 ∧ 0 ≤ t ∧ t ≤ 2147483647 ∧ k.size = 35 ∧ Dp.lettB k = true ∧ c.size = 2 ∧ Pu.allD c = true ∧ a.size = 6 ∧ Pu.allD a = true := by
  unfold Dp.oneB; simp only [Bool.and_eq_true, decide_eq_true_iff, and_assoc]
def txt (k c a : ByteArray) (t : Int) : ByteArray := ((k ++ c) ++ a) ++ Dg.ba (Dg.dgs 10 t.toNat)
theorem txt_data (k c a : ByteArray) (t : Int) : (txt k c a t).data.toList = k.data.toList ++ (c.data.toList ++ (a.data.toList ++ Dg.dgs 10 t.toNat)) := by
  unfold txt; rw [Pu.data_append, Pu.data_append, Pu.data_append, Dg.ba_data]; simp
theorem text_p (n : Int) (k c a : ByteArray) (t : Int) : dup_Text.f n k c a t = some (if Dp.oneB n k c a t = true then (txt k c a t, 0) else (⟨#[]⟩, 1)) := by
  unfold dup_Text.f dup_may.f
  rw [Option.bind_some]
  cases h : Dp.oneB n k c a t with
  | false => rfl
  | true =>
    obtain ⟨h1, h2, h3, h4, h5, h6, h7, h8, h9, h10⟩ := oneB_iff.mp h
    rw [if_pos rfl, u64_id t h3 (by omega)]
    obtain ⟨m, rfl⟩ : ∃ m : Nat, t = m := ⟨t.toNat, by omega⟩
    have hp := put_in m 10 (by omega) (by omega) (by omega) (by omega)
    rw [show ((10 : Nat) : Int) = 10 from rfl] at hp
    rw [hp, Option.bind_some]
    have hs1 : (k ++ c).size = 37 := by rw [ByteArray.size_append]; omega
    have hs2 : ((k ++ c) ++ a).size = 43 := by rw [ByteArray.size_append]; omega
    have hs3 : (Dg.ba (Dg.dgs 10 m)).size = 10 := by rw [Dg.ba_size, Dg.dgs_len]
    rw [if_pos (by omega), if_pos (by omega)]
    show (if ((k ++ c) ++ a).size + (Dg.ba (Dg.dgs 10 m)).size ≤ 9223372036854775807 then _ else _) = _
    rw [if_pos (by omega), if_pos rfl]; rfl
theorem text_r (k : Nat) (hk : 19 < k) (n : Int) (s c a : ByteArray) (t : Int) (h : Dp.oneB n s c a t = true) : bursarref21_Text.f k n s c a t = some (txt s c a t) := by
  obtain ⟨h1, h2, h3, h4, h5, h6, h7, h8, h9, h10⟩ := oneB_iff.mp h
  unfold bursarref21_Text.f
  rw [u64_id t h3 (by omega)]
  obtain ⟨m, rfl⟩ : ∃ m : Nat, t = m := ⟨t.toNat, by omega⟩
  have hp := of_r k hk m 10 (by omega) (by omega)
  rw [show ((10 : Nat) : Int) = 10 from rfl] at hp
  have hs1 : (s ++ c).size = 37 := by rw [ByteArray.size_append]; omega
  have hs2 : ((s ++ c) ++ a).size = 43 := by rw [ByteArray.size_append]; omega
  have hs3 : (Dg.ba (Dg.dgs 10 m)).size = 10 := by rw [Dg.ba_size, Dg.dgs_len]
  rw [if_pos (by omega), if_pos (by omega), hp, Option.bind_some, if_pos (by omega)]; rfl
/-- What a text of 53 octets says. -/
def good (n : Int) (s : ByteArray) : Bool := decide (s.size = 53) && (Pu.allD (s.extract 43 s.size) && Dp.oneB n (s.extract 0 35) (s.extract 35 37) (s.extract 37 43) (gv (s.extract 43 s.size)))
def outP (n : Int) (s : ByteArray) (e : Int) : Int × ByteArray × ByteArray × ByteArray × Int × Int :=
  if good n s = true then (n, s.extract 0 35, s.extract 35 37, s.extract 37 43, gv (s.extract 43 s.size), 0) else (0, ⟨#[]⟩, ⟨#[]⟩, ⟨#[]⟩, 0, e)
theorem parse_p (n : Int) (s : ByteArray) (hs : s.size ≤ 4096) : dup_Parse.f n s = some (outP n s 4) := by
  unfold dup_Parse.f outP good digit_Get.f dup_may.f
  by_cases h : s.size = 53
  · have hz : (s.extract 43 s.size).size = 10 := by rw [ext_size s 43 s.size (by omega) (by omega)]; omega
    rw [if_pos (by omega), if_pos (by omega), if_pos (by omega), Option.bind_some, if_pos (by omega), if_pos (by omega), decide_eq_true h, Bool.true_and]
    rw [getS_in _ (by omega) (by omega)]
    cases ha : Pu.allD (s.extract 43 s.size)
    · simp
    · simp only [if_true, Option.bind_some, Bool.true_and, gv_wrap _ (show (s.extract 43 s.size).size ≤ 14 by omega)]
      cases Dp.oneB n (s.extract 0 35) (s.extract 35 37) (s.extract 37 43) (gv (s.extract 43 s.size)) <;> rfl
  · rw [if_neg (by omega), decide_eq_false h]; rfl
theorem parts_of (s : ByteArray) (h : s.size = 53) : s.data.toList = (s.extract 0 35).data.toList ++ ((s.extract 35 37).data.toList ++ ((s.extract 37 43).data.toList ++ (s.extract 43 s.size).data.toList)) := by
  rw [Pu.data_extract, Pu.data_extract, Pu.data_extract, Pu.data_extract, h]
  have hl : s.data.toList.length = 53 := by rw [Pu.data_len]; exact h
  generalize s.data.toList = l at hl ⊢
  have e1 : l.drop 43 = (l.drop 43).take 10 := (List.take_of_length_le (by rw [List.length_drop]; omega)).symm
  rw [show 53 - 43 = 10 by omega, ← e1, show 43 - 37 = 6 by omega, show 37 - 35 = 2 by omega, show 35 - 0 = 35 by omega, List.drop_zero]
  have e2 : (l.drop 37).take 6 ++ l.drop 43 = l.drop 37 := by rw [show l.drop 43 = (l.drop 37).drop 6 by rw [List.drop_drop]]; exact List.take_append_drop 6 _
  have e3 : (l.drop 35).take 2 ++ l.drop 37 = l.drop 35 := by rw [show l.drop 37 = (l.drop 35).drop 2 by rw [List.drop_drop]]; exact List.take_append_drop 2 _
  rw [e2, e3, List.take_append_drop]
theorem good_text (n : Int) (s : ByteArray) (h : good n s = true) : txt (s.extract 0 35) (s.extract 35 37) (s.extract 37 43) (gv (s.extract 43 s.size)) = s := by
  unfold good at h
  simp only [Bool.and_eq_true, decide_eq_true_iff] at h
  obtain ⟨h1, h2, h3⟩ := h
  apply Pu.ba_ext
  rw [txt_data, spell _ 10 (by rw [ext_size s 43 s.size (by omega) (by omega)]; omega) h2, ← parts_of s h1]
theorem parse_r (k : Nat) (hk : 60 ≤ k) (n : Int) (s : ByteArray) : bursarref21_Parse.f k n s = some (if good n s = true then (n, s.extract 0 35, s.extract 35 37, s.extract 37 43, gv (s.extract 43 s.size), true) else (0, ⟨#[]⟩, ⟨#[]⟩, ⟨#[]⟩, 0, false)) := by
  have hg := good_text n s
  unfold bursarref21_Parse.f
  unfold good at hg ⊢
  by_cases h : s.size = 53
  · have hz : (s.extract 43 s.size).size = 10 := by rw [ext_size s 43 s.size (by omega) (by omega)]; omega
    have hz2 : (s.extract 0 35).size = 35 := by rw [ext_size s 0 35 (by omega) (by omega)]
    rw [if_pos (by omega), if_pos (by omega), get_k _ (by omega) (by omega) k (by omega), Option.bind_some, if_pos (by omega), if_pos (by omega)]
    rw [decide_eq_true h, Bool.true_and] at hg ⊢
    rw [getS_in _ (by omega) (by omega)]
    cases ha : Pu.allD (s.extract 43 s.size)
    · simp
    · rw [ha, Bool.true_and] at hg
      simp only [if_true, Bool.true_and, gv_wrap _ (show (s.extract 43 s.size).size ≤ 14 by omega)]
      rw [ref_one_k _ _ _ _ _ (by omega) k (by omega), Option.bind_some]
      cases ho : Dp.oneB n (s.extract 0 35) (s.extract 35 37) (s.extract 37 43) (gv (s.extract 43 s.size))
      · rfl
      · rw [if_pos rfl, text_r k (by omega) n _ _ _ _ ho, Option.bind_some, hg ho, if_pos rfl, if_pos rfl]
  · rw [if_neg (by omega), decide_eq_false h]; rfl
theorem txt_size (n : Int) (k c a : ByteArray) (t : Int) (h : Dp.oneB n k c a t = true) : (txt k c a t).size = 53 := by
  obtain ⟨h1, h2, h3, h4, h5, h6, h7, h8, h9, h10⟩ := oneB_iff.mp h
  unfold txt
  rw [ByteArray.size_append, ByteArray.size_append, ByteArray.size_append, Dg.ba_size, Dg.dgs_len]; omega
theorem out_text (n : Int) (k c a : ByteArray) (t : Int) (h : Dp.oneB n k c a t = true) : outP n (txt k c a t) 4 = (n, k, c, a, t, 0) := by
  have hs := txt_size n k c a t h
  obtain ⟨h1, h2, h3, h4, h5, h6, h7, h8, h9, h10⟩ := oneB_iff.mp h
  have l1 : k.data.toList.length = 35 := by rw [Pu.data_len]; exact h5
  have l2 : c.data.toList.length = 2 := by rw [Pu.data_len]; exact h7
  have l3 : a.data.toList.length = 6 := by rw [Pu.data_len]; exact h9
  have hd := txt_data k c a t
  have e1 : (txt k c a t).extract 0 35 = k := by
    apply Pu.ba_ext; rw [Pu.data_extract, hd, List.drop_zero, Nat.sub_zero, List.take_append_of_le_length (by omega), List.take_of_length_le (by omega)]
  have e2 : (txt k c a t).extract 35 37 = c := by
    apply Pu.ba_ext; rw [Pu.data_extract, hd, List.drop_append_of_le_length (by omega), List.drop_of_length_le (by omega), List.nil_append, List.take_append_of_le_length (by omega), List.take_of_length_le (by omega)]
  have e3 : (txt k c a t).extract 37 43 = a := by
    apply Pu.ba_ext
    rw [Pu.data_extract, hd, ← List.append_assoc, List.drop_append_of_le_length (by rw [List.length_append]; omega), List.drop_of_length_le (by rw [List.length_append]; omega), List.nil_append, List.take_append_of_le_length (by omega), List.take_of_length_le (by omega)]
  have e4 : (txt k c a t).extract 43 (txt k c a t).size = Dg.ba (Dg.dgs 10 t.toNat) := by
    apply Pu.ba_ext
    rw [Pu.data_extract, hd, Dg.ba_data, hs, ← List.append_assoc, ← List.append_assoc, List.drop_append_of_le_length (by simp; omega), List.drop_of_length_le (by simp; omega), List.nil_append, List.take_of_length_le (by rw [Dg.dgs_len]; omega)]
  have ha : Pu.allD (Dg.ba (Dg.dgs 10 t.toNat)) = true := by rw [Dg.all_bs, Dg.ba_data]; exact Dg.dgs_dig 10 _
  have hv : gv (Dg.ba (Dg.dgs 10 t.toNat)) = t := by
    unfold gv vl
    rw [if_pos ha, Dg.ba_data, Dg.val_dgs, Nat.mod_eq_of_lt (by omega)]; omega
  have hg : good n (txt k c a t) = true := by
    unfold good
    rw [e1, e2, e3, e4, ha, hv, h, decide_eq_true hs]; rfl
  unfold outP
  rw [if_pos hg, e1, e2, e3, e4, hv]
theorem texts_j (k : Nat) (hk : 100 ≤ k) (n : Int) (s c a : ByteArray) (t : Int) (hs : s.size ≤ 60) : bursarlaw21_DupTexts.j0 (k + 1) false n s c a t = some true := by
  simp only [bursarlaw21_DupTexts.j0]
  rw [if_neg (by simp), text_p, Option.bind_some, ref_one_k n s c a t (by omega) k (by omega), Option.bind_some]
  cases h : Dp.oneB n s c a t with
  | false =>
    simp only [Bool.false_eq_true, if_false, awake_eq k (by omega), Option.bind_some, if_true]
    rw [if_pos (by rw [ByteArray.toList_eq])]
  | true =>
    have hz := txt_size n s c a t h
    simp only [if_true, parse_p n (txt s c a t) (by omega), Option.bind_some, text_r k (by omega) n s c a t h, out_text n s c a t h, awake_eq k (by omega)]
    rw [if_pos (by simp)]
theorem texts_pure (a0_0 : Int) (a0_1 a0_2 a0_3 : ByteArray) (a0_4 a1 : Int) (a2 : ByteArray) : bursarlaw21_DupTexts.f 200 a0_0 a0_1 a0_2 a0_3 a0_4 a1 a2 = some true := by
  have hj := texts_j 199 (by omega) a0_0 (cut a0_1) (cut a0_2) (cut a0_3) a0_4 (cut_size _)
  have hp := parse_p a1 (cut a2) (by have := cut_size a2; omega)
  have hr := parse_r 200 (by omega) a1 (cut a2)
  unfold bursarlaw21_DupTexts.f
  rw [one_eq, Option.bind_some, text_eq, Option.bind_some, hp, Option.bind_some, hr, Option.bind_some]
  unfold outP
  cases hg : good a1 (cut a2)
  · simp only [Bool.false_eq_true, if_false]
    rw [if_neg (by simp), if_neg (by simp)]
    exact hj
  · simp only [if_true]
    rw [if_neg (by simp), if_neg (by simp)]
    exact hj
end Go.Proofs.YtmifpifhiiommaaDoor.XT
