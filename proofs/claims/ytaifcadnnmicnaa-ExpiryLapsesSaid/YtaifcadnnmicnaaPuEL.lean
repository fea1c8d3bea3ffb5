/- Plain Lean: the printed ExpiryLapses answers true at every input. -/
import Derived.Test.YtaifcadnnmicnaaPuE
import Derived.Test.YtaifcadnnmicnaaPuEA
import Derived.Test.YtaifcadnnmicnaaXE25
namespace Go.Proofs.Ytaifcadnnmicnaa.XE
open Go.RowKit Go.Proofs.YtaifcadnnmicnaaW.PrintWords
set_option linter.unusedVariables false
set_option linter.unusedSimpArgs false
/-! few: again it is the same. -/
def ok3 (h : S30) : Prop := h.f0.size ≤ 30 ∧ h.f1.size ≤ 30 ∧ h.f2.size ≤ 30
theorem few3_p (a b c : ByteArray) (d e f : Int) (g : Bool) : ∃ t, bursarlaw14_Few.f a b c d e f g = some t ∧ t.1.size ≤ 30 ∧ t.2.1.size ≤ 30 ∧ t.2.2.1.size ≤ 30 := by
  obtain ⟨t1, h1, s1⟩ := text_p a
  obtain ⟨t2, h2, s2⟩ := text_p b
  obtain ⟨t3, h3, s3⟩ := text_p c
  unfold bursarlaw14_Few.f
  rw [h1, h2, h3]
  exact ⟨_, rfl, s1, s2, s3⟩
theorem few3_l (x : List S30) (hx : x.length ≤ 40) : ∀ (d i k : Nat) (acc : List S30), i + d = x.length → acc.length = i → d < k → (∀ h ∈ acc, ok3 h) → ∃ y, bursarlaw15_few.l0 k x acc (i : Int) = some y ∧ y.length ≤ 40 ∧ ∀ h ∈ y, ok3 h := by
  intro d
  induction d with
  | zero =>
    intro i k acc hi ha hk hok
    obtain ⟨k, rfl⟩ : ∃ m, k = m + 1 := ⟨k - 1, by omega⟩
    simp only [bursarlaw15_few.l0]
    rw [if_neg (by omega)]
    exact ⟨acc, rfl, by omega, hok⟩
  | succ d ih =>
    intro i k acc hi ha hk hok
    obtain ⟨k, rfl⟩ : ∃ m, k = m + 1 := ⟨k - 1, by omega⟩
    simp only [bursarlaw15_few.l0]
    obtain ⟨t, ht, s1, s2, s3⟩ := few3_p (rd_T30 x (i : Int)).f0 (rd_T30 x (i : Int)).f1 (rd_T30 x (i : Int)).f2 (rd_T30 x (i : Int)).f3 (rd_T30 x (i : Int)).f4 (rd_T30 x (i : Int)).f5 (rd_T30 x (i : Int)).f6
    rw [if_pos (by omega), if_pos (by omega), ht, Option.bind_some, if_pos (by omega), Pu.wrap_small (by omega) (by omega)]
    exact ih (i + 1) k _ (by omega) (by rw [List.length_append, ha]; rfl) (by omega) (fun h hm => by
      rcases List.mem_append.mp hm with h1 | h1
      · exact hok h h1
      · rw [List.mem_singleton] at h1
        subst h1
        exact ⟨s1, s2, s3⟩)
theorem few3 (l : List S30) (k : Nat) (hk : 50 ≤ k) : ∃ y, bursarlaw15_few.f k l = some y ∧ y.length ≤ 40 ∧ ∀ h ∈ y, ok3 h := by
  obtain ⟨k, rfl⟩ : ∃ m, k = m + 1 := ⟨k - 1, by omega⟩
  unfold bursarlaw15_few.f
  by_cases h : (l.length : Int) > 40
  · rw [if_pos h, if_pos (by omega)]
    simp only [bursarlaw15_few.j0]
    exact few3_l (l.take 40) (by rw [List.length_take]; omega) (l.take 40).length 0 k [] (by omega) rfl (by rw [List.length_take]; omega) (fun _ h => by simp at h)
  · rw [if_neg h]
    simp only [bursarlaw15_few.j0]
    exact few3_l l (by omega) l.length 0 k [] (by omega) rfl (by omega) (fun _ h => by simp at h)
theorem rd_getT (l : List S30) (i : Nat) (hi : i < l.length) : rd_T30 l (i : Int) = l[i] := by
  unfold rd_T30; rw [Int.toNat_natCast, List.getD_eq_getElem?_getD, List.getElem?_eq_getElem hi]; rfl
theorem text_id {s : ByteArray} (h : s.size ≤ 30) : bursarlaw14_text.f s = some s := by
  unfold bursarlaw14_text.f
  rw [if_neg (by omega)]
theorem few_id_l (x : List S30) (hx : x.length ≤ 40) (hok : ∀ h ∈ x, ok3 h) : ∀ (d i k : Nat), i + d = x.length → d < k → bursarlaw15_few.l0 k x (x.take i) (i : Int) = some x := by
  intro d
  induction d with
  | zero =>
    intro i k hi hk
    obtain ⟨k, rfl⟩ : ∃ m, k = m + 1 := ⟨k - 1, by omega⟩
    simp only [bursarlaw15_few.l0]
    rw [if_neg (by omega), List.take_of_length_le (by omega)]
  | succ d ih =>
    intro i k hi hk
    obtain ⟨k, rfl⟩ : ∃ m, k = m + 1 := ⟨k - 1, by omega⟩
    simp only [bursarlaw15_few.l0]
    have hil : i < x.length := by omega
    obtain ⟨s1, s2, s3⟩ := hok _ (List.getElem_mem hil)
    unfold bursarlaw14_Few.f
    rw [if_pos (by omega), if_pos (by omega), rd_getT x i hil, text_id s1, Option.bind_some, text_id s2, Option.bind_some, text_id s3, Option.bind_some, Option.bind_some, if_pos (by rw [List.length_take]; omega), Pu.wrap_small (by omega) (by omega)]
    have e : x.take i ++ [x[i]] = x.take (i + 1) := by rw [List.take_add_one, List.getElem?_eq_getElem hil]; rfl
    have := ih (i + 1) k (by omega) (by omega)
    rw [← e] at this
    exact this
theorem few_id (x : List S30) (hx : x.length ≤ 40) (hok : ∀ h ∈ x, ok3 h) (k : Nat) (hk : 50 ≤ k) : bursarlaw15_few.f k x = some x := by
  obtain ⟨k, rfl⟩ : ∃ m, k = m + 1 := ⟨k - 1, by omega⟩
  unfold bursarlaw15_few.f
  rw [if_neg (by omega)]
  simp only [bursarlaw15_few.j0]
  exact few_id_l x hx hok x.length 0 k (by omega) (by omega)
theorem sameH_l (x : List S30) (hx : x.length ≤ 40) : ∀ (d i k : Nat), i + d = x.length → d < k → bursarref15_SameHolds.l0 k x x (i : Int) = some true := by
  intro d
  induction d with
  | zero =>
    intro i k hi hk
    obtain ⟨k, rfl⟩ : ∃ m, k = m + 1 := ⟨k - 1, by omega⟩
    simp only [bursarref15_SameHolds.l0]
    rw [if_neg (by omega)]
  | succ d ih =>
    intro i k hi hk
    obtain ⟨k, rfl⟩ : ∃ m, k = m + 1 := ⟨k - 1, by omega⟩
    simp only [bursarref15_SameHolds.l0]
    rw [if_pos (by omega), if_pos (by omega), if_pos (by omega), if_neg (by simp), Pu.wrap_small (by omega) (by omega)]
    exact ih (i + 1) k (by omega) (by omega)
theorem sameH (x : List S30) (hx : x.length ≤ 40) (k : Nat) (hk : x.length < k) : bursarref15_SameHolds.f k x x = some true := by
  unfold bursarref15_SameHolds.f
  rw [if_pos rfl]
  exact sameH_l x hx x.length 0 k (by omega) (by omega)
/-! The reference's order. -/
def posI (y : List S30) (n : Nat) : List Int := (itemsTo y n).map (·.f2)
theorem posI_succ (y : List S30) (n : Nat) : posI y (n + 1) = posI y n ++ (if hopen (rd_T30 y (n : Int)) = true then [(n : Int)] else []) := by
  unfold posI
  rw [itemsTo_succ, List.map_append]
  congr 1
  split <;> rfl
theorem open_l (y : List S30) (hy : y.length ≤ 40) : ∀ (d i k : Nat), i + d = y.length → d < k → bursarref15_open.l0 k y (posI y i) (i : Int) = some (posI y y.length) := by
  intro d
  induction d with
  | zero =>
    intro i k hi hk
    obtain ⟨k, rfl⟩ : ∃ m, k = m + 1 := ⟨k - 1, by omega⟩
    simp only [bursarref15_open.l0]
    rw [if_neg (by omega), show i = y.length by omega]
  | succ d ih =>
    intro i k hi hk
    obtain ⟨k, rfl⟩ : ∃ m, k = m + 1 := ⟨k - 1, by omega⟩
    simp only [bursarref15_open.l0]
    have hlen : (posI y i).length ≤ i := by unfold posI; rw [List.length_map]; exact itemsTo_len y i
    unfold bursarref14_May.f
    have hs := posI_succ y i
    have h2 := ih (i + 1) k (by omega) (by omega)
    rw [if_pos (by omega), if_pos (by omega), Option.bind_some, if_pos (by omega : (posI y i).length < 17592186044416), Pu.wrap_small (by omega) (by omega)]
    have h2' : bursarref15_open.l0 k y (posI y (i + 1)) ((i : Int) + 1) = some (posI y y.length) := h2
    unfold hopen at hs
    cases hm : Pu.hmay (rd_T30 y (i : Int)).f0 (rd_T30 y (i : Int)).f1 (rd_T30 y (i : Int)).f2 (rd_T30 y (i : Int)).f3 (rd_T30 y (i : Int)).f4 (rd_T30 y (i : Int)).f5 (rd_T30 y (i : Int)).f6 with
    | false =>
      rw [hm, Bool.false_and, if_neg (by decide), List.append_nil] at hs
      rw [if_neg (by decide), ← hs]
      exact h2'
    | true =>
      rw [hm, Bool.true_and] at hs
      rw [if_pos rfl]
      by_cases ho : (rd_T30 y (i : Int)).f6 = true
      · rw [if_pos ho] at hs ⊢
        rw [← hs]
        exact h2'
      · rw [if_neg ho] at hs ⊢
        rw [List.append_nil] at hs
        rw [← hs]
        exact h2'
def itI (y : List S30) (j : Int) : S49 := ⟨(rd_T30 y j).f5, (rd_T30 y j).f0 ++ (rd_T30 y j).f1, j⟩
theorem itI_item {y : List S30} {n : Nat} {x : S49} (h : x ∈ itemsTo y n) : itI y x.f2 = x := by
  obtain ⟨i, -, -, rfl⟩ := mem_items.mp h
  rfl
theorem ah_lt (y : List S30) (i k : Int) : ahB (rd_T30 y i) (rd_T30 y k) i k = ltS (itI y i) (itI y k) := by
  rw [Bool.eq_iff_iff]
  unfold ltS
  rw [Ex.ltI_iff]
  unfold ahB
  show _ ↔ (rd_T30 y i).f5 < (rd_T30 y k).f5 ∨ ((rd_T30 y i).f5 = (rd_T30 y k).f5 ∧ (Op.bytesLess ((rd_T30 y i).f0 ++ (rd_T30 y i).f1).toList ((rd_T30 y k).f0 ++ (rd_T30 y k).f1).toList = true ∨ (((rd_T30 y i).f0 ++ (rd_T30 y i).f1).toList = ((rd_T30 y k).f0 ++ (rd_T30 y k).f1).toList ∧ i < k)))
  generalize (rd_T30 y i).f5 = u
  generalize (rd_T30 y k).f5 = v
  generalize ((rd_T30 y i).f0 ++ (rd_T30 y i).f1).toList = s
  generalize ((rd_T30 y k).f0 ++ (rd_T30 y k).f1).toList = t
  by_cases h1 : u = v
  · subst h1
    rw [if_pos rfl]
    by_cases h2 : s = t
    · subst h2
      rw [if_pos rfl, decide_eq_true_iff]
      constructor
      · intro h; exact .inr ⟨rfl, .inr ⟨rfl, h⟩⟩
      · rintro (h | ⟨-, h | ⟨-, h⟩⟩)
        · omega
        · rw [Pu.less_irr] at h; cases h
        · exact h
    · rw [if_neg h2]
      constructor
      · intro h; exact .inr ⟨rfl, .inl h⟩
      · rintro (h | ⟨-, h | ⟨h, -⟩⟩)
        · omega
        · exact h
        · exact absurd h h2
  · rw [if_neg h1, decide_eq_true_iff]
    constructor
    · intro h; exact .inl h
    · rintro (h | ⟨h, -⟩)
      · exact h
      · exact absurd h h1
/-- The best one among those that are not out. -/
def bestF (y : List S30) (out : List Int) : List Int → Int → Int
  | [], b => b
  | a :: l, b => if a ∈ out then bestF y out l b else if b < 0 ∨ ltS (itI y a) (itI y b) = true then bestF y out l a else bestF y out l b
theorem best_min (y : List S30) (out : List Int) : ∀ (l : List Int) (b : Int), (∀ a ∈ l, 0 ≤ a) →
    (bestF y out l b = b ∨ (bestF y out l b ∈ l ∧ ¬ bestF y out l b ∈ out)) ∧ (0 ≤ b → 0 ≤ bestF y out l b ∧ ltS (itI y b) (itI y (bestF y out l b)) = false) ∧ (∀ a ∈ l, ¬ a ∈ out → 0 ≤ bestF y out l b ∧ ltS (itI y a) (itI y (bestF y out l b)) = false)
  | [], b, _ => ⟨.inl rfl, fun h => ⟨h, ordT.irr _⟩, fun a h => by simp at h⟩
  | a :: l, b, h => by
    have hl : ∀ a ∈ l, 0 ≤ a := fun x hx => h x (List.mem_cons_of_mem _ hx)
    have ha : 0 ≤ a := h a List.mem_cons_self
    unfold bestF
    by_cases ho : a ∈ out
    · rw [if_pos ho]
      obtain ⟨i1, i2, i3⟩ := best_min y out l b hl
      refine ⟨?_, i2, fun x hx hn => ?_⟩
      · rcases i1 with h1 | ⟨h1, h2⟩
        · exact .inl h1
        · exact .inr ⟨List.mem_cons_of_mem _ h1, h2⟩
      · rcases List.mem_cons.mp hx with rfl | hx
        · exact absurd ho hn
        · exact i3 x hx hn
    · rw [if_neg ho]
      by_cases hb : b < 0 ∨ ltS (itI y a) (itI y b) = true
      · rw [if_pos hb]
        obtain ⟨i1, i2, i3⟩ := best_min y out l a hl
        obtain ⟨j1, j2⟩ := i2 ha
        refine ⟨.inr ?_, fun h0 => ⟨j1, ?_⟩, fun x hx hn => ?_⟩
        · rcases i1 with h1 | ⟨h1, h2⟩
          · rw [h1]; exact ⟨List.mem_cons_self, ho⟩
          · exact ⟨List.mem_cons_of_mem _ h1, h2⟩
        · rcases hb with hb | hb
          · omega
          · exact ordT.tr _ _ _ j2 (ordT.asym _ _ hb)
        · rcases List.mem_cons.mp hx with rfl | hx
          · exact ⟨j1, j2⟩
          · exact i3 x hx hn
      · rw [if_neg hb]
        have hb0 : 0 ≤ b := by
          rcases Int.lt_or_le b 0 with h1 | h1
          · exact absurd (.inl h1) hb
          · exact h1
        have hlt : ltS (itI y a) (itI y b) = false := by
          cases h1 : ltS (itI y a) (itI y b) with
          | false => rfl
          | true => exact absurd (.inr h1) hb
        obtain ⟨i1, i2, i3⟩ := best_min y out l b hl
        obtain ⟨j1, j2⟩ := i2 hb0
        refine ⟨?_, i2, fun x hx hn => ?_⟩
        · rcases i1 with h1 | ⟨h1, h2⟩
          · exact .inl h1
          · exact .inr ⟨List.mem_cons_of_mem _ h1, h2⟩
        · rcases List.mem_cons.mp hx with rfl | hx
          · exact ⟨j1, ordT.tr _ _ _ j2 hlt⟩
          · exact i3 x hx hn
theorem okA2_rd {y : List S30} (hok : ∀ h ∈ y, ok3 h) {j : Int} (h0 : 0 ≤ j) (h1 : j < y.length) : okA2 (rd_T30 y j) = true := by
  obtain ⟨i, rfl⟩ : ∃ i : Nat, j = i := ⟨j.toNat, by omega⟩
  obtain ⟨s1, s2, -⟩ := hok _ (List.getElem_mem (show i < y.length by omega))
  rw [rd_getT y i (by omega)]
  unfold okA2
  rw [Bool.and_eq_true]
  exact ⟨decide_eq_true (by omega), decide_eq_true (by omega)⟩
theorem ahead_p {y : List S30} (hok : ∀ h ∈ y, ok3 h) {i j : Int} (h0 : 0 ≤ i) (h1 : i < y.length) (h2 : 0 ≤ j) (h3 : j < y.length) : bursarref15_ahead.f y i j = some (ltS (itI y i) (itI y j)) := by
  unfold bursarref15_ahead.f
  rw [if_pos, ah_lt]
  simp only [Bool.and_eq_true, decide_eq_true_eq]
  exact ⟨⟨⟨⟨⟨h0, h1⟩, h2⟩, h3⟩, okA2_rd hok h0 h1⟩, okA2_rd hok h2 h3⟩
theorem rd_geti (l : List Int) (i : Nat) (hi : i < l.length) : rd l (i : Int) = l[i] := by
  unfold rd; rw [Int.toNat_natCast, List.getD_eq_getElem?_getD, List.getElem?_eq_getElem hi]; rfl
def stepB (y : List S30) (a b : Int) (had : Prop) [Decidable had] : Int := if had then b else if b < 0 ∨ ltS (itI y a) (itI y b) = true then a else b
theorem l2_p {y : List S30} (hok : ∀ h ∈ y, ok3 h) (all out : List Int) (hall : ∀ a ∈ all, 0 ≤ a ∧ a < y.length) (hal : all.length ≤ 100) (hol : out.length ≤ 100) (b : Int) (hb : b < y.length) (i : Nat) (hi : i < all.length) :
    ∀ (d j k : Nat) (had : Bool), j + d = out.length → bursarref15_Order.l2 (k + d + 1) y all out b (i : Int) had (j : Int) = bursarref15_Order.l1 k y all out (stepB y all[i] b (had = true ∨ all[i] ∈ out.drop j)) ((i : Int) + 1) := by
  have n0 : ∀ q : Nat, (0 : Int) ≤ (q : Int) := fun q => Int.natCast_nonneg q
  have hiz : (i : Int) < all.length := by omega
  obtain ⟨ha0, ha1⟩ := hall _ (List.getElem_mem hi)
  have hw : wrap64 ((i : Int) + 1) = (i : Int) + 1 := Pu.wrap_small (by omega) (by omega)
  have hrd := rd_geti all i hi
  intro d
  induction d with
  | zero =>
    intro j k had hj
    have hd : out.drop j = [] := List.drop_eq_nil_of_le (by omega)
    rw [bursarref15_Order.l2, if_neg (by omega), hw, hd]
    by_cases hh : had = true
    · have e : stepB y all[i] b (had = true ∨ all[i] ∈ ([] : List Int)) = b := if_pos (.inl hh)
      rw [if_pos hh, e]
    · have e : stepB y all[i] b (had = true ∨ all[i] ∈ ([] : List Int)) = if b < 0 ∨ ltS (itI y all[i]) (itI y b) = true then all[i] else b := if_neg (fun h => h.elim hh (fun h => by simp at h))
      rw [if_neg hh, e]
      by_cases hb0 : b < 0
      · rw [if_pos hb0, if_pos (n0 i), if_pos hiz, hrd, if_pos (Or.inl hb0)]
      · rw [if_neg hb0, if_pos (n0 i), if_pos hiz, hrd, ahead_p hok ha0 ha1 (by omega) hb, Option.bind_some]
        cases hl : ltS (itI y all[i]) (itI y b) with
        | true => rw [if_pos rfl, if_pos (Or.inr rfl)]
        | false => rw [if_neg (by decide), if_neg (fun h => h.elim hb0 (fun h => by cases h))]
  | succ d ih =>
    intro j k had hj
    have hjl : j < out.length := by omega
    have hjz : (j : Int) < out.length := by omega
    have hj1 : j + 1 + d = out.length := by omega
    have hwj : wrap64 ((j : Int) + 1) = ((j + 1 : Nat) : Int) := Pu.wrap_small (by omega) (by omega)
    have hdr : out.drop j = out[j] :: out.drop (j + 1) := List.drop_eq_getElem_cons hjl
    rw [show k + (d + 1) + 1 = (k + d + 1) + 1 by omega]
    rw [bursarref15_Order.l2, if_pos hjz, hwj]
    by_cases hh : had = true
    · have e1 : stepB y all[i] b (true = true ∨ all[i] ∈ out.drop (j + 1)) = b := if_pos (.inl rfl)
      have e2 : stepB y all[i] b (had = true ∨ all[i] ∈ out.drop j) = b := if_pos (.inl hh)
      rw [if_pos hh, ih (j + 1) k true hj1, e1, e2]
    · rw [if_neg hh, if_pos (n0 j), if_pos (n0 i), if_pos hiz, ih (j + 1) k _ hj1, rd_geti out j hjl, hrd]
      have hiff : ((out[j] == all[i]) = true ∨ all[i] ∈ out.drop (j + 1)) ↔ (had = true ∨ all[i] ∈ out.drop j) := by
        rw [hdr, List.mem_cons, beq_iff_eq]
        constructor
        · rintro (h | h)
          · exact .inr (.inl h.symm)
          · exact .inr (.inr h)
        · rintro (h | h | h)
          · exact absurd h hh
          · exact .inl h.symm
          · exact .inr h
      unfold stepB
      simp only [hiff]
theorem best_lt {y : List S30} {out : List Int} : ∀ (l : List Int) (b : Int), (∀ a ∈ l, a < y.length) → b < y.length → bestF y out l b < y.length
  | [], b, _, hb => hb
  | a :: l, b, h, hb => by
    have hl : ∀ a ∈ l, a < y.length := fun x hx => h x (List.mem_cons_of_mem _ hx)
    unfold bestF
    split
    · exact best_lt l b hl hb
    · split
      · exact best_lt l a hl (h a List.mem_cons_self)
      · exact best_lt l b hl hb
theorem l1_p {y : List S30} (hok : ∀ h ∈ y, ok3 h) (all out : List Int) (hall : ∀ a ∈ all, 0 ≤ a ∧ a < y.length) (hal : all.length ≤ 100) (hol : out.length ≤ 100) :
    ∀ (d i k : Nat) (b : Int), i + d = all.length → b < y.length → bursarref15_Order.l1 (k + d * (out.length + 2) + 1) y all out b (i : Int) = bursarref15_Order.l0 k y all (out ++ [bestF y out (all.drop i) b]) := by
  intro d
  induction d with
  | zero =>
    intro i k b hi hb
    rw [Nat.zero_mul, Nat.add_zero]
    rw [bursarref15_Order.l1, if_neg (by omega), if_pos (by omega), List.drop_eq_nil_of_le (by omega)]
    rfl
  | succ d ih =>
    intro i k b hi hb
    have hil : i < all.length := by omega
    have hq : k + (d + 1) * (out.length + 2) + 1 = ((k + d * (out.length + 2) + 1) + out.length + 1) + 1 := by
      rw [Nat.succ_mul]; omega
    have hdr : all.drop i = all[i] :: all.drop (i + 1) := List.drop_eq_getElem_cons hil
    obtain ⟨ha0, ha1⟩ := hall _ (List.getElem_mem hil)
    rw [hq, bursarref15_Order.l1, if_pos (by omega)]
    have h2 := l2_p hok all out hall hal hol b hb i hil out.length 0 (k + d * (out.length + 2) + 1) false (by omega)
    rw [List.drop_zero] at h2
    have h2' : bursarref15_Order.l2 ((k + d * (out.length + 2) + 1) + out.length + 1) y all out b (i : Int) false 0 = _ := h2
    rw [h2']
    have hb2 : stepB y all[i] b (false = true ∨ all[i] ∈ out) < y.length := by
      unfold stepB
      split
      · exact hb
      · split
        · exact ha1
        · exact hb
    have h3 := ih (i + 1) k _ (by omega) hb2
    have h3' : bursarref15_Order.l1 (k + d * (out.length + 2) + 1) y all out (stepB y all[i] b (false = true ∨ all[i] ∈ out)) ((i : Int) + 1) = _ := h3
    rw [h3', hdr]
    congr 3
    conv => rhs; unfold bestF
    unfold stepB
    by_cases ho : all[i] ∈ out
    · rw [if_pos ho, if_pos (.inr ho)]
    · rw [if_neg ho, if_neg (by rintro (h | h); cases h; exact ho h)]
      split <;> rfl
def ordI (y : List S30) : List Int := (ordS y).map (·.f2)
theorem ordI_perm (y : List S30) : (ordI y).Perm (posI y y.length) := by
  unfold ordI posI
  exact (ord_sorted y).2.map (fun x : S49 => x.f2)
theorem best_eq {y : List S30} (m : Nat) (hm : m < (ordI y).length) : bestF y ((ordI y).take m) (posI y y.length) (-1) = (ordI y)[m] := by
  have hp := ordI_perm y
  have hnd : (ordI y).Nodup := hp.nodup_iff.mpr (items_nodup y _)
  have hpos : ∀ a ∈ posI y y.length, 0 ≤ a := fun a ha => by
    unfold posI at ha
    obtain ⟨x, hx, rfl⟩ := List.mem_map.mp ha
    obtain ⟨i, -, -, rfl⟩ := mem_items.mp hx
    show (0 : Int) ≤ (i : Int)
    omega
  have hnot : ∀ p (hp : p < (ordI y).length), m ≤ p → ¬ (ordI y)[p] ∈ (ordI y).take m := fun p hp hmp hmem => by
    obtain ⟨q, hq1, hq2⟩ := List.mem_iff_getElem.mp hmem
    rw [List.length_take] at hq1
    rw [List.getElem_take] at hq2
    have := (List.getElem_inj hnd).mp hq2
    omega
  have hit : ∀ p (hp : p < (ordS y).length), itI y (ordS y)[p].f2 = (ordS y)[p] := fun p hp => itI_item ((ord_sorted y).2.mem_iff.mp (List.getElem_mem hp))
  obtain ⟨h1, -, h3⟩ := best_min y ((ordI y).take m) (posI y y.length) (-1) hpos
  obtain ⟨h4, h5⟩ := h3 _ (hp.mem_iff.mp (List.getElem_mem hm)) (hnot m hm (Nat.le_refl _))
  rcases h1 with h1 | ⟨h1, h2⟩
  · omega
  · obtain ⟨p, hp1, hp2⟩ := List.mem_iff_getElem.mp (hp.mem_iff.mpr h1)
    rw [← hp2] at h5 h2 ⊢
    have hml : m < (ordS y).length := by unfold ordI at hm; rw [List.length_map] at hm; exact hm
    have hpl : p < (ordS y).length := by unfold ordI at hp1; rw [List.length_map] at hp1; exact hp1
    rcases Nat.lt_trichotomy p m with h | h | h
    · refine absurd ?_ h2
      rw [List.mem_iff_getElem]
      exact ⟨p, by rw [List.length_take]; omega, by rw [List.getElem_take]⟩
    · subst h; rfl
    · have hs := List.pairwise_iff_getElem.mp (ord_sorted y).1 m p hml hpl h
      unfold Hp.le at hs
      rw [Bool.not_eq_true'] at hs
      have e1 : (ordI y)[m] = (ordS y)[m].f2 := List.getElem_map (fun x : S49 => x.f2)
      have e2 : (ordI y)[p] = (ordS y)[p].f2 := List.getElem_map (fun x : S49 => x.f2)
      rw [e1, e2, hit m hml, hit p hpl] at h5
      rw [e1, e2, antiT _ _ h5 hs]
theorem l0_p {y : List S30} (hy : y.length ≤ 40) (hok : ∀ h ∈ y, ok3 h) : ∀ (d m : Nat), m + d = (ordI y).length → ∀ k, d * ((ordI y).length * ((ordI y).length + 2) + 2) + 1 ≤ k → bursarref15_Order.l0 k y (posI y y.length) ((ordI y).take m) = some (ordI y) := by
  have hle : (posI y y.length).length ≤ 40 := by unfold posI; rw [List.length_map]; exact Nat.le_trans (itemsTo_len y _) hy
  have hlen : (ordI y).length = (posI y y.length).length := (ordI_perm y).length_eq
  have hall : ∀ a ∈ posI y y.length, 0 ≤ a ∧ a < y.length := fun a ha => by
    unfold posI at ha
    obtain ⟨x, hx, rfl⟩ := List.mem_map.mp ha
    obtain ⟨i, hi, -, rfl⟩ := mem_items.mp hx
    show (0 : Int) ≤ (i : Int) ∧ (i : Int) < _
    omega
  intro d
  induction d with
  | zero =>
    intro m hm k hk
    obtain ⟨k, rfl⟩ : ∃ q, k = q + 1 := ⟨k - 1, by omega⟩
    rw [bursarref15_Order.l0, List.take_of_length_le (by omega), if_neg (by omega)]
  | succ d ih =>
    intro m hm k hk
    have hml : m < (ordI y).length := by omega
    have htl : ((ordI y).take m).length = m := by rw [List.length_take]; omega
    have hmul : (ordI y).length * (m + 2) ≤ (ordI y).length * ((ordI y).length + 2) := Nat.mul_le_mul_left _ (by omega)
    rw [Nat.succ_mul] at hk
    generalize hP : (ordI y).length * (m + 2) = P at hmul
    generalize hQ : (ordI y).length * ((ordI y).length + 2) = Q at hmul hk ih
    generalize hR : d * (Q + 2) = R at hk ih
    obtain ⟨K, hK⟩ : ∃ K, k = (K + P + 1) + 1 := ⟨k - P - 2, by omega⟩
    subst hK
    rw [bursarref15_Order.l0, if_pos (by omega)]
    have h1 := l1_p hok (posI y y.length) ((ordI y).take m) hall (by omega) (by omega) (posI y y.length).length 0 K (-1) (by omega) (by omega)
    rw [htl, ← hlen, hP, List.drop_zero] at h1
    have h1' : bursarref15_Order.l1 (K + P + 1) y (posI y y.length) ((ordI y).take m) (-1) 0 = _ := h1
    rw [h1', best_eq m hml]
    have e : (ordI y).take m ++ [(ordI y)[m]] = (ordI y).take (m + 1) := by rw [List.take_add_one, List.getElem?_eq_getElem hml]; rfl
    rw [e]
    exact ih (m + 1) (by omega) K (by omega)
theorem order_p {y : List S30} (hy : y.length ≤ 40) (hok : ∀ h ∈ y, ok3 h) (k : Nat) (hk : 70000 ≤ k) : bursarref15_Order.f k y = some (ordI y) := by
  have hle : (ordI y).length ≤ 40 := by rw [(ordI_perm y).length_eq]; unfold posI; rw [List.length_map]; exact Nat.le_trans (itemsTo_len y _) hy
  unfold bursarref15_Order.f bursarref15_open.f
  have h := open_l y hy y.length 0 k (by omega) (by omega)
  have h' : bursarref15_open.l0 k y [] 0 = some (posI y y.length) := h
  rw [h', Option.bind_some]
  refine l0_p hy hok (ordI y).length 0 (by omega) k ?_
  generalize (ordI y).length = n at hle
  have h1 : n * (n + 2) ≤ 40 * 42 := Nat.mul_le_mul hle (by omega)
  have h2 : n * (n * (n + 2) + 2) ≤ 40 * (40 * 42 + 2) := Nat.mul_le_mul hle (by omega)
  omega
theorem rdue_l {y : List S30} (hy : y.length ≤ 40) (t : Int) (o : List Int) (ho : o.length ≤ 40) (hall : ∀ a ∈ o, 0 ≤ a ∧ a < y.length) : ∀ (d i k : Nat), i + d = o.length → d < k →
    bursarref15_Due.l0 k y t o ((o.take i).filter fun j => decide ((rd_T30 y j).f5 < t)) (i : Int) = some (o.filter fun j => decide ((rd_T30 y j).f5 < t)) := by
  intro d
  induction d with
  | zero =>
    intro i k hi hk
    obtain ⟨k, rfl⟩ : ∃ q, k = q + 1 := ⟨k - 1, by omega⟩
    simp only [bursarref15_Due.l0]
    rw [if_neg (by omega), List.take_of_length_le (by omega)]
  | succ d ih =>
    intro i k hi hk
    obtain ⟨k, rfl⟩ : ∃ q, k = q + 1 := ⟨k - 1, by omega⟩
    have hil : i < o.length := by omega
    obtain ⟨ha0, ha1⟩ := hall _ (List.getElem_mem hil)
    have e : o.take (i + 1) = o.take i ++ [o[i]] := by rw [List.take_add_one, List.getElem?_eq_getElem hil]; rfl
    have h2 := ih (i + 1) k (by omega) (by omega)
    rw [e, List.filter_append] at h2
    have hfl : ((o.take i).filter fun j => decide ((rd_T30 y j).f5 < t)).length ≤ 40 := Nat.le_trans (List.length_filter_le _ _) (by rw [List.length_take]; omega)
    simp only [bursarref15_Due.l0]
    rw [if_pos (by omega), if_pos (by omega), rd_geti o i hil, if_pos ha0, if_pos ha1, Pu.wrap_small (by omega) (by omega)]
    by_cases hu : (rd_T30 y o[i]).f5 < t
    · have e2 : [o[i]].filter (fun j => decide ((rd_T30 y j).f5 < t)) = [o[i]] := by simp [hu]
      rw [e2] at h2
      rw [if_pos hu, if_pos (by omega)]
      exact h2
    · have e2 : [o[i]].filter (fun j => decide ((rd_T30 y j).f5 < t)) = [] := by simp [hu]
      rw [e2, List.append_nil] at h2
      rw [if_neg hu]
      exact h2
theorem rdue_p {y : List S30} (hy : y.length ≤ 40) (hok : ∀ h ∈ y, ok3 h) (t : Int) (k : Nat) (hk : 70000 ≤ k) : bursarref15_Due.f k y t = some (dueL y t) := by
  have hle : (ordI y).length ≤ 40 := by rw [(ordI_perm y).length_eq]; unfold posI; rw [List.length_map]; exact Nat.le_trans (itemsTo_len y _) hy
  have hall : ∀ a ∈ ordI y, 0 ≤ a ∧ a < y.length := fun a ha => by
    have ha := (ordI_perm y).mem_iff.mp ha
    unfold posI at ha
    obtain ⟨x, hx, rfl⟩ := List.mem_map.mp ha
    obtain ⟨i, hi, -, rfl⟩ := mem_items.mp hx
    show (0 : Int) ≤ (i : Int) ∧ (i : Int) < _
    omega
  unfold bursarref15_Due.f
  rw [order_p hy hok k hk, Option.bind_some]
  have h := rdue_l hy t (ordI y) hle hall (ordI y).length 0 k (by omega) (by omega)
  have h' : bursarref15_Due.l0 k y t (ordI y) [] 0 = _ := h
  rw [h']
  congr 1
  unfold dueL ordI
  rw [(split_srt t _ (ord_sorted y).1).1, List.filter_map]
  congr 1
  apply List.filter_congr
  intro x hx
  have := itI_item ((ord_sorted y).2.mem_iff.mp hx)
  show decide ((rd_T30 y x.f2).f5 < t) = pT t x
  unfold pT
  have h5 : (rd_T30 y x.f2).f5 = x.f0 := by
    have := congrArg S49.f0 this
    exact this
  rw [h5]
/-! The holds as they are wanted. -/
def wantA (y : List S30) (t : Int) (i : Nat) : List S30 := y.mapIdx fun j h => if j < i ∧ hopen h = true ∧ h.f5 < t then shut h else h
theorem wantA_len (y : List S30) (t : Int) (i : Nat) : (wantA y t i).length = y.length := by unfold wantA; rw [List.length_mapIdx]
theorem wantA_rd (y : List S30) (t : Int) (i : Nat) (hi : i < y.length) : rd_T30 (wantA y t i) (i : Int) = rd_T30 y (i : Int) := by
  unfold rd_T30 wantA
  rw [Int.toNat_natCast, List.getD_eq_getElem?_getD, List.getElem?_mapIdx, List.getD_eq_getElem?_getD, List.getElem?_eq_getElem hi]
  simp
theorem wantA_set (y : List S30) (t : Int) (i : Nat) (hi : i < y.length) : (wantA y t i).set i (if hopen (rd_T30 y (i : Int)) = true ∧ (rd_T30 y (i : Int)).f5 < t then shut (rd_T30 y (i : Int)) else rd_T30 y (i : Int)) = wantA y t (i + 1) := by
  apply List.ext_getElem?
  intro j
  rw [List.getElem?_set, wantA_len]
  unfold wantA
  rw [List.getElem?_mapIdx, List.getElem?_mapIdx]
  by_cases h : i = j
  · subst h
    rw [if_pos rfl, if_pos hi, List.getElem?_eq_getElem hi, rd_getT y i hi]
    simp
  · rw [if_neg h]
    have h2 : (j < i + 1) ↔ (j < i) := by omega
    simp only [h2]
theorem wantA_end (y : List S30) (t : Int) : wantA y t y.length = lapAt y (dueL y t) := by
  apply List.ext_getElem?
  intro j
  unfold wantA lapAt
  rw [List.getElem?_mapIdx, List.getElem?_mapIdx]
  cases hj : y[j]? with
  | none => rfl
  | some v =>
    obtain ⟨hjl, hv⟩ := List.getElem?_eq_some_iff.mp hj
    have hr : rd_T30 y (j : Int) = v := by rw [rd_getT y j hjl, hv]
    simp only [Option.map_some]
    congr 1
    by_cases hc : (j : Int) ∈ dueL y t
    · obtain ⟨i, hi, -, ho, hu⟩ := mem_due.mp hc
      obtain rfl : j = i := by omega
      rw [hr] at ho hu
      rw [if_pos ⟨hjl, ho, hu⟩, if_pos hc]
    · rw [if_neg hc, if_neg]
      rintro ⟨-, ho, hu⟩
      exact hc (mem_due.mpr ⟨j, rfl, hjl, by rw [hr]; exact ho, by rw [hr]; exact hu⟩)
theorem want_l {y : List S30} (hy : y.length ≤ 40) (t : Int) (x5 x6 : List S30) (x7 : List Int) : ∀ (d i k : Nat), i + d = y.length →
    bursarlaw15_ExpiryLapses.l0 (k + d) y t x5 x6 x7 (wantA y t i) (i : Int) = bursarlaw15_ExpiryLapses.l0 k y t x5 x6 x7 (wantA y t y.length) (y.length : Int) := by
  intro d
  induction d with
  | zero => intro i k hi; obtain rfl : i = y.length := by omega
            rfl
  | succ d ih =>
    intro i k hi
    have hil : i < y.length := by omega
    have hset := wantA_set y t i hil
    have h2 := ih (i + 1) k (by omega)
    rw [show k + (d + 1) = (k + d) + 1 by omega]
    conv => lhs; unfold bursarlaw15_ExpiryLapses.l0
    rw [wantA_len, if_pos (by omega), if_pos (by omega), wantA_rd y t i hil, Pu.wrap_small (by omega) (by omega), Int.toNat_natCast]
    have hself : (wantA y t i).set i (rd_T30 y (i : Int)) = wantA y t i := by
      have h := wantA_rd y t i hil
      have hl : i < (wantA y t i).length := by rw [wantA_len]; exact hil
      rw [rd_getT _ i hl] at h
      rw [← h]
      exact List.set_getElem_self hl
    generalize rd_T30 y (i : Int) = x at hset hself
    unfold bursarref14_Lapse.f bursarref14_May.f
    rw [Option.bind_some]
    have hx : (⟨x.f0, x.f1, x.f2, x.f3, x.f4, x.f5, x.f6⟩ : S30) = x := rfl
    unfold hopen at hset
    cases hm : Pu.hmay x.f0 x.f1 x.f2 x.f3 x.f4 x.f5 x.f6 with
    | false =>
      rw [hm, Bool.false_and, if_neg (by rintro ⟨h, -⟩; cases h)] at hset
      rw [if_neg (by decide)]
      rw [hself] at hset
      rw [hset]
      exact h2
    | true =>
      rw [hm, Bool.true_and] at hset
      rw [if_pos rfl, Option.bind_some, if_pos rfl]
      by_cases ho : x.f6 = true
      · rw [ho] at hset
        rw [if_pos ho]
        by_cases hu : t ≤ x.f5
        · rw [if_neg (by rintro ⟨-, h⟩; omega)] at hset
          rw [if_pos hu, Option.bind_some]
          simp only
          rw [hx, hset]
          exact h2
        · rw [if_pos ⟨rfl, by omega⟩] at hset
          rw [if_neg hu, Option.bind_some]
          unfold shut at hset
          rw [hset]
          exact h2
      · rw [if_neg (by rintro ⟨h, -⟩; exact ho h)] at hset
        rw [if_neg ho, Option.bind_some]
        simp only
        rw [hx, hset]
        exact h2
theorem lapses_pure (l0 : List S30) (a1 : Int) : bursarlaw15_ExpiryLapses.f 100000 l0 a1 = some true := by
  obtain ⟨y, hy, hl, hok⟩ := few3 l0 100000 (by omega)
  have hokL := okL_few hl (fun h hm => ⟨(hok h hm).1, (hok h hm).2.1⟩)
  have hd := due_len y a1
  unfold bursarlaw15_ExpiryLapses.f
  rw [hy, Option.bind_some, few_id y hl hok 100000 (by omega), Option.bind_some, lapse_p hokL a1 100000 (by omega), Option.bind_some, Option.bind_some]
  have h := want_l hl a1 y (lapAt y (dueL y a1)) (dueL y a1) y.length 0 (100000 - y.length) (by omega)
  rw [show 100000 - y.length + y.length = 100000 by omega] at h
  have e0 : wantA y a1 0 = y := by
    apply List.ext_getElem?
    intro j
    unfold wantA
    rw [List.getElem?_mapIdx]
    cases y[j]? with
    | none => rfl
    | some v => simp
  rw [e0] at h
  have h' : bursarlaw15_ExpiryLapses.l0 100000 y a1 y (lapAt y (dueL y a1)) (dueL y a1) y 0 = _ := h
  show bursarlaw15_ExpiryLapses.l0 100000 y a1 y (lapAt y (dueL y a1)) (dueL y a1) y 0 = some true
  rw [h', wantA_end]
  obtain ⟨k, hk⟩ : ∃ k, 100000 - y.length = k + 1 := ⟨99999 - y.length, by omega⟩
  rw [hk]
  conv => lhs; unfold bursarlaw15_ExpiryLapses.l0
  have hll := lapAt_len y (dueL y a1)
  rw [if_neg (by omega), sameH _ (by omega) k (by omega), Option.bind_some, if_pos rfl, rdue_p hl hok a1 k (by omega), Option.bind_some, same_p _ (by omega) k (by omega), Option.bind_some, if_pos rfl, sameH y hl k (by omega), Option.bind_some, if_pos rfl, awake_p k (by omega)]
  rfl
end Go.Proofs.Ytaifcadnnmicnaa.XE
