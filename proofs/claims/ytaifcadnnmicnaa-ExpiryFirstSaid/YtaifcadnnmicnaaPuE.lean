/- Plain Lean: what Due, First, Next and Lapse answer, of any holds. -/
import Derived.Test.YtaifcadnnmicnaaXE3
import Derived.Test.YtaifcadnnmicnaaXE4
import Derived.Test.YtaifcadnnmicnaaXE20
namespace Go.Proofs.Ytaifcadnnmicnaa.XE
open Go.RowKit Go.Proofs.YtaifcadnnmicnaaW.PrintWords
set_option linter.unusedVariables false
set_option linter.unusedSimpArgs false
theorem same_l (a : List Int) (hl : a.length ≤ 1000000) : ∀ (d i k : Nat), i + d = a.length → d < k → bursarref15_Same.l0 k a a (i : Int) = some true := by
  intro d
  induction d with
  | zero =>
    intro i k hi hk
    obtain ⟨k, rfl⟩ : ∃ m, k = m + 1 := ⟨k - 1, by omega⟩
    simp only [bursarref15_Same.l0]
    rw [if_neg (by omega)]
  | succ d ih =>
    intro i k hi hk
    obtain ⟨k, rfl⟩ : ∃ m, k = m + 1 := ⟨k - 1, by omega⟩
    simp only [bursarref15_Same.l0]
    rw [if_pos (by omega), if_pos (by omega), if_pos (by omega), if_true, Pu.wrap_small (by omega) (by omega)]
    exact ih (i + 1) k (by omega) (by omega)
theorem same_p (a : List Int) (hl : a.length ≤ 1000000) (k : Nat) (hk : a.length < k) : bursarref15_Same.f k a a = some true := by
  unfold bursarref15_Same.f
  rw [if_pos rfl]
  exact same_l a hl a.length 0 k (by omega) hk
def ok30 (h : S30) : Prop := h.f0.size ≤ 30 ∧ h.f1.size ≤ 30
theorem text_p (s : ByteArray) : ∃ t, bursarlaw14_text.f s = some t ∧ t.size ≤ 30 := by
  unfold bursarlaw14_text.f
  by_cases h : (s.size : Int) > 30
  · rw [if_pos h, if_pos (by omega)]
    exact ⟨_, rfl, by rw [ByteArray.size_extract]; omega⟩
  · rw [if_neg h]
    exact ⟨_, rfl, by omega⟩
theorem few1_p (a b c : ByteArray) (d e f : Int) (g : Bool) : ∃ t, bursarlaw14_Few.f a b c d e f g = some t ∧ t.1.size ≤ 30 ∧ t.2.1.size ≤ 30 := by
  obtain ⟨t1, h1, s1⟩ := text_p a
  obtain ⟨t2, h2, s2⟩ := text_p b
  obtain ⟨t3, h3, s3⟩ := text_p c
  unfold bursarlaw14_Few.f
  rw [h1, h2, h3]
  exact ⟨_, rfl, s1, s2⟩
theorem few_l (x : List S30) (hx : x.length ≤ 40) : ∀ (d i k : Nat) (acc : List S30), i + d = x.length → acc.length = i → d < k → (∀ h ∈ acc, ok30 h) → ∃ y, bursarlaw15_few.l0 k x acc (i : Int) = some y ∧ y.length ≤ 40 ∧ ∀ h ∈ y, ok30 h := by
  intro d
  induction d with
  | zero =>
    intro i k acc hi ha hk hok
    obtain ⟨k, rfl⟩ : ∃ m, k = m + 1 := ⟨k - 1, by omega⟩
    simp only [bursarlaw15_few.l0]
    rw [if_neg (by omega)]
    exact ⟨acc, rfl, by omega, hok⟩
  | succ d ih =>
    intro i k acc hi ha hk hok
    obtain ⟨k, rfl⟩ : ∃ m, k = m + 1 := ⟨k - 1, by omega⟩
    simp only [bursarlaw15_few.l0]
    obtain ⟨t, ht, s1, s2⟩ := few1_p (rd_T30 x (i : Int)).f0 (rd_T30 x (i : Int)).f1 (rd_T30 x (i : Int)).f2 (rd_T30 x (i : Int)).f3 (rd_T30 x (i : Int)).f4 (rd_T30 x (i : Int)).f5 (rd_T30 x (i : Int)).f6
    rw [if_pos (by omega), if_pos (by omega), ht, Option.bind_some, if_pos (by omega), Pu.wrap_small (by omega) (by omega)]
    exact ih (i + 1) k _ (by omega) (by rw [List.length_append, ha]; rfl) (by omega) (fun h hm => by
      rcases List.mem_append.mp hm with h1 | h1
      · exact hok h h1
      · rw [List.mem_singleton] at h1
        subst h1
        exact ⟨s1, s2⟩)
theorem few_p (l : List S30) (k : Nat) (hk : 50 ≤ k) : ∃ y, bursarlaw15_few.f k l = some y ∧ y.length ≤ 40 ∧ ∀ h ∈ y, ok30 h := by
  obtain ⟨k, rfl⟩ : ∃ m, k = m + 1 := ⟨k - 1, by omega⟩
  unfold bursarlaw15_few.f
  by_cases h : (l.length : Int) > 40
  · rw [if_pos h, if_pos (by omega)]
    simp only [bursarlaw15_few.j0]
    exact few_l (l.take 40) (by rw [List.length_take]; omega) (l.take 40).length 0 k [] (by omega) rfl (by rw [List.length_take]; omega) (fun _ h => by simp at h)
  · rw [if_neg h]
    simp only [bursarlaw15_few.j0]
    exact few_l l (by omega) l.length 0 k [] (by omega) rfl (by omega) (fun _ h => by simp at h)
theorem okL_few {y : List S30} (hl : y.length ≤ 40) (h : ∀ h ∈ y, ok30 h) : okL y = true := by
  unfold okL okH
  rw [Bool.and_eq_true]
  refine ⟨decide_eq_true (by omega), List.all_eq_true.mpr fun x hx => ?_⟩
  obtain ⟨h1, h2⟩ := h x hx
  rw [Bool.and_eq_true]
  exact ⟨decide_eq_true (by omega), decide_eq_true (by omega)⟩
/-! The order. -/
theorem ordT : Hp.Ord ltS := ⟨fun a b => Ex.ord.asym (a.f0, a.f1, a.f2) (b.f0, b.f1, b.f2), fun a b c => Ex.ord.tr (a.f0, a.f1, a.f2) (b.f0, b.f1, b.f2) (c.f0, c.f1, c.f2)⟩
theorem antiT (a b : S49) (h1 : ltS a b = false) (h2 : ltS b a = false) : a = b := by
  have h := Ex.anti (a.f0, a.f1, a.f2) (b.f0, b.f1, b.f2) h1 h2
  obtain ⟨a0, a1, a2⟩ := a
  obtain ⟨b0, b1, b2⟩ := b
  simp only [Prod.mk.injEq] at h
  obtain ⟨rfl, rfl, rfl⟩ := h
  rfl
def Srt (s : List S49) : Prop := s.Pairwise fun a b => Hp.le ltS a b = true
theorem ord_sorted (l : List S30) : Srt (ordS l) ∧ (ordS l).Perm (itemsTo l l.length) := by
  obtain ⟨h1, h2⟩ := Hp.build_heap ordT (itemsTo l l.length)
  have hl := build_len (itemsTo l l.length)
  exact ⟨Hp.drain_sorted ordT _ _ (by rw [hl]; exact Nat.le_refl _) h1, (Hp.drain_perm _ _ (by rw [hl]; exact Nat.le_refl _)).trans h2⟩
theorem srt_unique {a b : List S49} (ha : Srt a) (hb : Srt b) (hp : a.Perm b) : a = b :=
  List.Perm.eq_of_pairwise (le := fun a b => Hp.le ltS a b = true) (fun a b _ _ h1 h2 => antiT a b (by simpa [Hp.le] using h2) (by simpa [Hp.le] using h1)) ha hb hp
theorem le_f0 {a b : S49} (h : Hp.le ltS a b = true) : a.f0 ≤ b.f0 := by
  unfold Hp.le at h
  rw [Bool.not_eq_true'] at h
  have h2 : ¬ ltS b a = true := by rw [h]; exact Bool.false_ne_true
  unfold ltS at h2
  rw [Ex.ltI_iff] at h2
  rcases Int.lt_or_le b.f0 a.f0 with h3 | h3
  · exact absurd (.inl h3) h2
  · exact h3
def pT (t : Int) (x : S49) : Bool := decide (t > x.f0)
theorem pT_true {t : Int} {x : S49} : pT t x = true ↔ x.f0 < t := by unfold pT; rw [decide_eq_true_iff]
theorem pT_false {t : Int} {x : S49} : pT t x = false ↔ t ≤ x.f0 := by unfold pT; rw [decide_eq_false_iff_not]; omega
theorem take_due (t : Int) : ∀ s : List S49, Hp.takeS (dueQ t) () s = s.takeWhile (pT t)
  | [] => rfl
  | x :: s => by
    rw [Hp.takeS, List.takeWhile_cons, take_due t s]
    show (if decide (t > x.f0) = true then _ else _) = if decide (t > x.f0) = true then _ else _
    rfl
theorem split_srt (t : Int) : ∀ s : List S49, Srt s → s.takeWhile (pT t) = s.filter (pT t) ∧ s.dropWhile (pT t) = s.filter fun x => !pT t x
  | [], _ => ⟨rfl, rfl⟩
  | x :: s, h => by
    have h2 := List.pairwise_cons.mp h
    obtain ⟨i1, i2⟩ := split_srt t s h2.2
    cases hx : pT t x with
    | true => simp only [List.takeWhile_cons, List.dropWhile_cons, List.filter_cons, hx, i1, i2]; simp
    | false =>
      have hall : ∀ y ∈ s, pT t y = false := fun y hy => by
        have := le_f0 (h2.1 y hy)
        rw [pT_false] at hx ⊢
        omega
      have f1 : s.filter (pT t) = [] := List.filter_eq_nil_iff.mpr fun y hy => by rw [hall y hy]; exact Bool.false_ne_true
      have f2 : (s.filter fun x => !pT t x) = s := List.filter_eq_self.mpr fun y hy => by rw [hall y hy]; rfl
      simp only [List.takeWhile_cons, List.dropWhile_cons, List.filter_cons, hx, f1, f2]
      simp
def dueL (y : List S30) (t : Int) : List Int := ((ordS y).takeWhile (pT t)).map (·.f2)
theorem due_p {y : List S30} (h : okL y = true) (t : Int) : expiry_Due.f y t = some (dueL y t) := by
  unfold expiry_Due.f dueL
  rw [if_pos h, take_due]
theorem mem_items {y : List S30} {n : Nat} {x : S49} : x ∈ itemsTo y n ↔ ∃ i, i < n ∧ hopen (rd_T30 y (i : Int)) = true ∧ x = hitem (rd_T30 y (i : Int)) i := by
  unfold itemsTo
  rw [List.mem_map]
  constructor
  · rintro ⟨i, hi, rfl⟩
    rw [List.mem_filter, List.mem_range] at hi
    exact ⟨i, hi.1, hi.2, rfl⟩
  · rintro ⟨i, h1, h2, rfl⟩
    exact ⟨i, by rw [List.mem_filter, List.mem_range]; exact ⟨h1, h2⟩, rfl⟩
theorem hopen_may {h : S30} (ho : hopen h = true) : Pu.hmay h.f0 h.f1 h.f2 h.f3 h.f4 h.f5 h.f6 = true ∧ h.f6 = true ∧ 0 ≤ h.f5 ∧ h.f5 ≤ 2147483647 := by
  unfold hopen at ho
  rw [Bool.and_eq_true] at ho
  have := Pu.hmay_iff.mp ho.1
  exact ⟨ho.1, ho.2, this.2.2.2.1, this.2.2.2.2.1⟩
theorem mem_ord {y : List S30} {x : S49} (hx : x ∈ ordS y) : ∃ i, i < y.length ∧ hopen (rd_T30 y (i : Int)) = true ∧ x = hitem (rd_T30 y (i : Int)) i := mem_items.mp ((ord_sorted y).2.mem_iff.mp hx)
theorem mem_due {y : List S30} {t : Int} {j : Int} : j ∈ dueL y t ↔ ∃ i : Nat, j = i ∧ i < y.length ∧ hopen (rd_T30 y (i : Int)) = true ∧ (rd_T30 y (i : Int)).f5 < t := by
  unfold dueL
  rw [(split_srt t _ (ord_sorted y).1).1, List.mem_map]
  constructor
  · rintro ⟨x, hx, rfl⟩
    rw [List.mem_filter, pT_true] at hx
    obtain ⟨i, h1, h2, rfl⟩ := mem_ord hx.1
    exact ⟨i, rfl, h1, h2, hx.2⟩
  · rintro ⟨i, rfl, h1, h2, h3⟩
    refine ⟨hitem (rd_T30 y (i : Int)) i, ?_, rfl⟩
    rw [List.mem_filter, pT_true]
    exact ⟨(ord_sorted y).2.mem_iff.mpr (mem_items.mpr ⟨i, h1, h2, rfl⟩), h3⟩
theorem items_nodup (y : List S30) (n : Nat) : ((itemsTo y n).map (·.f2)).Nodup := by
  unfold itemsTo
  rw [List.map_map]
  have h : (List.range n).Nodup := List.nodup_range
  refine List.Pairwise.map _ (fun a b hab => ?_) (h.filter _)
  intro e
  exact hab (by have h : (a : Int) = (b : Int) := e; omega)
theorem due_nodup (y : List S30) (t : Int) : (dueL y t).Nodup := by
  have h1 : ((ordS y).map (·.f2)).Nodup := (((ord_sorted y).2.map (·.f2)).nodup_iff).mpr (items_nodup y _)
  exact List.Pairwise.sublist ((List.takeWhile_sublist _).map _) h1
theorem due_len (y : List S30) (t : Int) : (dueL y t).length ≤ y.length := by
  unfold dueL
  rw [List.length_map]
  refine Nat.le_trans (List.takeWhile_sublist _).length_le ?_
  rw [(ord_sorted y).2.length_eq]
  exact itemsTo_len y _
/-! What lapses. -/
def shut (h : S30) : S30 := ⟨h.f0, h.f1, h.f2, h.f3, h.f4, h.f5, false⟩
def lapAt (y : List S30) (P : List Int) : List S30 := y.mapIdx fun j h => if (j : Int) ∈ P then shut h else h
theorem lapAt_len (y : List S30) (P : List Int) : (lapAt y P).length = y.length := by unfold lapAt; rw [List.length_mapIdx]
theorem lapAt_rd (y : List S30) (P : List Int) (j : Nat) (hj : j < y.length) : rd_T30 (lapAt y P) (j : Int) = if (j : Int) ∈ P then shut (rd_T30 y (j : Int)) else rd_T30 y (j : Int) := by
  unfold rd_T30 lapAt
  rw [Int.toNat_natCast, List.getD_eq_getElem?_getD, List.getElem?_mapIdx, List.getD_eq_getElem?_getD, List.getElem?_eq_getElem hj]
  rfl
theorem lapAt_set (y : List S30) (P : List Int) (j : Nat) (hj : j < y.length) : (lapAt y P).set j (shut (rd_T30 y (j : Int))) = lapAt y (P ++ [(j : Int)]) := by
  apply List.ext_getElem?
  intro i
  rw [List.getElem?_set, lapAt_len]
  unfold lapAt
  rw [List.getElem?_mapIdx, List.getElem?_mapIdx]
  by_cases h : j = i
  · subst h
    rw [if_pos rfl, if_pos hj, List.getElem?_eq_getElem hj]
    unfold rd_T30
    rw [Int.toNat_natCast, List.getD_eq_getElem?_getD, List.getElem?_eq_getElem hj]
    simp
  · rw [if_neg h]
    have h2 : ¬ (i : Int) = (j : Int) := by omega
    cases y[i]? with
    | none => rfl
    | some v => simp [h2]
theorem lapse_l (y : List S30) (t : Int) (hok : okL y = true) : ∀ (d i k : Nat), i + d = (dueL y t).length → d < k →
    expiry_Lapse.l0 k t (lapAt y ((dueL y t).take i)) (dueL y t) (dueL y t) ((dueL y t).length : Int) (i : Int) = some (lapAt y (dueL y t), dueL y t) := by
  obtain ⟨hl9, hok⟩ := okL_len hok
  have hdl := due_len y t
  intro d
  induction d with
  | zero =>
    intro i k hi hk
    obtain ⟨k, rfl⟩ : ∃ m, k = m + 1 := ⟨k - 1, by omega⟩
    simp only [expiry_Lapse.l0]
    rw [if_neg (by omega), List.take_of_length_le (by omega)]
  | succ d ih =>
    intro i k hi hk
    obtain ⟨k, rfl⟩ : ∃ m, k = m + 1 := ⟨k - 1, by omega⟩
    simp only [expiry_Lapse.l0]
    have hil : i < (dueL y t).length := by omega
    have hrd : rd (dueL y t) (i : Int) = (dueL y t)[i] := by
      unfold rd; rw [Int.toNat_natCast, List.getD_eq_getElem?_getD, List.getElem?_eq_getElem hil]; rfl
    obtain ⟨j, hj, hjl, ho, hu⟩ := mem_due.mp (List.getElem_mem hil)
    have hnp : ¬ (j : Int) ∈ (dueL y t).take i := fun hm => by
      obtain ⟨m, hm1, hm2⟩ := List.mem_iff_getElem.mp hm
      rw [List.length_take] at hm1
      rw [List.getElem_take, ← hj] at hm2
      have := (List.getElem_inj (due_nodup y t)).mp hm2
      omega
    rw [if_pos (by omega), if_pos (by omega), if_pos (by omega), hrd, hj, if_pos (by omega), lapAt_len, if_pos (by omega), lapAt_rd y _ j hjl, if_neg hnp]
    have hm := hopen_may ho
    have hsz : (rd_T30 y (j : Int)).f0.size ≤ 4096 := by
      have := List.all_eq_true.mp hok (rd_T30 y (j : Int)) (by
        unfold rd_T30
        rw [Int.toNat_natCast, List.getD_eq_getElem?_getD, List.getElem?_eq_getElem hjl]
        exact List.getElem_mem hjl)
      unfold okH at this
      rw [Bool.and_eq_true] at this
      exact of_decide_eq_true this.1
    unfold hold_Lapse.f hold_May.f
    rw [if_pos hsz, hm.1, Option.bind_some, if_pos rfl, hm.2.1, if_pos rfl, Option.bind_some, decide_eq_true (show t > (rd_T30 y (j : Int)).f5 from hu)]
    have hset := lapAt_set y ((dueL y t).take i) j hjl
    unfold shut at hset
    have hz : (!true) = false := rfl
    rw [hz, Int.toNat_natCast, hset, Pu.wrap_small (by omega) (by omega)]
    have htk : (dueL y t).take i ++ [(j : Int)] = (dueL y t).take (i + 1) := by
      rw [List.take_add_one, List.getElem?_eq_getElem hil, hj]; rfl
    rw [htk]
    exact ih (i + 1) k (by omega) (by omega)
theorem lapse_p {y : List S30} (hok : okL y = true) (t : Int) (k : Nat) (hk : y.length < k) : expiry_Lapse.f k y t = some (lapAt y (dueL y t), dueL y t) := by
  have hl := (okL_len hok).1
  have hd := due_len y t
  unfold expiry_Lapse.f api_Hold.f
  rw [if_pos (by omega), Option.bind_some, due_p hok, Option.bind_some]
  have h := lapse_l y t hok (dueL y t).length 0 k (by omega) (by omega)
  have h0 : lapAt y ((dueL y t).take 0) = y := by
    unfold lapAt
    rw [List.take_zero]
    apply List.ext_getElem?
    intro i
    rw [List.getElem?_mapIdx]
    cases y[i]? with
    | none => rfl
    | some v => simp
  rw [h0] at h
  exact h
theorem lap_ok {y : List S30} (hok : okL y = true) (P : List Int) : okL (lapAt y P) = true := by
  obtain ⟨h1, h2⟩ := okL_len hok
  unfold okL
  rw [Bool.and_eq_true, lapAt_len]
  refine ⟨decide_eq_true h1, List.all_eq_true.mpr fun x hx => ?_⟩
  unfold lapAt at hx
  obtain ⟨i, hi, rfl⟩ := List.mem_iff_getElem.mp hx
  have hi' : i < y.length := by rw [List.length_mapIdx] at hi; exact hi
  have := List.all_eq_true.mp h2 _ (List.getElem_mem hi')
  rw [List.getElem_mapIdx]
  split
  · exact this
  · exact this
theorem lap_items {y : List S30} {t : Int} : ∀ n, n ≤ y.length → itemsTo (lapAt y (dueL y t)) n = (itemsTo y n).filter fun x => !pT t x
  | 0, _ => rfl
  | n + 1, h => by
    rw [itemsTo_succ, itemsTo_succ, List.filter_append, lap_items n (by omega), lapAt_rd y _ n (by omega)]
    congr 1
    by_cases hd : (n : Int) ∈ dueL y t
    · obtain ⟨i, hi, -, ho, hu⟩ := mem_due.mp hd
      obtain rfl : n = i := by omega
      rw [if_pos hd, if_pos ho, if_neg (by unfold hopen shut; simp), List.filter_cons_of_neg, List.filter_nil]
      have : pT t (hitem (rd_T30 y (n : Int)) n) = true := pT_true.mpr hu
      rw [this]; decide
    · rw [if_neg hd]
      by_cases ho : hopen (rd_T30 y (n : Int)) = true
      · have hu : ¬ (rd_T30 y (n : Int)).f5 < t := fun hu => hd (mem_due.mpr ⟨n, rfl, by omega, ho, hu⟩)
        have : pT t (hitem (rd_T30 y (n : Int)) n) = false := pT_false.mpr (by show t ≤ (rd_T30 y (n : Int)).f5; omega)
        rw [if_pos ho, List.filter_cons_of_pos (by rw [this]; rfl), List.filter_nil]
      · rw [if_neg ho, List.filter_nil]
theorem lap_ord (y : List S30) (t : Int) : ordS (lapAt y (dueL y t)) = (ordS y).dropWhile (pT t) := by
  obtain ⟨s1, p1⟩ := ord_sorted y
  obtain ⟨s2, p2⟩ := ord_sorted (lapAt y (dueL y t))
  refine srt_unique s2 (List.Pairwise.sublist (List.dropWhile_sublist _) s1) ?_
  rw [(split_srt t _ s1).2]
  rw [lapAt_len, lap_items _ (Nat.le_refl _)] at p2
  exact p2.trans (p1.filter _).symm
end Go.Proofs.Ytaifcadnnmicnaa.XE
