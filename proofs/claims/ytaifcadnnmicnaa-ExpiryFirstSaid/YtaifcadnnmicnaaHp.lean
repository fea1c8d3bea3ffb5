/- A heap in a list, as container/heap keeps it: what Push and Pop do to it, and that what is taken out of it one by one is what was put in, sorted. Plain; no program in sight. -/
import Derived.Test.YtaifcadnnmicnaaPu
namespace Go.Proofs.Ytaifcadnnmicnaa.Hp
set_option linter.unusedVariables false
set_option linter.unusedSimpArgs false
set_option linter.unusedSectionVars false
section
variable {α : Type} [Inhabited α]
abbrev g (xs : List α) (i : Nat) : α := xs.getD i default
def sw (xs : List α) (i j : Nat) : List α := (xs.set i (g xs j)).set j (g xs i)
theorem g_eq {xs : List α} {i : Nat} (h : i < xs.length) : g xs i = xs[i] := by
  unfold g
  rw [List.getD_eq_getElem?_getD, List.getElem?_eq_getElem h]
  rfl
theorem sw_length (xs : List α) (i j : Nat) : (sw xs i j).length = xs.length := by simp [sw]
theorem sw_perm {xs : List α} {i j : Nat} (hi : i < xs.length) (hj : j < xs.length) : (sw xs i j).Perm xs := by
  unfold sw
  rw [g_eq hi, g_eq hj]
  exact List.set_set_perm hi hj
theorem g_set {xs : List α} {i : Nat} (hi : i < xs.length) (v : α) (k : Nat) : g (xs.set i v) k = if k = i then v else g xs k := by
  unfold g
  rw [List.getD_eq_getElem?_getD, List.getD_eq_getElem?_getD, List.getElem?_set]
  by_cases h : k = i
  · subst h; simp [hi]
  · rw [if_neg (fun e => h e.symm), if_neg h]
theorem g_sw {xs : List α} {i j : Nat} (hi : i < xs.length) (hj : j < xs.length) (k : Nat) : g (sw xs i j) k = if k = j then g xs i else if k = i then g xs j else g xs k := by
  unfold sw
  rw [g_set (by simpa using hj), g_set hi]
/-- An order: 'lt' may be asked; what is not ahead is behind. -/
structure Ord (lt : α → α → Bool) : Prop where
  asym : ∀ a b, lt a b = true → lt b a = false
  tr : ∀ a b c, lt b a = false → lt c b = false → lt c a = false
variable {lt : α → α → Bool}
theorem Ord.irr (O : Ord lt) (a : α) : lt a a = false := by
  cases h : lt a a with
  | false => rfl
  | true => exact (O.asym a a h).symm.trans h |>.symm
def H (lt : α → α → Bool) (xs : List α) (n : Nat) : Prop := ∀ i, 0 < i → i < n → lt (g xs i) (g xs ((i - 1) / 2)) = false
def up (lt : α → α → Bool) : Nat → List α → Nat → List α
  | 0, xs, _ => xs
  | f + 1, xs, j => if j = 0 ∨ lt (g xs j) (g xs ((j - 1) / 2)) = false then xs else up lt f (sw xs ((j - 1) / 2) j) ((j - 1) / 2)
def pick (lt : α → α → Bool) (xs : List α) (i n : Nat) : Nat := if 2 * i + 2 < n ∧ lt (g xs (2 * i + 2)) (g xs (2 * i + 1)) = true then 2 * i + 2 else 2 * i + 1
def down (lt : α → α → Bool) : Nat → List α → Nat → Nat → List α
  | 0, xs, _, _ => xs
  | f + 1, xs, i, n => if n ≤ 2 * i + 1 then xs else if lt (g xs (pick lt xs i n)) (g xs i) = false then xs else down lt f (sw xs i (pick lt xs i n)) (pick lt xs i n) n
def UpI (lt : α → α → Bool) (xs : List α) (j n : Nat) : Prop :=
  (∀ i, 0 < i → i < n → i ≠ j → lt (g xs i) (g xs ((i - 1) / 2)) = false) ∧ (0 < j → ∀ c, 0 < c → c < n → (c - 1) / 2 = j → lt (g xs c) (g xs ((j - 1) / 2)) = false)
theorem up_length (lt : α → α → Bool) : ∀ (f : Nat) (xs : List α) (j : Nat), (up lt f xs j).length = xs.length
  | 0, _, _ => rfl
  | f + 1, xs, j => by
    unfold up
    split
    · rfl
    · rw [up_length lt f, sw_length]
theorem up_perm (lt : α → α → Bool) : ∀ (f : Nat) (xs : List α) (j : Nat), j < xs.length → (up lt f xs j).Perm xs
  | 0, xs, _, _ => List.Perm.refl xs
  | f + 1, xs, j, h => by
    unfold up
    split
    · exact List.Perm.refl xs
    · exact (up_perm lt f _ _ (by rw [sw_length]; omega)).trans (sw_perm (by omega) h)
theorem up_heap (O : Ord lt) : ∀ (f : Nat) (xs : List α) (j : Nat), j < xs.length → j < f → UpI lt xs j xs.length → H lt (up lt f xs j) xs.length
  | 0, _, _, _, h, _ => absurd h (Nat.not_lt_zero _)
  | f + 1, xs, j, hj, hf, hI => by
    unfold up
    split
    · rename_i h
      intro i h0 hi
      by_cases e : i = j
      · subst e
        rcases h with h | h
        · omega
        · exact h
      · exact hI.1 i h0 hi e
    · rename_i h
      have hj0 : 0 < j := by omega
      have hlt : lt (g xs j) (g xs ((j - 1) / 2)) = true := by
        cases hc : lt (g xs j) (g xs ((j - 1) / 2)) with
        | true => rfl
        | false => exact absurd (.inr hc) h
      have hp : (j - 1) / 2 < j := by omega
      have hpl : (j - 1) / 2 < xs.length := by omega
      have hle := O.asym _ _ hlt
      have G := g_sw hpl hj
      have key : UpI lt (sw xs ((j - 1) / 2) j) ((j - 1) / 2) xs.length := by
        refine ⟨fun i h0 hi hne => ?_, fun hp0 c h0 hc hcp => ?_⟩
        · rw [G i, G ((i - 1) / 2)]
          by_cases e : i = j
          · subst e
            rw [if_pos rfl, if_neg (by omega), if_pos rfl]
            exact hle
          · rw [if_neg e, if_neg hne]
            by_cases e2 : (i - 1) / 2 = j
            · rw [if_pos e2]
              exact hI.2 hj0 i h0 hi e2
            · rw [if_neg e2]
              by_cases e3 : (i - 1) / 2 = (j - 1) / 2
              · rw [if_pos e3]
                have h1 := hI.1 i h0 hi e
                rw [e3] at h1
                exact O.tr _ _ _ hle h1
              · rw [if_neg e3]
                exact hI.1 i h0 hi e
        · rw [G c, G (((j - 1) / 2 - 1) / 2)]
          rw [if_neg (show ¬ ((j - 1) / 2 - 1) / 2 = j by omega), if_neg (show ¬ ((j - 1) / 2 - 1) / 2 = (j - 1) / 2 by omega)]
          have h1 := hI.1 ((j - 1) / 2) hp0 hpl (by omega)
          by_cases e : c = j
          · rw [if_pos e]; exact h1
          · rw [if_neg e, if_neg (show ¬ c = (j - 1) / 2 by omega)]
            have h2 := hI.1 c h0 hc e
            rw [hcp] at h2
            exact O.tr _ _ _ h1 h2
      have := up_heap O f (sw xs ((j - 1) / 2) j) ((j - 1) / 2) (by rw [sw_length]; omega) (by omega) (by rw [sw_length]; exact key)
      rw [sw_length] at this
      exact this
def DnI (lt : α → α → Bool) (xs : List α) (i n : Nat) : Prop :=
  (∀ k, 0 < k → k < n → (k - 1) / 2 ≠ i → lt (g xs k) (g xs ((k - 1) / 2)) = false) ∧ (0 < i → ∀ c, 0 < c → c < n → (c - 1) / 2 = i → lt (g xs c) (g xs ((i - 1) / 2)) = false)
theorem pick_cases (xs : List α) (i n : Nat) (h : ¬ n ≤ 2 * i + 1) : (pick lt xs i n = 2 * i + 1 ∨ pick lt xs i n = 2 * i + 2) ∧ pick lt xs i n < n := by
  unfold pick
  split
  · rename_i h1; exact ⟨.inr rfl, h1.1⟩
  · exact ⟨.inl rfl, by omega⟩
theorem pick_least (O : Ord lt) (xs : List α) (i n c : Nat) (h : ¬ n ≤ 2 * i + 1) (h0 : 0 < c) (hc : c < n) (hp : (c - 1) / 2 = i) : lt (g xs c) (g xs (pick lt xs i n)) = false := by
  unfold pick
  have : c = 2 * i + 1 ∨ c = 2 * i + 2 := by omega
  split
  · rename_i h1
    rcases this with rfl | rfl
    · exact O.asym _ _ h1.2
    · exact O.irr _
  · rename_i h1
    rcases this with rfl | rfl
    · exact O.irr _
    · cases hx : lt (g xs (2 * i + 2)) (g xs (2 * i + 1)) with
      | false => rfl
      | true => exact absurd ⟨hc, hx⟩ h1
theorem down_length (lt : α → α → Bool) : ∀ (f : Nat) (xs : List α) (i n : Nat), (down lt f xs i n).length = xs.length
  | 0, _, _, _ => rfl
  | f + 1, xs, i, n => by
    unfold down
    split
    · rfl
    · split
      · rfl
      · rw [down_length lt f, sw_length]
theorem down_keep (lt : α → α → Bool) : ∀ (f : Nat) (xs : List α) (i n : Nat), n ≤ xs.length → ∀ k, n ≤ k → g (down lt f xs i n) k = g xs k
  | 0, _, _, _, _, _, _ => rfl
  | f + 1, xs, i, n, hn, k, hk => by
    unfold down
    split
    · rfl
    · rename_i h
      split
      · rfl
      · obtain ⟨h1, h2⟩ := pick_cases (lt := lt) xs i n h
        rw [down_keep lt f _ _ _ (by rw [sw_length]; exact hn) k hk, g_sw (by omega) (by omega), if_neg (by omega), if_neg (by omega)]
theorem down_perm (lt : α → α → Bool) : ∀ (f : Nat) (xs : List α) (i n : Nat), n ≤ xs.length → (down lt f xs i n).Perm xs
  | 0, xs, _, _, _ => List.Perm.refl xs
  | f + 1, xs, i, n, hn => by
    unfold down
    split
    · exact List.Perm.refl xs
    · rename_i h
      split
      · exact List.Perm.refl xs
      · obtain ⟨h1, h2⟩ := pick_cases (lt := lt) xs i n h
        exact (down_perm lt f _ _ _ (by rw [sw_length]; exact hn)).trans (sw_perm (by omega) (by omega))
theorem down_heap (O : Ord lt) : ∀ (f : Nat) (xs : List α) (i n : Nat), n ≤ xs.length → n ≤ i + f → DnI lt xs i n → H lt (down lt f xs i n) n
  | 0, xs, i, n, hn, hf, hI => by
    intro k h0 hk
    exact hI.1 k h0 hk (by omega)
  | f + 1, xs, i, n, hn, hf, hI => by
    unfold down
    split
    · rename_i h
      intro k h0 hk
      exact hI.1 k h0 hk (by omega)
    · rename_i h
      obtain ⟨h1, h2⟩ := pick_cases (lt := lt) xs i n h
      have hl := pick_least O xs i n
      generalize pick lt xs i n = j at h1 h2 hl ⊢
      split
      · rename_i h3
        intro k h0 hk
        by_cases e : (k - 1) / 2 = i
        · have := hl k h h0 hk e
          rw [e]
          exact O.tr _ _ _ h3 this
        · exact hI.1 k h0 hk e
      · rename_i h3
        have hlt : lt (g xs j) (g xs i) = true := by
          cases hc : lt (g xs j) (g xs i) with
          | true => rfl
          | false => exact absurd hc h3
        have hle := O.asym _ _ hlt
        have hpj : (j - 1) / 2 = i := by omega
        have G := g_sw (xs := xs) (i := i) (j := j) (by omega) (by omega)
        have key : DnI lt (sw xs i j) j n := by
          refine ⟨fun k h0 hk hne => ?_, fun hp0 c h0 hc hcp => ?_⟩
          · rw [G k, G ((k - 1) / 2), if_neg hne]
            by_cases e : k = j
            · subst e
              rw [if_pos rfl, if_pos hpj]
              exact hle
            · rw [if_neg e]
              by_cases e2 : k = i
              · subst e2
                rw [if_pos rfl, if_neg (by omega)]
                exact hI.2 h0 j (by omega) h2 hpj
              · rw [if_neg e2]
                by_cases e3 : (k - 1) / 2 = i
                · rw [if_pos e3]
                  exact hl k h h0 hk e3
                · rw [if_neg e3]
                  exact hI.1 k h0 hk e3
          · rw [hpj, G c, G i, if_neg (show ¬ c = j by omega), if_neg (show ¬ c = i by omega), if_neg (show ¬ i = j by omega), if_pos rfl]
            have := hI.1 c h0 hc (by omega)
            rw [hcp] at this
            exact this
        exact down_heap O f (sw xs i j) j n (by rw [sw_length]; exact hn) (by omega) key
theorem H_min (O : Ord lt) {xs : List α} {n : Nat} (h : H lt xs n) : ∀ i, i < n → lt (g xs i) (g xs 0) = false := by
  intro i
  induction i using Nat.strongRecOn with
  | _ i ih =>
    intro hi
    by_cases e : i = 0
    · subst e; exact O.irr _
    · exact O.tr _ _ _ (ih ((i - 1) / 2) (by omega) (by omega)) (h i (by omega) hi)
/-- What Push makes of a heap. -/
def push (lt : α → α → Bool) (xs : List α) (x : α) : List α := up lt (xs.length + 1) (xs ++ [x]) xs.length
theorem g_append {xs ys : List α} {i : Nat} (h : i < xs.length) : g (xs ++ ys) i = g xs i := by
  unfold g
  rw [List.getD_eq_getElem?_getD, List.getD_eq_getElem?_getD, List.getElem?_append_left h]
theorem push_length (xs : List α) (x : α) : (push lt xs x).length = xs.length + 1 := by simp [push, up_length]
theorem push_perm (xs : List α) (x : α) : (push lt xs x).Perm (xs ++ [x]) := up_perm lt _ _ _ (by simp)
theorem push_heap (O : Ord lt) {xs : List α} (h : H lt xs xs.length) (x : α) : H lt (push lt xs x) (push lt xs x).length := by
  rw [push_length]
  have := up_heap O (xs.length + 1) (xs ++ [x]) xs.length (by simp) (by omega) ⟨fun i h0 hi hne => ?_, fun h0 c hc0 hc hcp => ?_⟩
  · simpa [push] using this
  · have hi' : i < xs.length := by simp at hi; omega
    rw [g_append hi', g_append (by omega)]
    exact h i h0 hi'
  · simp at hc; omega
/-- What Pop leaves, its last one being what was the first. -/
def pop (lt : α → α → Bool) (xs : List α) : List α := down lt (xs.length - 1) (sw xs 0 (xs.length - 1)) 0 (xs.length - 1)
theorem pop_length (xs : List α) : (pop lt xs).length = xs.length := by simp [pop, down_length, sw_length]
theorem pop_last {xs : List α} (h : xs ≠ []) : g (pop lt xs) (xs.length - 1) = g xs 0 := by
  have := List.length_pos_iff.mpr h
  unfold pop
  rw [down_keep lt _ _ _ _ (by rw [sw_length]; omega) _ (Nat.le_refl _), g_sw (by omega) (by omega), if_pos rfl]
theorem pop_perm {xs : List α} (h : xs ≠ []) : (pop lt xs).Perm xs := by
  have := List.length_pos_iff.mpr h
  exact (down_perm lt _ _ _ _ (by rw [sw_length]; omega)).trans (sw_perm (by omega) (by omega))
def rest (lt : α → α → Bool) (xs : List α) : List α := (pop lt xs).take (xs.length - 1)
theorem rest_length (xs : List α) : (rest lt xs).length = xs.length - 1 := by simp [rest, pop_length]
theorem rest_perm {xs : List α} (h : xs ≠ []) : (g xs 0 :: rest lt xs).Perm xs := by
  have hl := List.length_pos_iff.mpr h
  have e : pop lt xs = rest lt xs ++ [g xs 0] := by
    have h1 : (pop lt xs).take (xs.length - 1) ++ (pop lt xs).drop (xs.length - 1) = pop lt xs := List.take_append_drop _ _
    have h2 : (pop lt xs).drop (xs.length - 1) = [g xs 0] := by
      have hlt : xs.length - 1 < (pop lt xs).length := by rw [pop_length]; omega
      rw [List.drop_eq_getElem_cons hlt, ← g_eq hlt, pop_last h, List.drop_eq_nil_of_le (by rw [pop_length]; omega)]
    rw [h2] at h1
    exact h1.symm
  have h3 := pop_perm (lt := lt) h
  rw [e] at h3
  exact (List.perm_append_comm (l₁ := [g xs 0]) (l₂ := rest lt xs)).trans h3
theorem g_take {xs : List α} {n i : Nat} (h : i < n) : g (xs.take n) i = g xs i := by
  unfold g
  rw [List.getD_eq_getElem?_getD, List.getD_eq_getElem?_getD, List.getElem?_take_of_lt h]
theorem rest_heap (O : Ord lt) {xs : List α} (h : H lt xs xs.length) : H lt (rest lt xs) (rest lt xs).length := by
  rw [rest_length]
  by_cases hx : xs.length ≤ 1
  · intro i h0 hi; omega
  have h1 : H lt (pop lt xs) (xs.length - 1) := by
    unfold pop
    refine down_heap O _ _ _ _ (by rw [sw_length]; omega) (by omega) ⟨fun k h0 hk hne => ?_, fun h0 => absurd h0 (Nat.lt_irrefl _)⟩
    rw [g_sw (by omega) (by omega), g_sw (by omega) (by omega), if_neg (by omega), if_neg (by omega), if_neg (by omega), if_neg hne]
    exact h k h0 (by omega)
  intro i h0 hi
  unfold rest
  rw [g_take (by omega), g_take (by omega)]
  exact h1 i h0 hi
def le (lt : α → α → Bool) (a b : α) : Bool := !lt b a
/-- All that a heap gives out, one by one. -/
def drain (lt : α → α → Bool) : Nat → List α → List α
  | 0, _ => []
  | f + 1, xs => if xs.length = 0 then [] else g xs 0 :: drain lt f (rest lt xs)
theorem drain_perm : ∀ (f : Nat) (xs : List α), xs.length ≤ f → (drain lt f xs).Perm xs
  | 0, xs, h => by
    have : xs = [] := List.eq_nil_of_length_eq_zero (by omega)
    subst this; exact List.Perm.refl _
  | f + 1, xs, h => by
    unfold drain
    split
    · rename_i e
      have : xs = [] := List.eq_nil_of_length_eq_zero e
      subst this; exact List.Perm.refl _
    · rename_i e
      have hx : xs ≠ [] := fun e2 => e (by rw [e2]; rfl)
      exact ((drain_perm f (rest lt xs) (by rw [rest_length]; omega)).cons _).trans (rest_perm hx)
theorem drain_sorted (O : Ord lt) : ∀ (f : Nat) (xs : List α), xs.length ≤ f → H lt xs xs.length → (drain lt f xs).Pairwise fun a b => le lt a b = true
  | 0, _, _, _ => List.Pairwise.nil
  | f + 1, xs, h, hH => by
    unfold drain
    split
    · exact List.Pairwise.nil
    · rename_i e
      have hx : xs ≠ [] := fun e2 => e (by rw [e2]; rfl)
      refine List.Pairwise.cons (fun b hb => ?_) (drain_sorted O f _ (by rw [rest_length]; omega) (rest_heap O hH))
      have hm : b ∈ xs := (rest_perm hx).mem_iff.mp (List.mem_cons_of_mem _ ((drain_perm f _ (by rw [rest_length]; omega)).mem_iff.mp hb))
      obtain ⟨k, hk, rfl⟩ := List.getElem_of_mem hm
      have := H_min O hH k hk
      rw [g_eq hk] at this
      show (!lt xs[k] (g xs 0)) = true
      rw [this]; rfl
theorem drain_sort (O : Ord lt) (ha : ∀ a b, lt a b = false → lt b a = false → a = b) {xs ys : List α} {f : Nat} (hf : xs.length ≤ f) (hH : H lt xs xs.length) (hp : xs.Perm ys) : drain lt f xs = ys.mergeSort (le lt) := by
  refine List.Perm.eq_of_pairwise (le := fun a b => le lt a b = true) (fun a b _ _ h1 h2 => ha a b (by simpa [le] using h2) (by simpa [le] using h1)) (drain_sorted O f xs hf hH) (List.pairwise_mergeSort (fun a b c h1 h2 => ?_) (fun a b => ?_) ys) (((drain_perm f xs hf).trans hp).trans (List.mergeSort_perm ys _).symm)
  · simp only [le, Bool.not_eq_true'] at h1 h2 ⊢
    exact O.tr _ _ _ h1 h2
  · unfold le
    cases h : lt b a with
    | false => simp
    | true => simp [O.asym _ _ h]
/-- A heap of many. -/
def build (lt : α → α → Bool) (ys : List α) : List α := ys.foldl (push lt) []
theorem fold_push (O : Ord lt) : ∀ (ys xs : List α), H lt xs xs.length → H lt (ys.foldl (push lt) xs) (ys.foldl (push lt) xs).length ∧ (ys.foldl (push lt) xs).Perm (xs ++ ys)
  | [], xs, h => ⟨h, by simp⟩
  | y :: ys, xs, h => by
    have ih := fold_push O ys (push lt xs y) (push_heap O h y)
    refine ⟨ih.1, ih.2.trans ?_⟩
    have := (push_perm (lt := lt) xs y).append_right ys
    simpa using this
theorem build_heap (O : Ord lt) (ys : List α) : H lt (build lt ys) (build lt ys).length ∧ (build lt ys).Perm ys := by
  have := fold_push O ys [] (fun i h0 hi => by simp at hi)
  simpa [build] using this
/-- What is taken from a heap as long as something holds of its first one; s: what the asking keeps. -/
def takeF {σ : Type} (q : σ → α → Bool × σ) (lt : α → α → Bool) : Nat → σ → List α → List α
  | 0, _, _ => []
  | f + 1, s, xs => if xs.length = 0 then [] else if (q s (g xs 0)).1 = true then g xs 0 :: takeF q lt f (q s (g xs 0)).2 (rest lt xs) else []
def takeS {σ : Type} (q : σ → α → Bool × σ) : σ → List α → List α
  | _, [] => []
  | s, x :: l => if (q s x).1 = true then x :: takeS q (q s x).2 l else []
theorem takeF_drain {σ : Type} (q : σ → α → Bool × σ) : ∀ (f : Nat) (s : σ) (xs : List α), takeF q lt f s xs = takeS q s (drain lt f xs)
  | 0, _, _ => rfl
  | f + 1, s, xs => by
    unfold takeF drain
    split
    · rfl
    · rw [takeS, takeF_drain q f]
end
end Go.Proofs.Ytaifcadnnmicnaa.Hp
