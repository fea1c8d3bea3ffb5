/- Plain Lean: the printed DupFinds answers true at every input. -/
import Derived.Test.YtmmkiihmdidkpaaPuU
import Derived.Test.YtmmkiihmdidkpaaXU20
namespace Go.Proofs.Ytmmkiihmdidkpaa.XU
open Go.RowKit Go.Proofs.YtmmkiihmdidkpaaW.PrintWords
set_option linter.unusedVariables false
theorem filter_len (l : List S24) (t : Int) : (l.filter fun x => !dup_old t x).length ≤ l.length := List.length_filter_le _ _
theorem filter_later (l : List S24) (t u : Int) (h : t ≤ u) : ((l.filter fun x => !dup_old t x).filter fun x => !dup_old u x) = l.filter fun x => !dup_old u x := by
  rw [List.filter_filter]
  refine List.filter_congr fun x _ => ?_
  unfold dup_old
  by_cases h1 : 0 < t
  · by_cases h2 : x.f4 < t - 50
    · rw [decide_eq_true h1, decide_eq_true h2, decide_eq_true (show 0 < u by omega), decide_eq_true (show x.f4 < u - 50 by omega)]; rfl
    · rw [decide_eq_false h2, Bool.and_false, Bool.not_false, Bool.and_true]
  · rw [decide_eq_false h1, Bool.false_and, Bool.not_false, Bool.and_true]
theorem found_any (key : ByteArray) : ∀ l : List S24, (dup_findS l key).2.2.2.2.2 = l.any fun y => y.f1.toList == key.toList
  | [] => rfl
  | x :: r => by
    unfold dup_findS
    rw [List.any_cons]
    by_cases e : x.f1.toList = key.toList
    · rw [if_pos e, beq_iff_eq.mpr e]; rfl
    · rw [if_neg e, beq_eq_false_iff_ne.mpr e, Bool.false_or]; exact found_any key r
theorem keepS_cases (l : List S24) (x : S24) : (∃ n, n ≠ 0 ∧ keepS l x = ([], n)) ∨ (keepS l x = (l ++ [x], 0) ∧ dup_mayL l = true ∧ oneX x = true ∧ lateL l x.f0 = false ∧ (dup_findS l x.f1).2.2.2.2.2 = false ∧ ¬ l.length = 100) := by
  unfold keepS
  split
  · rename_i h
    split
    · exact .inl ⟨8, by omega, rfl⟩
    · rename_i h2
      split
      · exact .inl ⟨9, by omega, rfl⟩
      · rename_i h3
        exact .inr ⟨rfl, h.1, h.2.1, h.2.2, Bool.eq_false_iff.mpr h2, h3⟩
  · exact .inl ⟨1, by omega, rfl⟩
theorem find_mem : ∀ (l : List S24), l.Pairwise (fun a b => a.f1.toList ≠ b.f1.toList) → ∀ y ∈ l, dup_findS l y.f1 = (y.f0, y.f1, y.f2, y.f3, y.f4, true)
  | [], _, y, h => by cases h
  | x :: r, hp, y, h => by
    rw [List.pairwise_cons] at hp
    unfold dup_findS
    rcases List.mem_cons.mp h with rfl | h
    · rw [if_pos rfl]
    · rw [if_neg (hp.1 y h)]; exact find_mem r hp.2 y h
structure Fi (l all : List S24) (t : Int) (i : Nat) : Prop where
  eq : l = all.filter fun x => !dup_old t x
  dist : l.Pairwise fun a b => a.f1.toList ≠ b.f1.toList
  at0 : ∀ x ∈ all, 0 ≤ x.f4 ∧ x.f4 ≤ t
  key : ∀ x ∈ all, x.f1.size ≤ 60
  t0 : 0 ≤ t
  t1 : t ≤ 255 * i
  len : all.length ≤ i
  i40 : i ≤ 40
theorem finds_l1 (x0 : List S24) (x1 : List Int) (x2 : ByteArray) (l all : List S24) (t : Int) (i : Nat) (H : Fi l all t (i + 1)) : ∀ (d j k : Nat), j + d = all.length → bursarlaw21_DupFinds.l1 (k + d + 1) x0 x1 x2 l all t (i : Int) (j : Int) = bursarlaw21_DupFinds.l0 k x0 x1 x2 l all t ((i + 1 : Nat) : Int)
  | 0, j, k, h => by
    have hi := H.i40
    simp only [bursarlaw21_DupFinds.l1]
    rw [if_neg (by omega), wrap_ok (by omega) (by omega)]; rfl
  | d + 1, j, k, h => by
    have hi := H.i40
    have hlen := H.len
    have hj : j < all.length := by omega
    have hy := H.at0 _ (List.getElem_mem hj)
    have ht1 := H.t1
    have ih := finds_l1 x0 x1 x2 l all t i H d (j + 1) k (by omega)
    obtain ⟨m, hm⟩ : ∃ m, m = k + d + 1 := ⟨_, rfl⟩
    rw [← hm] at ih
    rw [show k + (d + 1) + 1 = m + 1 by omega]
    simp only [bursarlaw21_DupFinds.l1, dup_Find.f, Option.bind_some]
    rw [if_pos (by omega), if_pos (by omega), rd_get all j hj, wrap_ok (x := (j : Int) + 1) (by omega) (by omega), show (j : Int) + 1 = ((j + 1 : Nat) : Int) by omega, wrap_ok (x := t - all[j].f4) (by omega) (by omega), ih]
    by_cases hold : t - all[j].f4 > 50
    · rw [if_pos hold]
    · have hmem : all[j] ∈ l := by
        rw [H.eq, List.mem_filter]
        refine ⟨List.getElem_mem hj, ?_⟩
        unfold dup_old
        rw [decide_eq_false (show ¬ all[j].f4 < t - 50 by omega), Bool.and_false]; rfl
      rw [if_neg hold, find_mem l H.dist _ hmem]
      rw [if_pos rfl, if_neg (by simp)]
theorem finds_l2 (x2 : ByteArray) (all : List S24) (hl : all.length ≤ 1000) (x19 : Bool) : ∀ (d j k : Nat) (x20 : Bool), j + d = all.length → d + 2 ≤ k → (x19 = true → x20 = true ∨ (all.drop j).any (fun y => y.f1.toList == x2.toList) = true) → bursarlaw21_DupFinds.l2 k x2 all x19 x20 (j : Int) = some true
  | 0, j, k, x20, h, hk, hex => by
    obtain ⟨k, rfl⟩ : ∃ m, k = m + 1 := ⟨k - 1, by omega⟩
    simp only [bursarlaw21_DupFinds.l2]
    rw [if_neg (by omega), awake_eq k (by omega)]
    simp only [Option.bind_some]
    rw [List.drop_eq_nil_of_le (by omega)] at hex
    cases x19
    · rw [if_neg (by simp)]
    · have : x20 = true := by simpa using hex rfl
      rw [if_pos rfl, if_pos this]
  | d + 1, j, k, x20, h, hk, hex => by
    obtain ⟨k, rfl⟩ : ∃ m, k = m + 1 := ⟨k - 1, by omega⟩
    have hj : j < all.length := by omega
    rw [List.drop_eq_getElem_cons hj, List.any_cons] at hex
    simp only [bursarlaw21_DupFinds.l2]
    rw [if_pos (by omega), wrap_ok (by omega) (by omega), show (j : Int) + 1 = ((j + 1 : Nat) : Int) by omega]
    cases x20
    · rw [if_neg (by simp), if_pos (by omega), rd_get all j hj]
      exact finds_l2 x2 all hl x19 d (j + 1) k _ (by omega) (by omega) (fun h => by simpa using hex h)
    · rw [if_pos rfl]
      exact finds_l2 x2 all hl x19 d (j + 1) k true (by omega) (by omega) (fun _ => .inl rfl)
theorem finds_end (x0 : List S24) (x1 : List Int) (x2 : ByteArray) (l all : List S24) (t : Int) (i : Nat) (H : Fi l all t i) (k : Nat) (hk : 100 ≤ k) : bursarlaw21_DupFinds.j1 k x0 x1 x2 l all t (i : Int) false = some true := by
  have hi := H.i40
  have hlen := H.len
  obtain ⟨k, rfl⟩ : ∃ m, k = m + 1 := ⟨k - 1, by omega⟩
  simp only [bursarlaw21_DupFinds.j1, dup_Find.f, Option.bind_some]
  rw [if_neg (by simp), found_any]
  refine finds_l2 x2 all (by omega) _ all.length 0 k false (by omega) (by omega) (fun h => .inr ?_)
  rw [List.drop_zero]
  obtain ⟨y, hy, he⟩ := List.any_eq_true.mp h
  rw [H.eq] at hy
  exact List.any_eq_true.mpr ⟨y, (List.mem_filter.mp hy).1, he⟩
theorem finds_step (l all : List S24) (t u : Int) (i : Nat) (X : S24) (H : Fi l all t i) (hu : t ≤ u) (hu1 : u ≤ 255 * (i + 1 : Nat)) (hi : i + 1 ≤ 40) (hX : X.f1.size ≤ 60) (hXt : X.f4 = u) :
    Fi (l.filter fun x => !dup_old u x) all u (i + 1) ∧ ((dup_findS (l.filter fun x => !dup_old u x) X.f1).2.2.2.2.2 = false → Fi ((l.filter fun x => !dup_old u x) ++ [X]) (all ++ [X]) u (i + 1)) := by
  have ht0 := H.t0
  have hlen := H.len
  have e1 : (l.filter fun x => !dup_old u x) = all.filter fun x => !dup_old u x := by rw [H.eq, filter_later all t u hu]
  have hd : (l.filter fun x => !dup_old u x).Pairwise fun a b => a.f1.toList ≠ b.f1.toList := H.dist.sublist List.filter_sublist
  refine ⟨⟨e1, hd, fun x hx => ⟨(H.at0 x hx).1, by have := (H.at0 x hx).2; omega⟩, H.key, by omega, hu1, by omega, hi⟩, fun hf => ⟨?_, ?_, fun x hx => ?_, fun x hx => ?_, by omega, hu1, by simp; omega, hi⟩⟩
  · rw [List.filter_append, ← e1, List.filter_cons_of_pos (by
      unfold dup_old; rw [decide_eq_false (show ¬ X.f4 < u - 50 by omega), Bool.and_false]; rfl), List.filter_nil]
  · rw [List.pairwise_append]
    refine ⟨hd, List.pairwise_singleton _ _, fun a ha b hb => ?_⟩
    rw [List.mem_singleton.mp hb]
    rw [found_any] at hf
    have := List.any_eq_false.mp hf a ha
    simpa using this
  · rcases List.mem_append.mp hx with h | h
    · exact ⟨(H.at0 x h).1, by have := (H.at0 x h).2; omega⟩
    · rw [List.mem_singleton.mp h, hXt]; omega
  · rcases List.mem_append.mp hx with h | h
    · exact H.key x h
    · rw [List.mem_singleton.mp h]; exact hX
theorem finds_from (x0 : List S24) (x1 : List Int) (hw : ∀ x ∈ x1, 0 ≤ x ∧ x ≤ 255) (x2 : ByteArray) : ∀ (d i k : Nat) (l all : List S24) (t : Int), i + d = 40 → 60 * d + 200 ≤ k → Fi l all t i → bursarlaw21_DupFinds.l0 k x0 x1 x2 l all t (i : Int) = some true
  | d, i, k, l, all, t, h, hk, H => by
    have hi40 := H.i40
    have hlen := H.len
    have ht0 := H.t0
    have ht1 := H.t1
    obtain ⟨k, rfl⟩ : ∃ m, k = m + 1 := ⟨k - 1, by omega⟩
    simp only [bursarlaw21_DupFinds.l0]
    by_cases hi : i < x0.length
    · rw [if_pos (by omega)]
      match d, h, hk with
      | 0, h, hk =>
        rw [decide_eq_false (by omega)]
        exact finds_end x0 x1 x2 l all t i H k (by omega)
      | d + 1, h, hk =>
        rw [decide_eq_true (by omega)]
        -- the tick, then one act
        have key : ∀ (u : Int) (k : Nat), t ≤ u → u ≤ 255 * (i + 1 : Nat) → 60 * d + 250 ≤ k → bursarlaw21_DupFinds.j2 k x0 x1 x2 l all u (i : Int) = some true := fun u k hu hu1 hk => by
          obtain ⟨k, rfl⟩ : ∃ m, k = m + 1 := ⟨k - 1, by omega⟩
          simp only [bursarlaw21_DupFinds.j2]
          rw [if_pos (by omega), if_pos (by omega), one_eq, Option.bind_some]
          have hlf : l.length ≤ 1000 := by
            have : l.length ≤ all.length := by rw [H.eq]; exact List.length_filter_le _ _
            omega
          have hsw : dup_Sweep.f l u = some (l.filter fun x => !dup_old u x) := if_pos ⟨hlf, by omega⟩
          rw [hsw, Option.bind_some, wrap_ok (x := (i : Int) + 1) (by omega) (by omega), show (i : Int) + 1 = ((i + 1 : Nat) : Int) by omega]
          obtain ⟨X, hX⟩ : ∃ X : S24, X = ⟨((i + 1 : Nat) : Int), cut (rd_T24 x0 (i : Int)).f1, cut (rd_T24 x0 (i : Int)).f2, cut (rd_T24 x0 (i : Int)).f3, u⟩ := ⟨_, rfl⟩
          have hXs : X.f1.size ≤ 60 := by rw [hX]; exact cut_size _
          obtain ⟨F1, F2⟩ := finds_step l all t u i X H hu hu1 (by omega) hXs (by rw [hX])
          have hlf1 : (l.filter fun x => !dup_old u x).length ≤ 1000 := Nat.le_trans (List.length_filter_le _ _) hlf
          have hz1 : ∀ x ∈ (l.filter fun x => !dup_old u x), x.f1.size ≤ 60 := fun x hx => by
            rw [F1.eq] at hx; exact H.key x (List.mem_filter.mp hx).1
          have hkeep := dup_keep_eq (l.filter fun x => !dup_old u x) X hlf1 hz1 k (by omega)
          rw [hX] at hkeep
          simp only [] at hkeep
          rw [hkeep, Option.bind_some, ← hX]
          have fin : ∀ (l' all' : List S24), Fi l' all' u (i + 1) → bursarlaw21_DupFinds.j3 k x0 x1 x2 l' all' u (i : Int) = some true := fun l' all' F => by
            have hal := F.len
            obtain ⟨m, rfl⟩ : ∃ m, k = (m + all'.length + 1) + 1 := ⟨k - all'.length - 2, by omega⟩
            simp only [bursarlaw21_DupFinds.j3]
            have := finds_l1 x0 x1 x2 l' all' u i F all'.length 0 m (by omega)
            rw [Int.natCast_zero] at this
            rw [this]
            exact finds_from x0 x1 hw x2 d (i + 1) m l' all' u (by omega) (by omega) F
          rcases keepS_cases (l.filter fun x => !dup_old u x) X with ⟨n, hn, hks⟩ | ⟨hks, _, _, _, hf, _⟩
          · rw [hks]
            show (if n = 0 then _ else _) = _
            rw [if_neg hn]
            exact fin _ _ F1
          · rw [hks]
            show (if (0 : Int) = 0 then _ else _) = _
            rw [if_pos rfl, if_pos (by omega)]
            exact fin _ _ (F2 hf)
        obtain ⟨k, rfl⟩ : ∃ m, k = m + 1 := ⟨k - 1, by omega⟩
        simp only [bursarlaw21_DupFinds.j1]
        rw [if_pos trivial]
        by_cases hti : i < x1.length
        · have hr : rd x1 (i : Int) = x1[i] := by unfold rd; rw [Int.toNat_natCast, List.getD_eq_getElem?_getD, List.getElem?_eq_getElem hti]; rfl
          have hb := hw _ (List.getElem_mem hti)
          rw [if_pos (by omega), if_pos (by omega), hr, wrap_ok (x := x1[i]) (by omega) (by omega), wrap_ok (by omega) (by omega)]
          exact key _ k (by omega) (by omega) (by omega)
        · rw [if_neg (by omega)]
          exact key t k (by omega) (by omega) (by omega)
    · rw [if_neg (by omega)]
      exact finds_end x0 x1 x2 l all t i H k (by omega)
theorem finds_pure (l0 : List S24) (l1 : List Int) (a2 : ByteArray) (hw : ∀ x ∈ l1, (Lit.int .u8 x).wf = true) : bursarlaw21_DupFinds.f 20000 l0 l1 a2 = some true := by
  have hw' : ∀ x ∈ l1, 0 ≤ x ∧ x ≤ 255 := fun x hx => by
    have w1 := hw x hx
    simp [Lit.wf, IntKind.min, IntKind.max, IntKind.signed, IntKind.bits] at w1; omega
  unfold bursarlaw21_DupFinds.f
  rw [text_eq, Option.bind_some]
  exact finds_from l0 l1 hw' _ 40 0 20000 [] [] 0 (by omega) (by omega) ⟨rfl, List.Pairwise.nil, (fun x hx => nomatch hx), (fun x hx => nomatch hx), by omega, by omega, Nat.le_refl _, by omega⟩
end Go.Proofs.Ytmmkiihmdidkpaa.XU
