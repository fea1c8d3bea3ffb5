/- Four calls, one behind the other, and four new blocks, in any order: each step is shown once, not once for each order. No program in sight. -/
import Derived.Test.YtmdpomilhejbcaaOw
namespace Go.Proofs.Ytmdpomilhejbcaa.Ow
open Go.RowKit Go.Proofs.YtmdpomilhejbcaaW.PrintWords Go.Proofs.YtmdpomilhejbcaaW.PrintLast
set_option linter.unusedVariables false
set_option linter.unusedSimpArgs false
def latL (p : Nat) (b0 b1 b2 b3 : Bool) : List Bool := [true, decide (0 < p), true, decide (1 < p), true, decide (2 < p), true, decide (3 < p), b0, b1, b2, b3, false, false, false, false]
def latP (p : Nat) : List Nat := match p with
  | 0 => [1]
  | 1 => [3]
  | 2 => [5]
  | 3 => [7]
  | _ => []
def latR (p : Nat) (b0 b1 b2 b3 : Bool) : List Nat := latP p ++ (cond b0 [] [8] ++ (cond b1 [] [9] ++ (cond b2 [] [10] ++ cond b3 [] [11])))
def latC (T : List (List Nat × List Nat)) : Bool := (List.range 5).all fun p => [true, false].all fun b0 => [true, false].all fun b1 => [true, false].all fun b2 => [true, false].all fun b3 => (p == 4 && b0 && b1 && b2 && b3) || readyT T (latL p b0 b1 b2 b3) == latR p b0 b1 b2 b3
theorem latC_at {T : List (List Nat × List Nat)} (h : latC T = true) {p : Nat} (hp : p ≤ 4) (b0 b1 b2 b3 : Bool) (hne : ¬ (p = 4 ∧ b0 = true ∧ b1 = true ∧ b2 = true ∧ b3 = true)) : readyT T (latL p b0 b1 b2 b3) = latR p b0 b1 b2 b3 := by
  unfold latC at h
  have h1 := List.all_eq_true.mp h p (List.mem_range.mpr (by omega))
  have h2 := List.all_eq_true.mp h1 b0 (by cases b0 <;> simp)
  have h3 := List.all_eq_true.mp h2 b1 (by cases b1 <;> simp)
  have h4 := List.all_eq_true.mp h3 b2 (by cases b2 <;> simp)
  have h5 := List.all_eq_true.mp h4 b3 (by cases b3 <;> simp)
  rcases Bool.or_eq_true_iff.mp h5 with h6 | h6
  · simp only [Bool.and_eq_true, beq_iff_eq] at h6
    exact absurd ⟨h6.1.1.1.1, h6.1.1.1.2, h6.1.1.2, h6.1.2, h6.2⟩ hne
  · exact beq_iff_eq.mp h6
section
variable {P : Program} {md : Region.Mode} {ops : Array Oper} {Q : Exit → Act → World → Prop} {S : World → Prop} {ds : List Nat} {T : Bool × List (List Nat × List Nat)}
theorem lat_ (hT : rtab md ops = T) (hC : latC T.2 = true) (I : Nat → Bool → Bool → Bool → Bool → Act → World → Prop)
    (hI : ∀ p b0 b1 b2 b3 a w, I p b0 b1 b2 b3 a w → S w)
    (h1 : ∀ b0 b1 b2 b3 a w, I 0 b0 b1 b2 b3 a w → wpOp P ops Q 1 (I 1 b0 b1 b2 b3) a w)
    (h3 : ∀ b0 b1 b2 b3 a w, I 1 b0 b1 b2 b3 a w → wpOp P ops Q 3 (I 2 b0 b1 b2 b3) a w)
    (h5 : ∀ b0 b1 b2 b3 a w, I 2 b0 b1 b2 b3 a w → wpOp P ops Q 5 (I 3 b0 b1 b2 b3) a w)
    (h7 : ∀ b0 b1 b2 b3 a w, I 3 b0 b1 b2 b3 a w → wpOp P ops Q 7 (I 4 b0 b1 b2 b3) a w)
    (h8 : ∀ p b1 b2 b3 a w, I p false b1 b2 b3 a w → wpOp P ops Q 8 (I p true b1 b2 b3) a w)
    (h9 : ∀ p b0 b2 b3 a w, I p b0 false b2 b3 a w → wpOp P ops Q 9 (I p b0 true b2 b3) a w)
    (h10 : ∀ p b0 b1 b3 a w, I p b0 b1 false b3 a w → wpOp P ops Q 10 (I p b0 b1 true b3) a w)
    (h11 : ∀ p b0 b1 b2 a w, I p b0 b1 b2 false a w → wpOp P ops Q 11 (I p b0 b1 b2 true) a w)
    (hend : ∀ a w, I 4 true true true true a w → wpAnyLast P md ops Q S ds 4 (latL 4 true true true true).toArray a w) :
    ∀ (n p : Nat) (b0 b1 b2 b3 : Bool) (a : Act) (w : World), p ≤ 4 → (4 - p) + (cond b0 0 1 + cond b1 0 1 + cond b2 0 1 + cond b3 0 1) = n → I p b0 b1 b2 b3 a w → wpAnyLast P md ops Q S ds (n + 4) (latL p b0 b1 b2 b3).toArray a w := by
  intro n
  induction n with
  | zero =>
    intro p b0 b1 b2 b3 a w hp hn h
    cases b0 <;> cases b1 <;> cases b2 <;> cases b3 <;> simp only [cond_true, cond_false] at hn <;> first | omega | skip
    obtain rfl : p = 4 := by omega
    exact hend a w h
  | succ n ih =>
    intro p b0 b1 b2 b3 a w hp hn h
    have hne : ¬ (p = 4 ∧ b0 = true ∧ b1 = true ∧ b2 = true ∧ b3 = true) := by
      rintro ⟨rfl, rfl, rfl, rfl, rfl⟩
      simp at hn
    have hr : Region.ready md ops (latL p b0 b1 b2 b3).toArray = latR p b0 b1 b2 b3 := by
      rw [ready_eq, hT]
      exact latC_at hC hp b0 b1 b2 b3 hne
    have hnil : latR p b0 b1 b2 b3 ≠ [] := by
      intro e
      have : (latR p b0 b1 b2 b3).length = 0 := by rw [e]; rfl
      simp only [latR, List.length_append] at this
      cases b0 <;> cases b1 <;> cases b2 <;> cases b3 <;> simp only [cond_true, cond_false, List.length_cons, List.length_nil] at this hn <;> first | omega | skip
      have hp' : p = 4 := by
        match p, hp, this with
        | 4, _, _ => rfl
      omega
    show wpAnyLast P md ops Q S ds (n + 4 + 1) (latL p b0 b1 b2 b3).toArray a w
    refine wpAnyLast_all hr hnil fun i hi => ?_
    unfold latR at hi
    simp only [List.mem_append] at hi
    rcases hi with hi | hi | hi | hi | hi
    · match p, hp, hi, hn, h with
      | 0, _, hi, hn, h =>
        obtain rfl : i = 1 := by simpa [latP] using hi
        exact wpOp_mono (fun a' w' h' => ⟨fun _ _ => hI _ _ _ _ _ _ _ h', ih 1 b0 b1 b2 b3 a' w' (by omega) (by omega) h'⟩) (h1 b0 b1 b2 b3 a w h)
      | 1, _, hi, hn, h =>
        obtain rfl : i = 3 := by simpa [latP] using hi
        exact wpOp_mono (fun a' w' h' => ⟨fun _ _ => hI _ _ _ _ _ _ _ h', ih 2 b0 b1 b2 b3 a' w' (by omega) (by omega) h'⟩) (h3 b0 b1 b2 b3 a w h)
      | 2, _, hi, hn, h =>
        obtain rfl : i = 5 := by simpa [latP] using hi
        exact wpOp_mono (fun a' w' h' => ⟨fun _ _ => hI _ _ _ _ _ _ _ h', ih 3 b0 b1 b2 b3 a' w' (by omega) (by omega) h'⟩) (h5 b0 b1 b2 b3 a w h)
      | 3, _, hi, hn, h =>
        obtain rfl : i = 7 := by simpa [latP] using hi
        exact wpOp_mono (fun a' w' h' => ⟨fun _ _ => hI _ _ _ _ _ _ _ h', ih 4 b0 b1 b2 b3 a' w' (by omega) (by omega) h'⟩) (h7 b0 b1 b2 b3 a w h)
      | 4, _, hi, _, _ => simp [latP] at hi
    · cases b0 with
      | true => cases hi
      | false =>
        obtain rfl : i = 8 := by simpa using hi
        exact wpOp_mono (fun a' w' h' => ⟨fun _ _ => hI _ _ _ _ _ _ _ h', ih p true b1 b2 b3 a' w' hp (by simp only [cond_true, cond_false] at hn ⊢; omega) h'⟩) (h8 p b1 b2 b3 a w h)
    · cases b1 with
      | true => cases hi
      | false =>
        obtain rfl : i = 9 := by simpa using hi
        exact wpOp_mono (fun a' w' h' => ⟨fun _ _ => hI _ _ _ _ _ _ _ h', ih p b0 true b2 b3 a' w' hp (by simp only [cond_true, cond_false] at hn ⊢; omega) h'⟩) (h9 p b0 b2 b3 a w h)
    · cases b2 with
      | true => cases hi
      | false =>
        obtain rfl : i = 10 := by simpa using hi
        exact wpOp_mono (fun a' w' h' => ⟨fun _ _ => hI _ _ _ _ _ _ _ h', ih p b0 b1 true b3 a' w' hp (by simp only [cond_true, cond_false] at hn ⊢; omega) h'⟩) (h10 p b0 b1 b3 a w h)
    · cases b3 with
      | true => cases hi
      | false =>
        obtain rfl : i = 11 := by simpa using hi
        exact wpOp_mono (fun a' w' h' => ⟨fun _ _ => hI _ _ _ _ _ _ _ h', ih p b0 b1 b2 true a' w' hp (by simp only [cond_true, cond_false] at hn ⊢; omega) h'⟩) (h11 p b0 b1 b2 a w h)
end
/-- The row of a block, if it has been made. -/
def rw_ (b : Bool) (g : Nat) (Z : Array Value) (t : TypeId) : List Row := cond b [(g, Z, t)] []
/-- The act, behind p calls and such blocks. -/
def LA (a0 : Act) (c0 c1 c2 c3 d0 d1 d2 d3 : Tmp) (V0 V1 V2 V3 : Value) (p : Nat) (b0 b1 b2 b3 : Bool) (g0 g1 g2 g3 : Nat) : Act :=
  putAll a0 [(c0, cond (decide (0 < p)) V0 undef), (c1, cond (decide (1 < p)) V1 undef), (c2, cond (decide (2 < p)) V2 undef), (c3, cond (decide (3 < p)) V3 undef), (d0, cond b0 (.pointer (some ⟨g0, 0, none⟩)) undef), (d1, cond b1 (.pointer (some ⟨g1, 0, none⟩)) undef), (d2, cond b2 (.pointer (some ⟨g2, 0, none⟩)) undef), (d3, cond b3 (.pointer (some ⟨g3, 0, none⟩)) undef)]
theorem Own.left {w W : World} {l l' : List Row} (h : Own w W (l ++ l')) : Own w W l := by
  refine ⟨h.below, fun k g cs t hk => ?_, fun i j x y hi hj hne => ?_⟩
  · have hl := (List.getElem?_eq_some_iff.mp hk).1
    exact h.blk k g cs t (by rw [List.getElem?_append_left hl]; exact hk)
  · have h1 := (List.getElem?_eq_some_iff.mp hi).1
    have h2 := (List.getElem?_eq_some_iff.mp hj).1
    exact h.apart i j x y (by rw [List.getElem?_append_left h1]; exact hi) (by rw [List.getElem?_append_left h2]; exact hj) hne
theorem Own.mem {w W : World} {l : List Row} (h : Own w W l) {x : Row} (hx : x ∈ l) : W.heap[x.1]? = some (.cells x.2.1 x.2.2 (0, 0)) ∧ w.heap.size ≤ x.1 := by
  obtain ⟨k, hk, e⟩ := List.getElem_of_mem hx
  exact h.blk k x.1 x.2.1 x.2.2 (by rw [List.getElem?_eq_getElem hk, e])
theorem Own.tail {w W : World} {l : List Row} {x : Row} (h : Own w W (x :: l)) : Own w W l ∧ (∀ y ∈ l, x.1 ≠ y.1) := by
  refine ⟨⟨h.below, fun k g cs t hk => h.blk (k + 1) g cs t (by rw [List.getElem?_cons_succ]; exact hk), fun i j x y hi hj hne => h.apart (i + 1) (j + 1) x y (by rw [List.getElem?_cons_succ]; exact hi) (by rw [List.getElem?_cons_succ]; exact hj) (by omega)⟩, fun y hy => ?_⟩
  obtain ⟨k, hk, e⟩ := List.getElem_of_mem hy
  exact h.apart 0 (k + 1) x y rfl (by rw [List.getElem?_cons_succ, List.getElem?_eq_getElem hk, e]) (by omega)
theorem Own.perm {w W : World} {l l' : List Row} (h : Own w W l) (hp : l.Perm l') : Own w W l' := by
  induction hp with
  | nil => exact h
  | cons x hp ih =>
    have h1 := h.tail
    exact (ih h1.1).cons (h.mem List.mem_cons_self) fun y hy => h1.2 y (hp.mem_iff.mpr hy)
  | swap x y l =>
    have h1 := h.tail
    have h2 := h1.1.tail
    refine Own.cons (Own.cons h2.1 (h.mem List.mem_cons_self) fun z hz => h1.2 z (List.mem_cons_of_mem _ hz)) (h.mem (List.mem_cons_of_mem _ List.mem_cons_self)) fun z hz => ?_
    rcases List.mem_cons.mp hz with rfl | hz
    · exact Ne.symm (h1.2 x List.mem_cons_self)
    · exact h2.2 z hz
  | trans _ _ ih1 ih2 => exact ih2 (ih1 h)
/-- A new block's row, put in among the others. -/
theorem Own.into {w W W1 : World} {A B : List Row} (h : Own w W (A ++ B)) {g : Nat} {cs : Array Value} {t : TypeId} (hg : g = W.heap.size) (hb : W1.heap[g]? = some (.cells cs t (0, 0))) (hB : Below W.heap.size W W1) : Own w W1 (A ++ ([(g, cs, t)] ++ B)) := by
  have h1 := h.add (cs := cs) (t := t) hg hb hB
  rw [List.append_assoc] at h1
  exact h1.perm (List.Perm.append_left A List.perm_append_comm)
section
variable {P : Program} {ops : Array Oper} {Q : Exit → Act → World → Prop} {T : Bool × List (List Nat × List Nat)}
theorem stepN {i : Nat} {N : Option Tmp} {o : Oper} {F : Act → World → Prop} {a : Act} {w : World} (ho : ops[i]? = some o) (hN : o.dst = N)
    (h : ∀ K : Act → World → Prop, Shut (∀ a w, F a w → K a w) → if Region.wanted o (yielded ops a.tmps) = true then Oper.wp P o a w K Q else K (a.put N undef) w) : wpOp P ops Q i F a w := by
  subst hN
  exact wpOp_step ho (fun K hK => h K hK)
/-- The whole: p calls and the blocks, in any order. -/
theorem latx_ {a0 : Act} {l le : Array Bool} {w W : World} {L : List Row} (hT : rtab .any ops = T) (hC : latC T.2 = true) (HO : Own w W L) (c0 c1 c2 c3 d0 d1 d2 d3 : Tmp) (V0 V1 V2 V3 : Value) (Z : Array Value) (t : TypeId)
    (hl : l = (latL 0 false false false false).toArray) (hle : le = (latL 4 true true true true).toArray)
    (hA0 : putAll a0 [(c0, undef), (c1, undef), (c2, undef), (c3, undef), (d0, undef), (d1, undef), (d2, undef), (d3, undef)] = a0)
    (h1 : ∀ b0 b1 b2 b3 g0 g1 g2 g3 l W, Own w W (L ++ l) → wpOp P ops Q 1 (fun a' W' => a' = LA a0 c0 c1 c2 c3 d0 d1 d2 d3 V0 V1 V2 V3 1 b0 b1 b2 b3 g0 g1 g2 g3 ∧ Own w W' (L ++ l)) (LA a0 c0 c1 c2 c3 d0 d1 d2 d3 V0 V1 V2 V3 0 b0 b1 b2 b3 g0 g1 g2 g3) W)
    (h3 : ∀ b0 b1 b2 b3 g0 g1 g2 g3 l W, Own w W (L ++ l) → wpOp P ops Q 3 (fun a' W' => a' = LA a0 c0 c1 c2 c3 d0 d1 d2 d3 V0 V1 V2 V3 2 b0 b1 b2 b3 g0 g1 g2 g3 ∧ Own w W' (L ++ l)) (LA a0 c0 c1 c2 c3 d0 d1 d2 d3 V0 V1 V2 V3 1 b0 b1 b2 b3 g0 g1 g2 g3) W)
    (h5 : ∀ b0 b1 b2 b3 g0 g1 g2 g3 l W, Own w W (L ++ l) → wpOp P ops Q 5 (fun a' W' => a' = LA a0 c0 c1 c2 c3 d0 d1 d2 d3 V0 V1 V2 V3 3 b0 b1 b2 b3 g0 g1 g2 g3 ∧ Own w W' (L ++ l)) (LA a0 c0 c1 c2 c3 d0 d1 d2 d3 V0 V1 V2 V3 2 b0 b1 b2 b3 g0 g1 g2 g3) W)
    (h7 : ∀ b0 b1 b2 b3 g0 g1 g2 g3 l W, Own w W (L ++ l) → wpOp P ops Q 7 (fun a' W' => a' = LA a0 c0 c1 c2 c3 d0 d1 d2 d3 V0 V1 V2 V3 4 b0 b1 b2 b3 g0 g1 g2 g3 ∧ Own w W' (L ++ l)) (LA a0 c0 c1 c2 c3 d0 d1 d2 d3 V0 V1 V2 V3 3 b0 b1 b2 b3 g0 g1 g2 g3) W)
    (h8 : ∀ p b1 b2 b3 g0 g1 g2 g3 W, wpOp P ops Q 8 (fun a' W' => ∃ g, g = W.heap.size ∧ W'.heap[g]? = some (.cells Z t (0, 0)) ∧ Below W.heap.size W W' ∧ a' = LA a0 c0 c1 c2 c3 d0 d1 d2 d3 V0 V1 V2 V3 p true b1 b2 b3 g g1 g2 g3) (LA a0 c0 c1 c2 c3 d0 d1 d2 d3 V0 V1 V2 V3 p false b1 b2 b3 g0 g1 g2 g3) W)
    (h9 : ∀ p b0 b2 b3 g0 g1 g2 g3 W, wpOp P ops Q 9 (fun a' W' => ∃ g, g = W.heap.size ∧ W'.heap[g]? = some (.cells Z t (0, 0)) ∧ Below W.heap.size W W' ∧ a' = LA a0 c0 c1 c2 c3 d0 d1 d2 d3 V0 V1 V2 V3 p b0 true b2 b3 g0 g g2 g3) (LA a0 c0 c1 c2 c3 d0 d1 d2 d3 V0 V1 V2 V3 p b0 false b2 b3 g0 g1 g2 g3) W)
    (h10 : ∀ p b0 b1 b3 g0 g1 g2 g3 W, wpOp P ops Q 10 (fun a' W' => ∃ g, g = W.heap.size ∧ W'.heap[g]? = some (.cells Z t (0, 0)) ∧ Below W.heap.size W W' ∧ a' = LA a0 c0 c1 c2 c3 d0 d1 d2 d3 V0 V1 V2 V3 p b0 b1 true b3 g0 g1 g g3) (LA a0 c0 c1 c2 c3 d0 d1 d2 d3 V0 V1 V2 V3 p b0 b1 false b3 g0 g1 g2 g3) W)
    (h11 : ∀ p b0 b1 b2 g0 g1 g2 g3 W, wpOp P ops Q 11 (fun a' W' => ∃ g, g = W.heap.size ∧ W'.heap[g]? = some (.cells Z t (0, 0)) ∧ Below W.heap.size W W' ∧ a' = LA a0 c0 c1 c2 c3 d0 d1 d2 d3 V0 V1 V2 V3 p b0 b1 b2 true g0 g1 g2 g) (LA a0 c0 c1 c2 c3 d0 d1 d2 d3 V0 V1 V2 V3 p b0 b1 b2 false g0 g1 g2 g3) W)
    (hend : ∀ g0 g1 g2 g3 W, Own w W (L ++ [(g0, Z, t), (g1, Z, t), (g2, Z, t), (g3, Z, t)]) → wpAnyLast P .any ops Q (fun w' => Own w w' L) [] 4 le (LA a0 c0 c1 c2 c3 d0 d1 d2 d3 V0 V1 V2 V3 4 true true true true g0 g1 g2 g3) W) :
    wpAnyLast P .any ops Q (fun w' => Own w w' L) [] 12 l a0 W := by
  subst hl
  subst hle
  have h := lat_ (P := P) (md := .any) (Q := Q) (S := fun w' => Own w w' L) (ds := []) hT hC (fun p b0 b1 b2 b3 a W => ∃ g0 g1 g2 g3 : Nat, a = LA a0 c0 c1 c2 c3 d0 d1 d2 d3 V0 V1 V2 V3 p b0 b1 b2 b3 g0 g1 g2 g3 ∧ Own w W (L ++ (rw_ b0 g0 Z t ++ (rw_ b1 g1 Z t ++ (rw_ b2 g2 Z t ++ rw_ b3 g3 Z t)))))
    (fun p b0 b1 b2 b3 a W ⟨g0, g1, g2, g3, _, h⟩ => h.left)
    (fun b0 b1 b2 b3 a W ⟨g0, g1, g2, g3, e, h⟩ => e ▸ wpOp_mono (fun a' W' h' => ⟨g0, g1, g2, g3, h'.1, h'.2⟩) (h1 b0 b1 b2 b3 g0 g1 g2 g3 _ W h))
    (fun b0 b1 b2 b3 a W ⟨g0, g1, g2, g3, e, h⟩ => e ▸ wpOp_mono (fun a' W' h' => ⟨g0, g1, g2, g3, h'.1, h'.2⟩) (h3 b0 b1 b2 b3 g0 g1 g2 g3 _ W h))
    (fun b0 b1 b2 b3 a W ⟨g0, g1, g2, g3, e, h⟩ => e ▸ wpOp_mono (fun a' W' h' => ⟨g0, g1, g2, g3, h'.1, h'.2⟩) (h5 b0 b1 b2 b3 g0 g1 g2 g3 _ W h))
    (fun b0 b1 b2 b3 a W ⟨g0, g1, g2, g3, e, h⟩ => e ▸ wpOp_mono (fun a' W' h' => ⟨g0, g1, g2, g3, h'.1, h'.2⟩) (h7 b0 b1 b2 b3 g0 g1 g2 g3 _ W h))
    (fun p b1 b2 b3 a W ⟨g0, g1, g2, g3, e, h⟩ => e ▸ wpOp_mono (fun a' W' ⟨g, e1, e2, e3, e4⟩ => ⟨g, g1, g2, g3, e4, h.into (A := L) e1 e2 e3⟩) (h8 p b1 b2 b3 g0 g1 g2 g3 W))
    (fun p b0 b2 b3 a W ⟨g0, g1, g2, g3, e, h⟩ => e ▸ wpOp_mono (fun a' W' ⟨g, e1, e2, e3, e4⟩ => ⟨g0, g, g2, g3, e4, ((Own.cong h (l' := (L ++ rw_ b0 g0 Z t) ++ (rw_ b2 g2 Z t ++ rw_ b3 g3 Z t)) (by simp only [rw_, cond_false, List.nil_append, List.append_assoc])).into e1 e2 e3).cong (by simp only [rw_, cond_true, List.append_assoc])⟩) (h9 p b0 b2 b3 g0 g1 g2 g3 W))
    (fun p b0 b1 b3 a W ⟨g0, g1, g2, g3, e, h⟩ => e ▸ wpOp_mono (fun a' W' ⟨g, e1, e2, e3, e4⟩ => ⟨g0, g1, g, g3, e4, ((Own.cong h (l' := (L ++ (rw_ b0 g0 Z t ++ rw_ b1 g1 Z t)) ++ rw_ b3 g3 Z t) (by simp only [rw_, cond_false, List.nil_append, List.append_assoc])).into e1 e2 e3).cong (by simp only [rw_, cond_true, List.append_assoc])⟩) (h10 p b0 b1 b3 g0 g1 g2 g3 W))
    (fun p b0 b1 b2 a W ⟨g0, g1, g2, g3, e, h⟩ => e ▸ wpOp_mono (fun a' W' ⟨g, e1, e2, e3, e4⟩ => ⟨g0, g1, g2, g, e4, ((Own.cong h (l' := (L ++ (rw_ b0 g0 Z t ++ (rw_ b1 g1 Z t ++ rw_ b2 g2 Z t))) ++ []) (by simp only [rw_, cond_false, List.append_nil, List.append_assoc])).into e1 e2 e3).cong (by simp only [rw_, cond_true, List.append_assoc, List.append_nil])⟩) (h11 p b0 b1 b2 g0 g1 g2 g3 W))
    (fun a W ⟨g0, g1, g2, g3, e, h⟩ => e ▸ hend g0 g1 g2 g3 W h)
    8 0 false false false false a0 W (by omega) rfl ⟨0, 0, 0, 0, hA0.symm, (List.append_nil L).symm ▸ HO⟩
  exact h
end
end Go.Proofs.Ytmdpomilhejbcaa.Ow
