/- Blocks that a walk owns, under one fact: plain laws of stores, loads, calls over them. No program in sight. -/
import Derived.Test.YtmdpomilhejbcaaPu
import Derived.Test.YtmdpomilhejbcaaWLast
import Derived.Test.YtmdpomilhejbcaaWTab
import Derived.KernelRfl
namespace Go.Proofs.Ytmdpomilhejbcaa.Ow
open Go.RowKit Go.Proofs.YtmdpomilhejbcaaW.PrintWords Go.Proofs.YtmdpomilhejbcaaW.PrintLast
set_option linter.unusedVariables false
set_option linter.unusedSimpArgs false

/-- Marks, as the bits of a number. -/
def B (n m : Nat) : Array Bool := ((List.range n).map m.testBit).toArray
/-- What lies at 'off' on is written over. -/
def overL : List Value → Nat → List Value → List Value
  | [], _, _ => []
  | a :: z, off + 1, vs => a :: overL z off vs
  | _ :: z, 0, v :: vs => v :: overL z 0 vs
  | a :: z, 0, [] => a :: z
def over (cs : Array Value) (off : Nat) (vs : Array Value) : Array Value := (overL cs.toList off vs.toList).toArray
theorem overL_eq : ∀ (z : List Value) (off : Nat) (vs : List Value), off + vs.length ≤ z.length → overL z off vs = z.take off ++ vs ++ z.drop (off + vs.length)
  | [], off, vs, h => by
    have h1 : vs = [] := by
      cases vs with
      | nil => rfl
      | cons v t => simp only [List.length_cons, List.length_nil] at h; omega
    subst h1; simp [overL]
  | a :: z, off + 1, vs, h => by
    simp only [overL]
    rw [overL_eq z off vs (by simp only [List.length_cons] at h; omega), show off + 1 + vs.length = off + vs.length + 1 by omega]
    simp
  | _ :: z, 0, v :: vs, h => by
    simp only [overL]
    rw [overL_eq z 0 vs (by simp only [List.length_cons] at h; omega)]
    simp
  | a :: z, 0, [], h => by simp [overL]
theorem over_eq {cs vs : Array Value} {off : Nat} (h : off + vs.size ≤ cs.size) : over cs off vs = (cs.toList.take off ++ vs.toList ++ cs.toList.drop (off + vs.size)).toArray := by
  unfold over
  rw [overL_eq _ _ _ (by rw [Array.length_toList, Array.length_toList]; exact h), Array.length_toList]
def nth : List Value → Nat → Option Value
  | [], _ => none
  | a :: _, 0 => some a
  | _ :: l, n + 1 => nth l n
theorem nth_eq : ∀ (l : List Value) (i : Nat), nth l i = l[i]?
  | [], _ => by simp [nth]
  | _ :: _, 0 => by simp [nth]
  | _ :: l, n + 1 => by simp only [nth]; rw [nth_eq l n]; simp
theorem nth_at {cs : Array Value} {i : Nat} {v : Value} (h : nth cs.toList i = some v) : cs[i]? = some v := by
  rw [nth_eq] at h; simpa using h
/-- A part, from 'off' on. -/
def part (cs : Array Value) (off n : Nat) : Array Value := ((cs.toList.drop off).take n).toArray
def rowB : TypeDesc → Bool
  | .struct _ => true
  | .array _ _ => true
  | _ => false
abbrev Row := Nat × Array Value × TypeId
/-- Blocks, each whole, above where the walk began, each apart from each other one; all below is as it was. -/
structure Own (w W : World) (l : List Row) : Prop where
  below : Below w.heap.size w W
  blk : ∀ (k g : Nat) (cs : Array Value) (t : TypeId), l[k]? = some (g, cs, t) → W.heap[g]? = some (.cells cs t (0, 0)) ∧ w.heap.size ≤ g
  apart : ∀ (i j : Nat) (x y : Row), l[i]? = some x → l[j]? = some y → i ≠ j → x.1 ≠ y.1
theorem Own.nil (w : World) : Own w w [] := ⟨Below.refl _ _, fun k g cs t h => by simp at h, fun i j x y h => by simp at h⟩
theorem Own.drewN {w W : World} {l : List Row} (h : Own w W l) (n : Nat) : Own w (W.drewN n) l := ⟨pw_below_drewN h.below n, h.blk, h.apart⟩
theorem Own.drew {w W : World} {l : List Row} (h : Own w W l) : Own w W.drew l := ⟨below_drew1 h.below, h.blk, h.apart⟩
theorem Own.call {w W W1 : World} {l : List Row} (h : Own w W l) (hb : Below W.heap.size W W1) : Own w W1 l :=
  ⟨below_step h.below hb, fun k g cs t hk => ⟨blk_below (h.blk k g cs t hk).1 hb, (h.blk k g cs t hk).2⟩, h.apart⟩
theorem Own.cong {w W : World} {l l' : List Row} (h : Own w W l) (e : l = l') : Own w W l' := e ▸ h
theorem Own.get {w W : World} {l : List Row} (h : Own w W l) (k : Nat) {g : Nat} {cs : Array Value} {t : TypeId} (hk : l[k]? = some (g, cs, t)) : W.heap[g]? = some (.cells cs t (0, 0)) := (h.blk k g cs t hk).1
theorem Own.cell {w W : World} {l : List Row} (h : Own w W l) (k : Nat) {g : Nat} {cs : Array Value} {t : TypeId} (hk : l[k]? = some (g, cs, t)) {i : Nat} {v : Value} (hv : cs[i]? = some v) : W.cell? ⟨g, i, none⟩ = some v := (blk_cell (h.get k hk) i).trans hv
theorem Own.frozen {w W : World} {l : List Row} (h : Own w W l) (k : Nat) {g : Nat} {cs : Array Value} {t : TypeId} (hk : l[k]? = some (g, cs, t)) (i : Nat) : W.frozen? ⟨g, i, none⟩ = false := blk_frozen (h.get k hk) i
theorem Own.add {w W W1 : World} {l : List Row} (h : Own w W l) {g : Nat} {cs : Array Value} {t : TypeId} (hg : g = W.heap.size) (hb : W1.heap[g]? = some (.cells cs t (0, 0))) (hB : Below W.heap.size W W1) : Own w W1 (l ++ [(g, cs, t)]) := by
  have lt : ∀ (i : Nat) (x : Row), l[i]? = some x → x.1 < W.heap.size := fun i x hx => blk_lt (h.blk i x.1 x.2.1 x.2.2 hx).1
  refine ⟨below_step h.below hB, fun k g' cs' t' hk => ?_, fun i j x y hi hj hne => ?_⟩
  · by_cases hkl : k < l.length
    · rw [List.getElem?_append_left hkl] at hk
      exact ⟨blk_below (h.blk k g' cs' t' hk).1 hB, (h.blk k g' cs' t' hk).2⟩
    · rw [List.getElem?_append_right (by omega)] at hk
      have h0 : k - l.length = 0 := by
        have := (List.getElem?_eq_some_iff.mp hk).1
        simpa using this
      rw [h0] at hk
      simp only [List.getElem?_cons_zero, Option.some.injEq, Prod.mk.injEq] at hk
      obtain ⟨rfl, rfl, rfl⟩ := hk
      exact ⟨hb, by rw [hg]; exact h.below.size⟩
  · have one : ∀ (k : Nat) (z : Row), (l ++ [(g, cs, t)])[k]? = some z → (k < l.length ∧ l[k]? = some z) ∨ (k = l.length ∧ z = (g, cs, t)) := fun k z hz => by
      by_cases hkl : k < l.length
      · rw [List.getElem?_append_left hkl] at hz; exact .inl ⟨hkl, hz⟩
      · rw [List.getElem?_append_right (by omega)] at hz
        have h0 : k - l.length = 0 := by
          have := (List.getElem?_eq_some_iff.mp hz).1
          simpa using this
        rw [h0] at hz
        exact .inr ⟨by omega, by simpa using hz.symm⟩
    rcases one i x hi with ⟨a1, a2⟩ | ⟨a1, a2⟩ <;> rcases one j y hj with ⟨b1, b2⟩ | ⟨b1, b2⟩
    · exact h.apart i j x y a2 b2 hne
    · rw [b2]; have := lt i x a2; show x.1 ≠ g; omega
    · rw [a2]; have := lt j y b2; show g ≠ y.1; omega
    · omega
theorem Own.upd {w W W1 : World} {l : List Row} (h : Own w W l) (k : Nat) {g : Nat} {cs vs : Array Value} {t : TypeId} (hk : l[k]? = some (g, cs, t)) (hb : W1.heap[g]? = some (.cells vs t (0, 0)))
    (hf : ∀ j, j ≠ g → W1.heap[j]? = W.heap[j]?) (hs : W1.heap.size = W.heap.size) (h1 : W1.os = W.os) (h2 : W1.tape = W.tape) (h3 : W1.output = W.output) : Own w W1 (l.set k (g, vs, t)) := by
  have hkl : k < l.length := (List.getElem?_eq_some_iff.mp hk).1
  have old : ∀ (i : Nat) (z : Row), (l.set k (g, vs, t))[i]? = some z → (i = k ∧ z = (g, vs, t)) ∨ (i ≠ k ∧ l[i]? = some z) := fun i z hz => by
    by_cases hik : i = k
    · subst hik
      rw [List.getElem?_set_self hkl] at hz
      exact .inl ⟨rfl, (Option.some.inj hz).symm⟩
    · rw [List.getElem?_set_ne (Ne.symm hik)] at hz
      exact .inr ⟨hik, hz⟩
  refine ⟨Pu.below_stored h.below (h.blk k g cs t hk).2 hf hs h1 h2 h3, fun i g' cs' t' hi => ?_, fun i j x y hi hj hne => ?_⟩
  · rcases old i _ hi with ⟨_, e⟩ | ⟨hne, e⟩
    · simp only [Prod.mk.injEq] at e
      obtain ⟨rfl, rfl, rfl⟩ := e
      exact ⟨hb, (h.blk k _ cs _ hk).2⟩
    · have := h.apart i k _ _ e hk hne
      exact ⟨(hf g' this).trans (h.blk i g' cs' t' e).1, (h.blk i g' cs' t' e).2⟩
  · rcases old i x hi with ⟨a1, a2⟩ | ⟨a1, a2⟩ <;> rcases old j y hj with ⟨b1, b2⟩ | ⟨b1, b2⟩
    · omega
    · subst a1; rw [a2]; exact (h.apart _ _ (g, cs, t) _ hk b2 (Ne.symm b1) : g ≠ y.1)
    · subst b1; rw [b2]; exact (h.apart _ _ _ (g, cs, t) a2 hk a1 : x.1 ≠ g)
    · exact h.apart _ _ _ _ a2 b2 hne
theorem Own.only {w W W1 : World} {l : List Row} (h : Own w W l) (k : Nat) {g : Nat} {cs vs : Array Value} {t : TypeId} (hk : l[k]? = some (g, cs, t)) (hb : Pu.OnlyB W g vs t W1) : Own w W1 (l.set k (g, vs, t)) := by
  have hkl : k < l.length := (List.getElem?_eq_some_iff.mp hk).1
  have old : ∀ (i : Nat) (z : Row), (l.set k (g, vs, t))[i]? = some z → (i = k ∧ z = (g, vs, t)) ∨ (i ≠ k ∧ l[i]? = some z) := fun i z hz => by
    by_cases hik : i = k
    · subst hik
      rw [List.getElem?_set_self hkl] at hz
      exact .inl ⟨rfl, (Option.some.inj hz).symm⟩
    · rw [List.getElem?_set_ne (Ne.symm hik)] at hz
      exact .inr ⟨hik, hz⟩
  refine ⟨Pu.OnlyB.under hb h.below (h.blk k g cs t hk).2, fun i g' cs' t' hi => ?_, fun i j x y hi hj hne => ?_⟩
  · rcases old i _ hi with ⟨_, e⟩ | ⟨hne, e⟩
    · simp only [Prod.mk.injEq] at e
      obtain ⟨rfl, rfl, rfl⟩ := e
      exact ⟨hb.blk, (h.blk k _ cs _ hk).2⟩
    · have := h.apart i k _ _ e hk hne
      have hlt := blk_lt (h.blk i g' cs' t' e).1
      exact ⟨(hb.rest g' this hlt).trans (h.blk i g' cs' t' e).1, (h.blk i g' cs' t' e).2⟩
  · rcases old i x hi with ⟨a1, a2⟩ | ⟨a1, a2⟩ <;> rcases old j y hj with ⟨b1, b2⟩ | ⟨b1, b2⟩
    · omega
    · subst a1; rw [a2]; exact (h.apart _ _ (g, cs, t) _ hk b2 (Ne.symm b1) : g ≠ y.1)
    · subst b1; rw [b2]; exact (h.apart _ _ _ (g, cs, t) a2 hk a1 : x.1 ≠ g)
    · exact h.apart _ _ _ _ a2 b2 hne
/-- Some of the blocks, in any order. -/
def pickL (l : List Row) : List Nat → List Row
  | [] => []
  | k :: ks => match l[k]? with
    | some x => x :: pickL l ks
    | none => pickL l ks
theorem pick_mem {l : List Row} : ∀ (ks : List Nat) (y : Row), y ∈ pickL l ks → ∃ j ∈ ks, l[j]? = some y
  | [], y, h => by simp [pickL] at h
  | k :: ks, y, h => by
    unfold pickL at h
    split at h
    · rename_i x hx
      rcases List.mem_cons.mp h with rfl | h
      · exact ⟨k, List.mem_cons_self, hx⟩
      · obtain ⟨j, hj, e⟩ := pick_mem ks y h; exact ⟨j, List.mem_cons_of_mem _ hj, e⟩
    · obtain ⟨j, hj, e⟩ := pick_mem ks y h; exact ⟨j, List.mem_cons_of_mem _ hj, e⟩
theorem Own.cons {w W : World} {l : List Row} {x : Row} (h : Own w W l) (hx : W.heap[x.1]? = some (.cells x.2.1 x.2.2 (0, 0)) ∧ w.heap.size ≤ x.1) (hd : ∀ y ∈ l, x.1 ≠ y.1) : Own w W (x :: l) := by
  refine ⟨h.below, fun k g cs t hk => ?_, fun i j a b hi hj hne => ?_⟩
  · cases k with
    | zero => simp only [List.getElem?_cons_zero, Option.some.injEq] at hk; subst hk; exact hx
    | succ k => rw [List.getElem?_cons_succ] at hk; exact h.blk k g cs t hk
  · cases i with
    | zero =>
      simp only [List.getElem?_cons_zero, Option.some.injEq] at hi; subst hi
      cases j with
      | zero => exact absurd rfl hne
      | succ j => rw [List.getElem?_cons_succ] at hj; exact hd b (List.mem_of_getElem? hj)
    | succ i =>
      rw [List.getElem?_cons_succ] at hi
      cases j with
      | zero => simp only [List.getElem?_cons_zero, Option.some.injEq] at hj; subst hj; exact Ne.symm (hd a (List.mem_of_getElem? hi))
      | succ j => rw [List.getElem?_cons_succ] at hj; exact h.apart i j a b hi hj (by omega)
theorem Own.pick {w W : World} {l : List Row} : ∀ (ks : List Nat), Own w W l → ks.Nodup → Own w W (pickL l ks)
  | [], h, _ => ⟨h.below, fun k g cs t hk => by simp [pickL] at hk, fun i j x y hi => by simp [pickL] at hi⟩
  | k :: ks, h, hn => by
    have hn' := List.nodup_cons.mp hn
    have ih := Own.pick ks h hn'.2
    unfold pickL
    split
    · rename_i x hx
      refine ih.cons (h.blk k x.1 x.2.1 x.2.2 hx) fun y hy => ?_
      obtain ⟨j, hj, e⟩ := pick_mem ks y hy
      exact h.apart k j x y hx e (fun e2 => hn'.1 (e2 ▸ hj))
    · exact ih
theorem over_whole {cs vs : Array Value} (h : vs.size = cs.size) : over cs 0 vs = vs := by
  rw [over_eq (by omega)]
  apply Array.toList_inj.mp
  have : cs.toList.drop (0 + vs.size) = [] := List.drop_eq_nil_of_le (by rw [Array.length_toList]; omega)
  rw [this]; simp
theorem fold_list (off : Nat) : ∀ (l : List Value) (k : Nat) (z : Array Value), off + k + l.length ≤ z.size →
    (l.zipIdx k).foldl (fun (cs : Array Value) (x : Value × Nat) => cs.setIfInBounds (off + x.2) x.1) z = (z.toList.take (off + k) ++ l ++ z.toList.drop (off + k + l.length)).toArray
  | [], k, z, _ => by simp
  | v :: l, k, z, h => by
    simp only [List.length_cons] at h
    rw [List.zipIdx_cons, List.foldl_cons, fold_list off l (k + 1) _ (by simp; omega)]
    apply Array.toList_inj.mp
    simp only [Array.toList_setIfInBounds, List.length_cons]
    have hk : off + k < z.toList.length := by rw [Array.length_toList]; omega
    have e1 : (z.toList.set (off + k) v).take (off + (k + 1)) = z.toList.take (off + k) ++ [v] := by
      rw [show off + (k + 1) = off + k + 1 by omega, List.take_set]
      apply List.ext_getElem?
      intro i
      rw [List.getElem?_set, List.getElem?_append, List.getElem?_take, List.length_take, List.length_take]
      by_cases h1 : i < off + k
      · rw [if_neg (by omega), if_pos (by omega), if_pos (by omega), List.getElem?_take, if_pos (by omega)]
      · by_cases h2 : off + k = i
        · subst h2
          rw [if_pos rfl, if_pos (by omega), if_neg (by omega), show off + k - min (off + k) z.toList.length = 0 by omega]
          rfl
        · rw [if_neg h2, if_neg (by omega), if_neg (by omega), List.getElem?_eq_none (by simp; omega)]
    have e2 : (z.toList.set (off + k) v).drop (off + (k + 1) + l.length) = z.toList.drop (off + k + (l.length + 1)) := by
      rw [List.drop_set_of_lt (by omega)]
      congr 1; omega
    rw [e1, e2, List.append_assoc, List.append_assoc, List.append_assoc]
    rfl
theorem fold_over {z q : Array Value} {off : Nat} (h : off + q.size ≤ z.size) : q.zipIdx.foldl (fun (cs : Array Value) (x : Value × Nat) => cs.setIfInBounds (off + x.2) x.1) z = over z off q := by
  rw [← Array.foldl_toList, Array.toList_zipIdx, fold_list off q.toList 0 z (by rw [Array.length_toList]; omega), over_eq h]
  simp
/-- The parts that a struct is built of. -/
inductive Fills (a : Act) (ps : List (Nat × Nat)) : Array Value → List (Nat × Operand) → Array Value → Prop
  | nil {z : Array Value} : Fills a ps z [] z
  | cons {z c : Array Value} {i off n : Nat} {x : Operand} {v : Value} {r : List (Nat × Operand)} (hv : a.eval x = v) (hp : ps[i]? = some (off, n)) (hn : n = v.cells.size) (hz : decide (off + n ≤ z.size) = true) (h : Fills a ps (over z off v.cells) r c) : Fills a ps z ((i, x) :: r) c
theorem Fills.fill {a : Act} {ps : List (Nat × Nat)} {z c : Array Value} {r : List (Nat × Operand)} (h : Fills a ps z r c) : Instr.fill (fun x => ps.toArray[x]?) z (r.map fun (i, x) => (i, a.eval x)) = some c := by
  induction h with
  | nil => rfl
  | @cons z c i off n x v r hv hp hn hz h ih =>
    have hz' := of_decide_eq_true hz
    subst hn
    have hp' : ps.toArray[i]? = some (off, v.cells.size) := by simpa using hp
    rw [List.map_cons]
    unfold Instr.fill
    simp only [hv, hp']
    rw [if_neg (by simp; omega)]
    exact (congrArg (fun z' => Instr.fill (fun x => ps.toArray[x]?) z' (r.map fun (i, x) => (i, a.eval x))) (fold_over hz')).trans ih
section
variable {P : Program} {ops : Array Oper} {rest : List Oper} {o : Oper} {a : Act} {Q : Exit → Act → World → Prop}
/-- A store of one cell, of a struct's part, or of all. -/
theorem put {w W : World} {l : List Row} (HO : Own w W l) (k : Nat) {t : TypeId} {p : Tmp} {v : Operand} (ho : o.op = .store t (.tmp p) v) (hgd : o.guard = none) (hN : o.dst = none) {g off : Nat} {cs : Array Value} {e : TypeId} {x : Value}
    (hk : l[k]? = some (g, cs, e)) (hp : a.eval (.tmp p) = .pointer (some ⟨g, off, none⟩)) (hv : a.eval v = x) (ht : (P.info? t).map (·.size) = some x.cells.size) (hsz : decide (off + x.cells.size ≤ cs.size) = true) (h1 : x.cells.toList.all (fun q => q.oneCell') = true)
    (h : ∀ w1 : World, Own w w1 (l.set k (g, over cs off x.cells, e)) → wpList P ops Q rest a w1) : wpList P ops Q (o :: rest) a W := by
  have hsz' := of_decide_eq_true hsz
  have hb := HO.get k hk
  have hr := run_store_run (P := P) (w := W) (g := g) (o := off) t x x.cells.toList hb rfl (by simpa using ht) (by simpa using hsz') (fun q hq => List.all_eq_true.mp h1 q hq)
  refine store_event (w1 := W.setCells g off x.cells.toList) hgd ho hN ?_ ?_
  · unfold execOp
    rw [ho]
    simp only [hp, hv]
    simp [hr]
  · intro w' hw'
    subst hw'
    obtain ⟨cur', h3, h4, h5⟩ := setCells_row (g := g) (e := e) x.cells.toList off W cs hb (by simpa using hsz')
    have hc : cur' = over cs off x.cells := by
      rw [over_eq hsz']
      apply Array.toList_inj.mp
      rw [h5]; simp
    subst hc
    obtain ⟨q1, q2, q3, q4⟩ := setCells_same g x.cells.toList off W
    exact h _ (HO.upd k hk h3 (fun j hj => setCells_far _ off j hj) q4 q1 q2 q3)
/-- A whole struct is stored. -/
theorem put0 {w W : World} {l : List Row} (HO : Own w W l) (k : Nat) {t : TypeId} {p : Tmp} {v : Operand} (ho : o.op = .store t (.tmp p) v) (hgd : o.guard = none) (hN : o.dst = none) {g : Nat} {cs vs : Array Value} {e : TypeId}
    (hk : l[k]? = some (g, cs, e)) (hp : a.eval (.tmp p) = .pointer (some ⟨g, 0, none⟩)) (hv : a.eval v = .agg vs) (ht : (P.info? t).map (·.size) = some vs.size) (hsz : vs.size = cs.size) (h1 : vs.toList.all (fun q => q.oneCell') = true)
    (h : ∀ w1 : World, Own w w1 (l.set k (g, vs, e)) → wpList P ops Q rest a w1) : wpList P ops Q (o :: rest) a W := by
  refine put HO k ho hgd hN hk hp hv ht (decide_eq_true (by show 0 + vs.size ≤ cs.size; omega)) h1 fun w1 h2 => h w1 ?_
  have : over cs 0 (Value.agg vs).cells = vs := over_whole hsz
  rw [this] at h2; exact h2
/-- A whole struct is read. -/
theorem load0 {w W : World} {l : List Row} (HO : Own w W l) (k : Nat) {t : TypeId} {p : Tmp} (ho : o.op = .load t (.tmp p)) (hgd : o.guard = none) {g : Nat} {cs : Array Value} {e : TypeId} {d : TypeDesc}
    (hk : l[k]? = some (g, cs, e)) (hp : a.eval (.tmp p) = .pointer (some ⟨g, 0, none⟩)) (hu : P.underlying t = some d) (hd : rowB d = true) (hi : (P.info? t).map (·.size) = some cs.size)
    (h : wpList P ops Q rest (a.put o.dst (.agg cs)) W) : wpList P ops Q (o :: rest) a W := Pu.x_load hgd ho hp (HO.get k hk) hu (by cases d <;> first | rfl | cases hd) hi h
theorem run_load1 {w : World} {g i : Nat} {t : TypeId} {d : TypeDesc} {v : Value} (hu : P.underlying t = some d) (hd : rowB d = false) (hc : w.cell? ⟨g, i, none⟩ = some v) : (Instr.loadAt t (.pointer (some ⟨g, i, none⟩))).run P w = .ok v w := by
  have hagg : (isAgg t).run P w = .ok false w := by
    unfold isAgg
    rw [Sem.run_bind, run_underlying hu w]
    cases d <;> simp_all [rowB]
  simp [Instr.loadAt, Instr.sureAddr, loadVar, Sem.run_bind, hagg, hc]
/-- One field is read. -/
theorem load1 {w W : World} {l : List Row} (HO : Own w W l) (k : Nat) {t : TypeId} {p : Tmp} (ho : o.op = .load t (.tmp p)) (hgd : o.guard = none) {g i : Nat} {cs : Array Value} {e : TypeId} {d : TypeDesc} {v : Value}
    (hk : l[k]? = some (g, cs, e)) (hp : a.eval (.tmp p) = .pointer (some ⟨g, i, none⟩)) (hu : P.underlying t = some d) (hd : rowB d = false) (hc : nth cs.toList i = some v)
    (h : wpList P ops Q rest (a.put o.dst v) W) : wpList P ops Q (o :: rest) a W := by
  refine Kd.event_run hgd ?_ h
  unfold execOp
  rw [ho]
  simp [hp, run_load1 hu hd (HO.cell k hk (nth_at hc))]
theorem range_load {w : World} (ty : TypeId) (b off : Nat) (cs : List Value) {d : TypeDesc} (hc : ∀ j v, cs[j]? = some v → w.cell? ⟨b, off + j, none⟩ = some v)
    (hu : P.underlying ty = some d) (hd : rowB d = true) (hi : (P.info? ty).map (·.size) = some cs.length) :
    (Instr.loadAt ty (.pointer (some ⟨b, off, none⟩))).run P w = .ok (.agg cs.toArray) w := by
  have hl : (loadCells ⟨b, off, none⟩ cs.length).run P w = .ok cs.toArray w :=
    run_loadCells_list (P := P) w ⟨b, off, none⟩ cs (fun j v hv => by
      have hadd : (⟨b, off, none⟩ : Addr).add j = ⟨b, off + j, none⟩ := by unfold Addr.add; split <;> simp_all
      rw [hadd]; exact hc j v hv)
  cases hq : P.info? ty with
  | none => simp [hq] at hi
  | some i =>
    have hs : i.size = cs.length := by simpa [hq] using hi
    have hagg : (isAgg ty).run P w = .ok true w := by
      unfold isAgg
      rw [Sem.run_bind, run_underlying hu w]
      cases d <;> simp_all [rowB]
    simp [Instr.loadAt, Instr.sureAddr, loadVar, Sem.run_bind, hagg, sizeOf, typeInfo, hq, hs, hl]
/-- A part that is a struct is read. -/
theorem loadp {w W : World} {l : List Row} (HO : Own w W l) (k : Nat) {t : TypeId} {p : Tmp} (ho : o.op = .load t (.tmp p)) (hgd : o.guard = none) {g i : Nat} (n : Nat) {cs : Array Value} {e : TypeId} {d : TypeDesc}
    (hk : l[k]? = some (g, cs, e)) (hp : a.eval (.tmp p) = .pointer (some ⟨g, i, none⟩)) (hu : P.underlying t = some d) (hd : rowB d = true) (hi : (P.info? t).map (·.size) = some n) (hn : decide (i + n ≤ cs.size) = true)
    (h : wpList P ops Q rest (a.put o.dst (.agg (part cs i n))) W) : wpList P ops Q (o :: rest) a W := by
  have hn' := of_decide_eq_true hn
  have hlen : ((cs.toList.drop i).take n).length = n := by simp; omega
  have hr := range_load (P := P) (w := W) t g i ((cs.toList.drop i).take n) (d := d) (fun j v hv => by
    have hj : j < n := by have := (List.getElem?_eq_some_iff.mp hv).1; omega
    rw [List.getElem?_take_of_lt hj, List.getElem?_drop] at hv
    exact HO.cell k hk (by simpa using hv)) hu hd (by rw [hlen]; exact hi)
  refine Kd.event_run hgd ?_ h
  unfold execOp
  rw [ho]
  simp only [hp]
  simp [hr, part]
/-- The operation reads. -/
theorem gate_load {t : TypeId} {p : Tmp} {W : World} (_ho : o.op = .load t (.tmp p)) (h : wpList P ops Q (o :: rest) a W) : wpList P ops Q (o :: rest) a W := h
/-- The operation compares structs. -/
theorem gate_eqs {b : BinOp} (_hb : b = .eql ∨ b = .neq) {t t' : TypeId} {x y : Operand} {W : World} (_ho : o.op = .binOp b t x y t') (h : wpList P ops Q (o :: rest) a W) : wpList P ops Q (o :: rest) a W := h
/-- A variable in memory begins. -/
theorem box {w W : World} {l : List Row} (hgd : o.guard = none) {N : Tmp} (hd : o.dst = some N) {cs : Array Value} {t : TypeId} (HO : Own w W l)
    (hrun : (execOp a.eval o).run P W = .ok (.value (.pointer (some ⟨W.heap.size, 0, none⟩))) (W.alloc (.cells cs t (0, 0))))
    (h : ∀ (g : Nat) (w1 : World), Aside0 (Own w w1 (l ++ [(g, cs, t)])) → wpList P ops Q rest (a.put o.dst (.pointer (some ⟨g, 0, none⟩))) w1) : wpList P ops Q (o :: rest) a W :=
  box_event hgd hd hrun fun g hg w1 hb hB => h g w1 ⟨HO.add hg hb hB⟩
theorem ev_tmp {a : Act} {n : Nat} {x : Value} (h : a.tmps.toList[n]? = some x) : a.eval (.tmp n) = x := by
  have h' : a.tmps[n]? = some x := by simpa using h
  simp [Act.eval, h']
/-- What is known of types. -/
structure Types (P : Program) (scal stru : Nat → Bool) (sz : Nat → Nat) : Prop where
  one : ∀ t, scal t = true → ∃ d, P.underlying t = some d ∧ rowB d = false
  row : ∀ t, stru t = true → ∃ d, P.underlying t = some d ∧ rowB d = true
  size : ∀ t, (scal t || stru t) = true → (P.info? t).map (·.size) = some (sz t)
/-- How structs are built. -/
structure Builds (P : Program) (bl : Nat → Bool) (zero : Nat → Array Value) (places : Nat → List (Nat × Nat)) : Prop where
  zero : ∀ t, bl t = true → (P.info? t).bind (fun i => i.zero.map (·.cells)) = some (zero t)
  place : ∀ t, bl t = true → ∃ fields : Array Field, P.underlying t = some (.struct fields) ∧ fields.toList.mapM (fun f => (P.info? f.type).map fun i => (f.offset, i.size)) = some (places t)
theorem tbuild {bl : Nat → Bool} {zero : Nat → Array Value} {places : Nat → List (Nat × Nat)} (HB : Builds P bl zero places) {W : World} {t : TypeId} {parts : Array (Nat × Operand)} {c : Array Value} (ho : o.op = .build t parts) (hgd : o.guard = none)
    (ht : bl t = true) (hf : Fills a (places t) (zero t) parts.toList c) (h : wpList P ops Q rest (a.put o.dst (.agg c)) W) : wpList P ops Q (o :: rest) a W := by
  obtain ⟨fields, hu, hp⟩ := HB.place t ht
  have hz := HB.zero t ht
  cases hi : P.info? t with
  | none => rw [hi] at hz; cases hz
  | some it =>
    rw [hi] at hz
    cases hzz : it.zero with
    | none => simp [hzz] at hz
    | some z =>
      have hzc : z.cells = zero t := by simpa [hzz] using hz
      have hb : P.built t (parts.map fun (i, x) => (i, a.eval x)).toList = some c := by
        unfold Program.built
        simp only [hi, hu, hzz, hp, hzc, Array.toList_map]
        exact hf.fill
      refine Kd.event_run hgd ?_ h
      unfold execOp
      simp only [ho, Sem.run_bind, run_build W t _ c hb, Result.andThen_ok]
      rfl
theorem gate_build {t : TypeId} {parts : Array (Nat × Operand)} {W : World} (_ho : o.op = .build t parts) (h : wpList P ops Q (o :: rest) a W) : wpList P ops Q (o :: rest) a W := h
variable {scal stru : Nat → Bool} {sz : Nat → Nat}
theorem tload1 (HT : Types P scal stru sz) {w W : World} {l : List Row} (HO : Own w W l) {t : TypeId} {p : Tmp} (ho : o.op = .load t (.tmp p)) (hgd : o.guard = none) {k g i : Nat} {cs : Array Value} {e : TypeId} {v : Value}
    (ht : scal t = true) (hp : a.eval (.tmp p) = .pointer (some ⟨g, i, none⟩)) (hk : l[k]? = some (g, cs, e)) (hc : nth cs.toList i = some v)
    (h : wpList P ops Q rest (a.put o.dst v) W) : wpList P ops Q (o :: rest) a W := by
  obtain ⟨d, hu, hd⟩ := HT.one t ht
  exact load1 HO k ho hgd hk hp hu hd hc h
theorem tload0 (HT : Types P scal stru sz) {w W : World} {l : List Row} (HO : Own w W l) {t : TypeId} {p : Tmp} (ho : o.op = .load t (.tmp p)) (hgd : o.guard = none) {k g : Nat} {cs : Array Value} {e : TypeId}
    (ht : stru t = true) (hp : a.eval (.tmp p) = .pointer (some ⟨g, 0, none⟩)) (hk : l[k]? = some (g, cs, e)) (hs : sz t = cs.size)
    (h : wpList P ops Q rest (a.put o.dst (.agg cs)) W) : wpList P ops Q (o :: rest) a W := by
  obtain ⟨d, hu, hd⟩ := HT.row t ht
  exact load0 HO k ho hgd hk hp hu hd ((HT.size t (by rw [ht, Bool.or_true])).trans (congrArg some hs)) h
theorem tloadp (HT : Types P scal stru sz) {w W : World} {l : List Row} (HO : Own w W l) {t : TypeId} {p : Tmp} (ho : o.op = .load t (.tmp p)) (hgd : o.guard = none) {k g i : Nat} {cs : Array Value} {e : TypeId}
    (ht : stru t = true) (hp : a.eval (.tmp p) = .pointer (some ⟨g, i, none⟩)) (hk : l[k]? = some (g, cs, e)) (hn : decide (i + sz t ≤ cs.size) = true)
    (h : wpList P ops Q rest (a.put o.dst (.agg (part cs i (sz t)))) W) : wpList P ops Q (o :: rest) a W := by
  obtain ⟨d, hu, hd⟩ := HT.row t ht
  exact loadp HO k ho hgd (sz t) hk hp hu hd (HT.size t (by rw [ht, Bool.or_true])) hn h
theorem tput0 (HT : Types P scal stru sz) {w W : World} {l : List Row} (HO : Own w W l) {t : TypeId} {p : Tmp} {v : Operand} (ho : o.op = .store t (.tmp p) v) (hgd : o.guard = none) (hN : o.dst = none) {k g : Nat} {cs vs : Array Value} {e : TypeId}
    (ht : stru t = true) (hp : a.eval (.tmp p) = .pointer (some ⟨g, 0, none⟩)) (hk : l[k]? = some (g, cs, e)) (hv : a.eval v = .agg vs) (hs1 : sz t = vs.size) (hsz : vs.size = cs.size) (h1 : vs.toList.all (fun q => q.oneCell') = true)
    (h : ∀ w1 : World, Aside0 (Own w w1 (l.set k (g, vs, e))) → wpList P ops Q rest a w1) : wpList P ops Q (o :: rest) a W :=
  put0 HO k ho hgd hN hk hp hv ((HT.size t (by rw [ht, Bool.or_true])).trans (congrArg some hs1)) hsz h1 fun w1 h2 => h w1 ⟨h2⟩
theorem tput (HT : Types P scal stru sz) {w W : World} {l : List Row} (HO : Own w W l) {t : TypeId} {p : Tmp} {v : Operand} (ho : o.op = .store t (.tmp p) v) (hgd : o.guard = none) (hN : o.dst = none) {k g off : Nat} {cs : Array Value} {e : TypeId} {x : Value}
    (ht : (scal t || stru t) = true) (hp : a.eval (.tmp p) = .pointer (some ⟨g, off, none⟩)) (hk : l[k]? = some (g, cs, e)) (hv : a.eval v = x) (hs1 : sz t = x.cells.size) (hsz : decide (off + x.cells.size ≤ cs.size) = true) (h1 : x.cells.toList.all (fun q => q.oneCell') = true)
    (h : ∀ w1 : World, Aside0 (Own w w1 (l.set k (g, over cs off x.cells, e))) → wpList P ops Q rest a w1) : wpList P ops Q (o :: rest) a W :=
  put HO k ho hgd hN hk hp hv ((HT.size t ht).trans (congrArg some hs1)) hsz h1 fun w1 h2 => h w1 ⟨h2⟩
end
section
variable {P : Program} {o : Oper} {a : Act} {scal stru : Nat → Bool} {sz : Nat → Nat}
theorem rload1 (HT : Types P scal stru sz) {w W : World} {l : List Row} (HO : Own w W l) {t : TypeId} {p : Tmp} (ho : o.op = .load t (.tmp p)) {k g i : Nat} {cs : Array Value} {e : TypeId} {v : Value}
    (ht : scal t = true) (hp : a.eval (.tmp p) = .pointer (some ⟨g, i, none⟩)) (hk : l[k]? = some (g, cs, e)) (hc : nth cs.toList i = some v) : (execOp a.eval o).run P W = .ok (.value v) W := by
  obtain ⟨d, hu, hd⟩ := HT.one t ht
  unfold execOp
  rw [ho]
  simp [hp, run_load1 hu hd (HO.cell k hk (nth_at hc))]
theorem rloadp (HT : Types P scal stru sz) {w W : World} {l : List Row} (HO : Own w W l) {t : TypeId} {p : Tmp} (ho : o.op = .load t (.tmp p)) {k g i : Nat} {cs : Array Value} {e : TypeId}
    (ht : stru t = true) (hp : a.eval (.tmp p) = .pointer (some ⟨g, i, none⟩)) (hk : l[k]? = some (g, cs, e)) (hn : decide (i + sz t ≤ cs.size) = true) : (execOp a.eval o).run P W = .ok (.value (.agg (part cs i (sz t)))) W := by
  obtain ⟨d, hu, hd⟩ := HT.row t ht
  have hn' := of_decide_eq_true hn
  have hlen : ((cs.toList.drop i).take (sz t)).length = sz t := by simp; omega
  have hr := range_load (P := P) (w := W) t g i ((cs.toList.drop i).take (sz t)) (d := d) (fun j v hv => by
    have hj : j < sz t := by have := (List.getElem?_eq_some_iff.mp hv).1; omega
    rw [List.getElem?_take_of_lt hj, List.getElem?_drop] at hv
    exact HO.cell k hk (by simpa using hv)) hu hd (by rw [hlen]; exact HT.size t (by rw [ht, Bool.or_true]))
  unfold execOp
  rw [ho]
  simp only [hp]
  simp [hr, part]
theorem rload0 (HT : Types P scal stru sz) {w W : World} {l : List Row} (HO : Own w W l) {t : TypeId} {p : Tmp} (ho : o.op = .load t (.tmp p)) {k g : Nat} {cs : Array Value} {e : TypeId}
    (ht : stru t = true) (hp : a.eval (.tmp p) = .pointer (some ⟨g, 0, none⟩)) (hk : l[k]? = some (g, cs, e)) (hs : sz t = cs.size) : (execOp a.eval o).run P W = .ok (.value (.agg cs)) W := by
  have h := rloadp HT HO ho ht hp hk (decide_eq_true (by omega))
  have : part cs 0 (sz t) = cs := by
    apply Array.toList_inj.mp
    rw [hs]; unfold part
    rw [List.drop_zero, ← Array.length_toList, List.take_length]
  rw [this] at h; exact h
theorem gate_eql {w : World} {r : Result Next} {b : BinOp} (_hb : b = .eql ∨ b = .neq) {t t' : TypeId} {x y : Operand} (_ho : o.op = .binOp b t x y t') (h : (execOp a.eval o).run P w = r) : (execOp a.eval o).run P w = r := h
end
section
variable {P : Program} {ops : Array Oper} {Q : Exit → Act → World → Prop}
theorem ostart {id n : Nat} {a : Act} {w W : World} {l : List Row} {ds : List Nat} (lb : Array Bool) (HO : Own w W l) (hm : P.follows .mixedOrders = true) (hn : ops.size = n) (hl : Array.replicate n false = lb)
    (h : Own w W.drew l → wpAnyLast P .any ops Q (fun w' => Own w w' l) ds n lb a W.drew) : (Code.region id ops true).wp P Q a W := start_ (S := fun w' => Own w w' l) (ds := ds) lb hm hn hl HO.drew h
end
section
variable {P : Program} {ops : Array Oper} {Q : Exit → Act → World → Prop} {scal stru : Nat → Bool} {sz : Nat → Nat}
/-- A store, one step of a region. -/
theorem oskip (HT : Types P scal stru sz) {oi : Oper} {a : Act} {w W : World} {l : List Row} {K : Act → World → Prop} (HO : Own w W l) (hw : Region.wanted oi (yielded ops a.tmps) = true) (hN : oi.dst = none) {t : TypeId} {p : Tmp} {v : Operand} (ho : oi.op = .store t (.tmp p) v)
    {k g off : Nat} {cs : Array Value} {e : TypeId} {x : Value} (ht : (scal t || stru t) = true) (hp : a.eval (.tmp p) = .pointer (some ⟨g, off, none⟩)) (hk : l[k]? = some (g, cs, e)) (hv : a.eval v = x) (hs1 : sz t = x.cells.size) (hsz : decide (off + x.cells.size ≤ cs.size) = true) (h1 : x.cells.toList.all (fun q => q.oneCell') = true)
    (h : ∀ w1 : World, Aside0 (Own w w1 (l.set k (g, over cs off x.cells, e))) → K a w1) : if Region.wanted oi (yielded ops a.tmps) = true then Oper.wp P oi a W K Q else K (a.put none undef) W := by
  have hsz' := of_decide_eq_true hsz
  have hb := HO.get k hk
  have hr := run_store_run (P := P) (w := W) (g := g) (o := off) t x x.cells.toList hb rfl (by simpa using (HT.size t ht).trans (congrArg some hs1)) (by simpa using hsz') (fun q hq => List.all_eq_true.mp h1 q hq)
  refine skip_ (w1 := W.setCells g off x.cells.toList) hw hN ?_ ?_
  · unfold execOp
    rw [ho]
    simp only [hp, hv]
    simp [hr]
  · obtain ⟨cur', h3, h4, h5⟩ := setCells_row (g := g) (e := e) x.cells.toList off W cs hb (by simpa using hsz')
    have hc : cur' = over cs off x.cells := by
      rw [over_eq hsz']
      apply Array.toList_inj.mp
      rw [h5]; simp
    subst hc
    obtain ⟨q1, q2, q3, q4⟩ := setCells_same g x.cells.toList off W
    exact h _ ⟨HO.upd k hk h3 (fun j hj => setCells_far _ off j hj) q4 q1 q2 q3⟩
theorem ostartk {id n : Nat} {a : Act} {w W : World} {l : List Row} {ds : List Nat} (ks : List Nat) (lb : Array Bool) (HO : Own w W l) (hk : ks.Nodup) (hm : P.follows .mixedOrders = true) (hn : ops.size = n) (hl : Array.replicate n false = lb)
    (h : Own w W.drew l → Own w W.drew (pickL l ks) → wpAnyLast P .any ops Q (fun w' => Own w w' (pickL l ks)) ds n lb a W.drew) : (Code.region id ops true).wp P Q a W := start_ (S := fun w' => Own w w' (pickL l ks)) (ds := ds) lb hm hn hl (HO.drew.pick ks hk) (fun hs => h HO.drew hs)
theorem ostart0 {id n : Nat} {a : Act} {w W : World} {l : List Row} {ds : List Nat} (lb : Array Bool) (HO : Own w W l) (hm : P.follows .mixedOrders = true) (hn : ops.size = n) (hl : Array.replicate n false = lb)
    (h : Own w W.drew l → wpAnyLast P .any ops Q (fun _ => True) ds n lb a W.drew) : (Code.region id ops true).wp P Q a W := start_ (S := fun _ => True) (ds := ds) lb hm hn hl trivial (fun _ => h HO.drew)
end
section
variable {P : Program} {ops : Array Oper} {rest : List Oper} {o : Oper} {a : Act} {Q : Exit → Act → World → Prop}
/-- A slice of values is built: a block of its own. -/
theorem bslice {w W : World} {l : List Row} (hgd : o.guard = none) {N : Tmp} (_hd : o.dst = some N) {cs : Array Value} {t : TypeId} {n : Nat} (HO : Own w W l)
    (hrun : (execOp a.eval o).run P W = .ok (.value (.slice (some ⟨W.heap.size, 0, none⟩) n n)) (W.alloc (.cells cs t (0, 0))))
    (h : ∀ (g : Nat) (w1 : World), Aside0 (Own w w1 (l ++ [(g, cs, t)])) → wpList P ops Q rest (a.put o.dst (.slice (some ⟨g, 0, none⟩) n n)) w1) : wpList P ops Q (o :: rest) a W :=
  Kd.event_run hgd hrun (h _ _ ⟨HO.add rfl (blk_new W _) (below_alloc (Below.refl _ _) _)⟩)
end
section
variable {P : Program} {ops : Array Oper} {rest : List Oper} {o : Oper} {a : Act} {Q : Exit → Act → World → Prop}
theorem bstrs {w W : World} {l : List Row} (hgd : o.guard = none) {N : Tmp} (_hd : o.dst = some N) {ys : List ByteArray} {cs : Array Value} {t : TypeId} {n : Nat} (HO : Own w W l)
    (hrun : (execOp a.eval o).run P W = .ok (.value (.slice (some ⟨W.heap.size, 0, none⟩) n n)) (W.alloc (.cells cs t (0, 0)))) (hn : n = ys.length) (hcs : cs = (ys.map Value.string).toArray)
    (h : ∀ (g : Nat) (w1 : World), Aside0 (Own w w1 (l ++ [(g, (ys.map Value.string).toArray, t)])) → wpList P ops Q rest (a.put o.dst (.slice (some ⟨g, 0, none⟩) ys.length ys.length)) w1) : wpList P ops Q (o :: rest) a W := by
  subst hn; subst hcs
  exact Kd.event_run hgd hrun (h _ _ ⟨HO.add rfl (blk_new W _) (below_alloc (Below.refl _ _) _)⟩)
end
theorem strs_cell {w W : World} {l : List Row} (h : Own w W l) (k : Nat) {g : Nat} {ys : List ByteArray} {t : TypeId} (hk : l[k]? = some (g, (ys.map Value.string).toArray, t)) (x : Int) (h0 : 0 ≤ x) (h1 : x < (ys.length : Int)) :
    W.cell? ⟨g, x.toNat, none⟩ = some (.string (rdOf ByteArray.empty ys x)) := by
  refine h.cell k hk ?_
  have hx : x.toNat < ys.length := by omega
  unfold rdOf
  rw [List.getElem?_toArray, List.getElem?_map, List.getD_eq_getElem?_getD, List.getElem?_eq_getElem hx]; rfl
/-- A block's place among those that are owned, found by the block's name. -/
class At (l : List Row) (g : Nat) (cs : outParam (Array Value)) (e : outParam TypeId) (k : outParam Nat) : Prop where
  it : l[k]? = some (g, cs, e)
instance At.zero {g : Nat} {cs : Array Value} {e : TypeId} {l : List Row} : At ((g, cs, e) :: l) g cs e 0 := ⟨rfl⟩
instance At.succ {x : Row} {l : List Row} {g : Nat} {cs : Array Value} {e : TypeId} {k : Nat} [h : At l g cs e k] : At (x :: l) g cs e (k + 1) := ⟨by rw [List.getElem?_cons_succ]; exact h.it⟩
section
variable {P : Program} {ops : Array Oper} {rest : List Oper} {o : Oper} {a : Act} {Q : Exit → Act → World → Prop} {scal stru : Nat → Bool} {sz : Nat → Nat}
theorem l1 (HT : Types P scal stru sz) {w W : World} {l : List Row} (HO : Own w W l) {t : TypeId} {p : Tmp} (ho : o.op = .load t (.tmp p)) (hgd : o.guard = none) {k g i : Nat} {cs : Array Value} {e : TypeId} {v : Value}
    (ht : scal t = true) (hp : a.eval (.tmp p) = .pointer (some ⟨g, i, none⟩)) [hk : At l g cs e k] (hc : nth cs.toList i = some v) (h : wpList P ops Q rest (a.put o.dst v) W) : wpList P ops Q (o :: rest) a W := tload1 HT HO ho hgd ht hp hk.it hc h
theorem l0 (HT : Types P scal stru sz) {w W : World} {l : List Row} (HO : Own w W l) {t : TypeId} {p : Tmp} (ho : o.op = .load t (.tmp p)) (hgd : o.guard = none) {k g : Nat} {cs : Array Value} {e : TypeId}
    (ht : stru t = true) (hp : a.eval (.tmp p) = .pointer (some ⟨g, 0, none⟩)) [hk : At l g cs e k] (hs : sz t = cs.size) (h : wpList P ops Q rest (a.put o.dst (.agg cs)) W) : wpList P ops Q (o :: rest) a W := tload0 HT HO ho hgd ht hp hk.it hs h
theorem lp (HT : Types P scal stru sz) {w W : World} {l : List Row} (HO : Own w W l) {t : TypeId} {p : Tmp} (ho : o.op = .load t (.tmp p)) (hgd : o.guard = none) {k g i : Nat} {cs : Array Value} {e : TypeId}
    (ht : stru t = true) (hp : a.eval (.tmp p) = .pointer (some ⟨g, i, none⟩)) [hk : At l g cs e k] (hn : decide (i + sz t ≤ cs.size) = true) (h : wpList P ops Q rest (a.put o.dst (.agg (part cs i (sz t)))) W) : wpList P ops Q (o :: rest) a W := tloadp HT HO ho hgd ht hp hk.it hn h
theorem s0 (HT : Types P scal stru sz) {w W : World} {l : List Row} (HO : Own w W l) {t : TypeId} {p : Tmp} {v : Operand} (ho : o.op = .store t (.tmp p) v) (hgd : o.guard = none) (hN : o.dst = none) {k g : Nat} {cs vs : Array Value} {e : TypeId}
    (ht : stru t = true) (hp : a.eval (.tmp p) = .pointer (some ⟨g, 0, none⟩)) [hk : At l g cs e k] (hv : a.eval v = .agg vs) (hs : sz t = vs.size ∧ vs.size = cs.size ∧ vs.toList.all (fun q => q.oneCell') = true)
    (h : ∀ w1 : World, Aside0 (Own w w1 (l.set k (g, vs, e))) → wpList P ops Q rest a w1) : wpList P ops Q (o :: rest) a W := tput0 HT HO ho hgd hN ht hp hk.it hv hs.1 hs.2.1 hs.2.2 h
theorem sp (HT : Types P scal stru sz) {w W : World} {l : List Row} (HO : Own w W l) {t : TypeId} {p : Tmp} {v : Operand} (ho : o.op = .store t (.tmp p) v) (hgd : o.guard = none) (hN : o.dst = none) {k g off : Nat} {cs : Array Value} {e : TypeId} {x : Value}
    (ht : (scal t || stru t) = true) (hp : a.eval (.tmp p) = .pointer (some ⟨g, off, none⟩)) [hk : At l g cs e k] (hv : a.eval v = x) (hs : sz t = x.cells.size ∧ decide (off + x.cells.size ≤ cs.size) = true ∧ x.cells.toList.all (fun q => q.oneCell') = true)
    (h : ∀ w1 : World, Aside0 (Own w w1 (l.set k (g, over cs off x.cells, e))) → wpList P ops Q rest a w1) : wpList P ops Q (o :: rest) a W := tput HT HO ho hgd hN ht hp hk.it hv hs.1 hs.2.1 hs.2.2 h
theorem Fills.c {a : Act} {ps : List (Nat × Nat)} {z c : Array Value} {i off n : Nat} {x : Operand} {v : Value} {r : List (Nat × Operand)} (hv : a.eval x = v) (hp : ps[i]? = some (off, n)) (hz : n = v.cells.size ∧ decide (off + n ≤ z.size) = true) (h : Fills a ps (over z off v.cells) r c) : Fills a ps z ((i, x) :: r) c := .cons hv hp hz.1 hz.2 h
end
theorem at0 {x0 : Row} {l : List Row} : (x0 :: l)[0]? = some x0 := rfl
theorem at1 {x0 x1 : Row} {l : List Row} : (x0 :: x1 :: l)[1]? = some x1 := rfl
theorem at2 {x0 x1 x2 : Row} {l : List Row} : (x0 :: x1 :: x2 :: l)[2]? = some x2 := rfl
theorem at3 {x0 x1 x2 x3 : Row} {l : List Row} : (x0 :: x1 :: x2 :: x3 :: l)[3]? = some x3 := rfl
theorem at4 {x0 x1 x2 x3 x4 : Row} {l : List Row} : (x0 :: x1 :: x2 :: x3 :: x4 :: l)[4]? = some x4 := rfl
theorem at5 {x0 x1 x2 x3 x4 x5 : Row} {l : List Row} : (x0 :: x1 :: x2 :: x3 :: x4 :: x5 :: l)[5]? = some x5 := rfl
theorem at6 {x0 x1 x2 x3 x4 x5 x6 : Row} {l : List Row} : (x0 :: x1 :: x2 :: x3 :: x4 :: x5 :: x6 :: l)[6]? = some x6 := rfl
theorem at7 {x0 x1 x2 x3 x4 x5 x6 x7 : Row} {l : List Row} : (x0 :: x1 :: x2 :: x3 :: x4 :: x5 :: x6 :: x7 :: l)[7]? = some x7 := rfl
theorem at8 {x0 x1 x2 x3 x4 x5 x6 x7 x8 : Row} {l : List Row} : (x0 :: x1 :: x2 :: x3 :: x4 :: x5 :: x6 :: x7 :: x8 :: l)[8]? = some x8 := rfl
theorem at9 {x0 x1 x2 x3 x4 x5 x6 x7 x8 x9 : Row} {l : List Row} : (x0 :: x1 :: x2 :: x3 :: x4 :: x5 :: x6 :: x7 :: x8 :: x9 :: l)[9]? = some x9 := rfl
/-- Fields of structs: where each lies, and what it is. -/
structure Flds (P : Program) (fo : Nat → Nat → Option (Nat × Nat)) (scal stru : Nat → Bool) : Prop where
  it : ∀ t i off ft, fo t i = some (off, ft) → (scal ft || stru ft) = true ∧ ∃ (fields : Array Field) (f : Field), P.underlying t = some (.struct fields) ∧ fields[i]? = some f ∧ f.offset = off ∧ f.type = ft
section
variable {P : Program} {ops : Array Oper} {rest : List Oper} {o : Oper} {a : Act} {Q : Exit → Act → World → Prop} {scal stru : Nat → Bool} {sz : Nat → Nat} {fo : Nat → Nat → Option (Nat × Nat)}
theorem gate_field {t : TypeId} {x : Operand} {i : Nat} {W : World} (_ho : o.op = .field t x i) (h : wpList P ops Q (o :: rest) a W) : wpList P ops Q (o :: rest) a W := h
theorem f1 (HF : Flds P fo scal stru) (HT : Types P scal stru sz) {W : World} {t i : Nat} {x : Operand} (ho : o.op = .field t x i) (hgd : o.guard = none) {off ft : Nat} {cs : Array Value} {v : Value}
    (hf : fo t i = some (off, ft)) (hs : scal ft = true) (hx : a.eval x = .agg cs) (hc : nth cs.toList off = some v) (h : wpList P ops Q rest (a.put o.dst v) W) : wpList P ops Q (o :: rest) a W := by
  obtain ⟨_, fields, f, hu, hfi, ho1, ht1⟩ := HF.it t i off ft hf
  obtain ⟨d, hd, hr⟩ := HT.one ft hs
  have hi : (isAgg ft).run P W = .ok false W := by
    unfold isAgg
    rw [Sem.run_bind, run_underlying hd W]
    cases d <;> simp_all [rowB]
  have hcc := nth_at hc
  subst ho1; subst ht1
  have hrun : (Instr.field t (.agg cs) i).run P W = .ok v W := by
    unfold Instr.field
    rw [Sem.run_bind, run_underlying hu W]
    simp [hfi, asAgg, Go.part, Sem.run_bind, hi, hcc]
  refine Kd.event_run hgd ?_ h
  unfold execOp
  rw [ho]
  simp [hx, hrun]
theorem fS (HF : Flds P fo scal stru) (HT : Types P scal stru sz) {W : World} {t i : Nat} {x : Operand} (ho : o.op = .field t x i) (hgd : o.guard = none) {off ft : Nat} {cs : Array Value}
    (hf : fo t i = some (off, ft)) (hs : stru ft = true) (hx : a.eval x = .agg cs) (h : wpList P ops Q rest (a.put o.dst (.agg (part cs off (sz ft)))) W) : wpList P ops Q (o :: rest) a W := by
  obtain ⟨_, fields, f, hu, hfi, ho1, ht1⟩ := HF.it t i off ft hf
  obtain ⟨d, hd, hr⟩ := HT.row ft hs
  have hi : (isAgg ft).run P W = .ok true W := by
    unfold isAgg
    rw [Sem.run_bind, run_underlying hd W]
    cases d <;> simp_all [rowB]
  have hz := HT.size ft (by rw [hs, Bool.or_true])
  subst ho1; subst ht1
  cases hq : P.info? f.type with
  | none => simp [hq] at hz
  | some it =>
    have hsz : it.size = sz f.type := by simpa [hq] using hz
    have hp : cs.extract f.offset (f.offset + sz f.type) = part cs f.offset (sz f.type) := by
      apply Array.toList_inj.mp
      simp [part, List.take_drop]
    have hrun : (Instr.field t (.agg cs) i).run P W = .ok (.agg (part cs f.offset (sz f.type))) W := by
      unfold Instr.field
      rw [Sem.run_bind, run_underlying hu W]
      simp [hfi, asAgg, Go.part, Sem.run_bind, hi, sizeOf, typeInfo, hq, hsz, hp]
    refine Kd.event_run hgd ?_ h
    unfold execOp
    rw [ho]
    simp [hx, hrun]
end
section
variable {P : Program} {ops : Array Oper} {Q : Exit → Act → World → Prop} {md : Region.Mode} {S : World → Prop} {ds : List Nat} {T : Bool × List (List Nat × List Nat)}
/-- An operation that yields in every world, taken. -/
theorem pu {i : Nat} {N : Option Tmp} {oi : Oper} {v : Value} {fuel : Nat} {l : Array Bool} {a : Act} {w : World} (l' : Array Bool) (hT : rtab md ops = T) {a' : Act} (hv : ∀ w', (execOp a.eval oi).run P w' = .ok (.value v) w') (ha : a.put N v = a')
    (h : wpAnyLast P md ops Q S ds fuel l' a' w) (hc : anyT T l.toList l'.toList i = true := by kernel_rfl) (hi : ops[i]? = some oi := by rfl) (hN : oi.dst = N := by rfl)
    (hQ : ∀ c a w, Q (.panic c) (a.put oi.dst v) w → Q (.panic c) a w := by exact fun _ _ _ h => h) (hw : Region.wanted oi (yielded ops a.tmps) = true := by rfl) : wpAnyLast P md ops Q S ds (fuel + 1) l a w :=
  pure_ l' hi hN (any_of hT hc) hQ (Or.inl ⟨hw, hv⟩) ha h
/-- An operation that isn't wanted, taken. -/
theorem pk {i : Nat} {N : Option Tmp} {oi : Oper} {fuel : Nat} {l : Array Bool} {a : Act} {w : World} (l' : Array Bool) (hT : rtab md ops = T) {a' : Act} (ha : a.put N undef = a')
    (h : wpAnyLast P md ops Q S ds fuel l' a' w) (hc : anyT T l.toList l'.toList i = true := by kernel_rfl) (hi : ops[i]? = some oi := by rfl) (hN : oi.dst = N := by rfl)
    (hQ : ∀ c a w, Q (.panic c) (a.put oi.dst undef) w → Q (.panic c) a w := by exact fun _ _ _ h => h) (hw : Region.wanted oi (yielded ops a.tmps) = false := by rfl) : wpAnyLast P md ops Q S ds (fuel + 1) l a w :=
  pure_ l' hi hN (any_of hT hc) hQ (Or.inr ⟨hw, rfl⟩) ha h
/-- How a slot is written. -/
theorem Sl : (∀ (a : Act) (d : Tmp) (v : Value), a.put (some d) v = { a with tmps := a.tmps.setIfInBounds d v }) ∧ (∀ (a : Act) (v : Value), a.put none v = a) ∧ (∀ (l : List Value) (i : Nat) (v : Value), l.toArray.setIfInBounds i v = (l.set i v).toArray) ∧ (∀ (x : Value) (l : List Value) (v : Value), (x :: l).set 0 v = v :: l) ∧ (∀ (x : Value) (l : List Value) (n : Nat) (v : Value), (x :: l).set (n + 1) v = x :: l.set n v) :=
  ⟨fun _ _ _ => rfl, fun _ _ => rfl, fun _ _ _ => by simp, fun _ _ _ => rfl, fun _ _ _ _ => rfl⟩
end
section
variable {P : Program} {o : Oper} {a : Act} {scal stru : Nat → Bool} {sz : Nat → Nat}
theorem r1 (HT : Types P scal stru sz) {w W : World} {l : List Row} (HO : Own w W l) {t : TypeId} {p : Tmp} (ho : o.op = .load t (.tmp p)) {k g i : Nat} {cs : Array Value} {e : TypeId} {v : Value}
    (ht : scal t = true) (hp : a.eval (.tmp p) = .pointer (some ⟨g, i, none⟩)) [hk : At l g cs e k] (hc : nth cs.toList i = some v) : (execOp a.eval o).run P W = .ok (.value v) W := rload1 HT HO ho ht hp hk.it hc
theorem rp (HT : Types P scal stru sz) {w W : World} {l : List Row} (HO : Own w W l) {t : TypeId} {p : Tmp} (ho : o.op = .load t (.tmp p)) {k g i : Nat} {cs : Array Value} {e : TypeId}
    (ht : stru t = true) (hp : a.eval (.tmp p) = .pointer (some ⟨g, i, none⟩)) [hk : At l g cs e k] (hn : decide (i + sz t ≤ cs.size) = true) : (execOp a.eval o).run P W = .ok (.value (.agg (part cs i (sz t)))) W := rloadp HT HO ho ht hp hk.it hn
theorem r0 (HT : Types P scal stru sz) {w W : World} {l : List Row} (HO : Own w W l) {t : TypeId} {p : Tmp} (ho : o.op = .load t (.tmp p)) {k g : Nat} {cs : Array Value} {e : TypeId}
    (ht : stru t = true) (hp : a.eval (.tmp p) = .pointer (some ⟨g, 0, none⟩)) [hk : At l g cs e k] (hs : sz t = cs.size) : (execOp a.eval o).run P W = .ok (.value (.agg cs)) W := rload0 HT HO ho ht hp hk.it hs
end
end Go.Proofs.Ytmdpomilhejbcaa.Ow
