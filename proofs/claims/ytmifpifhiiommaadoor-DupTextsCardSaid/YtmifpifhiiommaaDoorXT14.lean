-- Written by wip/xprint.py, a session's program: printed out of the translation, with hand-written functions. Lean checks it.
import Derived.Test.YtmifpifhiiommaaDoorXT0
import Derived.Test.YtmifpifhiiommaaDoorXT4
import Derived.Test.YtmifpifhiiommaaDoorXT13
namespace Go.Proofs.YtmifpifhiiommaaDoor.XT
open Go.RowKit Go.Proofs.YtmifpifhiiommaaDoorW.PrintWords Go.Proofs.YtmifpifhiiommaaDoorW.PrintLast Go.Proofs.YtmifpifhiiommaaDoorW.PrintMore
attribute [local go_sem] max2_int min2_int max_two min_two max_three min_three max_four min_four   -- for this text's walks alone
set_option linter.unusedVariables false
set_option linter.unusedSimpArgs false

/-! ### dup_May: function 27 -/
section
open Go.Maps Go.WideMaps
def hasK (ks : List ByteArray) (k : ByteArray) : Bool := ks.any fun y => y.toList == k.toList
theorem hasK_cons (y : ByteArray) (ks : List ByteArray) (k : ByteArray) : hasK (y :: ks) k = (y.toList == k.toList || hasK ks k) := rfl
/-- Block mb is a set of the texts ks, of at most n entries. -/
def MState (w : World) (mb n : Nat) (ks : List ByteArray) : Prop :=
  ∃ D : DataW Unit, w.ownsMap Tryd.prog 9 (plainElem Tryd.prog 4) mb n D ∧ ∀ k : ByteArray, D.atKey (.string k.data.toList) (.lit (.bool false)) = .lit (.bool (hasK ks k))
set_option maxRecDepth 100000 in
theorem elem_bool_inv {v : Value} {b : Bool} {ps : List MemPlace} (h : plainElem (H := Unit) Tryd.prog 4 v = some (.lit (.bool b), ps)) : v = .bool b := by
  unfold plainElem at h
  rw [Tryd.underlying4] at h
  cases v <;> simp at h
  rw [h.1]
theorem MState.made (w : World) : MState (w.alloc (.map #[] 0)) w.heap.size 0 [] := ⟨_, World.ownsMap_made _ _ _ _, fun k => rfl⟩
theorem MState.kept {w w' : World} {mb n : Nat} {ks : List ByteArray} {row : Option Nat} (h : MState w mb n ks) (hg : w.grownBy w' row) (hne : some mb ≠ row) : MState w' mb n ks := by
  obtain ⟨D, h1, h2⟩ := h
  exact ⟨D, h1.kept hg hne, h2⟩
set_option maxRecDepth 100000 in
theorem MState.look {w : World} {mb n : Nat} {ks : List ByteArray} (h : MState w mb n ks) (k : ByteArray) (hk : k.size ≤ maxLen) :
    (Instr.lookup 78 (.map (some mb)) (.string k) false).run Tryd.prog w = .ok (.bool (hasK ks k)) w := by
  obtain ⟨D, h1, h2⟩ := h
  obtain ⟨v, ps, hr, hv⟩ := h1.lookup (string_keyed Tryd.underlying9) Tryd.underlying78 (Tryd.zeroValue4 w) (plainElem_bool Tryd.underlying4 false) (keyOf_string_mk Tryd.underlying9 hk)
  rw [h2 k] at hv
  rw [hr, elem_bool_inv hv]
set_option maxRecDepth 100000 in
theorem MState.put {w : World} {mb n : Nat} {ks : List ByteArray} (h : MState w mb n ks) (k : ByteArray) (hk : k.size ≤ maxLen) (hn : n < maxLen) :
    ∃ w', (Instr.mapUpdate 78 (.map (some mb)) (.string k) (.bool true)).run Tryd.prog w = .ok () w' ∧ MState w' mb (n + 1) (k :: ks) ∧ w.grownBy w' (some mb) := by
  obtain ⟨D, h1, h2⟩ := h
  have hD : IsMap D := by obtain ⟨es, cl, _, _, _, rfl⟩ := h1; exact ⟨_, rfl⟩
  obtain ⟨w', hr, ho, hg⟩ := h1.update (string_keyed Tryd.underlying9) Tryd.underlying78 hn (keyOf_string_mk Tryd.underlying9 hk) (plainElem_bool Tryd.underlying4 true)
  refine ⟨w', hr, ⟨_, ho, fun k' => ?_⟩, hg⟩
  by_cases e : k' = k
  · subst e
    rw [atKey_put_same hD (by trivial), hasK_cons, beq_self_eq_true]; rfl
  · rw [atKey_put_other (fun h => e (by injection h with h; exact Pu.ba_ext h)), h2 k', hasK_cons, beq_eq_false_iff_ne.mpr (fun h => e (Pu.toList_inj.mp h).symm), Bool.false_or]
theorem MState.drewN_put {w : World} {mb n : Nat} {ks : List ByteArray} (h : MState w mb n ks) (k : ByteArray) (hk : k.size ≤ maxLen) (hn : n < maxLen) :
    ∃ w', (Instr.mapUpdate 78 (.map (some mb)) (.string k) (.bool true)).run Tryd.prog w.drew = .ok () w' ∧ MState w' mb (n + 1) (k :: ks) ∧ w.grownBy w' (some mb) := by
  obtain ⟨w', a, b, c⟩ := MState.put (w := w.drew) h k hk hn
  exact ⟨w', a, b, c.1, c.2, c.3, c.4, c.5⟩
/-- What the closure of dup.May captures: met lies in block mb, last in block lb. -/
def MayAt (w : World) (M L mb n : Nat) (ks : List ByteArray) (last : Int) : Prop :=
  w.heap[M]? = some (.cells #[.map (some mb)] 78 (0, 0)) ∧ w.heap[L]? = some (.cells #[.int .i64 last] 3 (0, 0)) ∧ MState w mb n ks
def MayKept (a b : World) (mb L : Nat) : Prop := b.os = a.os ∧ b.tape = a.tape ∧ b.output = a.output ∧ a.heap.size ≤ b.heap.size ∧ ∀ j, j < a.heap.size → j ≠ mb → j ≠ L → b.heap[j]? = a.heap[j]?
theorem MState.below {w w' : World} {mb n : Nat} {ks : List ByteArray} (h : MState w mb n ks) (hb : Below w.heap.size w w') : MState w' mb n ks := by
  obtain ⟨D, ⟨es, cl, h1, h2⟩, h3⟩ := h
  exact ⟨D, ⟨es, cl, (hb.block mb (blk_lt h1)).trans h1, h2⟩, h3⟩
theorem MayKept.below {a b c : World} {mb L : Nat} (h : MayKept a b mb L) (hb : Below b.heap.size b c) : MayKept a c mb L :=
  ⟨hb.os.trans h.1, hb.tape.trans h.2.1, hb.output.trans h.2.2.1, Nat.le_trans h.2.2.2.1 hb.size, fun j hj h1 h2 => (hb.block j (Nat.lt_of_lt_of_le hj h.2.2.2.1)).trans (h.2.2.2.2 j hj h1 h2)⟩
set_option maxHeartbeats 4000000 in
theorem may_pred (x : S23) (W : World) (M L mb n : Nat) (ks : List ByteArray) (last : Int) (hx : x.f1.size ≤ maxLen) (hn : n < maxLen) (hM : MayAt W M L mb n ks last) :
    Calls Tryd.prog 45 (#[enc24 x] ++ #[.pointer (some ⟨M, 0, none⟩), .pointer (some ⟨L, 0, none⟩)]) W fun e w' => e = .returned (.bool ((hasK ks x.f1 || decide (x.f0 ≤ last)) || !Dp.oneB x.f0 x.f1 x.f2 x.f3 x.f4)) ∧
      MayAt w' M L mb (n + 1) (x.f1 :: ks) x.f0 ∧ MayKept W w' mb L := by
  show Calls Tryd.prog 45 #[.agg #[.int .i64 x.f0, .string x.f1, .string x.f2, .string x.f3, .int .i64 x.f4], .pointer (some ⟨M, 0, none⟩), .pointer (some ⟨L, 0, none⟩)] W _
  obtain ⟨hM, hL, hS⟩ := hM
  have hMl := blk_lt hM
  have hLl := blk_lt hL
  have hml : mb < W.heap.size := by obtain ⟨D, h1, _⟩ := hS; exact h1.lt
  have hLm : L ≠ mb := by rintro rfl; obtain ⟨D, ⟨es, cl, hb, _⟩, _⟩ := hS; rw [hL] at hb; cases hb
  have hMm : M ≠ mb := by rintro rfl; obtain ⟨D, ⟨es, cl, hb, _⟩, _⟩ := hS; rw [hM] at hb; cases hb
  have hML : M ≠ L := by rintro rfl; rw [hM] at hL; cases hL
  go_enter Tryd.func45, Tryd.ntmps45
  go_upto_region 1 with fail
  have hS1 := hS.kept (World.grownBy_alloc W (.cells #[.int .i64 x.f0, .string x.f1, .string x.f2, .string x.f3, .int .i64 x.f4] 23 (0, 0)) none) (by simp)
  have hM1 := blk_alloc hM (.cells #[.int .i64 x.f0, .string x.f1, .string x.f2, .string x.f3, .int .i64 x.f4] 23 (0, 0))
  have hL1 := blk_alloc hL (.cells #[.int .i64 x.f0, .string x.f1, .string x.f2, .string x.f3, .int .i64 x.f4] 23 (0, 0))
  have hX1 := blk_new W (.cells #[.int .i64 x.f0, .string x.f1, .string x.f2, .string x.f3, .int .i64 x.f4] 23 (0, 0))
  have hB1 := (Below.refl W.heap.size W).alloc (Nat.le_refl _) (.cells #[.int .i64 x.f0, .string x.f1, .string x.f2, .string x.f3, .int .i64 x.f4] 23 (0, 0))
  generalize W.alloc (.cells #[.int .i64 x.f0, .string x.f1, .string x.f2, .string x.f3, .int .i64 x.f4] 23 (0, 0)) = w1 at hS1 hM1 hL1 hX1 hB1 ⊢
  have hXl := blk_lt hX1
  have hlook := hS1.look x.f1 hx
  obtain ⟨w2, hput, hS2, hg2⟩ := hS1.drewN_put x.f1 hx hn
  have hM2 := blk_grown hM1 hg2 (by simp; omega)
  have hL2 := blk_grown hL1 hg2 (by simp; omega)
  have hX2 := blk_grown hX1 hg2 (by simp; omega)
  have hcM : w1.cell? ⟨M, 0, none⟩ = some (.map (some mb)) := (blk_cell hM1 0).trans rfl
  have hcL : w1.cell? ⟨L, 0, none⟩ = some (.int .i64 last) := (blk_cell hL1 0).trans rfl
  obtain ⟨hc0, hc1, hc2, hc3, hc4, -, -, -, -, -⟩ := open5 hX1
  have hdM : w2.cell? ⟨M, 0, none⟩ = some (.map (some mb)) := (blk_cell hM2 0).trans rfl
  have hdL : w2.cell? ⟨L, 0, none⟩ = some (.int .i64 last) := (blk_cell hL2 0).trans rfl
  have hfL := blk_frozen hL2 0
  obtain ⟨hd0, hd1, hd2, hd3, hd4, -, -, -, -, -⟩ := open5 hX2
  obtain ⟨bk, hbk⟩ : ∃ b, b = hasK ks x.f1 := ⟨_, rfl⟩
  rw [← hbk] at hlook
  have HBK := Lib.hid hbk
  have HS2 := Lib.hid hS2
  have HG2 := Lib.hid hg2
  have HM2 := Lib.hid hM2
  have HL2 := Lib.hid hL2
  have HX2 := Lib.hid hX2
  have HB1 := Lib.hid hB1
  clear hS hS1 hM1 hL1 hX1 hM2 hL2 hX2 hg2 hS2 hM hL hbk hB1
  cases bk with
  | true =>
    go_upto_region 2 with fail
    go_region
    have hM3 := (Below.heap_setCell w2 ⟨L, 0, none⟩ (.int .i64 x.f0) M hML).trans HM2.out
    have hL3 : (w2.setCell ⟨L, 0, none⟩ (.int .i64 x.f0)).heap[L]? = some (.cells #[.int .i64 x.f0] 3 (0, 0)) := blk_put HL2.out 0 _ rfl
    have hX3 := (Below.heap_setCell w2 ⟨L, 0, none⟩ (.int .i64 x.f0) W.heap.size (by show W.heap.size ≠ L; omega)).trans HX2.out
    have hS3 : MState (w2.setCell ⟨L, 0, none⟩ (.int .i64 x.f0)) mb (n + 1) (x.f1 :: ks) := by
      obtain ⟨D, ⟨es, cl, h1, h2⟩, h3⟩ := HS2.out
      exact ⟨D, ⟨es, cl, (Below.heap_setCell w2 _ _ mb (by show mb ≠ L; omega)).trans h1, h2⟩, h3⟩
    have hK3 : MayKept W (w2.setCell ⟨L, 0, none⟩ (.int .i64 x.f0)) mb L := by
      have hb := HB1.out; have hg := HG2.out
      refine ⟨hg.os.trans hb.os, hg.tape.trans hb.tape, hg.output.trans hb.output, ?_, fun j hj h1 h2 => ?_⟩
      · have := hg.size; have := hb.size
        show W.heap.size ≤ (w2.setCell _ _).heap.size
        rw [show (w2.setCell ⟨L, 0, none⟩ (.int .i64 x.f0)).heap.size = w2.heap.size by simp [World.setCell]]; omega
      · exact (Below.heap_setCell w2 _ _ j h2).trans ((hg.block j (by have := hb.size; omega) (by simpa using h1)).trans (hb.block j hj))
    generalize w2.setCell ⟨L, 0, none⟩ (.int .i64 x.f0) = w3 at hM3 hL3 hX3 hS3 hK3 ⊢
    obtain ⟨he0, he1, he2, he3, he4, -, -, -, -, -⟩ := open5 hX3
    have HM3 := Lib.hid hM3
    have HL3 := Lib.hid hL3
    have HS3 := Lib.hid hS3
    have HK3 := Lib.hid hK3
    clear hM3 hL3 hX3 hS3 hK3 hput hlook hcM hcL hc0 hc1 hc2 hc3 hc4 hdM hdL hfL hd0 hd1 hd2 hd3 hd4
    go_wp2
    go_ret
    exact ⟨by rw [← HBK.out]; simp, ⟨HM3.out, HL3.out, HS3.out⟩, HK3.out⟩
  | false =>
    by_cases hle : x.f0 ≤ last
    · go_upto_region 2 with fail
      go_region
      have hM3 := (Below.heap_setCell w2 ⟨L, 0, none⟩ (.int .i64 x.f0) M hML).trans HM2.out
      have hL3 : (w2.setCell ⟨L, 0, none⟩ (.int .i64 x.f0)).heap[L]? = some (.cells #[.int .i64 x.f0] 3 (0, 0)) := blk_put HL2.out 0 _ rfl
      have hX3 := (Below.heap_setCell w2 ⟨L, 0, none⟩ (.int .i64 x.f0) W.heap.size (by show W.heap.size ≠ L; omega)).trans HX2.out
      have hS3 : MState (w2.setCell ⟨L, 0, none⟩ (.int .i64 x.f0)) mb (n + 1) (x.f1 :: ks) := by
        obtain ⟨D, ⟨es, cl, h1, h2⟩, h3⟩ := HS2.out
        exact ⟨D, ⟨es, cl, (Below.heap_setCell w2 _ _ mb (by show mb ≠ L; omega)).trans h1, h2⟩, h3⟩
      have hK3 : MayKept W (w2.setCell ⟨L, 0, none⟩ (.int .i64 x.f0)) mb L := by
        have hb := HB1.out; have hg := HG2.out
        refine ⟨hg.os.trans hb.os, hg.tape.trans hb.tape, hg.output.trans hb.output, ?_, fun j hj h1 h2 => ?_⟩
        · have := hg.size; have := hb.size
          show W.heap.size ≤ (w2.setCell _ _).heap.size
          rw [show (w2.setCell ⟨L, 0, none⟩ (.int .i64 x.f0)).heap.size = w2.heap.size by simp [World.setCell]]; omega
        · exact (Below.heap_setCell w2 _ _ j h2).trans ((hg.block j (by have := hb.size; omega) (by simpa using h1)).trans (hb.block j hj))
      generalize w2.setCell ⟨L, 0, none⟩ (.int .i64 x.f0) = w3 at hM3 hL3 hX3 hS3 hK3 ⊢
      obtain ⟨he0, he1, he2, he3, he4, -, -, -, -, -⟩ := open5 hX3
      have HM3 := Lib.hid hM3
      have HL3 := Lib.hid hL3
      have HS3 := Lib.hid hS3
      have HK3 := Lib.hid hK3
      clear hM3 hL3 hX3 hS3 hK3 hput hlook hcM hcL hc0 hc1 hc2 hc3 hc4 hdM hdL hfL hd0 hd1 hd2 hd3 hd4
      go_wp2
      go_ret
      exact ⟨by rw [← HBK.out, decide_eq_true hle]; simp, ⟨HM3.out, HL3.out, HS3.out⟩, HK3.out⟩
    · go_upto_region 2 with fail
      go_region
      have hM3 := (Below.heap_setCell w2 ⟨L, 0, none⟩ (.int .i64 x.f0) M hML).trans HM2.out
      have hL3 : (w2.setCell ⟨L, 0, none⟩ (.int .i64 x.f0)).heap[L]? = some (.cells #[.int .i64 x.f0] 3 (0, 0)) := blk_put HL2.out 0 _ rfl
      have hX3 := (Below.heap_setCell w2 ⟨L, 0, none⟩ (.int .i64 x.f0) W.heap.size (by show W.heap.size ≠ L; omega)).trans HX2.out
      have hS3 : MState (w2.setCell ⟨L, 0, none⟩ (.int .i64 x.f0)) mb (n + 1) (x.f1 :: ks) := by
        obtain ⟨D, ⟨es, cl, h1, h2⟩, h3⟩ := HS2.out
        exact ⟨D, ⟨es, cl, (Below.heap_setCell w2 _ _ mb (by show mb ≠ L; omega)).trans h1, h2⟩, h3⟩
      have hK3 : MayKept W (w2.setCell ⟨L, 0, none⟩ (.int .i64 x.f0)) mb L := by
        have hb := HB1.out; have hg := HG2.out
        refine ⟨hg.os.trans hb.os, hg.tape.trans hb.tape, hg.output.trans hb.output, ?_, fun j hj h1 h2 => ?_⟩
        · have := hg.size; have := hb.size
          show W.heap.size ≤ (w2.setCell _ _).heap.size
          rw [show (w2.setCell ⟨L, 0, none⟩ (.int .i64 x.f0)).heap.size = w2.heap.size by simp [World.setCell]]; omega
        · exact (Below.heap_setCell w2 _ _ j h2).trans ((hg.block j (by have := hb.size; omega) (by simpa using h1)).trans (hb.block j hj))
      generalize w2.setCell ⟨L, 0, none⟩ (.int .i64 x.f0) = w3 at hM3 hL3 hX3 hS3 hK3 ⊢
      obtain ⟨he0, he1, he2, he3, he4, -, -, -, -, -⟩ := open5 hX3
      have HM3 := Lib.hid hM3
      have HL3 := Lib.hid hL3
      have HS3 := Lib.hid hS3
      have HK3 := Lib.hid hK3
      clear hM3 hL3 hX3 hS3 hK3 hput hlook hcM hcL hc0 hc1 hc2 hc3 hc4 hdM hdL hfL hd0 hd1 hd2 hd3 hd4
      have hmay := dup_may.calls x.f0 x.f1 x.f2 x.f3 x.f4 _ w3 rfl
      obtain ⟨ob, hob⟩ : ∃ ob, ob = Dp.oneB x.f0 x.f1 x.f2 x.f3 x.f4 := ⟨_, rfl⟩
      rw [← hob] at hmay
      have HOB := Lib.hid hob
      clear hob
      go_wp2_with (go_at_call 13; refine hmay.mono ?_; rintro e w4 ⟨rfl, hb4⟩)
      go_ret
      have hMl3 := blk_lt HM3.out
      have hLl3 := blk_lt HL3.out
      refine ⟨by rw [← HBK.out, decide_eq_false (by omega : ¬ x.f0 ≤ last), ← HOB.out]; simp, ⟨blk_below HM3.out hb4, blk_below HL3.out hb4, HS3.out.below hb4⟩, HK3.out.below hb4⟩
def dup_walk : List ByteArray → Int → List S23 → Bool
  | _, _, [] => true
  | ks, n, x :: r => !((hasK ks x.f1 || decide (x.f0 ≤ n)) || !Dp.oneB x.f0 x.f1 x.f2 x.f3 x.f4) && dup_walk (x.f1 :: ks) x.f0 r
def dup_mayL (l : List S23) : Bool := decide (l.length ≤ 100) && dup_walk [] 0 l
def dup_st : List ByteArray → Int → List S23 → Nat → List ByteArray × Int
  | ks, n, _, 0 => (ks, n)
  | ks, n, [], _ + 1 => (ks, n)
  | ks, _, x :: r, k + 1 => dup_st (x.f1 :: ks) x.f0 r k
theorem dup_st_next : ∀ (l : List S23) (ks : List ByteArray) (n : Int) (k : Nat), k < l.length → dup_st ks n l (k + 1) = ((rd_T23 l k).f1 :: (dup_st ks n l k).1, (rd_T23 l k).f0)
  | [], _, _, _, h => absurd h (Nat.not_lt_zero _)
  | x :: r, ks, n, 0, _ => by cases r <;> rfl
  | x :: r, ks, n, k + 1, h => by
    have h2 : k < r.length := by simpa using h
    have e : rd_T23 (x :: r) ((k + 1 : Nat) : Int) = rd_T23 r (k : Int) := by
      rw [rd_get _ _ h, rd_get _ _ h2]; rfl
    rw [e]
    exact dup_st_next r (x.f1 :: ks) x.f0 k h2
def dup_bad (ks : List ByteArray) (n : Int) (l : List S23) (k : Nat) : Bool :=
  (hasK (dup_st ks n l k).1 (rd_T23 l k).f1 || decide ((rd_T23 l k).f0 ≤ (dup_st ks n l k).2)) || !Dp.oneB (rd_T23 l k).f0 (rd_T23 l k).f1 (rd_T23 l k).f2 (rd_T23 l k).f3 (rd_T23 l k).f4
theorem dup_bad_cons (ks : List ByteArray) (n : Int) (x : S23) (r : List S23) (k : Nat) (h : k < r.length) : dup_bad ks n (x :: r) (k + 1) = dup_bad (x.f1 :: ks) x.f0 r k := by
  unfold dup_bad
  have e : rd_T23 (x :: r) ((k + 1 : Nat) : Int) = rd_T23 r (k : Int) := by
    rw [rd_get _ _ (by simpa using h), rd_get _ _ h]; rfl
  rw [e]; rfl
theorem dup_walk_hit : ∀ (l : List S23) (ks : List ByteArray) (n : Int) (i : Nat), i < l.length → dup_bad ks n l i = true → dup_walk ks n l = false
  | [], _, _, _, h, _ => absurd h (Nat.not_lt_zero _)
  | x :: r, ks, n, 0, _, hb => by
    unfold dup_walk
    have : ((hasK ks x.f1 || decide (x.f0 ≤ n)) || !Dp.oneB x.f0 x.f1 x.f2 x.f3 x.f4) = true := hb
    rw [this]; rfl
  | x :: r, ks, n, i + 1, h, hb => by
    unfold dup_walk
    have h2 : i < r.length := by simpa using h
    rw [dup_bad_cons ks n x r i h2] at hb
    rw [dup_walk_hit r _ _ i h2 hb, Bool.and_false]
theorem dup_walk_miss : ∀ (l : List S23) (ks : List ByteArray) (n : Int), (∀ i, i < l.length → dup_bad ks n l i = false) → dup_walk ks n l = true
  | [], _, _, _ => rfl
  | x :: r, ks, n, h => by
    unfold dup_walk
    have : ((hasK ks x.f1 || decide (x.f0 ≤ n)) || !Dp.oneB x.f0 x.f1 x.f2 x.f3 x.f4) = false := h 0 (by simp)
    rw [this, dup_walk_miss r _ _ (fun i hi => by rw [← dup_bad_cons ks n x r i hi]; exact h (i + 1) (by simpa using hi))]; rfl
def dup_May.f (l0 : List S23) : Option Bool := if (l0.all fun x => decide (x.f1.size ≤ 140737488351232)) = true then some (dup_mayL l0) else none
set_option maxHeartbeats 4000000 in
theorem dup_May.calls (A0 : Option Addr) (c0 : Nat) (l0 : List (S23)) (r : Bool) (w : World) (hr0 : Kd.C k23 w A0 l0.length l0) (hc0 : l0.length ≤ c0) (h : dup_May.f l0 = some r) :
    Calls Tryd.prog 27 #[.slice A0 l0.length c0] w fun e w' => e = .returned (.bool r) ∧ Below w.heap.size w w' := by
  unfold dup_May.f at h
  split at h
  case isFalse => cases h
  case isTrue hsz =>
  have HF := Lib.hid (Option.some.inj h)
  have HR := Lib.hid hr0
  have HZ : Hid (∀ k, k < l0.length → (rd_T23 l0 (k : Int)).f1.size ≤ maxLen) := Lib.hid fun k hk => by
    have := List.all_eq_true.mp hsz _ (List.getElem_mem hk)
    rw [rd_get l0 k hk]; have := of_decide_eq_true this; unfold maxLen; omega
  have hbig := hr0.2.1
  clear hr0 h hsz
  have hmm := @run_makeMap Tryd.prog
  go_enter Tryd.func27, Tryd.ntmps27
  go_upto_region 3 with fail
  have hz0 : (w.alloc (.map #[] 0)).heap.size = w.heap.size + 1 := by simp [World.alloc, -World.alloc_eq]
  have hz1 : ((w.alloc (.map #[] 0)).alloc (.cells #[.map (some w.heap.size)] 78 (0, 0))).heap.size = w.heap.size + 1 + 1 := by simp [World.alloc, -World.alloc_eq]
  have hS1 := ((MState.made w).kept (World.grownBy_alloc _ (.cells #[.map (some w.heap.size)] 78 (0, 0)) none) (by simp)).kept (World.grownBy_alloc _ (.cells #[.int .i64 0] 3 (0, 0)) none) (by simp)
  have hM1 := blk_alloc (blk_new (w.alloc (.map #[] 0)) (.cells #[.map (some w.heap.size)] 78 (0, 0))) (.cells #[.int .i64 0] 3 (0, 0))
  have hL1 := blk_new ((w.alloc (.map #[] 0)).alloc (.cells #[.map (some w.heap.size)] 78 (0, 0))) (.cells #[.int .i64 0] 3 (0, 0))
  rw [hz0] at hM1
  rw [hz1] at hL1
  have hB1 := (((Below.refl w.heap.size w).alloc (Nat.le_refl _) (.map #[] 0)).alloc (by rw [hz0]; omega) (.cells #[.map (some w.heap.size)] 78 (0, 0))).alloc (by rw [hz1]; omega) (.cells #[.int .i64 0] 3 (0, 0))
  generalize ((w.alloc (.map #[] 0)).alloc (.cells #[.map (some w.heap.size)] 78 (0, 0))).alloc (.cells #[.int .i64 0] 3 (0, 0)) = w1 at hS1 hM1 hL1 hB1 ⊢
  clear hz0 hz1 hmm
  generalize hMB : w.heap.size + 1 = MB at hM1 hL1 ⊢
  generalize hLB : MB + 1 = LB at hL1 ⊢
  have hlt1 : LB < w1.heap.size := blk_lt hL1
  have hcall : ∃ y b, b = !dup_walk [] 0 l0 ∧ Calls Tryd.prog 29 #[.slice A0 l0.length c0, .func (.func 45) #[] #[.pointer (some ⟨MB, 0, none⟩), .pointer (some ⟨LB, 0, none⟩)]] w1 fun e w' => e = .returned (.tuple #[enc24 y, .bool b]) ∧ Below w.heap.size w w' := by
    have hBW : ∀ (W0 W : World), Below w1.heap.size w1 W0 → MayKept W0 W w.heap.size LB → Below w.heap.size w W := fun W0 W h1 h2 => by
      refine hB1.trans ((h1.mono (by omega)).trans ⟨h2.1, h2.2.1, h2.2.2.1, h2.2.2.2.1, fun j hj => h2.2.2.2.2 j ?_ ?_ ?_⟩)
      · have := h1.size; omega
      · omega
      · omega
    have hKF : ∀ (W0 W : World), Below w1.heap.size w1 W0 → MayKept W0 W w.heap.size LB → KeptFrom w1.heap.size W0 W := fun W0 W h1 h2 => ⟨h2.2.2.2.1, fun j hj hj2 => h2.2.2.2.2 j hj2 (by omega) (by omega)⟩
    have hRefl : ∀ W0, MayKept W0 W0 w.heap.size LB := fun W0 => ⟨rfl, rfl, rfl, Nat.le_refl _, fun _ _ _ _ => rfl⟩
    have hs : ∀ (W0 W : World) (k : Nat), k < l0.length → Below w1.heap.size w1 W0 → (Below w1.heap.size w1 W0 ∧ MayKept W0 W w.heap.size LB ∧ MayAt W MB LB w.heap.size k (dup_st [] 0 l0 k).1 (dup_st [] 0 l0 k).2) → Calls Tryd.prog 45 (#[enc24 (rd_T23 l0 k)] ++ #[.pointer (some ⟨MB, 0, none⟩), .pointer (some ⟨LB, 0, none⟩)]) W fun e w' => e = .returned (.bool (dup_bad [] 0 l0 k)) ∧
        (dup_bad [] 0 l0 k = false → (Below w1.heap.size w1 W0 ∧ MayKept W0 w' w.heap.size LB ∧ MayAt w' MB LB w.heap.size (k + 1) (dup_st [] 0 l0 (k + 1)).1 (dup_st [] 0 l0 (k + 1)).2)) ∧ (dup_bad [] 0 l0 k = true → (Below w1.heap.size w1 W0 ∧ MayKept W0 w' w.heap.size LB)) := fun W0 W k hk h1 h2 => by
      refine (may_pred (rd_T23 l0 k) W MB LB w.heap.size k _ _ (HZ.out k hk) (by unfold maxLen; omega) h2.2.2).mono ?_
      rintro e w' ⟨rfl, hA, hK⟩
      have hK2 : MayKept W0 w' w.heap.size LB := by
        obtain ⟨a1, a2, a3, a4, a5⟩ := h2.2.1
        obtain ⟨b1, b2, b3, b4, b5⟩ := hK
        exact ⟨b1.trans a1, b2.trans a2, b3.trans a3, Nat.le_trans a4 b4, fun j hj x1 x2 => (b5 j (by omega) x1 x2).trans (a5 j hj x1 x2)⟩
      refine ⟨rfl, fun _ => ⟨h1, hK2, ?_⟩, fun _ => ⟨h1, hK2⟩⟩
      rw [dup_st_next l0 [] 0 k hk]; exact hA
    have hC : ∀ (W0 W : World), (Below w1.heap.size w1 W0 ∧ MayKept W0 W w.heap.size LB) → Kd.C k23 W A0 l0.length l0 := fun W0 W h => Kd.C_below HR.out (hBW W0 W h.1 h.2)
    have hA0 : ∀ W0, Below w1.heap.size w1 W0 → MayAt W0 MB LB w.heap.size 0 (dup_st [] 0 l0 0).1 (dup_st [] 0 l0 0).2 := fun W0 h => by
      have e : dup_st [] 0 l0 0 = ([], 0) := by cases l0 <;> rfl
      rw [e]
      exact ⟨blk_below hM1 h, blk_below hL1 h, hS1.below h⟩
    rcases least_or (dup_bad [] 0 l0) l0.length with ⟨i, hi, hp, hpj⟩ | hpj
    · refine ⟨rd_T23 l0 i, true, by rw [dup_walk_hit l0 [] 0 i hi hp]; rfl, ?_⟩
      refine (first_hit 45 _ (enters_of Tryd.func45 (by kernel_rfl) rfl) (dup_bad [] 0 l0) A0 c0 l0 w1 (fun W0 k W => Below w1.heap.size w1 W0 ∧ MayKept W0 W w.heap.size LB ∧ MayAt W MB LB w.heap.size k (dup_st [] 0 l0 k).1 (dup_st [] 0 l0 k).2) (fun W0 _ W => Below w1.heap.size w1 W0 ∧ MayKept W0 W w.heap.size LB) (fun W0 h => ⟨h, hRefl W0, hA0 W0 h⟩) (fun W0 W k h => hC W0 W ⟨h.1, h.2.1⟩) (fun W0 W k h => hC W0 W h) (fun W0 W k h1 h2 => hKF W0 W h1 (h2.elim (fun h => h.2.1) (fun h => h.2))) hs i hi hp hpj).mono ?_
      rintro e w' ⟨rfl, W0, W, b0, b1, b2⟩
      exact ⟨rfl, (hBW W0 W b1.1 b1.2).trans (b2.mono (by omega))⟩
    · refine ⟨z23, false, by rw [dup_walk_miss l0 [] 0 hpj]; rfl, ?_⟩
      refine (first_miss 45 _ (enters_of Tryd.func45 (by kernel_rfl) rfl) (dup_bad [] 0 l0) A0 c0 l0 w1 (fun W0 k W => Below w1.heap.size w1 W0 ∧ MayKept W0 W w.heap.size LB ∧ MayAt W MB LB w.heap.size k (dup_st [] 0 l0 k).1 (dup_st [] 0 l0 k).2) (fun W0 _ W => Below w1.heap.size w1 W0 ∧ MayKept W0 W w.heap.size LB) (fun W0 h => ⟨h, hRefl W0, hA0 W0 h⟩) (fun W0 W k h => hC W0 W ⟨h.1, h.2.1⟩) (fun W0 W k h => hC W0 W h) (fun W0 W k h1 h2 => hKF W0 W h1 (h2.elim (fun h => h.2.1) (fun h => h.2))) hs hpj).mono ?_
      rintro e w' ⟨rfl, W0, W, b0, b1, b2⟩
      exact ⟨rfl, (hBW W0 W b1.1 b1.2.1).trans (b2.mono (by omega))⟩
  obtain ⟨y, b, hb, hcall⟩ := hcall
  unfold enc24 at hcall
  have HB := Lib.hid hb
  clear hb hS1 hM1 hL1
  go_upto_region 4 with (go_at_call 29; refine hcall.mono ?_; rintro e w2 ⟨rfl, hb2⟩)
  have hB3 := hb2.alloc hb2.size (.cells #[.int .i64 y.f0, .string y.f1, .string y.f2, .string y.f3, .int .i64 y.f4] 23 (0, 0))
  generalize w2.alloc (.cells #[.int .i64 y.f0, .string y.f1, .string y.f2, .string y.f3, .int .i64 y.f4] 23 (0, 0)) = w3 at hB3 ⊢
  by_cases h100 : l0.length ≤ 100
  · have h101 : (l0.length : Int) ≤ 100 := by omega
    go_wp2
    go_ret
    refine ⟨?_, hB3⟩
    rw [← HF.out]; unfold dup_mayL
    rw [decide_eq_true h100, Bool.true_and, ← Bool.not_not (dup_walk [] 0 l0), ← HB.out]; simp
  · have h101 : ¬ (l0.length : Int) ≤ 100 := by omega
    go_wp2
    go_ret
    refine ⟨?_, hB3⟩
    rw [← HF.out]; unfold dup_mayL
    rw [decide_eq_false h100, Bool.false_and]; simp
end


end Go.Proofs.YtmifpifhiiommaaDoor.XT
