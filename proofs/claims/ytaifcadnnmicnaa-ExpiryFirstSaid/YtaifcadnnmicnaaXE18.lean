-- Written by wip/xprint.py, a session's program: printed out of the translation, with hand-written functions. Lean checks it.
import Derived.Test.YtaifcadnnmicnaaXE0
import Derived.Test.YtaifcadnnmicnaaXE17
namespace Go.Proofs.Ytaifcadnnmicnaa.XE
open Go.RowKit Go.Proofs.YtaifcadnnmicnaaW.PrintWords Go.Proofs.YtaifcadnnmicnaaW.PrintLast Go.Proofs.YtaifcadnnmicnaaW.PrintMore
attribute [local go_sem] max2_int min2_int max_two min_two max_three min_three max_four min_four   -- for this text's walks alone
set_option linter.unusedVariables false
set_option linter.unusedSimpArgs false

-- NOT PRINTED: function 38 (heap_down)

-- NOT PRINTED: function 30 (heap_Pop)

/-! ### expiry_take: function 18 -/
/-- What 'take' leaves as it was: all but the heap's cell, its row and what its question keeps. -/
structure Tk (w w' : World) (hp g : Nat) (cb : Option Nat) : Prop where
  os : w'.os = w.os
  tape : w'.tape = w.tape
  output : w'.output = w.output
  size : w.heap.size ≤ w'.heap.size
  block : ∀ j, j < w.heap.size → j ≠ hp → j ≠ g → some j ≠ cb → w'.heap[j]? = w.heap[j]?
theorem Tk.refl (w : World) (hp g : Nat) (cb : Option Nat) : Tk w w hp g cb := ⟨rfl, rfl, rfl, Nat.le_refl _, fun _ _ _ _ _ => rfl⟩
theorem Tk.trans {w w1 w2 : World} {hp g : Nat} {cb : Option Nat} (h : Tk w w1 hp g cb) (k : Tk w1 w2 hp g cb) : Tk w w2 hp g cb :=
  ⟨k.os.trans h.os, k.tape.trans h.tape, k.output.trans h.output, Nat.le_trans h.size k.size, fun j hj h1 h2 h3 => (k.block j (Nat.lt_of_lt_of_le hj h.size) h1 h2 h3).trans (h.block j hj h1 h2 h3)⟩
theorem Tk.of_below {w w1 : World} (h : Below w.heap.size w w1) (hp g : Nat) (cb : Option Nat) : Tk w w1 hp g cb := ⟨h.os, h.tape, h.output, h.size, fun j hj _ _ _ => h.block j hj⟩
theorem Tk.of_heap {w w1 : World} {hp g : Nat} (h : HpF w w1 hp (some g)) (cb : Option Nat) : Tk w w1 hp g cb := ⟨h.os, h.tape, h.output, h.size, fun j hj h1 h2 _ => h.block j hj h1 (fun e => h2 (Option.some.inj e))⟩
theorem Tk.of_cb {w w1 : World} {cb : Option Nat} (h : w.grownBy w1 cb) (hp g : Nat) : Tk w w1 hp g cb := ⟨h.os, h.tape, h.output, h.size, fun j hj _ _ h3 => h.block j hj h3⟩
/-- Over an own row that is no younger than w: what is written of it is new to w. -/
theorem Tk.of_row {w w1 w2 : World} {hp g : Nat} {cb row : Option Nat} (h : Tk w w1 hp g cb) (k : w1.grownBy w2 row) (hr : ∀ b, row = some b → w.heap.size ≤ b) : Tk w w2 hp g cb :=
  ⟨k.os.trans h.os, k.tape.trans h.tape, k.output.trans h.output, Nat.le_trans h.size k.size, fun j hj h1 h2 h3 => (k.block j (Nat.lt_of_lt_of_le hj h.size) (fun e => by have := hr j e.symm; omega)).trans (h.block j hj h1 h2 h3)⟩
theorem HpS.tk {w w1 : World} {base hp g cap : Nat} {xs : List S49} (h : HpS w base hp g cap xs) (hk : ∀ j, j = hp ∨ j = g → w1.heap[j]? = w.heap[j]?) : HpS w1 base hp g cap xs := by
  refine ⟨(hk hp (.inl rfl)).trans h.cell, ?_⟩
  obtain ⟨h0, inner, ho, hr⟩ := h.row
  refine Kd.R_step (Kd.R_tight rfl h.row) (fun k hk2 _ => hk k (.inr (Option.some.inj hk2))) |> fun h => Kd.R_mono h (fun _ _ => trivial)
theorem Tk.below {w w1 : World} {hp g base : Nat} {cb : Option Nat} (h : Tk w w1 hp g cb) (h1 : base ≤ hp) (h2 : base ≤ g) (h3 : ∀ k, cb = some k → base ≤ k) (h4 : base ≤ w.heap.size) : Below base w w1 :=
  ⟨h.os, h.tape, h.output, h.size, fun j hj => h.block j (by omega) (by omega) (by omega) (fun e => by have := h3 j e.symm; omega)⟩
theorem HpS.gb {w : World} {base hp g cap : Nat} {xs : List S49} (h : HpS w base hp g cap xs) : base ≤ g := Kd.R_base h.row g (by simp [Value.ownBlock])
theorem HpS.gt {w : World} {base hp g cap : Nat} {xs : List S49} (h : HpS w base hp g cap xs) : ∃ cells, w.heap[g]? = some (.cells cells 49 (0, 0)) := Kd.R_typed h.row g (by simp [Value.ownBlock])
theorem R_ints {w w1 : World} {B : Nat} {v : Value} {xs : List Int} (h : Kd.R (Kd.int .i64) 3 w B (fun _ => True) v xs) (hk : ∀ j, B ≤ j → j < w.heap.size → (∃ cells, w.heap[j]? = some (.cells cells 3 (0, 0))) → w1.heap[j]? = w.heap[j]?) : Kd.R (Kd.int .i64) 3 w1 B (fun _ => True) v xs := by
  refine Kd.R_mono (Kd.R_step (Kd.R_bound h) (fun k hk2 hlt => ?_)) (fun _ _ => trivial)
  obtain ⟨-, h1, h2, q, hq, hc⟩ := hk2
  have : q = 3 := by
    rcases List.mem_cons.mp hq with h | h
    · exact h
    · exact absurd h (by intro h; cases h)
  subst this
  exact hk k h1 hlt hc
theorem takeF_succ {σ : Type} (q : σ → S49 → Bool × σ) (f : Nat) (s : σ) (xs : List S49) (h : 0 < xs.length) : Hp.takeF q ltS (f + 1) s xs = if (q s (Hp.g xs 0)).1 = true then Hp.g xs 0 :: Hp.takeF q ltS f (q s (Hp.g xs 0)).2 (Hp.rest ltS xs) else [] := by
  conv => lhs; unfold Hp.takeF
  rw [if_neg (by omega)]
section
variable {σ : Type} (gf : Nat) (lb : Array Value) (eg : ∀ args w, (callFunc gf args).run Try.prog w = .ok (.enter gf args) w) (q : σ → S49 → Bool × σ)
include eg
set_option maxHeartbeats 8000000 in
theorem take_w (hp g cap base : Nat) (cb : Option Nat) (xs : List S49) (s0 : σ) (w : World) (I : σ → World → Prop)
    (hH : HpS w base hp g cap xs) (hb : base ≤ hp) (hcb : ∀ k, cb = some k → k < w.heap.size ∧ k ≠ hp ∧ k ≠ g ∧ base ≤ k) (hl : xs.length ≤ 900) (hbw : base ≤ w.heap.size)
    (hI0 : I s0 w)
    (hst : ∀ s W W', I s W → (∀ j, j < w.heap.size → j ≠ hp → j ≠ g → W'.heap[j]? = W.heap[j]?) → I s W')
    (hs : ∀ s W x, I s W → w.heap.size ≤ W.heap.size → Calls Try.prog gf (#[enc49 x] ++ lb) W fun e w' => e = .returned (.bool (q s x).1) ∧ I (q s x).2 w' ∧ W.grownBy w' cb) :
    Calls Try.prog 18 #[.pointer (some ⟨hp, 0, none⟩), .func (.func gf) #[] lb] w fun e w' => ∃ v, e = .returned v ∧ Kd.R (Kd.int .i64) 3 w' w.heap.size (fun _ => True) v ((Hp.takeF q ltS xs.length s0 xs).map (·.f2)) ∧ Below base w w' := by
  have HH := Lib.hid hH
  have HI := Lib.hid hI0
  have HST := Lib.hid hst
  have HS := Lib.hid hs
  have HCB := Lib.hid hcb
  have HBW := Lib.hid hbw
  clear hH hI0 hst hs hcb
  go_enter Try.func18, Try.ntmps18
  go_wp2
  go_loopg [5, 6, 7] xs.length (fun gg s5 _ _ wr => ∃ (s : σ) (ys : List S49) (ff : Nat) (acc : List Int), ys.length ≤ gg ∧ ys.length ≤ ff ∧ ys.length ≤ 900 ∧ acc.length + ys.length ≤ 900 ∧ Hid (HpS wr base hp g cap ys) ∧ Hid (I s wr) ∧ Hid (Kd.R (Kd.int .i64) 3 wr w.heap.size (fun _ => True) s5 acc) ∧ Hid (Tk w wr hp g cb) ∧ Hid ((Hp.takeF q ltS xs.length s0 xs).map (·.f2) = acc ++ (Hp.takeF q ltS ff s ys).map (·.f2)))
  case atStart => exact ⟨s0, xs, xs.length, [], Nat.le_refl _, Nat.le_refl _, hl, by simpa using hl, HH, HI, Lib.hid (Kd.R_nil _ _ _ _ _), Lib.hid (Tk.refl _ _ _ _), Lib.hid rfl⟩
  case round =>
    obtain ⟨s, ys, ff, acc, hyg, hyf, hy9, hacc, HY, HIW, HR, HT, HE⟩ := hrel
    have hc : wr.cell? ⟨hp, 0, none⟩ = some (.slice (some ⟨g, 0, none⟩) ys.length cap) := (blk_cell HY.out.cell 0).trans rfl
    rcases Nat.eq_zero_or_pos ys.length with h0 | hpos
    · rw [h0] at hc
      go_wp2_with (go_at_call 29; refine (len_w _ _ _ _).mono ?_; rintro e w' ⟨rfl, rfl⟩)
      go_ret
      have e0 : Hp.takeF q ltS ff s ys = [] := by
        cases ff with
        | zero => rfl
        | succ f => unfold Hp.takeF; rw [if_pos h0]
      have e1 := HE.out
      rw [e0, List.map_nil, List.append_nil] at e1
      exact ⟨_, rfl, by rw [e1]; exact HR.out, HT.out.below hb HY.out.gb (fun k hk => (HCB.out k hk).2.2.2) HBW.out⟩
    · have hpz : (0 : Int) < (ys.length : Int) := by omega
      obtain ⟨ff, rfl⟩ : ∃ k, ff = k + 1 := ⟨ff - 1, by omega⟩
      obtain ⟨i0, i1, i2, -, -⟩ := own3 HY.out.row 0 hpos
      rw [rd_g, Nat.zero_mul] at i0 i1 i2
      rw [Nat.zero_add] at i1 i2
      have HTF := Lib.hid (takeF_succ q ff s ys hpos)
      generalize hx : Hp.g ys 0 = x at i0 i1 i2 HTF
      have HX := Lib.hid hx
      clear hx
      have hcall := HS.out s wr x HIW.out HT.out.size
      unfold enc49 at hcall
      have hrl := Hp.rest_length (lt := ltS) ys
      have HRL := Lib.hid hrl
      clear hrl
      cases hq : (q s x).1 with
      | false =>
        rw [hq] at hcall
        have HQ := Lib.hid hq
        clear hq
        go_wp2_with (go_at_call 29; refine (len_w _ _ _ _).mono ?_; rintro e w' ⟨rfl, rfl⟩)
        refine hcall.mono ?_
        rintro e w1 ⟨rfl, hI1, hg1⟩
        have HG1 := Lib.hid hg1
        clear hI1 hg1
        go_wp2
        go_ret
        have e1 := HE.out
        rw [HTF.out, HQ.out, if_neg (by decide), List.map_nil, List.append_nil] at e1
        refine ⟨_, rfl, ?_, (HT.out.trans (Tk.of_cb HG1.out hp g)).below hb HY.out.gb (fun k hk => (HCB.out k hk).2.2.2) HBW.out⟩
        rw [e1]
        exact R_ints HR.out (fun j h1 h2 _ => HG1.out.block j h2 (fun e => by have := (HCB.out j e.symm).1; omega))
      | true =>
        rw [hq] at hcall
        have HQ := Lib.hid hq
        clear hq
        have hta := ta_t
        go_wp2_with (go_at_call 29; refine (len_w _ _ _ _).mono ?_; rintro e w' ⟨rfl, rfl⟩)
        refine hcall.mono ?_
        rintro e w1 ⟨rfl, hI1, hg1⟩
        have HG1 := Lib.hid hg1
        have HI1 := Lib.hid hI1
        have HY1 := Lib.hid (HY.out.tk (fun j hj => hg1.block j (by
          rcases hj with rfl | rfl
          · exact blk_lt HY.out.cell
          · obtain ⟨c, hc⟩ := HY.out.gt; exact blk_lt hc) (fun e => by
          rcases hj with rfl | rfl
          · exact (HCB.out _ e.symm).2.1 rfl
          · exact (HCB.out _ e.symm).2.2.1 rfl)))
        have hpop := hpop_w hp g cap base ys w1 HY1.out hpos (Nat.le_trans hy9 (by decide))
        rw [HX.out] at hpop
        clear hI1 hg1 hcall
        go_upto_region 5 with (go_at_call 30; refine hpop.mono ?_; rintro e w2 ⟨rfl, hH2, hF2⟩; have HH2 := Lib.hid hH2; have HF2 := Lib.hid hF2; clear hH2 hF2 hpop)
        have hR1 := R_ints (w1 := w1) HR.out (fun j h1 h2 _ => HG1.out.block j h2 (fun e => by have := (HCB.out j e.symm).1; omega))
        have hR2 := R_ints (w1 := w2) hR1 (fun j h1 h2 hc => HF2.out.block j h2 (fun e => by
          obtain ⟨c, hc⟩ := hc
          rw [e, HY1.out.cell] at hc
          injection hc with hc; injection hc with _ hc; cases hc) (fun e => by
          obtain ⟨c, hc⟩ := hc
          obtain ⟨c', hc'⟩ := HY1.out.gt
          rw [Option.some.inj e, hc'] at hc
          injection hc with hc; injection hc with _ hc; cases hc))
        have hR3 := Kd.R_below hR2 (below_alloc (Below.refl _ _) (.cells #[.int .i64 x.f0, .string x.f1, .int .i64 x.f2] 49 (0, 0)))
        have hT3 := ((HT.out.trans (Tk.of_cb HG1.out hp g)).trans (Tk.of_heap HF2.out cb)).trans (Tk.of_below (below_alloc (Below.refl _ _) (.cells #[.int .i64 x.f0, .string x.f1, .int .i64 x.f2] 49 (0, 0))) hp g cb)
        have hH3 := HH2.out.below (below_alloc (Below.refl _ _) (.cells #[.int .i64 x.f0, .string x.f1, .int .i64 x.f2] 49 (0, 0)))
        have hI3 := HST.out _ _ (w2.alloc (.cells #[.int .i64 x.f0, .string x.f1, .int .i64 x.f2] 49 (0, 0))) HI1.out (fun j h1 h2 h3 => (Below.heap_alloc w2 _ j (by have := HG1.out.size; have := HF2.out.size; have := HT.out.size; omega)).trans (HF2.out.block j (by have := HG1.out.size; have := HT.out.size; omega) h2 (fun e => h3 (Option.some.inj e))))
        have hbx := blk_new w2 (.cells #[.int .i64 x.f0, .string x.f1, .int .i64 x.f2] 49 (0, 0))
        generalize w2.alloc (.cells #[.int .i64 x.f0, .string x.f1, .int .i64 x.f2] 49 (0, 0)) = w3 at hR3 hT3 hH3 hI3 hbx ⊢
        have x2 : w3.cell? ⟨w2.heap.size, 2, none⟩ = some (.int .i64 x.f2) := (blk_cell hbx 2).trans rfl
        have HR3 := Lib.hid hR3
        have HT3 := Lib.hid hT3
        have HH3 := Lib.hid hH3
        have HI3 := Lib.hid hI3
        have hgW : w.heap.size ≤ w3.heap.size := hT3.size
        have HGW := Lib.hid hgW
        have ha8 : (acc.length + 1) * 8 ≤ 140737488355328 := by omega
        have HA8 := Lib.hid ha8
        clear hR1 hR2 hR3 hT3 hH3 hI3 hbx hgW ha8 i0 i1 i2 hc
        go_wp2_with ((with_reducible refine gate_builtin (b := .append) (xs := #[.tmp 30, .tmp 33]) rfl ?_); at_builtin; refine Kd.R_append (Kd.int .i64) (w0 := w3) w.heap.size rfl (.tmp 30) (.tmp 33) 24 3 (.int .i64 0) 8 rfl Try.underlying24 info3 rfl (by decide) (by omega) u5 acc x.f2 [.int .i64 x.f2] (fun _ => True) (fun _ => False) rfl rfl rfl (fun _ hk => hk.elim) (fun _ _ => trivial) HR3.out (Below.refl _ _) HGW.out HA8.out ?_; intro v4 w4 ho4 hb4 hg4 hat4; have HO4 := Lib.hid ho4; have HB4 := Lib.hid hb4; have HG4 := Lib.hid hg4; clear ho4 hb4 hg4 hat4)
        go_roundg (ys.length - 1)
        case measure => omega
        case rel =>
          have hne : ∀ j, (∃ cs t, w3.heap[j]? = some (.cells cs t (0, 0)) ∧ t ≠ 3) → some j ≠ u5.ownBlock := fun j hj e => by
            obtain ⟨cs, t, hc, ht⟩ := hj
            obtain ⟨c, hc2⟩ := Kd.R_typed HR3.out j e.symm
            rw [hc] at hc2
            injection hc2 with hc2
            injection hc2 with _ hc2
            exact ht hc2
          have hH4 : HpS w4 base hp g cap (Hp.rest ltS ys) := HH3.out.tk (fun j hj => by
            rcases hj with rfl | rfl
            · exact HG4.out.block _ (blk_lt HH3.out.cell) (hne _ ⟨_, _, HH3.out.cell, by decide⟩)
            · obtain ⟨c, hc⟩ := HH3.out.gt
              exact HG4.out.block _ (blk_lt hc) (hne _ ⟨_, _, hc, by decide⟩))
          have hrow : ∀ b, u5.ownBlock = some b → w.heap.size ≤ b := fun b hb => Kd.R_base HR3.out b hb
          have hI4 : I (q s x).2 w4 := HST.out _ w3 w4 HI3.out (fun j h1 _ _ => HB4.out.block j h1)
          have hrl := HRL.out
          refine ⟨(q s x).2, Hp.rest ltS ys, ff, acc ++ [x.f2], by omega, by omega, by omega, ?_, Lib.hid hH4, Lib.hid hI4, HO4, Lib.hid (HT3.out.of_row HG4.out hrow), Lib.hid ?_⟩
          · rw [List.length_append, List.length_singleton]; omega
          · rw [HE.out, HTF.out, if_pos HQ.out, List.map_cons, List.append_assoc]; rfl
end


/-! ### expiry_Due: function 15 -/
/-- The holds that are open, in order. -/
def ordS (l : List S30) : List S49 := Hp.drain ltS (itemsTo l l.length).length (Hp.build ltS (itemsTo l l.length))
def okL (l : List S30) : Bool := decide (l.length ≤ 900) && l.all okH
theorem okL_len {l : List S30} (h : okL l = true) : l.length ≤ 900 ∧ l.all okH = true := by
  unfold okL at h; rw [Bool.and_eq_true] at h; exact ⟨of_decide_eq_true h.1, h.2⟩
def dueQ (t : Int) (_ : Unit) (x : S49) : Bool × Unit := (decide (t > x.f0), ())
theorem takeF_ord {σ : Type} (q : σ → S49 → Bool × σ) (s : σ) (l : List S30) : Hp.takeF q ltS (Hp.build ltS (itemsTo l l.length)).length s (Hp.build ltS (itemsTo l l.length)) = Hp.takeS q s (ordS l) := by
  rw [build_len, Hp.takeF_drain]; rfl
theorem due_pred (t : Int) (B : Nat) (x : S49) (W : World) (hB : W.cell? ⟨B, 0, none⟩ = some (.int .i64 t)) :
    Calls Try.prog 27 (#[enc49 x] ++ #[.pointer (some ⟨B, 0, none⟩)]) W fun e w' => e = .returned (.bool (decide (t > x.f0))) ∧ Below W.heap.size W w' := by
  show Calls Try.prog 27 #[.agg #[.int .i64 x.f0, .string x.f1, .int .i64 x.f2], .pointer (some ⟨B, 0, none⟩)] W _
  have hBW : B < W.heap.size := World.block_lt_of_cell? W _ hB
  have hne : B ≠ W.heap.size := by omega
  go_enter Try.func27, Try.ntmps27
  go_wp2
  go_ret
  exact ⟨by first | rfl | simp, (Below.refl _ _).alloc (Nat.le_refl _) _⟩
def expiry_Due.f (l0 : List S30) (a1 : Int) : Option (List Int) := if okL l0 = true then some ((Hp.takeS (dueQ a1) () (ordS l0)).map (·.f2)) else none
set_option maxHeartbeats 4000000 in
theorem expiry_Due.calls (A0 : Option Addr) (c0 : Nat) (l0 : List S30) (a1 : Int) (r : List Int) (w : World) (hr0 : Kd.C k30 w A0 l0.length l0) (hc0 : l0.length ≤ c0) (h : expiry_Due.f l0 a1 = some r) :
    Calls Try.prog 15 #[.slice A0 l0.length c0, .int .i64 a1] w fun e w' => ∃ v0_ : Value, e = .returned v0_ ∧ Kd.R (Kd.int .i64) 3 w' w.heap.size (fun _ => True) v0_ r ∧ Below w.heap.size w w' := by
  unfold expiry_Due.f at h
  split at h
  case isFalse => cases h
  case isTrue hok =>
  obtain rfl := Option.some.inj h
  obtain ⟨hl, hok⟩ := okL_len hok
  have hB1 := below_alloc (Below.refl w.heap.size w) (.cells #[.int .i64 a1] 3 (0, 0))
  have hT1 := blk_new w (.cells #[.int .i64 a1] 3 (0, 0))
  have hz1 : (w.alloc (.cells #[.int .i64 a1] 3 (0, 0))).heap.size = w.heap.size + 1 := by simp [World.alloc, -World.alloc_eq]
  have hop := open_w A0 c0 l0 _ (Kd.C_below hr0 hB1) hl hok
  have HB1 := Lib.hid hB1
  have HT1 := Lib.hid hT1
  have HZ1 := Lib.hid hz1
  have HL := Lib.hid hl
  clear h hr0 hB1 hT1 hok hz1 hl
  go_enter Try.func15, Try.ntmps15
  go_wp2_with (go_at_call 19; refine hop.mono ?_; rintro e w2 ⟨hp, g, cap, rfl, hhp, hH2, hb2⟩; have HHP := Lib.hid hhp; have HH2 := Lib.hid hH2; have HB2 := Lib.hid hb2; clear hhp hH2 hb2 hop)
  have htk := take_w 27 #[.pointer (some ⟨w.heap.size, 0, none⟩)] (enters_of Try.func27 (by kernel_rfl) rfl) (dueQ a1) hp g cap _ none _ () w2 (fun _ W => W.heap[w.heap.size]? = some (.cells #[.int .i64 a1] 3 (0, 0))) HH2.out HHP.out (fun k hk => by cases hk) (by rw [build_len]; exact Nat.le_trans (itemsTo_len l0 _) HL.out) HB2.out.size (blk_below HT1.out HB2.out)
    (fun _ W W' hI hk => (hk _ (by have := HB2.out.size; rw [HZ1.out] at this; omega) (by have := HHP.out; rw [HZ1.out] at this; omega) (by have := HH2.out.gb; rw [HZ1.out] at this; omega)).trans hI)
    (fun _ W x hI _ => (due_pred a1 w.heap.size x W ((blk_cell hI 0).trans rfl)).mono (by
      rintro e w' ⟨rfl, hb⟩
      exact ⟨rfl, blk_below hI hb, gb_below hb _⟩))
  rw [takeF_ord] at htk
  refine htk.mono ?_
  rintro e w3 ⟨v, rfl, hR3, hb3⟩
  have HR3 := Lib.hid hR3
  have HB3 := Lib.hid hb3
  clear htk hR3 hb3
  go_wp2
  go_ret
  have hz := HZ1.out
  have h2 := HB2.out.size
  exact ⟨_, rfl, Kd.R_lower HR3.out (by omega), HB1.out.trans ((HB2.out.mono (by omega)).trans (HB3.out.mono (by omega)))⟩


/-! ### expiry_Next: function 16 -/
theorem drain_head (l : List S30) : (ordS l).length = (itemsTo l l.length).length ∧ (0 < (itemsTo l l.length).length → Hp.g (Hp.build ltS (itemsTo l l.length)) 0 = Hp.g (ordS l) 0) := by
  constructor
  · have := (Hp.drain_perm (lt := ltS) (itemsTo l l.length).length (Hp.build ltS (itemsTo l l.length)) (by rw [build_len]; exact Nat.le_refl _)).length_eq
    rw [build_len] at this
    exact this
  · intro h
    unfold ordS
    obtain ⟨m, hm⟩ : ∃ m, (itemsTo l l.length).length = m + 1 := ⟨(itemsTo l l.length).length - 1, by omega⟩
    rw [hm]
    unfold Hp.drain
    rw [if_neg (by rw [build_len]; omega)]
    rfl
def expiry_Next.f (l0 : List S30) : Option (Int × Int) := if okL l0 = true then some (match ordS l0 with | [] => (0, 7) | x :: _ => (wrap64 (x.f0 + 1), 0)) else none
set_option maxHeartbeats 4000000 in
theorem expiry_Next.calls (A0 : Option Addr) (c0 : Nat) (l0 : List S30) (r0 r1 : Int) (w : World) (hr0 : Kd.C k30 w A0 l0.length l0) (hc0 : l0.length ≤ c0) (h : expiry_Next.f l0 = some (r0, r1)) :
    Calls Try.prog 16 #[.slice A0 l0.length c0] w fun e w' => e = .returned (.tuple #[.int .i64 r0, .int .i64 r1]) ∧ Below w.heap.size w w' := by
  unfold expiry_Next.f at h
  split at h
  case isFalse => cases h
  case isTrue hok =>
  have HR := Lib.hid (Option.some.inj h)
  obtain ⟨hl, hok⟩ := okL_len hok
  have hop := open_w A0 c0 l0 w hr0 hl hok
  obtain ⟨hd1, hd2⟩ := drain_head l0
  have HD2 := Lib.hid hd2
  have HD1 := Lib.hid hd1
  clear h hr0 hok hd1 hd2
  cases ho : ordS l0 with
  | nil =>
    have h0 : (itemsTo l0 l0.length).length = 0 := by rw [← HD1.out, ho]; rfl
    have HO := Lib.hid ho
    clear ho
    go_enter Try.func16, Try.ntmps16
    go_wp2_with (go_at_call 19; refine hop.mono ?_; rintro e w2 ⟨hp, g, cap, rfl, hhp, hH2, hb2⟩; have hc2 : w2.cell? ⟨hp, 0, none⟩ = some (.slice (some ⟨g, 0, none⟩) 0 cap) := (blk_cell hH2.cell 0).trans (by rw [build_len, h0]; rfl); have HB2 := Lib.hid hb2; clear hhp hH2 hb2 hop)
    go_ret2
    have hr := HR.out
    rw [HO.out] at hr
    injection hr with hr0 hr1
    subst hr0
    subst hr1
    exact ⟨rfl, HB2.out⟩
  | cons x xs =>
    have hpos : 0 < (itemsTo l0 l0.length).length := by rw [← HD1.out, ho]; exact Nat.succ_pos _
    have hx : Hp.g (Hp.build ltS (itemsTo l0 l0.length)) 0 = x := by rw [HD2.out hpos, ho]; rfl
    obtain ⟨m, hm⟩ : ∃ m, (Hp.build ltS (itemsTo l0 l0.length)).length = m + 1 := ⟨(itemsTo l0 l0.length).length - 1, by rw [build_len]; omega⟩
    have hmz : (0 : Int) < (m : Int) + 1 := by omega
    have hmne : ((m : Int) + 1 == 0) = false := by rw [beq_eq_false_iff_ne]; omega
    have hm9 : m ≤ 900 := by rw [build_len] at hm; have := itemsTo_len l0 l0.length; omega
    have HO := Lib.hid ho
    have HX := Lib.hid hx
    have HM := Lib.hid hm
    clear ho hx hm hpos
    go_enter Try.func16, Try.ntmps16
    go_wp2_with (go_at_call 19; refine hop.mono ?_; rintro e w2 ⟨hp, g, cap, rfl, hhp, hH2, hb2⟩; have hc2 : w2.cell? ⟨hp, 0, none⟩ = some (.slice (some ⟨g, 0, none⟩) (m + 1) cap) := (blk_cell hH2.cell 0).trans (by rw [HM.out]; rfl); have i0 : w2.cell? ⟨g, 0, none⟩ = some (.int .i64 x.f0) := by { have h := (own3 hH2.row 0 (by rw [HM.out]; exact Nat.succ_pos m)).1; rw [rd_g, HX.out, Nat.zero_mul] at h; exact h }; have HB2 := Lib.hid hb2; clear hhp hH2 hb2 hop)
    go_ret2
    have hr := HR.out
    rw [HO.out] at hr
    injection hr with hr0 hr1
    subst hr0
    subst hr1
    exact ⟨rfl, HB2.out⟩


end Go.Proofs.Ytaifcadnnmicnaa.XE
