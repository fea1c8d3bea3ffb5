-- Written by wip/xprint.py, a session's program: printed out of the translation, with hand-written functions. Lean checks it.
import Derived.Test.YtnelnmlhlmocdaaGreatDoorXB0
import Derived.Test.YtnelnmlhlmocdaaGreatDoorXB2
import Derived.Test.YtnelnmlhlmocdaaGreatDoorXB3
import Derived.Test.YtnelnmlhlmocdaaGreatDoorXB4
import Derived.Test.YtnelnmlhlmocdaaGreatDoorXB8
namespace Go.Proofs.YtnelnmlhlmocdaaGreatDoor.XB
open Go.RowKit Go.Proofs.YtnelnmlhlmocdaaGreatDoorW.PrintWords Go.Proofs.YtnelnmlhlmocdaaGreatDoorW.PrintLast Go.Proofs.YtnelnmlhlmocdaaGreatDoorW.PrintMore
attribute [local go_sem] max2_int min2_int max_two min_two max_three min_three max_four min_four   -- for this text's walks alone
set_option linter.unusedVariables false
set_option linter.unusedSimpArgs false

/-! ### trade_Read: function 9 -/
theorem below_same {B g i : Nat} {a w : World} {t : TypeId} {cs : Array Value} {u : Value} (h : Below B a w) (hg : w.heap[g]? = some (.cells cs t (0, 0))) (e : cs.setIfInBounds i u = cs) : Below B a (w.setCell ⟨g, i, none⟩ u) := by
  have h1 := blk_put hg i u e
  have h2 := (Below.refl 0 w).setCell (p := ⟨g, i, none⟩) (Nat.zero_le g) u
  refine ⟨h2.os.trans h.os, h2.tape.trans h.tape, h2.output.trans h.output, Nat.le_trans h.size h2.size, fun j hj => ?_⟩
  by_cases e : j = g
  · subst e
    exact (h1.trans hg.symm).trans (h.block j hj)
  · exact (Below.heap_setCell w _ u j e).trans (h.block j hj)
set_option maxHeartbeats 2000000 in
set_option maxRecDepth 100000 in
theorem iso_Get_w (mti : ByteArray) (A : Option Addr) (c : Nat) (xs : List S56) (n : Int) (v : ByteArray) (i : Nat) (w : World) (hC : Kd.C k56 w A xs.length xs) (hi : i < xs.length) (hv : rd_T56 xs (i : Int) = ⟨n, v⟩) (hj : ∀ j : Nat, j < i → (rd_T56 xs (j : Int)).f0 ≠ n) :
    Calls Tryz.prog 88 #[.agg #[.string mti, .slice A xs.length c], .int .i64 n] w fun e w' => e = .returned (.tuple #[.string v, .bool true]) ∧ Below w.heap.size w w' := by
  have hu := Tryz.underlying32
  have hu5 := Tryz.underlying56
  have hb1 := blk_alloc (blk_new w (.cells #[.string mti, .slice A xs.length c] 32 (0, 0))) (.cells #[.int .i64 n] 3 (0, 0))
  have hb2 := blk_new (w.alloc (.cells #[.string mti, .slice A xs.length c] 32 (0, 0))) (.cells #[.int .i64 n] 3 (0, 0))
  have hBe := below_alloc (below_alloc (Below.refl w.heap.size w) (.cells #[.string mti, .slice A xs.length c] 32 (0, 0))) (.cells #[.int .i64 n] 3 (0, 0))
  rw [show (w.alloc (.cells #[.string mti, .slice A xs.length c] 32 (0, 0))).heap.size = w.heap.size + 1 by simp] at hb2
  have hC0 := Kd.C_below hC hBe
  clear hC
  go_enter Tryz.func88, Tryz.ntmps88
  go_upto_region 1 with fail
  generalize (w.alloc (.cells #[.string mti, .slice A xs.length c] 32 (0, 0))).alloc (.cells #[.int .i64 n] 3 (0, 0)) = W0 at hb1 hb2 hBe hC0 ⊢
  have hT0 : W0.cell? ⟨w.heap.size + 1, 0, none⟩ = some (.int .i64 n) := (blk_cell hb2 0).trans rfl
  have hTl : w.heap.size + 1 < W0.heap.size := blk_lt hb2
  have hidx := (fidx_walk 111 #[.pointer (some ⟨w.heap.size + 1, 0, none⟩)] (enters_of Tryz.func111 (by kernel_rfl) rfl) (fun W => Below W0.heap.size W0 W) (fun k => (rd_T56 xs (k : Int)).f0 == n) A c xs W0 (Below.refl _ _) (fun W h => Kd.C_below hC0 h) (fun W k hk hb => by
    refine (eqF_w 111 (.inr rfl) n (w.heap.size + 1) _ W ((hb.cell (p := ⟨w.heap.size + 1, 0, none⟩) hTl).trans hT0)).mono ?_
    rintro e w' ⟨rfl, hb2⟩
    exact ⟨rfl, hb.trans (hb2.mono hb.size)⟩)).mono (R' := fun e w' => e = .returned (.int .i64 i) ∧ Below W0.heap.size W0 w') (by
    rintro e w' (⟨k, hk, hp, hkj, rfl, hb⟩ | ⟨hn, -, -⟩)
    · obtain rfl : k = i := by
        rcases Nat.lt_trichotomy k i with h | h | h
        · exact absurd (eq_of_beq hp) (hj k h)
        · exact h
        · have := hkj i h
          simp only [hv, beq_self_eq_true] at this
          cases this
      exact ⟨rfl, hb⟩
    · have := hn i hi
      simp only [hv, beq_self_eq_true] at this
      cases this)
  have hc1 : W0.cell? ⟨w.heap.size, 1, none⟩ = some (.slice A xs.length c) := (blk_cell hb1 1).trans rfl
  have hilt : (i : Int) < (xs.length : Int) := by omega
  have HC0 := Lib.hid hC0
  have H1 := Lib.hid hb1
  have HBe := Lib.hid hBe
  clear hC0 hb1 hb2 hBe hT0
  have HV := Lib.hid hv
  clear hv hj
  go_upto_region 2 with (go_at_call 24; refine hidx.mono ?_; rintro e w1 ⟨rfl, hb1⟩; have hd1 := blk_below H1.out hb1; have hc2 : w1.cell? ⟨w.heap.size, 1, none⟩ = some (.slice A xs.length c) := (blk_cell hd1 1).trans rfl; obtain ⟨ad, rfl, l0, l1⟩ := at_T56 (Kd.C_below HC0.out hb1) (i : Int) (by omega) hilt)
  rw [HV.out, Int.toNat_natCast] at l0 l1
  simp only at l0 l1
  go_wp2
  go_ret2
  exact ⟨rfl, HBe.out.trans (hb1.mono HBe.out.size)⟩
/-- the reader's cells -/
def rdA (a0 a1 a2 : ByteArray) (a3 : Int) (a4 a5 a6 a7 mt : ByteArray) (l : Value) : Array Value := #[.string a0, .string a1, .string a2, .int .i64 a3, .string a4, .string a5, .string a6, .string a7, .string ⟨#[]⟩, .int .i64 0, .int .i64 0, .string ⟨#[]⟩, .string mt, l, .bool false]
set_option maxHeartbeats 2000000 in
set_option maxRecDepth 100000 in
theorem text_w (R : Nat) (a0 a1 a2 : ByteArray) (a3 : Int) (a4 a5 a6 a7 mt : ByteArray) (A : Option Addr) (c : Nat) (xs : List S56) (n : Int) (v : ByteArray) (f : Nat) (i : Nat) (w : World) (hR : w.heap[R]? = some (.cells (rdA a0 a1 a2 a3 a4 a5 a6 a7 mt (.slice A xs.length c)) 73 (0, 0)))
    (hC : Kd.C k56 w A xs.length xs) (hi : i < xs.length) (hv : rd_T56 xs (i : Int) = ⟨n, v⟩) (hj : ∀ j : Nat, j < i → (rd_T56 xs (j : Int)).f0 ≠ n)
    (eg : ∀ args w, (callFunc f args).run Tryz.prog w = .ok (.enter f args) w) (hf : ∀ W : World, Calls Tryz.prog f #[.string v] W fun e w' => e = .returned (.bool true) ∧ Below W.heap.size W w') :
    Calls Tryz.prog 59 #[.pointer (some ⟨R, 0, none⟩), .int .i64 n, .func (.func f) #[] #[]] w fun e w' => e = .returned (.string v) ∧ Below w.heap.size w w' := by
  have hu := Tryz.underlying73
  have hu2 := Tryz.underlying32
  unfold rdA at hR
  have hg := iso_Get_w mt A c xs n v i w hC hi hv hj
  have c12 : w.cell? ⟨R, 12, none⟩ = some (.string mt) := (blk_cell hR 12).trans rfl
  have c13 : w.cell? ⟨R, 13, none⟩ = some (.slice A xs.length c) := (blk_cell hR 13).trans rfl
  have HR := Lib.hid hR
  have HF := Lib.hid hf
  clear hC hv hj hR hf
  go_enter Tryz.func59, Tryz.ntmps59
  go_upto_region 2 with (go_at_call 88; refine hg.mono ?_; rintro e w1 ⟨rfl, hb1⟩)
  have hR1 := blk_below HR.out hb1
  have d14 : w1.cell? ⟨R, 14, none⟩ = some (.bool false) := (blk_cell hR1 14).trans rfl
  have HR1 := Lib.hid hR1
  have HB1 := Lib.hid hb1
  clear hR1 hb1 hg c12 c13
  go_wp2_with (go_at_fn f; refine (HF.out _).mono ?_; rintro e w2 ⟨rfl, hb2⟩; have hR2 := blk_below HR1.out hb2; have e14 : w2.cell? ⟨R, 14, none⟩ = some (.bool false) := (blk_cell hR2 14).trans rfl; have f14 := blk_frozen hR2 14; have HR2 := Lib.hid hR2; have HB2 := Lib.hid hb2; clear hR2 hb2)
  go_ret
  exact ⟨rfl, below_same (HB1.out.trans (HB2.out.mono HB1.out.size)) HR2.out rfl⟩
/-- the list has field n, and it is v -/
def Has (xs : List S56) (n : Int) (v : ByteArray) : Prop := ∃ i : Nat, i < xs.length ∧ rd_T56 xs (i : Int) = ⟨n, v⟩ ∧ ∀ j : Nat, j < i → (rd_T56 xs (j : Int)).f0 ≠ n
theorem C_low {R : Nat} {w w' : World} {A : Option Addr} {xs : List S56} (h : Kd.C k56 w A xs.length xs) (hA : ∀ ad, A = some ad → ad.block < R) (hb : Below R w w') : Kd.C k56 w' A xs.length xs := by
  obtain ⟨h1, h2, h3⟩ := h
  refine ⟨h1, h2, fun hp => ?_⟩
  obtain ⟨ad, e, hc⟩ := h3 hp
  have hl := hA ad e
  refine ⟨ad, e, fun j p hj => ?_⟩
  obtain ⟨c, hcl, hK, hcell⟩ := hc j p hj
  refine ⟨c, hcl, ?_, fun i u hu => ?_⟩
  · obtain rfl := k56_open hK
    exact k56_mk _ _
  · have hl2 : (ad.add (j * k56.sz + i)).block < R := by
      have e : (ad.add (j * k56.sz + i)).block = ad.block := by unfold Addr.add; split <;> rfl
      rw [e]; exact hl
    exact (hb.cell hl2).trans (hcell i u hu)
theorem text_h (R : Nat) (a0 a1 a2 : ByteArray) (a3 : Int) (a4 a5 a6 a7 mt : ByteArray) (A : Option Addr) (c : Nat) (xs : List S56) (n : Int) (v : ByteArray) (f : Nat) (w : World) (hR : w.heap[R]? = some (.cells (rdA a0 a1 a2 a3 a4 a5 a6 a7 mt (.slice A xs.length c)) 73 (0, 0)))
    (hC : Kd.C k56 w A xs.length xs) (hH : Has xs n v)
    (eg : ∀ args w, (callFunc f args).run Tryz.prog w = .ok (.enter f args) w) (hf : ∀ W : World, Calls Tryz.prog f #[.string v] W fun e w' => e = .returned (.bool true) ∧ Below W.heap.size W w') :
    Calls Tryz.prog 59 #[.pointer (some ⟨R, 0, none⟩), .int .i64 n, .func (.func f) #[] #[]] w fun e w' => e = .returned (.string v) ∧ Below w.heap.size w w' := by
  obtain ⟨i, hi, hv, hj⟩ := hH
  exact text_w R a0 a1 a2 a3 a4 a5 a6 a7 mt A c xs n v f i w hR hC hi hv hj eg hf
set_option maxHeartbeats 2000000 in
set_option maxRecDepth 100000 in
theorem number_w (R : Nat) (a0 a1 a2 : ByteArray) (a3 : Int) (a4 a5 a6 a7 mt : ByteArray) (A : Option Addr) (c : Nat) (xs : List S56) (v : ByteArray) (k : Int) (w : World) (hR : w.heap[R]? = some (.cells (rdA a0 a1 a2 a3 a4 a5 a6 a7 mt (.slice A xs.length c)) 73 (0, 0)))
    (hC : Kd.C k56 w A xs.length xs) (hH : Has xs 4 v) (hd : Pu.allD v = true) (hsz : v.size ≤ 100) (hp : Lib.parseIntB 64 v.data.toList = .ok k) (hk : 1 ≤ k) :
    Calls Tryz.prog 66 #[.pointer (some ⟨R, 0, none⟩), .int .i64 4, .int .i64 1] w fun e w' => e = .returned (.int .i64 k) ∧ Below w.heap.size w w' := by
  have hu := Tryz.underlying73
  have htx := text_h R a0 a1 a2 a3 a4 a5 a6 a7 mt A c xs 4 v 18 w hR hC hH (enters_of Tryz.func18 (by kernel_rfl) rfl) (fun W => (digit_All.calls v true W (by unfold digit_All.f; rw [if_pos (by omega), hd])).mono (fun e w' h => ⟨h.1, by first | exact h.2 | exact h.2.below⟩))
  have hpi := fun W => Tryz.strconv_ParseInt_10_at64_ok v (by omega) k hp W
  unfold rdA at hR
  have HR := Lib.hid hR
  have hlt : ¬ k < 1 := by omega
  clear hC hH hd hp hR
  go_enter Tryz.func66, Tryz.ntmps66
  go_upto_region 2 with (first
    | (go_at_call 59; refine htx.mono ?_; rintro e w1 ⟨rfl, hb1⟩)
    | (go_at_call 89; refine (hpi _).mono ?_; rintro e w2 ⟨rfl, hw2⟩; have hb2 : Below w1.heap.size w1 w2 := (by rcases hw2 with rfl | ⟨t, rfl⟩; exact Below.refl _ _; exact Lib.bytesWorld_below _ _ _); clear hw2))
  have hB2 := hb1.trans (hb2.mono hb1.size)
  have hR2 := blk_below HR.out hB2
  have e14 : w2.cell? ⟨R, 14, none⟩ = some (.bool false) := (blk_cell hR2 14).trans rfl
  have f14 := blk_frozen hR2 14
  have HR2 := Lib.hid hR2
  have HB2 := Lib.hid hB2
  clear hR2 hB2 hb1 hb2 htx hpi
  go_wp2
  go_ret
  exact ⟨rfl, below_same HB2.out HR2.out (by rw [decide_eq_false (show ¬ k < 1 by omega)]; rfl)⟩
set_option maxHeartbeats 4000000 in
set_option maxRecDepth 100000 in
theorem deal_w (R : Nat) (a0 a1 a2 : ByteArray) (a3 : Int) (a4 a5 a6 a7 mt : ByteArray) (A : Option Addr) (c : Nat) (xs : List S56) (am acq rrn : ByteArray) (k : Int) (w : World) (hR : w.heap[R]? = some (.cells (rdA a0 a1 a2 a3 a4 a5 a6 a7 mt (.slice A xs.length c)) 73 (0, 0)))
    (hC : Kd.C k56 w A xs.length xs) (hA : ∀ ad, A = some ad → ad.block < R) (h4 : Has xs 4 am) (h32 : Has xs 32 acq) (h37 : Has xs 37 rrn) (hd : Pu.allD am = true) (hsz : am.size ≤ 100) (hp : Lib.parseIntB 64 am.data.toList = .ok k) (hk : 1 ≤ k)
    (hq : Pu.mayB 2 acq = true) (hr : Pu.refB rrn = true) (hrs : rrn.size ≤ 100) :
    Calls Tryz.prog 62 #[.pointer (some ⟨R, 0, none⟩), .int .i64 1] w fun e w' => (∃ v, e = .returned v) ∧ w'.heap[R]? = some (.cells (rdA a0 a1 a2 k a4 a5 acq rrn mt (.slice A xs.length c)) 73 (0, 0)) ∧ Below R w w' := by
  have hu := Tryz.underlying73
  have hu3 := Tryz.underlying38
  have hRl : R < w.heap.size := blk_lt hR
  have hnum := number_w R a0 a1 a2 a3 a4 a5 a6 a7 mt A c xs am k w hR hC h4 hd hsz hp hk
  have hq65 : ∀ W : World, Calls Tryz.prog 65 #[.string acq] W fun e w' => e = .returned (.bool true) ∧ Below W.heap.size W w' := fun W => trade_acq.calls acq true W (by unfold trade_acq.f chart_May.f; rw [hq]; rfl)
  have hr12 : ∀ W : World, Calls Tryz.prog 12 #[.string rrn] W fun e w' => e = .returned (.bool true) ∧ Below W.heap.size W w' := fun W => (hold_Ref.calls rrn true W (by unfold hold_Ref.f; rw [if_pos (by omega), hr])).mono (fun e w' h => ⟨h.1, by first | exact h.2 | exact h.2.below⟩)
  have HC := Lib.hid hC
  have HA := Lib.hid hA
  have HR := Lib.hid hR
  have H32 := Lib.hid h32
  have H37 := Lib.hid h37
  have HQ := Lib.hid hq65
  have HP := Lib.hid hr12
  clear hC hA hR h4 h32 h37 hd hp hq hr hq65 hr12
  go_enter Tryz.func62, Tryz.ntmps62
  go_upto_region 2 with (go_at_call 66; refine hnum.mono ?_; rintro e w1 ⟨rfl, hb1⟩; have hR1 := blk_below HR.out hb1; have c3 : w1.cell? ⟨R, 3, none⟩ = some (.int .i64 a3) := (blk_cell hR1 3).trans rfl; have f3 := blk_frozen hR1 3; have HR1 := Lib.hid hR1; have HB1 := Lib.hid (Below.mono hb1 (Nat.le_of_lt hRl)); clear hR1 hb1)
  have hR1 : (w1.setCell ⟨R, 3, none⟩ (.int .i64 k)).heap[R]? = some (.cells (rdA a0 a1 a2 k a4 a5 a6 a7 mt (.slice A xs.length c)) 73 (0, 0)) := blk_put HR1.out 3 _ rfl
  have hB1 : Below R w (w1.setCell ⟨R, 3, none⟩ (.int .i64 k)) := HB1.out.setCell (p := ⟨R, 3, none⟩) (Nat.le_refl R) _
  clear c3 f3 HR1 HB1 hnum
  generalize w1.setCell ⟨R, 3, none⟩ (.int .i64 k) = W1 at hR1 hB1 ⊢
  have ht2 := text_h R a0 a1 a2 k a4 a5 a6 a7 mt A c xs 32 acq 65 W1 hR1 (C_low HC.out HA.out hB1) H32.out (enters_of Tryz.func65 (by kernel_rfl) rfl) HQ.out
  have HR1 := Lib.hid hR1
  have HB1 := Lib.hid hB1
  clear hR1 hB1
  go_upto_region 3 with (go_at_call 59; refine ht2.mono ?_; rintro e w2 ⟨rfl, hb2⟩; have hR2 := blk_below HR1.out hb2; have c6 : w2.cell? ⟨R, 6, none⟩ = some (.string a6) := (blk_cell hR2 6).trans rfl; have f6 := blk_frozen hR2 6; have HR2 := Lib.hid hR2; have HB2 := Lib.hid (HB1.out.trans (Below.mono hb2 (Nat.le_of_lt (blk_lt HR1.out)))); clear hR2 hb2)
  have hR2 : (w2.setCell ⟨R, 6, none⟩ (.string acq)).heap[R]? = some (.cells (rdA a0 a1 a2 k a4 a5 acq a7 mt (.slice A xs.length c)) 73 (0, 0)) := blk_put HR2.out 6 _ rfl
  have hB2 : Below R w (w2.setCell ⟨R, 6, none⟩ (.string acq)) := HB2.out.setCell (p := ⟨R, 6, none⟩) (Nat.le_refl R) _
  clear c6 f6 HR2 HB2 ht2
  generalize w2.setCell ⟨R, 6, none⟩ (.string acq) = W2 at hR2 hB2 ⊢
  have ht3 := text_h R a0 a1 a2 k a4 a5 acq a7 mt A c xs 37 rrn 12 W2 hR2 (C_low HC.out HA.out hB2) H37.out (enters_of Tryz.func12 (by kernel_rfl) rfl) HP.out
  have HR2 := Lib.hid hR2
  have HB2 := Lib.hid hB2
  clear hR2 hB2
  go_wp2_with (go_at_call 59; refine ht3.mono ?_; rintro e w3 ⟨rfl, hb3⟩; have hR3 := blk_below HR2.out hb3; have c7 : w3.cell? ⟨R, 7, none⟩ = some (.string a7) := (blk_cell hR3 7).trans rfl; have f7 := blk_frozen hR3 7; have HR3 := Lib.hid hR3; have HB3 := Lib.hid (HB2.out.trans (Below.mono hb3 (Nat.le_of_lt (blk_lt HR2.out)))); clear hR3 hb3)
  go_end0
  exact ⟨⟨_, rfl⟩, blk_put HR3.out 7 _ rfl, HB3.out.setCell (p := ⟨R, 7, none⟩) (Nat.le_refl R) _⟩
set_option maxHeartbeats 4000000 in
set_option maxRecDepth 100000 in
theorem readr_w (R : Nat) (a0 : ByteArray) (mt : ByteArray) (A : Option Addr) (c : Nat) (xs : List S56) (pan code am sent stan acq rrn : ByteArray) (k : Int) (w : World) (hR : w.heap[R]? = some (.cells (rdA a0 ⟨#[]⟩ ⟨#[]⟩ 0 ⟨#[]⟩ ⟨#[]⟩ ⟨#[]⟩ ⟨#[]⟩ mt (.slice A xs.length c)) 73 (0, 0)))
    (hC : Kd.C k56 w A xs.length xs) (hA : ∀ ad, A = some ad → ad.block < R) (h2 : Has xs 2 pan) (h3 : Has xs 3 code) (h4 : Has xs 4 am) (h7 : Has xs 7 sent) (h11 : Has xs 11 stan) (h32 : Has xs 32 acq) (h37 : Has xs 37 rrn) (hd : Pu.allD am = true) (hsz : am.size ≤ 100) (hp : Lib.parseIntB 64 am.data.toList = .ok k) (hk : 1 ≤ k)
    (hn : Pu.mayB 1 pan = true) (hq : Pu.mayB 2 acq = true) (hr : Pu.refB rrn = true) (hrs : rrn.size ≤ 100) :
    Calls Tryz.prog 33 #[.pointer (some ⟨R, 0, none⟩), .int .i64 1] w fun e w' => (∃ v, e = .returned v) ∧ w'.heap[R]? = some (.cells (rdA a0 pan code k sent stan acq rrn mt (.slice A xs.length c)) 73 (0, 0)) ∧ Below R w w' := by
  have hu := Tryz.underlying73
  have hu3 := Tryz.underlying38
  have hRl : R < w.heap.size := blk_lt hR
  have hany : ∀ (v : ByteArray) (W : World), Calls Tryz.prog 60 #[.string v] W fun e w' => e = .returned (.bool true) ∧ Below W.heap.size W w' := fun v W => (trade_any.calls v true W rfl).mono (fun e w' h => ⟨h.1, by first | exact h.2 | exact h.2.below⟩)
  have hpan : ∀ W : World, Calls Tryz.prog 61 #[.string pan] W fun e w' => e = .returned (.bool true) ∧ Below W.heap.size W w' := fun W => trade_pan.calls pan true W (by unfold trade_pan.f chart_May.f; rw [hn]; rfl)
  have ht7 := text_h R a0 ⟨#[]⟩ ⟨#[]⟩ 0 ⟨#[]⟩ ⟨#[]⟩ ⟨#[]⟩ ⟨#[]⟩ mt A c xs 7 sent 60 w hR hC h7 (enters_of Tryz.func60 (by kernel_rfl) rfl) (hany sent)
  have HC := Lib.hid hC
  have HA := Lib.hid hA
  have HR := Lib.hid hR
  have H2 := Lib.hid h2
  have H3 := Lib.hid h3
  have H11 := Lib.hid h11
  have HANY := Lib.hid hany
  have HPAN := Lib.hid hpan
  have HDEAL : Hid (∀ (a1 a2 a4 a5 : ByteArray) (W : World), W.heap[R]? = some (.cells (rdA a0 a1 a2 0 a4 a5 ⟨#[]⟩ ⟨#[]⟩ mt (.slice A xs.length c)) 73 (0, 0)) → Kd.C k56 W A xs.length xs → Calls Tryz.prog 62 #[.pointer (some ⟨R, 0, none⟩), .int .i64 1] W fun e w' => (∃ v, e = .returned v) ∧ w'.heap[R]? = some (.cells (rdA a0 a1 a2 k a4 a5 acq rrn mt (.slice A xs.length c)) 73 (0, 0)) ∧ Below R W w') := Lib.hid fun a1 a2 a4 a5 W hRW hCW => deal_w R a0 a1 a2 0 a4 a5 ⟨#[]⟩ ⟨#[]⟩ mt A c xs am acq rrn k W hRW hCW hA h4 h32 h37 hd hsz hp hk hq hr hrs
  clear hC hA hR h2 h3 h4 h7 h11 h32 h37 hd hp hn hq hr hany hpan
  go_enter Tryz.func33, Tryz.ntmps33
  go_upto_region 2 with (first
    | (go_at_call 59; refine ht7.mono ?_; clear ht7; rintro e w1 ⟨rfl, hb1⟩; have hR1 := blk_below HR.out hb1; have hB1 := Below.mono hb1 (Nat.le_of_lt hRl); have ht11 := text_h R a0 ⟨#[]⟩ ⟨#[]⟩ 0 ⟨#[]⟩ ⟨#[]⟩ ⟨#[]⟩ ⟨#[]⟩ mt A c xs 11 stan 60 w1 hR1 (C_low HC.out HA.out hB1) H11.out (enters_of Tryz.func60 (by kernel_rfl) rfl) (HANY.out stan); have HR1 := Lib.hid hR1; have HB1 := Lib.hid hB1; clear hR1 hB1 hb1)
    | (go_at_call 59; refine ht11.mono ?_; clear ht11; rintro e w2 ⟨rfl, hb2⟩; have hR2 := blk_below HR1.out hb2; have c4 : w2.cell? ⟨R, 4, none⟩ = some (.string ⟨#[]⟩) := (blk_cell hR2 4).trans rfl; have f4 := blk_frozen hR2 4; have c5 : w2.cell? ⟨R, 5, none⟩ = some (.string ⟨#[]⟩) := (blk_cell hR2 5).trans rfl; have f5 := blk_frozen hR2 5; have HR2 := Lib.hid hR2; have HB2 := Lib.hid (HB1.out.trans (Below.mono hb2 (Nat.le_of_lt (blk_lt HR1.out)))); clear hR2 hb2))
  have hR3 : ((w2.setCell ⟨R, 4, none⟩ (.string sent)).setCell ⟨R, 5, none⟩ (.string stan)).heap[R]? = some (.cells (rdA a0 ⟨#[]⟩ ⟨#[]⟩ 0 sent stan ⟨#[]⟩ ⟨#[]⟩ mt (.slice A xs.length c)) 73 (0, 0)) := blk_put (blk_put HR2.out 4 _ rfl) 5 _ rfl
  have hB3 : Below R w ((w2.setCell ⟨R, 4, none⟩ (.string sent)).setCell ⟨R, 5, none⟩ (.string stan)) := (HB2.out.setCell (p := ⟨R, 4, none⟩) (Nat.le_refl R) _).setCell (p := ⟨R, 5, none⟩) (Nat.le_refl R) _
  clear c4 f4 c5 f5 HR2 HB2 HR1 HB1
  generalize (w2.setCell ⟨R, 4, none⟩ (.string sent)).setCell ⟨R, 5, none⟩ (.string stan) = W3 at hR3 hB3 ⊢
  have ht2 := text_h R a0 ⟨#[]⟩ ⟨#[]⟩ 0 sent stan ⟨#[]⟩ ⟨#[]⟩ mt A c xs 2 pan 61 W3 hR3 (C_low HC.out HA.out hB3) H2.out (enters_of Tryz.func61 (by kernel_rfl) rfl) HPAN.out
  have HR3 := Lib.hid hR3
  have HB3 := Lib.hid hB3
  clear hR3 hB3
  go_upto_region 6 with (first
    | (go_at_call 59; refine ht2.mono ?_; clear ht2; rintro e w4 ⟨rfl, hb4⟩; have hR4 := blk_below HR3.out hb4; have hB4 := HB3.out.trans (Below.mono hb4 (Nat.le_of_lt (blk_lt HR3.out))); have ht3 := text_h R a0 ⟨#[]⟩ ⟨#[]⟩ 0 sent stan ⟨#[]⟩ ⟨#[]⟩ mt A c xs 3 code 60 w4 hR4 (C_low HC.out HA.out hB4) H3.out (enters_of Tryz.func60 (by kernel_rfl) rfl) (HANY.out code); have HR4 := Lib.hid hR4; have HB4 := Lib.hid hB4; clear hR4 hB4 hb4)
    | (go_at_call 59; refine ht3.mono ?_; clear ht3; rintro e w5 ⟨rfl, hb5⟩; have hR5 := blk_below HR4.out hb5; have c1 : w5.cell? ⟨R, 1, none⟩ = some (.string ⟨#[]⟩) := (blk_cell hR5 1).trans rfl; have f1 := blk_frozen hR5 1; have c2 : w5.cell? ⟨R, 2, none⟩ = some (.string ⟨#[]⟩) := (blk_cell hR5 2).trans rfl; have f2 := blk_frozen hR5 2; have HR5 := Lib.hid hR5; have HB5 := Lib.hid (HB4.out.trans (Below.mono hb5 (Nat.le_of_lt (blk_lt HR4.out)))); clear hR5 hb5))
  have hR6 : ((w5.setCell ⟨R, 1, none⟩ (.string pan)).setCell ⟨R, 2, none⟩ (.string code)).heap[R]? = some (.cells (rdA a0 pan code 0 sent stan ⟨#[]⟩ ⟨#[]⟩ mt (.slice A xs.length c)) 73 (0, 0)) := blk_put (blk_put HR5.out 1 _ rfl) 2 _ rfl
  have hB6 : Below R w ((w5.setCell ⟨R, 1, none⟩ (.string pan)).setCell ⟨R, 2, none⟩ (.string code)) := (HB5.out.setCell (p := ⟨R, 1, none⟩) (Nat.le_refl R) _).setCell (p := ⟨R, 2, none⟩) (Nat.le_refl R) _
  clear c1 f1 c2 f2 HR5 HB5 HR4 HB4 HR3 HB3
  generalize (w5.setCell ⟨R, 1, none⟩ (.string pan)).setCell ⟨R, 2, none⟩ (.string code) = W6 at hR6 hB6 ⊢
  have hdeal := HDEAL.out pan code sent stan W6 hR6 (C_low HC.out HA.out hB6)
  have HB6 := Lib.hid hB6
  clear hR6 hB6
  go_wp2_with (go_at_call 62; refine hdeal.mono ?_; rintro e w7 ⟨⟨v7, rfl⟩, hR7, hB7⟩; have HR7 := Lib.hid hR7; have HB7 := Lib.hid hB7; clear hR7 hB7)
  go_end0
  exact ⟨⟨_, rfl⟩, HR7.out, HB6.out.trans HB7.out⟩
set_option maxHeartbeats 4000000 in
set_option maxRecDepth 100000 in
theorem tread_w (A : Option Addr) (c : Nat) (xs : List S56) (pan code am sent stan acq rrn : ByteArray) (k : Int) (w : World) (hC : Kd.C k56 w A xs.length xs) (hcc : xs.length ≤ c) (hA : ∀ ad, A = some ad → ad.block < w.heap.size)
    (hchk : iso_Check.f 40 ⟨#[48, 49, 48, 48]⟩ xs = some 0)
    (h2 : Has xs 2 pan) (h3 : Has xs 3 code) (h4 : Has xs 4 am) (h7 : Has xs 7 sent) (h11 : Has xs 11 stan) (h32 : Has xs 32 acq) (h37 : Has xs 37 rrn) (hd : Pu.allD am = true) (hsz : am.size ≤ 100) (hp : Lib.parseIntB 64 am.data.toList = .ok k) (hk : 1 ≤ k)
    (hn : Pu.mayB 1 pan = true) (hq : Pu.mayB 2 acq = true) (hr : Pu.refB rrn = true) (hrs : rrn.size ≤ 100) (HT0 : As.Env w) :
    Calls Tryz.prog 9 #[.agg #[.string ⟨#[48, 49, 48, 48]⟩, .slice A xs.length c]] w fun e w' => e = .returned (.tuple #[.agg #[.string ⟨#[48, 49, 48, 48]⟩, .string pan, .string code, .int .i64 k, .string sent, .string stan, .string acq, .string rrn, .string ⟨#[]⟩, .int .i64 0, .int .i64 0, .string ⟨#[]⟩], .int .i64 0]) ∧ Below w.heap.size w w' := by
  have hu := Tryz.underlying32
  have hu2 := Tryz.underlying38
  have hu3 := Tryz.underlying62
  have hu4 := Tryz.underlying73
  have hb1 := blk_alloc (blk_new w (.cells #[.string ⟨#[48, 49, 48, 48]⟩, .slice A xs.length c] 32 (0, 0))) (.cells #[.string ⟨#[]⟩, .string ⟨#[]⟩, .string ⟨#[]⟩, .int .i64 0, .string ⟨#[]⟩, .string ⟨#[]⟩, .string ⟨#[]⟩, .string ⟨#[]⟩, .string ⟨#[]⟩, .int .i64 0, .int .i64 0, .string ⟨#[]⟩] 38 (0, 0))
  have hb2 := blk_new (w.alloc (.cells #[.string ⟨#[48, 49, 48, 48]⟩, .slice A xs.length c] 32 (0, 0))) (.cells #[.string ⟨#[]⟩, .string ⟨#[]⟩, .string ⟨#[]⟩, .int .i64 0, .string ⟨#[]⟩, .string ⟨#[]⟩, .string ⟨#[]⟩, .string ⟨#[]⟩, .string ⟨#[]⟩, .int .i64 0, .int .i64 0, .string ⟨#[]⟩] 38 (0, 0))
  have hBe := below_alloc (below_alloc (Below.refl w.heap.size w) (.cells #[.string ⟨#[48, 49, 48, 48]⟩, .slice A xs.length c] 32 (0, 0))) (.cells #[.string ⟨#[]⟩, .string ⟨#[]⟩, .string ⟨#[]⟩, .int .i64 0, .string ⟨#[]⟩, .string ⟨#[]⟩, .string ⟨#[]⟩, .string ⟨#[]⟩, .string ⟨#[]⟩, .int .i64 0, .int .i64 0, .string ⟨#[]⟩] 38 (0, 0))
  rw [show (w.alloc (.cells #[.string ⟨#[48, 49, 48, 48]⟩, .slice A xs.length c] 32 (0, 0))).heap.size = w.heap.size + 1 by simp] at hb2
  have HCHK := Lib.hid hchk
  have HRD : Hid (∀ (R : Nat) (W : World), w.heap.size ≤ R → Below w.heap.size w W → W.heap[R]? = some (.cells (rdA ⟨#[48, 49, 48, 48]⟩ ⟨#[]⟩ ⟨#[]⟩ 0 ⟨#[]⟩ ⟨#[]⟩ ⟨#[]⟩ ⟨#[]⟩ ⟨#[48, 49, 48, 48]⟩ (.slice A xs.length c)) 73 (0, 0)) → Calls Tryz.prog 33 #[.pointer (some ⟨R, 0, none⟩), .int .i64 1] W fun e w' => (∃ v, e = .returned v) ∧ w'.heap[R]? = some (.cells (rdA ⟨#[48, 49, 48, 48]⟩ pan code k sent stan acq rrn ⟨#[48, 49, 48, 48]⟩ (.slice A xs.length c)) 73 (0, 0)) ∧ Below R W w') := Lib.hid fun R W hle hB hRW =>
    readr_w R _ _ A c xs pan code am sent stan acq rrn k W hRW (Kd.C_below hC hB) (fun ad e => by have := hA ad e; omega) h2 h3 h4 h7 h11 h32 h37 hd hsz hp hk hn hq hr hrs
  have HC := Lib.hid hC
  have HT := Lib.hid HT0
  have hpar := mti_parse_w
  have htxt := fun W => mti_Text.calls 5 1 false false false ⟨#[48, 49, 48, 48]⟩ 0 W (by kernel_rfl)
  clear hchk hC HT0 h2 h3 h4 h7 h11 h32 h37 hd hsz hp hk hn hq hr hrs hA
  go_enter Tryz.func9, Tryz.ntmps9
  go_upto_region 1 with fail
  generalize (w.alloc (.cells #[.string ⟨#[48, 49, 48, 48]⟩, .slice A xs.length c] 32 (0, 0))).alloc (.cells #[.string ⟨#[]⟩, .string ⟨#[]⟩, .string ⟨#[]⟩, .int .i64 0, .string ⟨#[]⟩, .string ⟨#[]⟩, .string ⟨#[]⟩, .string ⟨#[]⟩, .string ⟨#[]⟩, .int .i64 0, .int .i64 0, .string ⟨#[]⟩] 38 (0, 0)) = W0 at hb1 hb2 hBe ⊢
  have c0 : W0.cell? ⟨w.heap.size, 0, none⟩ = some (.string ⟨#[48, 49, 48, 48]⟩) := (blk_cell hb1 0).trans rfl
  have c1 : W0.cell? ⟨w.heap.size, 1, none⟩ = some (.slice A xs.length c) := (blk_cell hb1 1).trans rfl
  have hchk := iso_Check.calls 40 ⟨#[48, 49, 48, 48]⟩ A c xs 0 W0 (Kd.C_below HC.out hBe) hcc HCHK.out (HT.out.below hBe)
  go_upto_region 3 with (go_at_call 31; refine hchk.mono ?_; rintro e w1 ⟨rfl, hB1⟩)
  have hd1 := blk_below hb1 hB1
  have hd2 := blk_below hb2 hB1
  have hD := hBe.trans (hB1.mono hBe.size)
  clear c0 c1 hchk hb1 hb2 hBe hB1
  have c0 : w1.cell? ⟨w.heap.size, 0, none⟩ = some (.string ⟨#[48, 49, 48, 48]⟩) := (blk_cell hd1 0).trans rfl
  go_upto_region 4 with (go_at_call 28; refine (hpar _).mono ?_; rintro e w2 ⟨rfl, hB2⟩)
  have ha1 := blk_alloc (blk_below hd1 hB2) (.cells #[.int .i64 1, .bool false, .bool false, .bool false] 62 (0, 0))
  have ha2 := blk_alloc (blk_below hd2 hB2) (.cells #[.int .i64 1, .bool false, .bool false, .bool false] 62 (0, 0))
  have ha4 := blk_new w2 (.cells #[.int .i64 1, .bool false, .bool false, .bool false] 62 (0, 0))
  have hDa := below_alloc (hD.trans (hB2.mono hD.size)) (.cells #[.int .i64 1, .bool false, .bool false, .bool false] 62 (0, 0))
  have hT4 : w.heap.size + 1 < w2.heap.size := blk_lt (blk_below hd2 hB2)
  clear hd1 hd2 hD c0 hB2 hpar
  generalize w2.alloc (.cells #[.int .i64 1, .bool false, .bool false, .bool false] 62 (0, 0)) = W3 at ha1 ha2 ha4 hDa ⊢
  generalize w2.heap.size = T4 at ha4 hT4 ⊢
  have c0 : W3.cell? ⟨w.heap.size, 0, none⟩ = some (.string ⟨#[48, 49, 48, 48]⟩) := (blk_cell ha1 0).trans rfl
  have c1 : W3.cell? ⟨w.heap.size, 1, none⟩ = some (.slice A xs.length c) := (blk_cell ha1 1).trans rfl
  have c2 : W3.cell? ⟨T4, 2, none⟩ = some (.bool false) := (blk_cell ha4 2).trans rfl
  have HA2 := Lib.hid ha2
  have HA4 := Lib.hid ha4
  have HDa := Lib.hid hDa
  clear ha1 ha2 ha4 hDa
  have hb2 := blk_alloc HA2.out (.cells #[.string ⟨#[]⟩, .string ⟨#[]⟩, .string ⟨#[]⟩, .int .i64 0, .string ⟨#[]⟩, .string ⟨#[]⟩, .string ⟨#[]⟩, .string ⟨#[]⟩, .string ⟨#[]⟩, .int .i64 0, .int .i64 0, .string ⟨#[]⟩, .string ⟨#[48, 49, 48, 48]⟩, .slice A xs.length c, .bool false] 73 (0, 0))
  have hb4 := blk_alloc HA4.out (.cells #[.string ⟨#[]⟩, .string ⟨#[]⟩, .string ⟨#[]⟩, .int .i64 0, .string ⟨#[]⟩, .string ⟨#[]⟩, .string ⟨#[]⟩, .string ⟨#[]⟩, .string ⟨#[]⟩, .int .i64 0, .int .i64 0, .string ⟨#[]⟩, .string ⟨#[48, 49, 48, 48]⟩, .slice A xs.length c, .bool false] 73 (0, 0))
  have hbR := blk_new W3 (.cells #[.string ⟨#[]⟩, .string ⟨#[]⟩, .string ⟨#[]⟩, .int .i64 0, .string ⟨#[]⟩, .string ⟨#[]⟩, .string ⟨#[]⟩, .string ⟨#[]⟩, .string ⟨#[]⟩, .int .i64 0, .int .i64 0, .string ⟨#[]⟩, .string ⟨#[48, 49, 48, 48]⟩, .slice A xs.length c, .bool false] 73 (0, 0))
  have hBb := below_alloc HDa.out (.cells #[.string ⟨#[]⟩, .string ⟨#[]⟩, .string ⟨#[]⟩, .int .i64 0, .string ⟨#[]⟩, .string ⟨#[]⟩, .string ⟨#[]⟩, .string ⟨#[]⟩, .string ⟨#[]⟩, .int .i64 0, .int .i64 0, .string ⟨#[]⟩, .string ⟨#[48, 49, 48, 48]⟩, .slice A xs.length c, .bool false] 73 (0, 0))
  have hTR : T4 < W3.heap.size := blk_lt HA4.out
  go_upto_region 7 with fail
  clear c0 c1 c2 HA2 HA4 HDa
  generalize W3.alloc (.cells #[.string ⟨#[]⟩, .string ⟨#[]⟩, .string ⟨#[]⟩, .int .i64 0, .string ⟨#[]⟩, .string ⟨#[]⟩, .string ⟨#[]⟩, .string ⟨#[]⟩, .string ⟨#[]⟩, .int .i64 0, .int .i64 0, .string ⟨#[]⟩, .string ⟨#[48, 49, 48, 48]⟩, .slice A xs.length c, .bool false] 73 (0, 0)) = W4 at hb2 hb4 hbR hBb ⊢
  generalize W3.heap.size = R at hbR hTR ⊢
  have d3 : W4.cell? ⟨T4, 3, none⟩ = some (.bool false) := (blk_cell hb4 3).trans rfl
  have f3 := blk_frozen hb4 3
  have hc2 := blk_far hb2 (p := ⟨T4, 3, none⟩) (by show w.heap.size + 1 ≠ T4; omega) (.bool false)
  have hc4 : (W4.setCell ⟨T4, 3, none⟩ (.bool false)).heap[T4]? = some (.cells #[.int .i64 1, .bool false, .bool false, .bool false] 62 (0, 0)) := blk_put hb4 3 _ rfl
  have hcR := blk_far hbR (p := ⟨T4, 3, none⟩) (by show R ≠ T4; omega) (.bool false)
  have hBc := below_set (v := .bool false) (j := 3) hBb (show w.heap.size ≤ T4 by omega)
  go_upto_region 8 with fail
  clear d3 f3 hb2 hb4 hbR hBb
  generalize W4.setCell ⟨T4, 3, none⟩ (.bool false) = W5 at hc2 hc4 hcR hBc ⊢
  have d0 : W5.cell? ⟨T4, 0, none⟩ = some (.int .i64 1) := (blk_cell hc4 0).trans rfl
  have d1 : W5.cell? ⟨T4, 1, none⟩ = some (.bool false) := (blk_cell hc4 1).trans rfl
  have d2 : W5.cell? ⟨T4, 2, none⟩ = some (.bool false) := (blk_cell hc4 2).trans rfl
  have d3 : W5.cell? ⟨T4, 3, none⟩ = some (.bool false) := (blk_cell hc4 3).trans rfl
  have H2 := Lib.hid hc2
  have H4 := Lib.hid hc4
  have HR := Lib.hid hcR
  have HB := Lib.hid hBc
  clear hc2 hc4 hcR hBc
  go_upto_region 9 with (go_at_call 32; refine (htxt _).mono ?_; rintro e w6 ⟨rfl, hb6⟩; have hR6 := blk_below HR.out hb6; have e0 : w6.cell? ⟨R, 0, none⟩ = some (.string ⟨#[]⟩) := (blk_cell hR6 0).trans rfl; have g0 := blk_frozen hR6 0; have H6 := Lib.hid hb6; have HR6 := Lib.hid hR6; clear hb6 hR6)
  have hd2 := blk_far (blk_below H2.out H6.out) (p := ⟨R, 0, none⟩) (by show w.heap.size + 1 ≠ R; omega) (.string ⟨#[48, 49, 48, 48]⟩)
  have hd4 := blk_far (blk_below H4.out H6.out) (p := ⟨R, 0, none⟩) (by show T4 ≠ R; omega) (.string ⟨#[48, 49, 48, 48]⟩)
  have hdR : (w6.setCell ⟨R, 0, none⟩ (.string ⟨#[48, 49, 48, 48]⟩)).heap[R]? = some (.cells (rdA ⟨#[48, 49, 48, 48]⟩ ⟨#[]⟩ ⟨#[]⟩ 0 ⟨#[]⟩ ⟨#[]⟩ ⟨#[]⟩ ⟨#[]⟩ ⟨#[48, 49, 48, 48]⟩ (.slice A xs.length c)) 73 (0, 0)) := blk_put HR6.out 0 _ rfl
  have hdB := below_set (v := .string ⟨#[48, 49, 48, 48]⟩) (j := 0) (HB.out.trans (Below.mono H6.out HB.out.size)) (show w.heap.size ≤ R by omega)
  clear e0 g0 d0 d1 d2 d3 H2 H4 HR HB H6 HR6
  generalize w6.setCell ⟨R, 0, none⟩ (.string ⟨#[48, 49, 48, 48]⟩) = W7 at hd2 hd4 hdR hdB ⊢
  have d0 : W7.cell? ⟨T4, 0, none⟩ = some (.int .i64 1) := (blk_cell hd4 0).trans rfl
  have hrd := HRD.out R W7 (by omega) hdB hdR
  have H2 := Lib.hid hd2
  have HB := Lib.hid hdB
  have HT4 := Lib.hid (show w.heap.size + 1 < R by omega)
  clear hd2 hd4 hdR hdB
  go_upto_region 10 with (go_at_call 33; refine hrd.mono ?_; rintro e w8 ⟨⟨v8, rfl⟩, hR8, hB8⟩)
  have he2 := (hB8.block _ HT4.out).trans H2.out
  have heB := HB.out.trans (Below.mono hB8 (show w.heap.size ≤ R by have := HT4.out; omega))
  unfold rdA at hR8
  have x0 : w8.cell? ⟨R, 0, none⟩ = some (.string ⟨#[48, 49, 48, 48]⟩) := (blk_cell hR8 0).trans rfl
  have x1 : w8.cell? ⟨R, 1, none⟩ = some (.string pan) := (blk_cell hR8 1).trans rfl
  have x2 : w8.cell? ⟨R, 2, none⟩ = some (.string code) := (blk_cell hR8 2).trans rfl
  have x3 : w8.cell? ⟨R, 3, none⟩ = some (.int .i64 k) := (blk_cell hR8 3).trans rfl
  have x4 : w8.cell? ⟨R, 4, none⟩ = some (.string sent) := (blk_cell hR8 4).trans rfl
  have x5 : w8.cell? ⟨R, 5, none⟩ = some (.string stan) := (blk_cell hR8 5).trans rfl
  have x6 : w8.cell? ⟨R, 6, none⟩ = some (.string acq) := (blk_cell hR8 6).trans rfl
  have x7 : w8.cell? ⟨R, 7, none⟩ = some (.string rrn) := (blk_cell hR8 7).trans rfl
  have x8 : w8.cell? ⟨R, 8, none⟩ = some (.string ⟨#[]⟩) := (blk_cell hR8 8).trans rfl
  have x9 : w8.cell? ⟨R, 9, none⟩ = some (.int .i64 0) := (blk_cell hR8 9).trans rfl
  have x10 : w8.cell? ⟨R, 10, none⟩ = some (.int .i64 0) := (blk_cell hR8 10).trans rfl
  have x11 : w8.cell? ⟨R, 11, none⟩ = some (.string ⟨#[]⟩) := (blk_cell hR8 11).trans rfl
  have x14 : w8.cell? ⟨R, 14, none⟩ = some (.bool false) := (blk_cell hR8 14).trans rfl
  have hi38 : (Tryz.prog.info? 38).map (·.size) = some 12 := by kernel_rfl
  have HI38 := Lib.hid hi38
  clear hi38 hR8 hB8 hrd d0
  go_wp2_with (refine Pu.x_store rfl (t := 38) (p := 2) (v := .tmp 45) rfl rfl (g := w.heap.size + 1) rfl rfl he2 rfl HI38.out rfl ?_; rintro wS hS hfS hsS ho1 ho2 ho3)
  refine bodyPost_ret (results_ct rfl _ _ (w.heap.size + 1) 38 #[.string ⟨#[48, 49, 48, 48]⟩, .string pan, .string code, .int .i64 k, .string sent, .string stan, .string acq, .string rrn, .string ⟨#[]⟩, .int .i64 0, .int .i64 0, .string ⟨#[]⟩] (0, 0) _ rfl hS Tryz.underlying38 rfl HI38.out) rfl ?_
  exact ⟨rfl, Pu.below_stored heB (by omega) hfS hsS ho1 ho2 ho3⟩
def trade_Read.f (a0_0 : ByteArray) (l0_1 : List S56) : Option (ByteArray × ByteArray × ByteArray × Int × ByteArray × ByteArray × ByteArray × ByteArray × ByteArray × Int × Int × ByteArray × Int) :=
  match l0_1 with
  | [x2, x3, x4, x7, x11, x32, x37] =>
    if x2.f0 = 2 ∧ x3.f0 = 3 ∧ x4.f0 = 4 ∧ x7.f0 = 7 ∧ x11.f0 = 11 ∧ x32.f0 = 32 ∧ x37.f0 = 37 ∧ a0_0 = ⟨#[48, 49, 48, 48]⟩ ∧ iso_Check.f 40 a0_0 l0_1 = some 0 ∧ Pu.allD x4.f1 = true ∧ x4.f1.size ≤ 100 ∧ Pu.mayB 1 x2.f1 = true ∧ Pu.mayB 2 x32.f1 = true ∧ Pu.refB x37.f1 = true ∧ x37.f1.size ≤ 100 then
      (match Lib.parseIntB 64 x4.f1.data.toList with
      | .ok k => if 1 ≤ k then some (⟨#[48, 49, 48, 48]⟩, x2.f1, x3.f1, k, x7.f1, x11.f1, x32.f1, x37.f1, ⟨#[]⟩, 0, 0, ⟨#[]⟩, 0) else none
      | _ => none)
    else none
  | _ => none
theorem trade_Read.calls (a0_0 : ByteArray) (A0_1 : Option Addr) (c0_1 : Nat) (l0_1 : List (S56)) (r1 r2 r3 : ByteArray) (r4 : Int) (r5 r6 r7 r8 r9 : ByteArray) (r10 r11 : Int) (r12 : ByteArray) (r13 : Int) (w : World) (hr0_1 : Kd.C k56 w A0_1 l0_1.length l0_1) (hc0_1 : l0_1.length ≤ c0_1) (h : trade_Read.f a0_0 l0_1 = some (r1, r2, r3, r4, r5, r6, r7, r8, r9, r10, r11, r12, r13)) (HT0 : As.Env w) :
    Calls Tryz.prog 9 #[.agg #[.string a0_0, .slice A0_1 l0_1.length c0_1]] w fun e w' => e = .returned (.tuple #[.agg #[.string r1, .string r2, .string r3, .int .i64 r4, .string r5, .string r6, .string r7, .string r8, .string r9, .int .i64 r10, .int .i64 r11, .string r12], .int .i64 r13]) ∧ Below w.heap.size w w' := by
  unfold trade_Read.f at h
  split at h
  case h_2 => cases h
  case h_1 x2 x3 x4 x7 x11 x32 x37 =>
  split at h
  case isFalse => cases h
  case isTrue hb =>
  obtain ⟨e2, e3, e4, e7, e11, e32, e37, rfl, hck, hd, hsz, hn, hq, hr, hrs⟩ := hb
  split at h
  case h_2 => cases h
  case h_1 k hp =>
  split at h
  case isFalse => cases h
  case isTrue hk =>
  injection h with h
  injection h with h1 h
  injection h with h2 h
  injection h with h3 h
  injection h with h4 h
  injection h with h5 h
  injection h with h6 h
  injection h with h7 h
  injection h with h8 h
  injection h with h9 h
  injection h with h10 h
  injection h with h11 h
  injection h with h12 h13
  subst h1 h2 h3 h4 h5 h6 h7 h8 h9 h10 h11 h12 h13
  obtain ⟨n2, v2⟩ := x2
  obtain ⟨n3, v3⟩ := x3
  obtain ⟨n4, v4⟩ := x4
  obtain ⟨n7, v7⟩ := x7
  obtain ⟨n11, v11⟩ := x11
  obtain ⟨n32, v32⟩ := x32
  obtain ⟨n37, v37⟩ := x37
  simp only at e2 e3 e4 e7 e11 e32 e37
  subst e2 e3 e4 e7 e11 e32 e37
  have hA : ∀ ad, A0_1 = some ad → ad.block < w.heap.size := fun ad e => by
    obtain ⟨ad', e', hc⟩ := hr0_1.2.2 (by simp)
    rw [e] at e'
    cases e'
    obtain ⟨c, hcl, hK, hcell⟩ := hc 0 _ rfl
    obtain rfl := k56_open hK
    exact block_lt_of_cell (hcell 0 _ rfl)
  have lt : ∀ (j i : Nat), j < i → i ≤ 6 → j = 0 ∨ j = 1 ∨ j = 2 ∨ j = 3 ∨ j = 4 ∨ j = 5 := fun j i h1 h2 => by omega
  refine tread_w A0_1 c0_1 _ v2 v3 v4 v7 v11 v32 v37 k w hr0_1 hc0_1 hA hck ?_ ?_ ?_ ?_ ?_ ?_ ?_ hd hsz hp hk hn hq hr hrs HT0
  · exact ⟨0, by simp, rfl, fun j hj => absurd hj (Nat.not_lt_zero _)⟩
  · exact ⟨1, by simp, rfl, fun j hj => by rcases lt j _ hj (by omega) with rfl | rfl | rfl | rfl | rfl | rfl <;> first | omega | exact (show ¬ ((2 : Int) = _) from by decide) | exact (show ¬ ((3 : Int) = _) from by decide) | exact (show ¬ ((4 : Int) = _) from by decide) | exact (show ¬ ((7 : Int) = _) from by decide) | exact (show ¬ ((11 : Int) = _) from by decide) | exact (show ¬ ((32 : Int) = _) from by decide) ⟩
  · exact ⟨2, by simp, rfl, fun j hj => by rcases lt j _ hj (by omega) with rfl | rfl | rfl | rfl | rfl | rfl <;> first | omega | exact (show ¬ ((2 : Int) = _) from by decide) | exact (show ¬ ((3 : Int) = _) from by decide) | exact (show ¬ ((4 : Int) = _) from by decide) | exact (show ¬ ((7 : Int) = _) from by decide) | exact (show ¬ ((11 : Int) = _) from by decide) | exact (show ¬ ((32 : Int) = _) from by decide) ⟩
  · exact ⟨3, by simp, rfl, fun j hj => by rcases lt j _ hj (by omega) with rfl | rfl | rfl | rfl | rfl | rfl <;> first | omega | exact (show ¬ ((2 : Int) = _) from by decide) | exact (show ¬ ((3 : Int) = _) from by decide) | exact (show ¬ ((4 : Int) = _) from by decide) | exact (show ¬ ((7 : Int) = _) from by decide) | exact (show ¬ ((11 : Int) = _) from by decide) | exact (show ¬ ((32 : Int) = _) from by decide) ⟩
  · exact ⟨4, by simp, rfl, fun j hj => by rcases lt j _ hj (by omega) with rfl | rfl | rfl | rfl | rfl | rfl <;> first | omega | exact (show ¬ ((2 : Int) = _) from by decide) | exact (show ¬ ((3 : Int) = _) from by decide) | exact (show ¬ ((4 : Int) = _) from by decide) | exact (show ¬ ((7 : Int) = _) from by decide) | exact (show ¬ ((11 : Int) = _) from by decide) | exact (show ¬ ((32 : Int) = _) from by decide) ⟩
  · exact ⟨5, by simp, rfl, fun j hj => by rcases lt j _ hj (by omega) with rfl | rfl | rfl | rfl | rfl | rfl <;> first | omega | exact (show ¬ ((2 : Int) = _) from by decide) | exact (show ¬ ((3 : Int) = _) from by decide) | exact (show ¬ ((4 : Int) = _) from by decide) | exact (show ¬ ((7 : Int) = _) from by decide) | exact (show ¬ ((11 : Int) = _) from by decide) | exact (show ¬ ((32 : Int) = _) from by decide) ⟩
  · exact ⟨6, by simp, rfl, fun j hj => by rcases lt j _ hj (by omega) with rfl | rfl | rfl | rfl | rfl | rfl <;> first | omega | exact (show ¬ ((2 : Int) = _) from by decide) | exact (show ¬ ((3 : Int) = _) from by decide) | exact (show ¬ ((4 : Int) = _) from by decide) | exact (show ¬ ((7 : Int) = _) from by decide) | exact (show ¬ ((11 : Int) = _) from by decide) | exact (show ¬ ((32 : Int) = _) from by decide) ⟩


/-! ### chart_own: function 34 -/
def chart_own.f (a0 : Int) (a1 : ByteArray) : Option (Int × ByteArray × Int) := (chart_May.f a0 a1).bind fun t221 => (if t221 = true then (some (a0, a1, 0)) else (some (0, (⟨#[]⟩ : ByteArray), 4)))
set_option maxHeartbeats 8000000 in
set_option maxRecDepth 100000 in
theorem chart_own.calls (a0 : Int) (a1 : ByteArray) (r1 : Int) (r2 : ByteArray) (r3 : Int) (w : World) (h : chart_own.f a0 a1 = some (r1, r2, r3)) :
    Calls Tryz.prog 34 #[.int .i64 a0, .string a1] w fun e w' => e = .returned (.tuple #[.agg #[.int .i64 r1, .string r2], .int .i64 r3]) ∧ Below w.heap.size w w' := by
  have hu42 := Tryz.underlying42
  have HB := Aside0.mk (Below.refl w.heap.size w)
  have H : ((chart_May.f a0 a1).bind fun t221 => (if t221 = true then (some (a0, a1, 0)) else (some (0, (⟨#[]⟩ : ByteArray), 4)))) = some (r1, r2, r3) := h
  clear h
  replace H := Option.bind_eq_some_iff.mp H
  obtain ⟨t221, A30, H⟩ := H
  replace H : (if t221 = true then (some (a0, a1, 0)) else (some (0, (⟨#[]⟩ : ByteArray), 4))) = some (r1, r2, r3) := H
  have A3 := Aside0.mk A30
  clear A30
  by_cases c4 : t221 = true
  · subst c4
    have H1 : (some (a0, a1, 0)) = some (r1, r2, r3) := by rw [if_pos rfl] at H; exact H
    clear H
    have H := H1
    clear H1
    simp only [Option.some.injEq, Prod.mk.injEq] at H
    obtain ⟨rfl, rfl, rfl⟩ := H
    go_enter Tryz.func34, Tryz.ntmps34
    go_wp2_with (first | ((with_reducible refine gate_dst (N := 4) rfl ?_); refine box_event ?hg (N := 4) ?hd (cs := #[.int .i64 0, .string (⟨#[]⟩ : ByteArray)]) (t := 42) ?hr ?_; (case hd => rfl); (case hg => rfl); (case hr => first | (go_simp; done) | (go_simp; rfl)); intro gb219 hg w5 hbox hb; have n0_ := Aside0.mk (below_step (by repeat (first | (with_reducible first | exact HB.out | apply below_alloc | apply pw_below_drewN | apply below_drew1) | exact HB.out)) hb); have n1_ := Aside0.mk (hbox); have n2_ := Aside0.mk ((by rw [hg]; exact (below_size (by repeat (first | (with_reducible first | exact HB.out | apply below_alloc | apply pw_below_drewN | apply below_drew1) | exact HB.out))) : w.heap.size ≤ gb219)); have n3_ := Aside0.mk ((by rw [hg]; exact (below_size (by repeat (first | (with_reducible first | exact HB.out | apply below_alloc | apply pw_below_drewN | apply below_drew1) | exact HB.out))) : w.heap.size ≤ gb219)); clear HB; have HB := n0_; have BK219 := n1_; have GW219 := n2_; have GE219 := n3_; clear n0_ n1_ n2_ n3_; clear hb hbox hg) | ((with_reducible refine gate_dst (N := 6) rfl ?_); refine box_event ?hg (N := 6) ?hd (cs := #[.int .i64 0, .string (⟨#[]⟩ : ByteArray)]) (t := 42) ?hr ?_; (case hd => rfl); (case hg => rfl); (case hr => first | (go_simp; done) | (go_simp; rfl)); intro gb220 hg w6 hbox hb; have n0_ := Aside0.mk (blk_below (g := gb219) (o := .cells #[.int .i64 0, .string (⟨#[]⟩ : ByteArray)] 42 (0, 0)) (by (with_reducible repeat (first | refine blk_drewN ?_ _ | refine blk_drew ?_ | refine blk_alloc ?_ _)); exact BK219.out) hb); have n1_ := Aside0.mk (below_step (by repeat (first | (with_reducible first | exact HB.out | apply below_alloc | apply pw_below_drewN | apply below_drew1 | refine below_set ?_ GE219.out) | exact HB.out)) hb); have n2_ := Aside0.mk (hbox); have n3_ := Aside0.mk ((by rw [hg]; exact (below_size (by repeat (first | (with_reducible first | exact HB.out | apply below_alloc | apply pw_below_drewN | apply below_drew1 | refine below_set ?_ GE219.out) | exact HB.out))) : w.heap.size ≤ gb220)); have n4_ := Aside0.mk ((by rw [hg]; exact (below_size (by repeat (first | (with_reducible first | exact HB.out | apply below_alloc | apply pw_below_drewN | apply below_drew1 | refine below_set ?_ GE219.out) | exact HB.out))) : w.heap.size ≤ gb220)); have n5_ := Aside0.mk ((by rw [hg]; exact Nat.ne_of_lt (blk_lt (g := gb219) (o := .cells #[.int .i64 0, .string (⟨#[]⟩ : ByteArray)] 42 (0, 0)) (by (with_reducible repeat (first | refine blk_drewN ?_ _ | refine blk_drew ?_ | refine blk_alloc ?_ _)); exact BK219.out)) : gb219 ≠ gb220)); have n6_ := Aside0.mk ((by rw [hg]; exact Nat.ne_of_gt (blk_lt (g := gb219) (o := .cells #[.int .i64 0, .string (⟨#[]⟩ : ByteArray)] 42 (0, 0)) (by (with_reducible repeat (first | refine blk_drewN ?_ _ | refine blk_drew ?_ | refine blk_alloc ?_ _)); exact BK219.out)) : gb220 ≠ gb219)); clear BK219; clear HB; have BK219 := n0_; have HB := n1_; have BK220 := n2_; have GW220 := n3_; have GE220 := n4_; have NB219_220 := n5_; have NB220_219 := n6_; clear n0_ n1_ n2_ n3_ n4_ n5_ n6_; clear hb hbox hg; have hnb7 := NB220_219.out; have hnc7 := NB219_220.out; have hcz8_0 := blk_cell BK220.out; have hfz8_0 := blk_frozen BK220.out) | ((with_reducible refine gate_callee (f := 11) rfl ?_); refine goesL_ (some 11) rfl rfl Tryz.func11 (by kernel_rfl) rfl #[.agg #[.int .i64 a0, .string a1]] rfl (by (try simp only [List.map_toArray, List.map_cons, List.map_nil]); first | done | rfl | (simp only [List.length_drop, List.length_take]; rfl)) ?_; (with_reducible refine (chart_May.calls a0 a1 true _ A3.out).mono ?_); rintro e w9 ⟨rfl, hb⟩; refine ⟨_, rfl, ?_⟩; have n0_ := Aside0.mk (blk_below (g := gb219) (o := .cells #[.int .i64 0, .string (⟨#[]⟩ : ByteArray)] 42 (0, 0)) (by (with_reducible repeat (first | refine blk_drewN ?_ _ | refine blk_drew ?_ | refine blk_alloc ?_ _)); refine blk_far ?_ NB219_220.out _; (with_reducible repeat (first | refine blk_drewN ?_ _ | refine blk_drew ?_ | refine blk_alloc ?_ _)); refine blk_far ?_ NB219_220.out _; (with_reducible repeat (first | refine blk_drewN ?_ _ | refine blk_drew ?_ | refine blk_alloc ?_ _)); exact BK219.out) hb); have n1_ := Aside0.mk (blk_below (g := gb220) (o := .cells #[.int .i64 a0, .string a1] 42 (0, 0)) (by (with_reducible repeat (first | refine blk_drewN ?_ _ | refine blk_drew ?_ | refine blk_alloc ?_ _)); refine blk_put (cs := #[.int .i64 a0, .string (⟨#[]⟩ : ByteArray)]) ?_ 1 _ rfl; (with_reducible repeat (first | refine blk_drewN ?_ _ | refine blk_drew ?_ | refine blk_alloc ?_ _)); refine blk_put (cs := #[.int .i64 0, .string (⟨#[]⟩ : ByteArray)]) ?_ 0 _ rfl; (with_reducible repeat (first | refine blk_drewN ?_ _ | refine blk_drew ?_ | refine blk_alloc ?_ _)); exact BK220.out) hb); have n2_ := Aside0.mk (below_step (by repeat (first | (with_reducible first | exact HB.out | apply below_alloc | apply pw_below_drewN | apply below_drew1 | refine below_set ?_ GE219.out | refine below_set ?_ GE220.out) | exact HB.out)) hb); clear BK219; clear BK220; clear HB; have BK219 := n0_; have BK220 := n1_; have HB := n2_; clear n0_ n1_ n2_; (try clear hb); (try clear hb2); (try clear hk); (try clear hi); have hcz10_0 := blk_cell BK220.out; have hfz10_0 := blk_frozen BK220.out; have hcz11_0 := blk_cell BK219.out; have hfz11_0 := blk_frozen BK219.out))
    refine bodyPost_ret (results_ct rfl _ _ gb219 42 #[.int .i64 a0, .string a1] (0, 0) _ rfl (by (with_reducible repeat (first | refine blk_drewN ?_ _ | refine blk_drew ?_ | refine blk_alloc ?_ _)); refine blk_put (cs := #[.int .i64 a0, .string (⟨#[]⟩ : ByteArray)]) ?_ 1 _ rfl; (with_reducible repeat (first | refine blk_drewN ?_ _ | refine blk_drew ?_ | refine blk_alloc ?_ _)); refine blk_put (cs := #[.int .i64 0, .string (⟨#[]⟩ : ByteArray)]) ?_ 0 _ rfl; (with_reducible repeat (first | refine blk_drewN ?_ _ | refine blk_drew ?_ | refine blk_alloc ?_ _)); exact BK219.out) Tryz.underlying42 rfl (by kernel_rfl)) rfl ?_
    exact ⟨by first | rfl | (simp [errW_none, errW_some] <;> rfl) | (simp [*, errW_none, errW_some] <;> rfl), by repeat (first | (with_reducible first | exact HB.out | apply below_alloc | apply pw_below_drewN | apply below_drew1 | refine below_set ?_ GE219.out | refine below_set ?_ GE220.out) | exact HB.out)⟩
  · replace c4 := Bool.eq_false_iff.mpr c4
    subst c4
    have H1 : (some (0, (⟨#[]⟩ : ByteArray), 4)) = some (r1, r2, r3) := by rw [if_neg (show ¬ (false = true) by decide)] at H; exact H
    clear H
    have H := H1
    clear H1
    simp only [Option.some.injEq, Prod.mk.injEq] at H
    obtain ⟨rfl, rfl, rfl⟩ := H
    go_enter Tryz.func34, Tryz.ntmps34
    go_wp2_with (first | ((with_reducible refine gate_dst (N := 4) rfl ?_); refine box_event ?hg (N := 4) ?hd (cs := #[.int .i64 0, .string (⟨#[]⟩ : ByteArray)]) (t := 42) ?hr ?_; (case hd => rfl); (case hg => rfl); (case hr => first | (go_simp; done) | (go_simp; rfl)); intro gb219 hg w12 hbox hb; have n0_ := Aside0.mk (below_step (by repeat (first | (with_reducible first | exact HB.out | apply below_alloc | apply pw_below_drewN | apply below_drew1) | exact HB.out)) hb); have n1_ := Aside0.mk (hbox); have n2_ := Aside0.mk ((by rw [hg]; exact (below_size (by repeat (first | (with_reducible first | exact HB.out | apply below_alloc | apply pw_below_drewN | apply below_drew1) | exact HB.out))) : w.heap.size ≤ gb219)); have n3_ := Aside0.mk ((by rw [hg]; exact (below_size (by repeat (first | (with_reducible first | exact HB.out | apply below_alloc | apply pw_below_drewN | apply below_drew1) | exact HB.out))) : w.heap.size ≤ gb219)); clear HB; have HB := n0_; have BK219 := n1_; have GW219 := n2_; have GE219 := n3_; clear n0_ n1_ n2_ n3_; clear hb hbox hg) | ((with_reducible refine gate_dst (N := 6) rfl ?_); refine box_event ?hg (N := 6) ?hd (cs := #[.int .i64 0, .string (⟨#[]⟩ : ByteArray)]) (t := 42) ?hr ?_; (case hd => rfl); (case hg => rfl); (case hr => first | (go_simp; done) | (go_simp; rfl)); intro gb220 hg w13 hbox hb; have n0_ := Aside0.mk (blk_below (g := gb219) (o := .cells #[.int .i64 0, .string (⟨#[]⟩ : ByteArray)] 42 (0, 0)) (by (with_reducible repeat (first | refine blk_drewN ?_ _ | refine blk_drew ?_ | refine blk_alloc ?_ _)); exact BK219.out) hb); have n1_ := Aside0.mk (below_step (by repeat (first | (with_reducible first | exact HB.out | apply below_alloc | apply pw_below_drewN | apply below_drew1 | refine below_set ?_ GE219.out) | exact HB.out)) hb); have n2_ := Aside0.mk (hbox); have n3_ := Aside0.mk ((by rw [hg]; exact (below_size (by repeat (first | (with_reducible first | exact HB.out | apply below_alloc | apply pw_below_drewN | apply below_drew1 | refine below_set ?_ GE219.out) | exact HB.out))) : w.heap.size ≤ gb220)); have n4_ := Aside0.mk ((by rw [hg]; exact (below_size (by repeat (first | (with_reducible first | exact HB.out | apply below_alloc | apply pw_below_drewN | apply below_drew1 | refine below_set ?_ GE219.out) | exact HB.out))) : w.heap.size ≤ gb220)); have n5_ := Aside0.mk ((by rw [hg]; exact Nat.ne_of_lt (blk_lt (g := gb219) (o := .cells #[.int .i64 0, .string (⟨#[]⟩ : ByteArray)] 42 (0, 0)) (by (with_reducible repeat (first | refine blk_drewN ?_ _ | refine blk_drew ?_ | refine blk_alloc ?_ _)); exact BK219.out)) : gb219 ≠ gb220)); have n6_ := Aside0.mk ((by rw [hg]; exact Nat.ne_of_gt (blk_lt (g := gb219) (o := .cells #[.int .i64 0, .string (⟨#[]⟩ : ByteArray)] 42 (0, 0)) (by (with_reducible repeat (first | refine blk_drewN ?_ _ | refine blk_drew ?_ | refine blk_alloc ?_ _)); exact BK219.out)) : gb220 ≠ gb219)); clear BK219; clear HB; have BK219 := n0_; have HB := n1_; have BK220 := n2_; have GW220 := n3_; have GE220 := n4_; have NB219_220 := n5_; have NB220_219 := n6_; clear n0_ n1_ n2_ n3_ n4_ n5_ n6_; clear hb hbox hg; have hnb14 := NB220_219.out; have hnc14 := NB219_220.out; have hcz15_0 := blk_cell BK220.out; have hfz15_0 := blk_frozen BK220.out) | ((with_reducible refine gate_callee (f := 11) rfl ?_); refine goesL_ (some 11) rfl rfl Tryz.func11 (by kernel_rfl) rfl #[.agg #[.int .i64 a0, .string a1]] rfl (by (try simp only [List.map_toArray, List.map_cons, List.map_nil]); first | done | rfl | (simp only [List.length_drop, List.length_take]; rfl)) ?_; (with_reducible refine (chart_May.calls a0 a1 false _ A3.out).mono ?_); rintro e w16 ⟨rfl, hb⟩; refine ⟨_, rfl, ?_⟩; have n0_ := Aside0.mk (blk_below (g := gb219) (o := .cells #[.int .i64 0, .string (⟨#[]⟩ : ByteArray)] 42 (0, 0)) (by (with_reducible repeat (first | refine blk_drewN ?_ _ | refine blk_drew ?_ | refine blk_alloc ?_ _)); refine blk_far ?_ NB219_220.out _; (with_reducible repeat (first | refine blk_drewN ?_ _ | refine blk_drew ?_ | refine blk_alloc ?_ _)); refine blk_far ?_ NB219_220.out _; (with_reducible repeat (first | refine blk_drewN ?_ _ | refine blk_drew ?_ | refine blk_alloc ?_ _)); exact BK219.out) hb); have n1_ := Aside0.mk (blk_below (g := gb220) (o := .cells #[.int .i64 a0, .string a1] 42 (0, 0)) (by (with_reducible repeat (first | refine blk_drewN ?_ _ | refine blk_drew ?_ | refine blk_alloc ?_ _)); refine blk_put (cs := #[.int .i64 a0, .string (⟨#[]⟩ : ByteArray)]) ?_ 1 _ rfl; (with_reducible repeat (first | refine blk_drewN ?_ _ | refine blk_drew ?_ | refine blk_alloc ?_ _)); refine blk_put (cs := #[.int .i64 0, .string (⟨#[]⟩ : ByteArray)]) ?_ 0 _ rfl; (with_reducible repeat (first | refine blk_drewN ?_ _ | refine blk_drew ?_ | refine blk_alloc ?_ _)); exact BK220.out) hb); have n2_ := Aside0.mk (below_step (by repeat (first | (with_reducible first | exact HB.out | apply below_alloc | apply pw_below_drewN | apply below_drew1 | refine below_set ?_ GE219.out | refine below_set ?_ GE220.out) | exact HB.out)) hb); clear BK219; clear BK220; clear HB; have BK219 := n0_; have BK220 := n1_; have HB := n2_; clear n0_ n1_ n2_; (try clear hb); (try clear hb2); (try clear hk); (try clear hi); have hcz17_0 := blk_cell BK219.out; have hfz17_0 := blk_frozen BK219.out))
    refine bodyPost_ret (results_ct rfl _ _ gb219 42 #[.int .i64 0, .string (⟨#[]⟩ : ByteArray)] (0, 0) _ rfl (by (with_reducible repeat (first | refine blk_drewN ?_ _ | refine blk_drew ?_ | refine blk_alloc ?_ _)); refine blk_put (cs := #[.int .i64 0, .string (⟨#[]⟩ : ByteArray)]) ?_ 1 _ rfl; (with_reducible repeat (first | refine blk_drewN ?_ _ | refine blk_drew ?_ | refine blk_alloc ?_ _)); refine blk_put (cs := #[.int .i64 0, .string (⟨#[]⟩ : ByteArray)]) ?_ 0 _ rfl; (with_reducible repeat (first | refine blk_drewN ?_ _ | refine blk_drew ?_ | refine blk_alloc ?_ _)); exact BK219.out) Tryz.underlying42 rfl (by kernel_rfl)) rfl ?_
    exact ⟨by first | rfl | (simp [errW_none, errW_some] <;> rfl) | (simp [*, errW_none, errW_some] <;> rfl), by repeat (first | (with_reducible first | exact HB.out | apply below_alloc | apply pw_below_drewN | apply below_drew1 | refine below_set ?_ GE219.out | refine below_set ?_ GE220.out) | exact HB.out)⟩

/-! ### chart_Card: function 10 -/
def chart_Card.f (a0 : ByteArray) : Option (Int × ByteArray × Int) := (chart_own.f 1 a0).bind fun bt223 => (some (bt223.1, bt223.2.1, bt223.2.2))
set_option maxHeartbeats 8000000 in
set_option maxRecDepth 100000 in
theorem chart_Card.calls (a0 : ByteArray) (r1 : Int) (r2 : ByteArray) (r3 : Int) (w : World) (h : chart_Card.f a0 = some (r1, r2, r3)) :
    Calls Tryz.prog 10 #[.string a0] w fun e w' => e = .returned (.tuple #[.agg #[.int .i64 r1, .string r2], .int .i64 r3]) ∧ Below w.heap.size w w' := by
  have hu42 := Tryz.underlying42
  have HB := Aside0.mk (Below.refl w.heap.size w)
  have H : ((chart_own.f 1 a0).bind fun bt223 => (some (bt223.1, bt223.2.1, bt223.2.2))) = some (r1, r2, r3) := h
  clear h
  replace H := Option.bind_eq_some_iff.mp H
  obtain ⟨⟨t223, t224, t225⟩, A20, H⟩ := H
  replace H : (some (t223, t224, t225)) = some (r1, r2, r3) := H
  have A2 := Aside0.mk A20
  clear A20
  simp only [Option.some.injEq, Prod.mk.injEq] at H
  obtain ⟨rfl, rfl, rfl⟩ := H
  go_enter Tryz.func10, Tryz.ntmps10
  go_wp2_with (first | ((with_reducible refine gate_dst (N := 2) rfl ?_); refine box_event ?hg (N := 2) ?hd (cs := #[.int .i64 0, .string (⟨#[]⟩ : ByteArray)]) (t := 42) ?hr ?_; (case hd => rfl); (case hg => rfl); (case hr => first | (go_simp; done) | (go_simp; rfl)); intro gb222 hg w3 hbox hb; have n0_ := Aside0.mk (below_step (by repeat (first | (with_reducible first | exact HB.out | apply below_alloc | apply pw_below_drewN | apply below_drew1) | exact HB.out)) hb); have n1_ := Aside0.mk (hbox); have n2_ := Aside0.mk ((by rw [hg]; exact (below_size (by repeat (first | (with_reducible first | exact HB.out | apply below_alloc | apply pw_below_drewN | apply below_drew1) | exact HB.out))) : w.heap.size ≤ gb222)); have n3_ := Aside0.mk ((by rw [hg]; exact (below_size (by repeat (first | (with_reducible first | exact HB.out | apply below_alloc | apply pw_below_drewN | apply below_drew1) | exact HB.out))) : w.heap.size ≤ gb222)); clear HB; have HB := n0_; have BK222 := n1_; have GW222 := n2_; have GE222 := n3_; clear n0_ n1_ n2_ n3_; clear hb hbox hg) | ((with_reducible refine gate_callee (f := 34) rfl ?_); refine goesL_ (some 5) rfl rfl Tryz.func34 (by kernel_rfl) rfl #[.int .i64 1, .string a0] rfl (by (try simp only [List.map_toArray, List.map_cons, List.map_nil]); first | done | rfl | (simp only [List.length_drop, List.length_take]; rfl)) ?_; (with_reducible refine (chart_own.calls 1 a0 t223 t224 t225 _ A2.out).mono ?_); rintro e w4 ⟨rfl, hb⟩; refine ⟨_, rfl, ?_⟩; have n0_ := Aside0.mk (blk_below (g := gb222) (o := .cells #[.int .i64 0, .string (⟨#[]⟩ : ByteArray)] 42 (0, 0)) (by (with_reducible repeat (first | refine blk_drewN ?_ _ | refine blk_drew ?_ | refine blk_alloc ?_ _)); exact BK222.out) hb); have n1_ := Aside0.mk (below_step (by repeat (first | (with_reducible first | exact HB.out | apply below_alloc | apply pw_below_drewN | apply below_drew1 | refine below_set ?_ GE222.out) | exact HB.out)) hb); clear BK222; clear HB; have BK222 := n0_; have HB := n1_; clear n0_ n1_; (try clear hb); (try clear hb2); (try clear hk); (try clear hi); have hcz5_0 := blk_cell BK222.out; have hfz5_0 := blk_frozen BK222.out))
  refine bodyPost_ret (results_ct rfl _ _ gb222 42 #[.int .i64 t223, .string t224] (0, 0) _ rfl (by (with_reducible repeat (first | refine blk_drewN ?_ _ | refine blk_drew ?_ | refine blk_alloc ?_ _)); refine blk_put (cs := #[.int .i64 t223, .string (⟨#[]⟩ : ByteArray)]) ?_ 1 _ rfl; (with_reducible repeat (first | refine blk_drewN ?_ _ | refine blk_drew ?_ | refine blk_alloc ?_ _)); refine blk_put (cs := #[.int .i64 0, .string (⟨#[]⟩ : ByteArray)]) ?_ 0 _ rfl; (with_reducible repeat (first | refine blk_drewN ?_ _ | refine blk_drew ?_ | refine blk_alloc ?_ _)); exact BK222.out) Tryz.underlying42 rfl (by kernel_rfl)) rfl ?_
  exact ⟨by first | rfl | (simp [errW_none, errW_some] <;> rfl) | (simp [*, errW_none, errW_some] <;> rfl), by repeat (first | (with_reducible first | exact HB.out | apply below_alloc | apply pw_below_drewN | apply below_drew1 | refine below_set ?_ GE222.out) | exact HB.out)⟩

/-! ### trade_or: function 36 -/
def trade_or.f (a0 : ByteArray) (a1 : Int) : Option (ByteArray) := if a0.toList = ([] : List UInt8) then ((strings_Repeat.f (⟨#[48]⟩ : ByteArray) a1).bind fun t226 => (some t226)) else (some a0)
set_option maxHeartbeats 8000000 in
set_option maxRecDepth 100000 in
theorem trade_or.calls (a0 : ByteArray) (a1 : Int) (r : ByteArray) (w : World) (h : trade_or.f a0 a1 = some r) :
    Calls Tryz.prog 36 #[.string a0, .int .i64 a1] w fun e w' => e = .returned (.string r) ∧ Below w.heap.size w w' := by
  have HB := Aside0.mk (Below.refl w.heap.size w)
  have H : (if a0.toList = ([] : List UInt8) then ((strings_Repeat.f (⟨#[48]⟩ : ByteArray) a1).bind fun t226 => (some t226)) else (some a0)) = some r := h
  clear h
  by_cases c3 : a0.toList = ([] : List UInt8)
  · rw [if_pos c3] at H
    have c3b0 : (a0.toList == ([] : List UInt8)) = true := beq_iff_eq.mpr c3
    have c3b1 : (a0.toList != ([] : List UInt8)) = false := bne_eq_false_iff_eq.mpr c3
    clear c3
    replace H := Option.bind_eq_some_iff.mp H
    obtain ⟨t226, A40, H⟩ := H
    replace H : (some t226) = some r := H
    have A4 := Aside0.mk A40
    clear A40
    obtain rfl := Option.some.inj H
    go_enter Tryz.func36, Tryz.ntmps36
    go_wp2_with (first | ((with_reducible refine gate_callee (f := 17) rfl ?_); refine goesL_ (some 8) rfl rfl Tryz.func17 (by kernel_rfl) rfl #[.string (⟨#[48]⟩ : ByteArray), .int .i64 a1] rfl (by (try simp only [List.map_toArray, List.map_cons, List.map_nil]); first | done | rfl | (simp only [List.length_drop, List.length_take]; rfl)) ?_; (with_reducible refine (strings_Repeat.calls (⟨#[48]⟩ : ByteArray) a1 t226 _ A4.out).mono ?_); rintro e w5 ⟨rfl, hb⟩; refine ⟨_, rfl, ?_⟩; have n0_ := Aside0.mk (below_step (by repeat (first | (with_reducible first | exact HB.out | apply below_alloc | apply pw_below_drewN | apply below_drew1) | exact HB.out)) hb); clear HB; have HB := n0_; clear n0_; (try clear hb); (try clear hb2); (try clear hk); (try clear hi)))
    go_ret
    exact ⟨by first | rfl | (simp [errW_none, errW_some] <;> rfl) | (simp [*, errW_none, errW_some] <;> rfl), by repeat (first | (with_reducible first | exact HB.out | apply below_alloc | apply pw_below_drewN | apply below_drew1) | exact HB.out)⟩
  · rw [if_neg c3] at H
    have c3b0 : (a0.toList == ([] : List UInt8)) = false := beq_eq_false_iff_ne.mpr c3
    have c3b1 : (a0.toList != ([] : List UInt8)) = true := bne_iff_ne.mpr c3
    obtain rfl := Option.some.inj H
    go_enter Tryz.func36, Tryz.ntmps36
    go_wp2
    go_ret
    exact ⟨by first | rfl | (simp [errW_none, errW_some] <;> rfl) | (simp [*, errW_none, errW_some] <;> rfl), by repeat (first | (with_reducible first | exact HB.out | apply below_alloc | apply pw_below_drewN | apply below_drew1) | exact HB.out)⟩

/-! ### trade_Key: function 13 -/
def trade_Key.f (a0_0 : ByteArray) (a0_1 : ByteArray) (a0_2 : ByteArray) (a0_3 : Int) (a0_4 : ByteArray) (a0_5 : ByteArray) (a0_6 : ByteArray) (a0_7 : ByteArray) (a0_8 : ByteArray) (a0_9 : Int) (a0_10 : Int) (a0_11 : ByteArray) : Option (ByteArray) := if (a0_0.size : Int) < 2 then (some (⟨#[]⟩ : ByteArray)) else (if 2 ≤ (a0_0.size : Int) then (if (a0_0.extract 1 2).size + a0_5.size ≤ 9223372036854775807 then ((trade_or.f a0_7 12).bind fun t228 => (if ((a0_0.extract 1 2) ++ a0_5).size + t228.size ≤ 9223372036854775807 then ((trade_or.f a0_6 6).bind fun t229 => (if (((a0_0.extract 1 2) ++ a0_5) ++ t228).size + t229.size ≤ 9223372036854775807 then (if ((((a0_0.extract 1 2) ++ a0_5) ++ t228) ++ t229).size + a0_4.size ≤ 9223372036854775807 then (some (((((a0_0.extract 1 2) ++ a0_5) ++ t228) ++ t229) ++ a0_4)) else (none)) else (none))) else (none))) else (none)) else (none))
def trade_Key.T3 : Bool × List (List Nat × List Nat) := (true, [([], []), ([0], [0]), ([1], [1]), ([], []), ([3], [3]), ([2, 4], [2, 4]), ([], []), ([6], [6]), ([7], [7]), ([5, 8], [5, 8]), ([], []), ([10], [10]), ([11, 8], [11]), ([9, 12], [9, 12]), ([], []), ([14], [14]), ([13, 15], [13, 15]), ([16, 12, 0, 1, 2, 3, 4, 5, 6, 7, 8, 9, 10, 11, 12, 13, 14, 15, 16], [16])])
def trade_Key.B3 : List Nat := [0, 1, 3, 0, 8, 31, 0, 64, 192, 511, 0, 1024, 3520, 8191, 0, 16384, 65535, 131071]
theorem trade_Key.tab3 : rtab .any (opsOf Tryz.f13 3) = trade_Key.T3 := by kernel_rfl
theorem trade_Key.bits3 : waitsOk trade_Key.T3.2 trade_Key.B3 = true := by kernel_rfl
set_option maxHeartbeats 8000000 in
set_option maxRecDepth 100000 in
theorem trade_Key.calls (a0_0 : ByteArray) (a0_1 : ByteArray) (a0_2 : ByteArray) (a0_3 : Int) (a0_4 : ByteArray) (a0_5 : ByteArray) (a0_6 : ByteArray) (a0_7 : ByteArray) (a0_8 : ByteArray) (a0_9 : Int) (a0_10 : Int) (a0_11 : ByteArray) (r : ByteArray) (w : World) (h : trade_Key.f a0_0 a0_1 a0_2 a0_3 a0_4 a0_5 a0_6 a0_7 a0_8 a0_9 a0_10 a0_11 = some r) :
    Calls Tryz.prog 13 #[.agg #[.string a0_0, .string a0_1, .string a0_2, .int .i64 a0_3, .string a0_4, .string a0_5, .string a0_6, .string a0_7, .string a0_8, .int .i64 a0_9, .int .i64 a0_10, .string a0_11]] w fun e w' => e = .returned (.string r) ∧ Below w.heap.size w w' := by
  have hu38 := Tryz.underlying38
  have HB := Aside0.mk (Below.refl w.heap.size w)
  have H : (if (a0_0.size : Int) < 2 then (some (⟨#[]⟩ : ByteArray)) else (if 2 ≤ (a0_0.size : Int) then (if (a0_0.extract 1 2).size + a0_5.size ≤ 9223372036854775807 then ((trade_or.f a0_7 12).bind fun t228 => (if ((a0_0.extract 1 2) ++ a0_5).size + t228.size ≤ 9223372036854775807 then ((trade_or.f a0_6 6).bind fun t229 => (if (((a0_0.extract 1 2) ++ a0_5) ++ t228).size + t229.size ≤ 9223372036854775807 then (if ((((a0_0.extract 1 2) ++ a0_5) ++ t228) ++ t229).size + a0_4.size ≤ 9223372036854775807 then (some (((((a0_0.extract 1 2) ++ a0_5) ++ t228) ++ t229) ++ a0_4)) else (none)) else (none))) else (none))) else (none)) else (none))) = some r := h
  clear h
  by_cases c2 : (a0_0.size : Int) < 2
  · rw [if_pos c2] at H
    have c2b0 : decide ((a0_0.size : Int) < 2) = true := decide_eq_true c2
    have c2b1 : decide (a0_0.size < 2) = true := decide_eq_true (by omega)
    clear c2
    obtain rfl := Option.some.inj H
    go_enter Tryz.func13, Tryz.ntmps13
    go_wp2_with (first | ((with_reducible refine gate_dst (N := 1) rfl ?_); refine box_event ?hg (N := 1) ?hd (cs := #[.string a0_0, .string a0_1, .string a0_2, .int .i64 a0_3, .string a0_4, .string a0_5, .string a0_6, .string a0_7, .string a0_8, .int .i64 a0_9, .int .i64 a0_10, .string a0_11]) (t := 38) ?hr ?_; (case hd => rfl); (case hg => rfl); (case hr => first | (go_simp; done) | (go_simp; rfl)); intro gb227 hg w3 hbox hb; have n0_ := Aside0.mk (below_step (by repeat (first | (with_reducible first | exact HB.out | apply below_alloc | apply pw_below_drewN | apply below_drew1) | exact HB.out)) hb); have n1_ := Aside0.mk (hbox); have n2_ := Aside0.mk ((by rw [hg]; exact (below_size (by repeat (first | (with_reducible first | exact HB.out | apply below_alloc | apply pw_below_drewN | apply below_drew1) | exact HB.out))) : w.heap.size ≤ gb227)); have n3_ := Aside0.mk ((by rw [hg]; exact (below_size (by repeat (first | (with_reducible first | exact HB.out | apply below_alloc | apply pw_below_drewN | apply below_drew1) | exact HB.out))) : w.heap.size ≤ gb227)); clear HB; have HB := n0_; have BK227 := n1_; have GW227 := n2_; have GE227 := n3_; clear n0_ n1_ n2_ n3_; clear hb hbox hg; have hcz4_0 := blk_cell BK227.out; have hfz4_0 := blk_frozen BK227.out))
    go_ret
    exact ⟨by first | rfl | (simp [errW_none, errW_some] <;> rfl) | (simp [*, errW_none, errW_some] <;> rfl), by repeat (first | (with_reducible first | exact HB.out | apply below_alloc | apply pw_below_drewN | apply below_drew1 | refine below_set ?_ GE227.out) | exact HB.out)⟩
  · rw [if_neg c2] at H
    have c2b0 : decide ((a0_0.size : Int) < 2) = false := decide_eq_false c2
    have c2b1 : decide (a0_0.size < 2) = false := decide_eq_false (by omega)
    clear c2
    by_cases c5 : 2 ≤ (a0_0.size : Int)
    · rw [if_pos c5] at H
      have c5b0 := eq_true c5
      have c5b1 : decide (2 ≤ (a0_0.size : Int)) = true := decide_eq_true c5
      clear c5
      by_cases c6 : (a0_0.extract 1 2).size + a0_5.size ≤ 9223372036854775807
      · rw [if_pos c6] at H
        have c6b0 := eq_true c6
        have c6b1 : decide ((a0_0.extract 1 2).size + a0_5.size ≤ 9223372036854775807) = true := decide_eq_true c6
        try have c6b2 : (9223372036854775807 < (a0_0.extract 1 2).size + a0_5.size) = False := eq_false (Nat.not_lt.2 c6)
        have c6b2n := c6b2
        try simp only [ByteArray.size_append, ByteArray.size_extract] at c6b2n
        replace H := Option.bind_eq_some_iff.mp H
        obtain ⟨t228, A70, H⟩ := H
        replace H : (if ((a0_0.extract 1 2) ++ a0_5).size + t228.size ≤ 9223372036854775807 then ((trade_or.f a0_6 6).bind fun t229 => (if (((a0_0.extract 1 2) ++ a0_5) ++ t228).size + t229.size ≤ 9223372036854775807 then (if ((((a0_0.extract 1 2) ++ a0_5) ++ t228) ++ t229).size + a0_4.size ≤ 9223372036854775807 then (some (((((a0_0.extract 1 2) ++ a0_5) ++ t228) ++ t229) ++ a0_4)) else (none)) else (none))) else (none)) = some r := H
        have A7 := Aside0.mk A70
        clear A70
        by_cases c8 : ((a0_0.extract 1 2) ++ a0_5).size + t228.size ≤ 9223372036854775807
        · rw [if_pos c8] at H
          have c8b0 := eq_true c8
          have c8b1 : decide (((a0_0.extract 1 2) ++ a0_5).size + t228.size ≤ 9223372036854775807) = true := decide_eq_true c8
          try have c8b2 : (9223372036854775807 < ((a0_0.extract 1 2) ++ a0_5).size + t228.size) = False := eq_false (Nat.not_lt.2 c8)
          have c8b2n := c8b2
          try simp only [ByteArray.size_append, ByteArray.size_extract] at c8b2n
          replace H := Option.bind_eq_some_iff.mp H
          obtain ⟨t229, A90, H⟩ := H
          replace H : (if (((a0_0.extract 1 2) ++ a0_5) ++ t228).size + t229.size ≤ 9223372036854775807 then (if ((((a0_0.extract 1 2) ++ a0_5) ++ t228) ++ t229).size + a0_4.size ≤ 9223372036854775807 then (some (((((a0_0.extract 1 2) ++ a0_5) ++ t228) ++ t229) ++ a0_4)) else (none)) else (none)) = some r := H
          have A9 := Aside0.mk A90
          clear A90
          by_cases c10 : (((a0_0.extract 1 2) ++ a0_5) ++ t228).size + t229.size ≤ 9223372036854775807
          · rw [if_pos c10] at H
            have c10b0 := eq_true c10
            have c10b1 : decide ((((a0_0.extract 1 2) ++ a0_5) ++ t228).size + t229.size ≤ 9223372036854775807) = true := decide_eq_true c10
            try have c10b2 : (9223372036854775807 < (((a0_0.extract 1 2) ++ a0_5) ++ t228).size + t229.size) = False := eq_false (Nat.not_lt.2 c10)
            have c10b2n := c10b2
            try simp only [ByteArray.size_append, ByteArray.size_extract] at c10b2n
            by_cases c11 : ((((a0_0.extract 1 2) ++ a0_5) ++ t228) ++ t229).size + a0_4.size ≤ 9223372036854775807
            · rw [if_pos c11] at H
              have c11b0 := eq_true c11
              have c11b1 : decide (((((a0_0.extract 1 2) ++ a0_5) ++ t228) ++ t229).size + a0_4.size ≤ 9223372036854775807) = true := decide_eq_true c11
              try have c11b2 : (9223372036854775807 < ((((a0_0.extract 1 2) ++ a0_5) ++ t228) ++ t229).size + a0_4.size) = False := eq_false (Nat.not_lt.2 c11)
              have c11b2n := c11b2
              try simp only [ByteArray.size_append, ByteArray.size_extract] at c11b2n
              obtain rfl := Option.some.inj H
              go_enter Tryz.func13, Tryz.ntmps13
              try go_wp2_with (first | ((with_reducible refine gate_dst (N := 1) rfl ?_); refine box_event ?hg (N := 1) ?hd (cs := #[.string a0_0, .string a0_1, .string a0_2, .int .i64 a0_3, .string a0_4, .string a0_5, .string a0_6, .string a0_7, .string a0_8, .int .i64 a0_9, .int .i64 a0_10, .string a0_11]) (t := 38) ?hr ?_; (case hd => rfl); (case hg => rfl); (case hr => first | (go_simp; done) | (go_simp; rfl)); intro gb227 hg w12 hbox hb; have n0_ := Aside0.mk (below_step (by repeat (first | (with_reducible first | exact HB.out | apply below_alloc | apply pw_below_drewN | apply below_drew1) | exact HB.out)) hb); have n1_ := Aside0.mk (hbox); have n2_ := Aside0.mk ((by rw [hg]; exact (below_size (by repeat (first | (with_reducible first | exact HB.out | apply below_alloc | apply pw_below_drewN | apply below_drew1) | exact HB.out))) : w.heap.size ≤ gb227)); have n3_ := Aside0.mk ((by rw [hg]; exact (below_size (by repeat (first | (with_reducible first | exact HB.out | apply below_alloc | apply pw_below_drewN | apply below_drew1) | exact HB.out))) : w.heap.size ≤ gb227)); clear HB; have HB := n0_; have BK227 := n1_; have GW227 := n2_; have GE227 := n3_; clear n0_ n1_ n2_ n3_; clear hb hbox hg; have hcz13_0 := blk_cell BK227.out; have hfz13_0 := blk_frozen BK227.out))
              have n0_ := Aside0.mk (blk_drew BK227.out)
              have n1_ := Aside0.mk (below_drew1 HB.out)
              clear BK227
              clear HB
              have BK227 := n0_
              have HB := n1_
              clear n0_ n1_
              refine start_ (n := 18) (S := fun w' => w'.cell? ⟨gb227, 0, none⟩ = some (.string a0_0) ∧ w'.cell? ⟨gb227, 1, none⟩ = some (.string a0_1) ∧ w'.cell? ⟨gb227, 2, none⟩ = some (.string a0_2) ∧ w'.cell? ⟨gb227, 3, none⟩ = some (.int .i64 a0_3) ∧ w'.cell? ⟨gb227, 4, none⟩ = some (.string a0_4) ∧ w'.cell? ⟨gb227, 5, none⟩ = some (.string a0_5) ∧ w'.cell? ⟨gb227, 6, none⟩ = some (.string a0_6) ∧ w'.cell? ⟨gb227, 7, none⟩ = some (.string a0_7) ∧ w'.cell? ⟨gb227, 8, none⟩ = some (.string a0_8) ∧ w'.cell? ⟨gb227, 9, none⟩ = some (.int .i64 a0_9) ∧ w'.cell? ⟨gb227, 10, none⟩ = some (.int .i64 a0_10) ∧ w'.cell? ⟨gb227, 11, none⟩ = some (.string a0_11)) (ds := []) #[false, false, false, false, false, false, false, false, false, false, false, false, false, false, false, false, false, false] (by kernel_rfl) rfl rfl ⟨(blk_cell BK227.out 0).trans rfl, (blk_cell BK227.out 1).trans rfl, (blk_cell BK227.out 2).trans rfl, (blk_cell BK227.out 3).trans rfl, (blk_cell BK227.out 4).trans rfl, (blk_cell BK227.out 5).trans rfl, (blk_cell BK227.out 6).trans rfl, (blk_cell BK227.out 7).trans rfl, (blk_cell BK227.out 8).trans rfl, (blk_cell BK227.out 9).trans rfl, (blk_cell BK227.out 10).trans rfl, (blk_cell BK227.out 11).trans rfl⟩ (fun hHeld => ?_); refine with_tabW trade_Key.tab3 trade_Key.bits3 (fun HT_ HW_ => ?_)
              generalize w12.drew = w14 at BK227 HB hHeld ⊢
              refine pure_ (i := 0) (N := some 7) (v := ?_) (a' := ?_) #[true, false, false, false, false, false, false, false, false, false, false, false, false, false, false, false, false, false] rfl rfl (any_of HT_.out (by kernel_rfl)) (fun _ _ _ h => h) (Or.inl ⟨by rfl, ?_⟩) ?_ ?_
              rotate_left
              · intro w'
                go_simp
                with_reducible rfl
              rotate_left
              · simp only [Act.put, List.setIfInBounds_toArray, List.set_cons_zero, List.set_cons_succ, i64_w, i32_w]
                rfl
              refine pure_ (i := 3) (N := some 10) (v := ?_) (a' := ?_) #[true, false, false, true, false, false, false, false, false, false, false, false, false, false, false, false, false, false] rfl rfl (any_of HT_.out (by kernel_rfl)) (fun _ _ _ h => h) (Or.inl ⟨by rfl, ?_⟩) ?_ ?_
              rotate_left
              · intro w'
                go_simp
                with_reducible rfl
              rotate_left
              · simp only [Act.put, List.setIfInBounds_toArray, List.set_cons_zero, List.set_cons_succ, i64_w, i32_w]
                rfl
              refine pure_ (i := 6) (N := some 13) (v := ?_) (a' := ?_) #[true, false, false, true, false, false, true, false, false, false, false, false, false, false, false, false, false, false] rfl rfl (any_of HT_.out (by kernel_rfl)) (fun _ _ _ h => h) (Or.inl ⟨by rfl, ?_⟩) ?_ ?_
              rotate_left
              · intro w'
                go_simp
                with_reducible rfl
              rotate_left
              · simp only [Act.put, List.setIfInBounds_toArray, List.set_cons_zero, List.set_cons_succ, i64_w, i32_w]
                rfl
              refine pure_ (i := 10) (N := some 17) (v := ?_) (a' := ?_) #[true, false, false, true, false, false, true, false, false, false, true, false, false, false, false, false, false, false] rfl rfl (any_of HT_.out (by kernel_rfl)) (fun _ _ _ h => h) (Or.inl ⟨by rfl, ?_⟩) ?_ ?_
              rotate_left
              · intro w'
                go_simp
                with_reducible rfl
              rotate_left
              · simp only [Act.put, List.setIfInBounds_toArray, List.set_cons_zero, List.set_cons_succ, i64_w, i32_w]
                rfl
              refine pure_ (i := 14) (N := some 21) (v := ?_) (a' := ?_) #[true, false, false, true, false, false, true, false, false, false, true, false, false, false, true, false, false, false] rfl rfl (any_of HT_.out (by kernel_rfl)) (fun _ _ _ h => h) (Or.inl ⟨by rfl, ?_⟩) ?_ ?_
              rotate_left
              · intro w'
                go_simp
                with_reducible rfl
              rotate_left
              · simp only [Act.put, List.setIfInBounds_toArray, List.set_cons_zero, List.set_cons_succ, i64_w, i32_w]
                rfl
              refine take_ (i := 1) (N := some 8) (v := ?_) (a' := ?_) #[true, true, false, true, false, false, true, false, false, false, true, false, false, false, true, false, false, false] rfl rfl (take_ofW HT_.out HW_.out (by kernel_rfl)) (fun _ _ _ h => h) (Or.inl ⟨by rfl, ?_⟩) hHeld ?_ ?_
              rotate_left
              · rintro w' ⟨s0, s1, s2, s3, s4, s5, s6, s7, s8, s9, s10, s11⟩
                go_simp
                with_reducible rfl
              rotate_left
              · simp only [Act.put, List.setIfInBounds_toArray, List.set_cons_zero, List.set_cons_succ, i64_w, i32_w]
                rfl
              refine pure_ (i := 2) (N := some 9) (v := ?_) (a' := ?_) #[true, true, true, true, false, false, true, false, false, false, true, false, false, false, true, false, false, false] rfl rfl (any_of HT_.out (by kernel_rfl)) (fun _ _ _ h => h) (Or.inl ⟨by rfl, ?_⟩) ?_ ?_
              rotate_left
              · intro w'
                go_simp
                with_reducible rfl
              rotate_left
              · simp only [Act.put, List.setIfInBounds_toArray, List.set_cons_zero, List.set_cons_succ, i64_w, i32_w]
                rfl
              refine take_ (i := 4) (N := some 11) (v := ?_) (a' := ?_) #[true, true, true, true, true, false, true, false, false, false, true, false, false, false, true, false, false, false] rfl rfl (take_ofW HT_.out HW_.out (by kernel_rfl)) (fun _ _ _ h => h) (Or.inl ⟨by rfl, ?_⟩) hHeld ?_ ?_
              rotate_left
              · rintro w' ⟨s0, s1, s2, s3, s4, s5, s6, s7, s8, s9, s10, s11⟩
                go_simp
                with_reducible rfl
              rotate_left
              · simp only [Act.put, List.setIfInBounds_toArray, List.set_cons_zero, List.set_cons_succ, i64_w, i32_w]
                rfl
              refine pure_ (i := 5) (N := some 12) (v := ?_) (a' := ?_) #[true, true, true, true, true, true, true, false, false, false, true, false, false, false, true, false, false, false] rfl rfl (any_of HT_.out (by kernel_rfl)) (fun _ _ _ h => h) (Or.inl ⟨by rfl, ?_⟩) ?_ ?_
              rotate_left
              · intro w'
                go_simp
                with_reducible rfl
              rotate_left
              · simp only [Act.put, List.setIfInBounds_toArray, List.set_cons_zero, List.set_cons_succ, i64_w, i32_w]
                rfl
              refine take_ (i := 7) (N := some 14) (v := ?_) (a' := ?_) #[true, true, true, true, true, true, true, true, false, false, true, false, false, false, true, false, false, false] rfl rfl (take_ofW HT_.out HW_.out (by kernel_rfl)) (fun _ _ _ h => h) (Or.inl ⟨by rfl, ?_⟩) hHeld ?_ ?_
              rotate_left
              · rintro w' ⟨s0, s1, s2, s3, s4, s5, s6, s7, s8, s9, s10, s11⟩
                go_simp
                with_reducible rfl
              rotate_left
              · simp only [Act.put, List.setIfInBounds_toArray, List.set_cons_zero, List.set_cons_succ, i64_w, i32_w]
                rfl
              refine take_ (i := 11) (N := some 18) (v := ?_) (a' := ?_) #[true, true, true, true, true, true, true, true, false, false, true, true, false, false, true, false, false, false] rfl rfl (take_ofW HT_.out HW_.out (by kernel_rfl)) (fun _ _ _ h => h) (Or.inl ⟨by rfl, ?_⟩) hHeld ?_ ?_
              rotate_left
              · rintro w' ⟨s0, s1, s2, s3, s4, s5, s6, s7, s8, s9, s10, s11⟩
                go_simp
                with_reducible rfl
              rotate_left
              · simp only [Act.put, List.setIfInBounds_toArray, List.set_cons_zero, List.set_cons_succ, i64_w, i32_w]
                rfl
              refine take_ (i := 15) (N := some 22) (v := ?_) (a' := ?_) #[true, true, true, true, true, true, true, true, false, false, true, true, false, false, true, true, false, false] rfl rfl (take_ofW HT_.out HW_.out (by kernel_rfl)) (fun _ _ _ h => h) (Or.inl ⟨by rfl, ?_⟩) hHeld ?_ ?_
              rotate_left
              · rintro w' ⟨s0, s1, s2, s3, s4, s5, s6, s7, s8, s9, s10, s11⟩
                go_simp
                with_reducible rfl
              rotate_left
              · simp only [Act.put, List.setIfInBounds_toArray, List.set_cons_zero, List.set_cons_succ, i64_w, i32_w]
                rfl
              refine one_ (i := 8) (N := some 15) #[true, true, true, true, true, true, true, true, true, false, true, true, false, false, true, true, false, false] rfl rfl (one_of HT_.out (by kernel_rfl)) (by decide) (fun K hK => ?_)
              refine goes_ Tryz.func36 (by kernel_rfl) rfl #[.string a0_7, .int .i64 12] (by rfl) rfl rfl (by (try simp only [List.map_toArray, List.map_cons, List.map_nil]); first | done | rfl | (simp only [List.length_drop, List.length_take]; rfl)) ?_
              with_reducible refine (trade_or.calls a0_7 12 t228 _ A7.out).mono ?_
              rintro e w15 ⟨rfl, hb⟩
              refine ⟨_, rfl, ?_⟩
              have n0_ := Aside0.mk (blk_below (g := gb227) (o := .cells #[.string a0_0, .string a0_1, .string a0_2, .int .i64 a0_3, .string a0_4, .string a0_5, .string a0_6, .string a0_7, .string a0_8, .int .i64 a0_9, .int .i64 a0_10, .string a0_11] 38 (0, 0)) (by (with_reducible repeat (first | refine blk_drewN ?_ _ | refine blk_drew ?_ | refine blk_alloc ?_ _)); exact BK227.out) hb)
              have n1_ := Aside0.mk (below_step (by repeat (first | (with_reducible first | exact HB.out | apply below_alloc | apply pw_below_drewN | apply below_drew1 | refine below_set ?_ GE227.out) | exact HB.out)) hb)
              clear BK227
              clear HB
              have BK227 := n0_
              have HB := n1_
              clear n0_ n1_
              (try clear hb)
              (try clear hb2)
              (try clear hk)
              (try clear hi)
              refine hK.out _ _ ⟨(blk_cell BK227.out 0).trans rfl, (blk_cell BK227.out 1).trans rfl, (blk_cell BK227.out 2).trans rfl, (blk_cell BK227.out 3).trans rfl, (blk_cell BK227.out 4).trans rfl, (blk_cell BK227.out 5).trans rfl, (blk_cell BK227.out 6).trans rfl, (blk_cell BK227.out 7).trans rfl, (blk_cell BK227.out 8).trans rfl, (blk_cell BK227.out 9).trans rfl, (blk_cell BK227.out 10).trans rfl, (blk_cell BK227.out 11).trans rfl⟩ (fun hHeld => ?_)
              clear hK K
              refine norm_ (a' := ?_) ?_ ?_
              rotate_left
              · show Act.put _ (some 15) _ = _
                simp only [Act.put, List.setIfInBounds_toArray, List.set_cons_zero, List.set_cons_succ, i64_w, i32_w]
                rfl
              refine pure_ (i := 9) (N := some 16) (v := ?_) (a' := ?_) #[true, true, true, true, true, true, true, true, true, true, true, true, false, false, true, true, false, false] rfl rfl (any_of HT_.out (by kernel_rfl)) (fun _ _ _ h => h) (Or.inl ⟨by rfl, ?_⟩) ?_ ?_
              rotate_left
              · intro w'
                go_simp
                with_reducible rfl
              rotate_left
              · simp only [Act.put, List.setIfInBounds_toArray, List.set_cons_zero, List.set_cons_succ, i64_w, i32_w]
                rfl
              refine one_ (i := 12) (N := some 19) #[true, true, true, true, true, true, true, true, true, true, true, true, true, false, true, true, false, false] rfl rfl (one_of HT_.out (by kernel_rfl)) (by decide) (fun K hK => ?_)
              refine goes_ Tryz.func36 (by kernel_rfl) rfl #[.string a0_6, .int .i64 6] (by rfl) rfl rfl (by (try simp only [List.map_toArray, List.map_cons, List.map_nil]); first | done | rfl | (simp only [List.length_drop, List.length_take]; rfl)) ?_
              with_reducible refine (trade_or.calls a0_6 6 t229 _ A9.out).mono ?_
              rintro e w16 ⟨rfl, hb⟩
              refine ⟨_, rfl, ?_⟩
              have n0_ := Aside0.mk (blk_below (g := gb227) (o := .cells #[.string a0_0, .string a0_1, .string a0_2, .int .i64 a0_3, .string a0_4, .string a0_5, .string a0_6, .string a0_7, .string a0_8, .int .i64 a0_9, .int .i64 a0_10, .string a0_11] 38 (0, 0)) (by (with_reducible repeat (first | refine blk_drewN ?_ _ | refine blk_drew ?_ | refine blk_alloc ?_ _)); exact BK227.out) hb)
              have n1_ := Aside0.mk (below_step (by repeat (first | (with_reducible first | exact HB.out | apply below_alloc | apply pw_below_drewN | apply below_drew1 | refine below_set ?_ GE227.out) | exact HB.out)) hb)
              clear BK227
              clear HB
              have BK227 := n0_
              have HB := n1_
              clear n0_ n1_
              (try clear hb)
              (try clear hb2)
              (try clear hk)
              (try clear hi)
              refine hK.out _ _ ⟨(blk_cell BK227.out 0).trans rfl, (blk_cell BK227.out 1).trans rfl, (blk_cell BK227.out 2).trans rfl, (blk_cell BK227.out 3).trans rfl, (blk_cell BK227.out 4).trans rfl, (blk_cell BK227.out 5).trans rfl, (blk_cell BK227.out 6).trans rfl, (blk_cell BK227.out 7).trans rfl, (blk_cell BK227.out 8).trans rfl, (blk_cell BK227.out 9).trans rfl, (blk_cell BK227.out 10).trans rfl, (blk_cell BK227.out 11).trans rfl⟩ (fun hHeld => ?_)
              clear hK K
              refine norm_ (a' := ?_) ?_ ?_
              rotate_left
              · show Act.put _ (some 19) _ = _
                simp only [Act.put, List.setIfInBounds_toArray, List.set_cons_zero, List.set_cons_succ, i64_w, i32_w]
                rfl
              refine pure_ (i := 13) (N := some 20) (v := ?_) (a' := ?_) #[true, true, true, true, true, true, true, true, true, true, true, true, true, true, true, true, false, false] rfl rfl (any_of HT_.out (by kernel_rfl)) (fun _ _ _ h => h) (Or.inl ⟨by rfl, ?_⟩) ?_ ?_
              rotate_left
              · intro w'
                go_simp
                with_reducible rfl
              rotate_left
              · simp only [Act.put, List.setIfInBounds_toArray, List.set_cons_zero, List.set_cons_succ, i64_w, i32_w]
                rfl
              refine pure_ (i := 16) (N := some 23) (v := ?_) (a' := ?_) #[true, true, true, true, true, true, true, true, true, true, true, true, true, true, true, true, true, false] rfl rfl (any_of HT_.out (by kernel_rfl)) (fun _ _ _ h => h) (Or.inl ⟨by rfl, ?_⟩) ?_ ?_
              rotate_left
              · intro w'
                go_simp
                with_reducible rfl
              rotate_left
              · simp only [Act.put, List.setIfInBounds_toArray, List.set_cons_zero, List.set_cons_succ, i64_w, i32_w]
                rfl
              refine pure_ (i := 17) (N := some 2) (v := ?_) (a' := ?_) #[true, true, true, true, true, true, true, true, true, true, true, true, true, true, true, true, true, true] rfl rfl (any_of HT_.out (by kernel_rfl)) (fun _ _ _ h => h) (Or.inl ⟨by rfl, ?_⟩) ?_ ?_
              rotate_left
              · intro w'
                go_simp
                with_reducible rfl
              rotate_left
              · simp only [Act.put, List.setIfInBounds_toArray, List.set_cons_zero, List.set_cons_succ, i64_w, i32_w]
                rfl
              refine done_ (done_of HT_.out (by kernel_rfl)) ?_
              try go_wp2
              go_ret
              exact ⟨by first | rfl | (simp [errW_none, errW_some] <;> rfl) | (simp [*, errW_none, errW_some] <;> rfl), by repeat (first | (with_reducible first | exact HB.out | apply below_alloc | apply pw_below_drewN | apply below_drew1 | refine below_set ?_ GE227.out) | exact HB.out)⟩
            · rw [if_neg c11] at H
              exact absurd H (by simp)
          · rw [if_neg c10] at H
            exact absurd H (by simp)
        · rw [if_neg c8] at H
          exact absurd H (by simp)
      · rw [if_neg c6] at H
        exact absurd H (by simp)
    · rw [if_neg c5] at H
      exact absurd H (by simp)

/-! ### bursarref20_noughts: function 37 -/
def bursarref20_noughts.l0 : Nat → Int → ByteArray → Int → Option (ByteArray)
  | 0, _, _, _ => none
  | k + 1, x0, x3, x4 => if x4 < x0 then (if x3.size + 1 ≤ 9223372036854775807 then (bursarref20_noughts.l0 k x0 (x3 ++ (⟨#[48]⟩ : ByteArray)) (wrap64 (x4 + 1))) else (none)) else (some x3)
def bursarref20_noughts.f (k : Nat) (a0 : Int) : Option (ByteArray) := bursarref20_noughts.l0 k a0 (⟨#[]⟩ : ByteArray) 0
theorem bursarref20_noughts.mono_l : ∀ k, (∀ y0 y1 y2, LeO (bursarref20_noughts.l0 k y0 y1 y2) (bursarref20_noughts.l0 (k + 1) y0 y1 y2))
  | 0 => fun _ _ _ r h => by simp [bursarref20_noughts.l0] at h
  | k + 1 => by
    have ih0 := bursarref20_noughts.mono_l k
    · intro y0 y1 y2
      unfold bursarref20_noughts.l0
      repeat' first
      | (with_reducible exact ih0 _ _ _)
      | (with_reducible exact LeO.refl _)
      | (with_reducible exact LeO.none _)
      | (with_reducible refine LeO.ite ?_ ?_)
      | (with_reducible refine LeO.bind ?_ (fun _ => ?_))
      | exact ih0 _ _ _
      | exact LeO.none _
      | refine LeO.ite ?_ ?_
      | refine LeO.bind ?_ (fun _ => ?_)
theorem bursarref20_noughts.mono : ∀ a0 k, LeO (bursarref20_noughts.f k a0) (bursarref20_noughts.f (k + 1) a0) := by
  intro a0 k
  have ih0 := bursarref20_noughts.mono_l k
  unfold bursarref20_noughts.f
  repeat' first
      | (with_reducible exact ih0 _ _ _)
      | (with_reducible exact LeO.refl _)
      | (with_reducible exact LeO.none _)
      | (with_reducible refine LeO.ite ?_ ?_)
      | (with_reducible refine LeO.bind ?_ (fun _ => ?_))
      | exact ih0 _ _ _
      | exact LeO.none _
      | refine LeO.ite ?_ ?_
      | refine LeO.bind ?_ (fun _ => ?_)
set_option maxHeartbeats 8000000 in
set_option maxRecDepth 100000 in
theorem bursarref20_noughts.calls (k : Nat) (a0 : Int) (r : ByteArray) (w : World) (h : bursarref20_noughts.f k a0 = some r) :
    Calls Tryz.prog 37 #[.int .i64 a0] w fun e w' => e = .returned (.string r) ∧ Drawn0 w w' := by
  have H : (bursarref20_noughts.l0 k a0 (⟨#[]⟩ : ByteArray) 0) = some r := h
  clear h
  have H' := Aside0.mk H
  clear H
  go_enter Tryz.func37, Tryz.ntmps37
  go_wp2
  go_loopg [3, 4] k (fun kq v3 v4 w' => ∃ (x3_1 : ByteArray) (x4_1 : Int), v3 = .string x3_1 ∧ v4 = .int .i64 x4_1 ∧ Aside0 (bursarref20_noughts.l0 kq a0 x3_1 x4_1 = some r) ∧ Aside0 (kq ≤ k) ∧ Drawn0 w w')
  case atStart => exact ⟨((⟨#[]⟩ : ByteArray)), (0), (by first | rfl | (simp; done) | (simp [*]; done) | (simp [Pu.bne_nil, Pu.beq_nil]; done)), (by first | rfl | (simp; done) | (simp [*]; done) | (simp [Pu.bne_nil, Pu.beq_nil]; done)), H', ⟨Nat.le_refl _⟩, by repeat (first | exact Drawn0.refl _ | apply Drawn0.step)⟩
  case round =>
    clear H'
    obtain ⟨x3_1, x4_1, rfl, rfl, HA, HK1, ⟨m1, rfl⟩⟩ := hrel
    cases gk with
    | zero => exact absurd HA.out (by simp [bursarref20_noughts.l0])
    | succ k1 =>
      have H := HA.out
      clear HA
      simp only [bursarref20_noughts.l0] at H
      by_cases c2 : x4_1 < a0
      · rw [if_pos c2] at H
        have c2b0 : decide (x4_1 < a0) = true := decide_eq_true c2
        clear c2
        by_cases c3 : x3_1.size + 1 ≤ 9223372036854775807
        · rw [if_pos c3] at H
          have c3b0 := eq_true c3
          have c3b1 : decide (x3_1.size + 1 ≤ 9223372036854775807) = true := decide_eq_true c3
          try have c3b2 : (9223372036854775807 < x3_1.size + 1) = False := eq_false (Nat.not_lt.2 c3)
          have H' := Aside0.mk H
          clear H
          go_wp2
          go_roundg k1
          case measure => have := HK1.out; omega
          case rel => exact ⟨(x3_1 ++ (⟨#[48]⟩ : ByteArray)), (wrap64 (x4_1 + 1)), (by first | rfl | (simp; done) | (simp [*]; done) | (simp [Pu.bne_nil, Pu.beq_nil]; done)), (by first | rfl | (simp; done) | (simp [*]; done) | (simp [Pu.bne_nil, Pu.beq_nil]; done)), H', ⟨by have := HK1.out; omega⟩, by repeat (first | exact Drawn0.refl _ | apply Drawn0.step)⟩
        · rw [if_neg c3] at H
          exact absurd H (by simp)
      · rw [if_neg c2] at H
        have c2b0 : decide (x4_1 < a0) = false := decide_eq_false c2
        clear c2
        obtain rfl := Option.some.inj H
        go_wp2
        go_ret
        exact ⟨by first | rfl | (simp; done) | (simp [*]; done), by repeat (first | exact Drawn0.refl _ | apply Drawn0.step)⟩

end Go.Proofs.YtnelnmlhlmocdaaGreatDoor.XB
