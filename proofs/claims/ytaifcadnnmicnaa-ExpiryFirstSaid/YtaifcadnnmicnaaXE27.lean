-- Written by wip/xprint.py, a session's program: printed out of the translation, with hand-written functions. Lean checks it.
import Derived.Test.YtaifcadnnmicnaaXE0
import Derived.Test.YtaifcadnnmicnaaXE17
import Derived.Test.YtaifcadnnmicnaaXE18
namespace Go.Proofs.Ytaifcadnnmicnaa.XE
open Go.RowKit Go.Proofs.YtaifcadnnmicnaaW.PrintWords Go.Proofs.YtaifcadnnmicnaaW.PrintLast Go.Proofs.YtaifcadnnmicnaaW.PrintMore
attribute [local go_sem] max2_int min2_int max_two min_two max_three min_three max_four min_four   -- for this text's walks alone
set_option linter.unusedVariables false
set_option linter.unusedSimpArgs false

/-! ### expiry_First: function 7 -/
theorem gb_set (w : World) (b i : Nat) (u : Value) : w.grownBy (w.setCell ⟨b, i, none⟩ u) (some b) :=
  ⟨rfl, rfl, rfl, by rw [World.size_setCell]; exact Nat.le_refl _, fun j _ hn => Below.heap_setCell w ⟨b, i, none⟩ u j (fun e => hn (by rw [e]))⟩
def firstQ (n : Int) (s : Int) (_ : S49) : Bool × Int := (decide (wrap64 (s + 1) ≤ n), wrap64 (s + 1))
set_option maxHeartbeats 4000000 in
theorem first_pred (n s : Int) (B D : Nat) (x : S49) (W : World) (hB : W.heap[B]? = some (.cells #[.int .i64 s] 3 (0, 0))) (hD : W.heap[D]? = some (.cells #[.int .i64 n] 3 (0, 0))) (hne : B ≠ D) :
    Calls Try.prog 20 (#[enc49 x] ++ #[.pointer (some ⟨B, 0, none⟩), .pointer (some ⟨D, 0, none⟩)]) W fun e w' => e = .returned (.bool (firstQ n s x).1) ∧ w'.heap[B]? = some (.cells #[.int .i64 (firstQ n s x).2] 3 (0, 0)) ∧ W.grownBy w' (some B) := by
  show Calls Try.prog 20 #[.agg #[.int .i64 x.f0, .string x.f1, .int .i64 x.f2], .pointer (some ⟨B, 0, none⟩), .pointer (some ⟨D, 0, none⟩)] W _
  have hBW := blk_lt hB
  have hDW := blk_lt hD
  have b0 : W.cell? ⟨B, 0, none⟩ = some (.int .i64 s) := (blk_cell hB 0).trans rfl
  have d0 : W.cell? ⟨D, 0, none⟩ = some (.int .i64 n) := (blk_cell hD 0).trans rfl
  have f0 := blk_frozen hB 0
  have hn1 : B ≠ W.heap.size := by omega
  have hn2 : D ≠ W.heap.size := by omega
  have hn3 : D ≠ B := fun e => hne e.symm
  have HB := Lib.hid hB
  clear hB hD
  go_enter Try.func20, Try.ntmps20
  go_wp2
  go_ret
  refine ⟨rfl, blk_alloc (blk_set HB.out 0 (.int .i64 (wrap64 (s + 1)))) _, gb_trans (gb_set W B 0 _) (gb_below (below_alloc (Below.refl _ _) _) _)⟩
def expiry_First.f (l0 : List S30) (a1 : Int) : Option (List Int) := if okL l0 = true then some ((Hp.takeS (firstQ a1) 0 (ordS l0)).map (·.f2)) else none
set_option maxHeartbeats 4000000 in
theorem expiry_First.calls (A0 : Option Addr) (c0 : Nat) (l0 : List S30) (a1 : Int) (r : List Int) (w : World) (hr0 : Kd.C k30 w A0 l0.length l0) (hc0 : l0.length ≤ c0) (h : expiry_First.f l0 a1 = some r) :
    Calls Try.prog 7 #[.slice A0 l0.length c0, .int .i64 a1] w fun e w' => ∃ v0_ : Value, e = .returned v0_ ∧ Kd.R (Kd.int .i64) 3 w' w.heap.size (fun _ => True) v0_ r ∧ Below w.heap.size w w' := by
  unfold expiry_First.f at h
  split at h
  case isFalse => cases h
  case isTrue hok =>
  obtain rfl := Option.some.inj h
  obtain ⟨hl, hok⟩ := okL_len hok
  have hz1 : (w.alloc (.cells #[.int .i64 a1] 3 (0, 0))).heap.size = w.heap.size + 1 := by simp [World.alloc, -World.alloc_eq]
  have hB1 := below_alloc (below_alloc (Below.refl w.heap.size w) (.cells #[.int .i64 a1] 3 (0, 0))) (.cells #[.int .i64 0] 3 (0, 0))
  have hT1 := blk_alloc (blk_new w (.cells #[.int .i64 a1] 3 (0, 0))) (.cells #[.int .i64 0] 3 (0, 0))
  have hC1 := blk_new (w.alloc (.cells #[.int .i64 a1] 3 (0, 0))) (.cells #[.int .i64 0] 3 (0, 0))
  have hz2 : ((w.alloc (.cells #[.int .i64 a1] 3 (0, 0))).alloc (.cells #[.int .i64 0] 3 (0, 0))).heap.size = w.heap.size + 1 + 1 := by simp [World.alloc, -World.alloc_eq]
  rw [hz1] at hC1
  have hop := open_w A0 c0 l0 _ (Kd.C_below hr0 hB1) hl hok
  have HB1 := Lib.hid hB1
  have HT1 := Lib.hid hT1
  have HC1 := Lib.hid hC1
  have HZ1 := Lib.hid hz2
  have HL := Lib.hid hl
  clear h hr0 hB1 hT1 hok hz1 hz2 hl hC1
  go_enter Try.func7, Try.ntmps7
  go_wp2_with (go_at_call 19; refine hop.mono ?_; rintro e w2 ⟨hp, g, cap, rfl, hhp, hH2, hb2⟩; have HHP := Lib.hid hhp; have HH2 := Lib.hid hH2; have HB2 := Lib.hid hb2; clear hhp hH2 hb2 hop)
  have htk := take_w 20 #[.pointer (some ⟨w.heap.size + 1, 0, none⟩), .pointer (some ⟨w.heap.size, 0, none⟩)] (enters_of Try.func20 (by kernel_rfl) rfl) (firstQ a1) hp g cap w.heap.size (some (w.heap.size + 1)) _ 0 w2 (fun s W => W.heap[w.heap.size + 1]? = some (.cells #[.int .i64 s] 3 (0, 0)) ∧ W.heap[w.heap.size]? = some (.cells #[.int .i64 a1] 3 (0, 0))) ⟨HH2.out.cell, Kd.R_lower HH2.out.row (by rw [HZ1.out]; omega)⟩ (by have := HHP.out; rw [HZ1.out] at this; omega) (fun k hk => by
      have e := Option.some.inj hk
      have h1 := HB2.out.size
      have h2 := HHP.out
      have h3 := HH2.out.gb
      rw [HZ1.out] at h1 h2 h3
      omega) (by rw [build_len]; exact Nat.le_trans (itemsTo_len l0 _) HL.out) (by have := HB2.out.size; rw [HZ1.out] at this; omega)
    ⟨blk_below HC1.out HB2.out, blk_below HT1.out HB2.out⟩
    (fun s W W' hI hk => by
      have h1 := HB2.out.size
      have h2 := HHP.out
      have h3 := HH2.out.gb
      rw [HZ1.out] at h1 h2 h3
      exact ⟨(hk _ (by omega) (by omega) (by omega)).trans hI.1, (hk _ (by omega) (by omega) (by omega)).trans hI.2⟩)
    (fun s W x hI _ => (first_pred a1 s (w.heap.size + 1) w.heap.size x W hI.1 hI.2 (by omega)).mono (by
      rintro e w' ⟨rfl, hb, hg⟩
      exact ⟨rfl, ⟨hb, blk_grown hI.2 hg (fun e => by have := Option.some.inj e; omega)⟩, hg⟩))
  rw [takeF_ord] at htk
  refine htk.mono ?_
  rintro e w3 ⟨v, rfl, hR3, hb3⟩
  have HR3 := Lib.hid hR3
  have HB3 := Lib.hid hb3
  clear htk hR3 hb3
  go_wp2
  go_ret
  have hz := HZ1.out
  have h2 := HB2.out.size
  exact ⟨_, rfl, Kd.R_lower HR3.out (by omega), HB1.out.trans ((HB2.out.mono (by omega)).trans HB3.out)⟩


-- NOT PRINTED: function 3 (bursarlaw15_ExpiryFirst)

end Go.Proofs.Ytaifcadnnmicnaa.XE
