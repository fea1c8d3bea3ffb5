-- Written by wip/xprint.py, a session's program: printed out of the translation, with hand-written functions. Lean checks it.
import Derived.Test.YtmdpomilhejbcaaXAE0
import Derived.Test.YtmdpomilhejbcaaXAE4
import Derived.Test.YtmdpomilhejbcaaXAE6
namespace Go.Proofs.Ytmdpomilhejbcaa.XAE
open Go.RowKit Go.Proofs.YtmdpomilhejbcaaW.PrintWords Go.Proofs.YtmdpomilhejbcaaW.PrintLast Go.Proofs.YtmdpomilhejbcaaW.PrintMore
attribute [local go_sem] max2_int min2_int max_two min_two max_three min_three max_four min_four   -- for this text's walks alone
set_option linter.unusedVariables false
set_option linter.unusedSimpArgs false

/-! ### hold_More: function 25 -/
theorem add64_run (x y : Int) (hx : 0 ≤ x) (hy : 0 ≤ y) (w : World) : (callFunc 39 #[.int .u64 x, .int .u64 y, .int .u64 0]).run Try.prog w =
    .ok (.value (.tuple #[.int .u64 ((x + y + 0) % 18446744073709551616), .int .u64 ((x + y + 0) / 18446744073709551616)])) w := by
  rw [run_callFunc_extern Try.func39 (by kernel_rfl) (by kernel_rfl) (by kernel_rfl) (e := add64Entry) (by kernel_rfl), run_add64 x y 0 hx hy (by omega) (by omega)]
  rfl
set_option maxRecDepth 100000 in
set_option maxHeartbeats 2000000 in
theorem money_Sum2 (a b : Int) (h0 : 0 ≤ a) (h1 : 0 ≤ b) (h2 : a ≤ 9223372036854775807) (h3 : b ≤ 9223372036854775807) (g : Nat) (w : World) (T : TypeId) (hc : w.heap[g]? = some (.cells #[.int .i64 a, .int .i64 b] T (0, 0))) (r1 r2 : Int) (hr : (if a + b ≤ 9223372036854775807 then ((a + b, 0) : Int × Int) else (0, 2)) = (r1, r2)) :
    Calls Try.prog 37 #[.slice (some ⟨g, 0, none⟩) 2 2] w fun e w' => e = .returned (.tuple #[.int .i64 r1, .int .i64 r2]) ∧ w' = w := by
  have c0 : w.cell? ⟨g, 0, none⟩ = some (.int .i64 a) := (blk_cell hc 0).trans rfl
  have c1 : w.cell? ⟨g, 1, none⟩ = some (.int .i64 b) := (blk_cell hc 1).trans rfl
  have HR := Lib.hid hr
  have e1 : (a + b) % 18446744073709551616 = a + b := by omega
  have e2 : (a + b) / 18446744073709551616 = 0 := by omega
  have e3 : a % 18446744073709551616 = a := by omega
  have e4 : a / 18446744073709551616 = 0 := by omega
  have E1 := Lib.hid e1
  have E2 := Lib.hid e2
  have E3 := Lib.hid e3
  have E4 := Lib.hid e4
  clear hc hr e1 e2 e3 e4
  go_enter Try.func37, Try.ntmps37
  go_wp2
  go_loop [4, 5, 12] (fun hi lo i => (hi = .int .i64 0 ∧ lo = .int .u64 0 ∧ i = .int .i64 0) ∨ (hi = .int .i64 0 ∧ lo = .int .u64 a ∧ i = .int .i64 1) ∨ (hi = .int .i64 0 ∧ lo = .int .u64 (a + b) ∧ i = .int .i64 2)) (fun _ _ i => 2 - (intOf i).toNat)
  case atStart => exact .inl ⟨rfl, rfl, rfl⟩
  case round =>
    rcases hrel with ⟨rfl, rfl, rfl⟩ | ⟨rfl, rfl, rfl⟩ | ⟨rfl, rfl, rfl⟩
    · go_wp2_with (simp only [add64_run 0 a (by omega) h0])
      go_round
      case rel => exact .inr (.inl ⟨congrArg _ (by omega), congrArg _ (by omega), rfl⟩)
      case measure => simp [intOf]
    · go_wp2_with (simp only [add64_run a b h0 h1])
      go_round
      case rel => exact .inr (.inr ⟨congrArg _ (by omega), congrArg _ (by omega), rfl⟩)
      case measure => simp [intOf]
    · go_wp2
      · have h : (0 != wrap64 (a + b) / 9223372036854775808) = true := by assumption
        have h' : wrap64 (a + b) / 9223372036854775808 ≠ 0 := by intro e; rw [e] at h; cases h
        have hs : ¬ a + b ≤ 9223372036854775807 := by intro hs; apply h'; unfold wrap64; omega
        obtain ⟨rfl, rfl⟩ : r1 = 0 ∧ r2 = 2 := by have := HR.out; rw [if_neg hs] at this; simpa [eq_comm] using this
        clear h h'
        go_ret2
        exact ⟨rfl, rfl⟩
      · have h : (0 != wrap64 (a + b) / 9223372036854775808) = false := by assumption
        have h' : wrap64 (a + b) / 9223372036854775808 = 0 := by have h2 := h; simp at h2; omega
        have hs : a + b ≤ 9223372036854775807 := by unfold wrap64 at h'; omega
        have hw : wrap64 (a + b) = a + b := by unfold wrap64; omega
        obtain ⟨rfl, rfl⟩ : r1 = a + b ∧ r2 = 0 := by have := HR.out; rw [if_pos hs] at this; simpa [eq_comm] using this
        clear h h'
        go_ret2
        exact ⟨by first | rfl | simp [hw], rfl⟩
def money_Add.f (a0 a1 : Int) : Option (Int × Int) := if 0 ≤ a0 ∧ 0 ≤ a1 ∧ a0 ≤ 9223372036854775807 ∧ a1 ≤ 9223372036854775807 then some (if a0 + a1 ≤ 9223372036854775807 then (a0 + a1, 0) else (0, 2)) else none
set_option maxRecDepth 100000 in
set_option maxHeartbeats 2000000 in
theorem money_Add.calls (a0 a1 r1 r2 : Int) (w : World) (h : money_Add.f a0 a1 = some (r1, r2)) :
    Calls Try.prog 34 #[.int .i64 a0, .int .i64 a1] w fun e w' => e = .returned (.tuple #[.int .i64 r1, .int .i64 r2]) ∧ Below w.heap.size w w' := by
  unfold money_Add.f at h
  split at h
  · rename_i hb
    obtain ⟨h0, h1, h2, h3⟩ := hb
    have HR := Lib.hid (Option.some.inj h)
    clear h
    go_enter Try.func34, Try.ntmps34
    go_wp2_with fail
    refine (money_Sum2 a0 a1 h0 h1 h2 h3 _ _ 2 (show (w.heap.push _)[w.heap.size]? = _ from Array.getElem?_push_size) r1 r2 HR.out).mono ?_
    rintro e w' ⟨rfl, rfl⟩
    go_wp2
    go_ret2
    exact ⟨rfl, (Below.refl _ _).alloc (Nat.le_refl _) _⟩
  · cases h
set_option maxRecDepth 100000 in
set_option maxHeartbeats 2000000 in
theorem hold_More1_bad (rrn acq pan : ByteArray) (ap ca un : Int) (n : Int) (til : Int) (op : Bool) (W : World) (B : Nat) (gt : Nat) (ga : Nat)
    (hB : W.heap[B]? = some (.cells #[.string rrn, .string acq, .string pan, .int .i64 ap, .int .i64 ca, .int .i64 un, .bool op] 25 (0, 0)))
    (ht : W.heap[gt]? = some (.cells #[.int .i64 til] 3 (0, 0))) (hnt : B ≠ gt)
    (ha : W.heap[ga]? = some (.cells #[.int .i64 n] 2 (0, 0))) (hna : B ≠ ga) (h2 : til < 0 ∨ 2147483647 < til) :
    Calls Try.prog 33 #[.pointer (some ⟨B, 0, none⟩), .pointer (some ⟨gt, 0, none⟩), .pointer (some ⟨ga, 0, none⟩)] W
      (fun e W' => e = .returned (.int .i64 1) ∧ Pu.OnlyB W B #[.string rrn, .string acq, .string pan, .int .i64 ap, .int .i64 ca, .int .i64 un, .bool op] 25 W') := by
  have hu25 := Try.underlying25
  have hcz := blk_cell hB
  have hfz := blk_frozen hB
  have hct := blk_cell ht
  have hca := blk_cell ha
  have HT := Aside0.mk ht
  have HA := Aside0.mk ha
  have HB := Aside0.mk hB
  have hun : hold_until.f til = some false := by
    unfold hold_until.f
    by_cases h : til ≥ 0
    · rw [if_pos h, decide_eq_false (by omega)]
    · rw [if_neg h]
  have HU := Lib.hid hun
  clear hun
  clear hB ht ha h2
  go_enter Try.func33, Try.ntmps33
  go_wp2_with (go_at_call 29; refine Calls.mono (hold_until.calls til false _ HU.out) ?_; rintro e wx ⟨rfl, ⟨nd, rfl⟩⟩)
  go_ret
  exact ⟨rfl, Pu.OnlyB.drewN (Pu.OnlyB.refl HB.out) _⟩
set_option maxRecDepth 100000 in
set_option maxHeartbeats 2000000 in
theorem hold_More1_ok (rrn acq pan : ByteArray) (ap ca un : Int) (n : Int) (til : Int) (op : Bool) (W : World) (B : Nat) (gt : Nat) (ga : Nat)
    (hB : W.heap[B]? = some (.cells #[.string rrn, .string acq, .string pan, .int .i64 ap, .int .i64 ca, .int .i64 un, .bool op] 25 (0, 0)))
    (ht : W.heap[gt]? = some (.cells #[.int .i64 til] 3 (0, 0))) (hnt : B ≠ gt)
    (ha : W.heap[ga]? = some (.cells #[.int .i64 n] 2 (0, 0))) (hna : B ≠ ga) (h2 : (0 ≤ til ∧ til ≤ 2147483647) ∧ money_Add.f ap n = some (ap + n, 0)) :
    Calls Try.prog 33 #[.pointer (some ⟨B, 0, none⟩), .pointer (some ⟨gt, 0, none⟩), .pointer (some ⟨ga, 0, none⟩)] W
      (fun e W' => e = .returned (.int .i64 0) ∧ Pu.OnlyB W B #[.string rrn, .string acq, .string pan, .int .i64 (ap + n), .int .i64 ca, .int .i64 til, .bool op] 25 W') := by
  have hu25 := Try.underlying25
  have hcz := blk_cell hB
  have hfz := blk_frozen hB
  have hct := blk_cell ht
  have hca := blk_cell ha
  have HT := Aside0.mk ht
  have HA := Aside0.mk ha
  have HB := Aside0.mk hB
  have hun : hold_until.f til = some true := by unfold hold_until.f; rw [if_pos h2.1.1, decide_eq_true h2.1.2]
  have HR := Lib.hid h2.2
  have HU := Lib.hid hun
  clear hun
  clear hB ht ha h2
  go_enter Try.func33, Try.ntmps33
  go_wp2_with (go_at_call 29; refine Calls.mono (hold_until.calls til true _ HU.out) ?_; rintro e wx ⟨rfl, ⟨nd, rfl⟩⟩)
  have hb1 : Pu.OnlyB W B #[.string rrn, .string acq, .string pan, .int .i64 ap, .int .i64 ca, .int .i64 un, .bool op] 25 (W.drewN nd) := Pu.OnlyB.drewN (Pu.OnlyB.refl HB.out) nd
  have ht1 : (W.drewN nd).heap[gt]? = some (.cells #[.int .i64 til] 3 (0, 0)) := HT.out
  have ha1 : (W.drewN nd).heap[ga]? = some (.cells #[.int .i64 n] 2 (0, 0)) := HA.out
  clear HB HT HA hcz hfz hct hca
  generalize W.drewN nd = W1 at hb1 ht1 ha1 ⊢
  have s1 : W1.cell? ⟨B, 3, none⟩ = some (.int .i64 ap) := (blk_cell hb1.blk 3).trans rfl
  have s2 : W1.cell? ⟨ga, 0, none⟩ = some (.int .i64 n) := (blk_cell ha1 0).trans rfl
  have l1 := blk_lt hb1.blk
  have l2 := blk_lt ha1
  have l3 := blk_lt ht1
  have HB := Aside0.mk hb1
  have HT := Aside0.mk ht1
  clear hb1 ht1 ha1
  go_region_held3 (fun w' => w'.cell? ⟨B, 3, none⟩ = some (.int .i64 ap) ∧ w'.cell? ⟨ga, 0, none⟩ = some (.int .i64 n) ∧ Below W1.heap.size W1 w') (first | exact ⟨s1, s2, below_drew1 (Below.refl _ _)⟩ | exact ⟨(hb.cell (p := ⟨B, 3, none⟩) l1).trans s1, (hb.cell (p := ⟨ga, 0, none⟩) l2).trans s2, below_step (below_drew1 (Below.refl _ _)) hb⟩) (first | (go_at_call 34; refine Calls.mono (money_Add.calls ap n (ap + n) 0 _ HR.out) ?_; rintro e wx ⟨rfl, hb⟩))
  rename_i hHeld
  have hbl := hHeld.2.2
  have hb2 := Pu.OnlyB.below HB.out hbl
  have ht2 : wx.heap[gt]? = some (.cells #[.int .i64 til] 3 (0, 0)) := (hbl.block gt l3).trans HT.out
  clear hHeld hbl hb s1 s2 l1 l2 l3 HB HT
  have hcz := blk_cell hb2.blk
  have hfz := blk_frozen hb2.blk
  have hct := blk_cell ht2
  have HB := Aside0.mk hb2
  clear hb2 ht2
  go_wp2
  go_region
  go_wp2
  go_ret
  exact ⟨rfl, Pu.OnlyB.set (Pu.OnlyB.set (Pu.OnlyB.drewN HB.out _) 3 _ rfl) 5 _ rfl⟩
set_option maxRecDepth 100000 in
set_option maxHeartbeats 2000000 in
theorem hold_More1_ov (rrn acq pan : ByteArray) (ap ca un : Int) (n : Int) (til : Int) (op : Bool) (W : World) (B : Nat) (gt : Nat) (ga : Nat)
    (hB : W.heap[B]? = some (.cells #[.string rrn, .string acq, .string pan, .int .i64 ap, .int .i64 ca, .int .i64 un, .bool op] 25 (0, 0)))
    (ht : W.heap[gt]? = some (.cells #[.int .i64 til] 3 (0, 0))) (hnt : B ≠ gt)
    (ha : W.heap[ga]? = some (.cells #[.int .i64 n] 2 (0, 0))) (hna : B ≠ ga) (h2 : (0 ≤ til ∧ til ≤ 2147483647) ∧ money_Add.f ap n = some (0, 2)) :
    Calls Try.prog 33 #[.pointer (some ⟨B, 0, none⟩), .pointer (some ⟨gt, 0, none⟩), .pointer (some ⟨ga, 0, none⟩)] W
      (fun e W' => e = .returned (.int .i64 2) ∧ Pu.OnlyB W B #[.string rrn, .string acq, .string pan, .int .i64 0, .int .i64 ca, .int .i64 til, .bool op] 25 W') := by
  have hu25 := Try.underlying25
  have hcz := blk_cell hB
  have hfz := blk_frozen hB
  have hct := blk_cell ht
  have hca := blk_cell ha
  have HT := Aside0.mk ht
  have HA := Aside0.mk ha
  have HB := Aside0.mk hB
  have hun : hold_until.f til = some true := by unfold hold_until.f; rw [if_pos h2.1.1, decide_eq_true h2.1.2]
  have HR := Lib.hid h2.2
  have HU := Lib.hid hun
  clear hun
  clear hB ht ha h2
  go_enter Try.func33, Try.ntmps33
  go_wp2_with (go_at_call 29; refine Calls.mono (hold_until.calls til true _ HU.out) ?_; rintro e wx ⟨rfl, ⟨nd, rfl⟩⟩)
  have hb1 : Pu.OnlyB W B #[.string rrn, .string acq, .string pan, .int .i64 ap, .int .i64 ca, .int .i64 un, .bool op] 25 (W.drewN nd) := Pu.OnlyB.drewN (Pu.OnlyB.refl HB.out) nd
  have ht1 : (W.drewN nd).heap[gt]? = some (.cells #[.int .i64 til] 3 (0, 0)) := HT.out
  have ha1 : (W.drewN nd).heap[ga]? = some (.cells #[.int .i64 n] 2 (0, 0)) := HA.out
  clear HB HT HA hcz hfz hct hca
  generalize W.drewN nd = W1 at hb1 ht1 ha1 ⊢
  have s1 : W1.cell? ⟨B, 3, none⟩ = some (.int .i64 ap) := (blk_cell hb1.blk 3).trans rfl
  have s2 : W1.cell? ⟨ga, 0, none⟩ = some (.int .i64 n) := (blk_cell ha1 0).trans rfl
  have l1 := blk_lt hb1.blk
  have l2 := blk_lt ha1
  have l3 := blk_lt ht1
  have HB := Aside0.mk hb1
  have HT := Aside0.mk ht1
  clear hb1 ht1 ha1
  go_region_held3 (fun w' => w'.cell? ⟨B, 3, none⟩ = some (.int .i64 ap) ∧ w'.cell? ⟨ga, 0, none⟩ = some (.int .i64 n) ∧ Below W1.heap.size W1 w') (first | exact ⟨s1, s2, below_drew1 (Below.refl _ _)⟩ | exact ⟨(hb.cell (p := ⟨B, 3, none⟩) l1).trans s1, (hb.cell (p := ⟨ga, 0, none⟩) l2).trans s2, below_step (below_drew1 (Below.refl _ _)) hb⟩) (first | (go_at_call 34; refine Calls.mono (money_Add.calls ap n 0 2 _ HR.out) ?_; rintro e wx ⟨rfl, hb⟩))
  rename_i hHeld
  have hbl := hHeld.2.2
  have hb2 := Pu.OnlyB.below HB.out hbl
  have ht2 : wx.heap[gt]? = some (.cells #[.int .i64 til] 3 (0, 0)) := (hbl.block gt l3).trans HT.out
  clear hHeld hbl hb s1 s2 l1 l2 l3 HB HT
  have hcz := blk_cell hb2.blk
  have hfz := blk_frozen hb2.blk
  have hct := blk_cell ht2
  have HB := Aside0.mk hb2
  clear hb2 ht2
  go_wp2
  go_region
  go_wp2
  go_ret
  exact ⟨rfl, Pu.OnlyB.set (Pu.OnlyB.set (Pu.OnlyB.drewN HB.out _) 3 _ rfl) 5 _ rfl⟩
set_option maxRecDepth 100000 in
set_option maxHeartbeats 2000000 in
theorem hold_openMore_may (rrn acq pan : ByteArray) (ap ca un : Int) (n : Int) (til : Int) (op : Bool) (gt : Nat) (ga : Nat) (w : World) (hm : hold_May.f rrn acq pan ap ca un op = some false)
    (ht : w.heap[gt]? = some (.cells #[.int .i64 til] 3 (0, 0)))
    (ha : w.heap[ga]? = some (.cells #[.int .i64 n] 2 (0, 0))) :
    Calls Try.prog 32 #[.agg #[.string rrn, .string acq, .string pan, .int .i64 ap, .int .i64 ca, .int .i64 un, .bool op], .int .i64 n, .func (.func 33) #[] #[.pointer (some ⟨gt, 0, none⟩), .pointer (some ⟨ga, 0, none⟩)]] w fun e w' => e = .returned (.tuple #[.agg #[.string (⟨#[]⟩ : ByteArray), .string (⟨#[]⟩ : ByteArray), .string (⟨#[]⟩ : ByteArray), .int .i64 0, .int .i64 0, .int .i64 0, .bool false], .int .i64 1]) ∧ Below w.heap.size w w' := by
  have HM := Lib.hid hm
  have Ht := Lib.hid ht
  have Ha := Lib.hid ha
  have HO := Aside0.mk (Ow.Own.nil w)
  clear hm ht ha
  go_enter Try.func32, Try.ntmps32
  go_wp2_with (first | ((with_reducible refine gate_dst (N := 3) rfl ?_); refine Ow.box rfl (N := 3) rfl (cs := #[.string rrn, .string acq, .string pan, .int .i64 ap, .int .i64 ca, .int .i64 un, .bool op]) (t := 25) HO.out (by first | (go_simp; done) | (go_simp; rfl)) ?_; clear HO; intro g1 w1 HO; simp only [List.cons_append, List.nil_append] at HO) | ((with_reducible refine gate_dst (N := 6) rfl ?_); refine Ow.box rfl (N := 6) rfl (cs := #[.string (⟨#[]⟩ : ByteArray), .string (⟨#[]⟩ : ByteArray), .string (⟨#[]⟩ : ByteArray), .int .i64 0, .int .i64 0, .int .i64 0, .bool false]) (t := 25) HO.out (by first | (go_simp; done) | (go_simp; rfl)) ?_; clear HO; intro g2 w2 HO; simp only [List.cons_append, List.nil_append] at HO) | (go_at_call 16; refine Calls.mono (hold_May.calls rrn acq pan ap ca un op false _ HM.out) ?_; rintro e wx ⟨rfl, hb⟩; replace HO := Aside0.mk (Ow.Own.call HO.out hb); clear hb) | ((with_reducible refine Ow.gate_load rfl ?_); (try (refine gate_guard (by rfl) ?_; dsimp only)); (first | refine Ow.tload1 Ot.ty HO.out rfl rfl rfl rfl (by with_reducible first | exact Ow.at0 | exact Ow.at1) (by rfl) ?_ | refine Ow.tload0 Ot.ty HO.out rfl rfl rfl rfl (by with_reducible first | exact Ow.at0 | exact Ow.at1) (by rfl) ?_ | refine Ow.tloadp Ot.ty HO.out rfl rfl rfl rfl (by with_reducible first | exact Ow.at0 | exact Ow.at1) (by rfl) ?_)) | ((with_reducible refine gate_store rfl ?_); (try (refine gate_guard (by rfl) ?_; dsimp only)); (first | refine Ow.tput0 Ot.ty HO.out rfl rfl rfl rfl rfl (by with_reducible first | exact Ow.at0 | exact Ow.at1) (by first | exact Ow.ev_tmp rfl | rfl) (by rfl) (by rfl) (by rfl) ?_ | refine Ow.tput Ot.ty HO.out rfl rfl rfl rfl rfl (by with_reducible first | exact Ow.at0 | exact Ow.at1) (by first | exact Ow.ev_tmp rfl | rfl) (by rfl) (by rfl) (by rfl) ?_); clear HO; intro wz_ HO; simp only [List.set_cons_zero, List.set_cons_succ] at HO))
  refine' bodyPost_ret (results_ct rfl _ _ g2 25 _ (0, 0) _ rfl ?hb_ Try.underlying25 rfl ?hi_) rfl ?_
  case hb_ => refine' Ow.Own.get HO.out 1 ?hk_; (case hk_ => rfl)
  case hi_ => exact (Ot.ty.size 25 rfl).trans (congrArg some (by rfl))
  exact ⟨rfl, HO.out.below⟩
set_option maxRecDepth 100000 in
set_option maxHeartbeats 2000000 in
theorem hold_openMore_end (rrn acq pan : ByteArray) (ap ca un : Int) (n : Int) (til : Int) (gt : Nat) (ga : Nat) (w : World) (hm : hold_May.f rrn acq pan ap ca un false = some true)
    (ht : w.heap[gt]? = some (.cells #[.int .i64 til] 3 (0, 0)))
    (ha : w.heap[ga]? = some (.cells #[.int .i64 n] 2 (0, 0))) :
    Calls Try.prog 32 #[.agg #[.string rrn, .string acq, .string pan, .int .i64 ap, .int .i64 ca, .int .i64 un, .bool false], .int .i64 n, .func (.func 33) #[] #[.pointer (some ⟨gt, 0, none⟩), .pointer (some ⟨ga, 0, none⟩)]] w fun e w' => e = .returned (.tuple #[.agg #[.string (⟨#[]⟩ : ByteArray), .string (⟨#[]⟩ : ByteArray), .string (⟨#[]⟩ : ByteArray), .int .i64 0, .int .i64 0, .int .i64 0, .bool false], .int .i64 14]) ∧ Below w.heap.size w w' := by
  have HM := Lib.hid hm
  have Ht := Lib.hid ht
  have Ha := Lib.hid ha
  have HO := Aside0.mk (Ow.Own.nil w)
  clear hm ht ha
  go_enter Try.func32, Try.ntmps32
  go_wp2_with (first | ((with_reducible refine gate_dst (N := 3) rfl ?_); refine Ow.box rfl (N := 3) rfl (cs := #[.string rrn, .string acq, .string pan, .int .i64 ap, .int .i64 ca, .int .i64 un, .bool false]) (t := 25) HO.out (by first | (go_simp; done) | (go_simp; rfl)) ?_; clear HO; intro g1 w1 HO; simp only [List.cons_append, List.nil_append] at HO) | ((with_reducible refine gate_dst (N := 6) rfl ?_); refine Ow.box rfl (N := 6) rfl (cs := #[.string (⟨#[]⟩ : ByteArray), .string (⟨#[]⟩ : ByteArray), .string (⟨#[]⟩ : ByteArray), .int .i64 0, .int .i64 0, .int .i64 0, .bool false]) (t := 25) HO.out (by first | (go_simp; done) | (go_simp; rfl)) ?_; clear HO; intro g2 w2 HO; simp only [List.cons_append, List.nil_append] at HO) | (go_at_call 16; refine Calls.mono (hold_May.calls rrn acq pan ap ca un false true _ HM.out) ?_; rintro e wx ⟨rfl, hb⟩; replace HO := Aside0.mk (Ow.Own.call HO.out hb); clear hb) | ((with_reducible refine Ow.gate_load rfl ?_); (try (refine gate_guard (by rfl) ?_; dsimp only)); (first | refine Ow.tload1 Ot.ty HO.out rfl rfl rfl rfl (by with_reducible first | exact Ow.at0 | exact Ow.at1) (by rfl) ?_ | refine Ow.tload0 Ot.ty HO.out rfl rfl rfl rfl (by with_reducible first | exact Ow.at0 | exact Ow.at1) (by rfl) ?_ | refine Ow.tloadp Ot.ty HO.out rfl rfl rfl rfl (by with_reducible first | exact Ow.at0 | exact Ow.at1) (by rfl) ?_)) | ((with_reducible refine gate_store rfl ?_); (try (refine gate_guard (by rfl) ?_; dsimp only)); (first | refine Ow.tput0 Ot.ty HO.out rfl rfl rfl rfl rfl (by with_reducible first | exact Ow.at0 | exact Ow.at1) (by first | exact Ow.ev_tmp rfl | rfl) (by rfl) (by rfl) (by rfl) ?_ | refine Ow.tput Ot.ty HO.out rfl rfl rfl rfl rfl (by with_reducible first | exact Ow.at0 | exact Ow.at1) (by first | exact Ow.ev_tmp rfl | rfl) (by rfl) (by rfl) (by rfl) ?_); clear HO; intro wz_ HO; simp only [List.set_cons_zero, List.set_cons_succ] at HO))
  refine' bodyPost_ret (results_ct rfl _ _ g2 25 _ (0, 0) _ rfl ?hb_ Try.underlying25 rfl ?hi_) rfl ?_
  case hb_ => refine' Ow.Own.get HO.out 1 ?hk_; (case hk_ => rfl)
  case hi_ => exact (Ot.ty.size 25 rfl).trans (congrArg some (by rfl))
  exact ⟨rfl, HO.out.below⟩
set_option maxRecDepth 100000 in
set_option maxHeartbeats 2000000 in
theorem hold_openMore_arg (rrn acq pan : ByteArray) (ap ca un : Int) (n : Int) (til : Int) (gt : Nat) (ga : Nat) (w : World) (hm : hold_May.f rrn acq pan ap ca un true = some true)
    (ht : w.heap[gt]? = some (.cells #[.int .i64 til] 3 (0, 0)))
    (ha : w.heap[ga]? = some (.cells #[.int .i64 n] 2 (0, 0))) (h1 : n < 1) :
    Calls Try.prog 32 #[.agg #[.string rrn, .string acq, .string pan, .int .i64 ap, .int .i64 ca, .int .i64 un, .bool true], .int .i64 n, .func (.func 33) #[] #[.pointer (some ⟨gt, 0, none⟩), .pointer (some ⟨ga, 0, none⟩)]] w fun e w' => e = .returned (.tuple #[.agg #[.string (⟨#[]⟩ : ByteArray), .string (⟨#[]⟩ : ByteArray), .string (⟨#[]⟩ : ByteArray), .int .i64 0, .int .i64 0, .int .i64 0, .bool false], .int .i64 1]) ∧ Below w.heap.size w w' := by
  have HM := Lib.hid hm
  have Ht := Lib.hid ht
  have Ha := Lib.hid ha
  have HO := Aside0.mk (Ow.Own.nil w)
  have d1 : decide (n < 1) = true := decide_eq_true h1
  clear h1
  clear hm ht ha
  go_enter Try.func32, Try.ntmps32
  go_wp2_with (first | ((with_reducible refine gate_dst (N := 3) rfl ?_); refine Ow.box rfl (N := 3) rfl (cs := #[.string rrn, .string acq, .string pan, .int .i64 ap, .int .i64 ca, .int .i64 un, .bool true]) (t := 25) HO.out (by first | (go_simp; done) | (go_simp; rfl)) ?_; clear HO; intro g1 w1 HO; simp only [List.cons_append, List.nil_append] at HO) | ((with_reducible refine gate_dst (N := 6) rfl ?_); refine Ow.box rfl (N := 6) rfl (cs := #[.string (⟨#[]⟩ : ByteArray), .string (⟨#[]⟩ : ByteArray), .string (⟨#[]⟩ : ByteArray), .int .i64 0, .int .i64 0, .int .i64 0, .bool false]) (t := 25) HO.out (by first | (go_simp; done) | (go_simp; rfl)) ?_; clear HO; intro g2 w2 HO; simp only [List.cons_append, List.nil_append] at HO) | (go_at_call 16; refine Calls.mono (hold_May.calls rrn acq pan ap ca un true true _ HM.out) ?_; rintro e wx ⟨rfl, hb⟩; replace HO := Aside0.mk (Ow.Own.call HO.out hb); clear hb) | ((with_reducible refine Ow.gate_load rfl ?_); (try (refine gate_guard (by rfl) ?_; dsimp only)); (first | refine Ow.tload1 Ot.ty HO.out rfl rfl rfl rfl (by with_reducible first | exact Ow.at0 | exact Ow.at1) (by rfl) ?_ | refine Ow.tload0 Ot.ty HO.out rfl rfl rfl rfl (by with_reducible first | exact Ow.at0 | exact Ow.at1) (by rfl) ?_ | refine Ow.tloadp Ot.ty HO.out rfl rfl rfl rfl (by with_reducible first | exact Ow.at0 | exact Ow.at1) (by rfl) ?_)) | ((with_reducible refine gate_store rfl ?_); (try (refine gate_guard (by rfl) ?_; dsimp only)); (first | refine Ow.tput0 Ot.ty HO.out rfl rfl rfl rfl rfl (by with_reducible first | exact Ow.at0 | exact Ow.at1) (by first | exact Ow.ev_tmp rfl | rfl) (by rfl) (by rfl) (by rfl) ?_ | refine Ow.tput Ot.ty HO.out rfl rfl rfl rfl rfl (by with_reducible first | exact Ow.at0 | exact Ow.at1) (by first | exact Ow.ev_tmp rfl | rfl) (by rfl) (by rfl) (by rfl) ?_); clear HO; intro wz_ HO; simp only [List.set_cons_zero, List.set_cons_succ] at HO))
  refine' bodyPost_ret (results_ct rfl _ _ g2 25 _ (0, 0) _ rfl ?hb_ Try.underlying25 rfl ?hi_) rfl ?_
  case hb_ => refine' Ow.Own.get HO.out 1 ?hk_; (case hk_ => rfl)
  case hi_ => exact (Ot.ty.size 25 rfl).trans (congrArg some (by rfl))
  exact ⟨rfl, HO.out.below⟩
set_option maxRecDepth 100000 in
set_option maxHeartbeats 2000000 in
theorem hold_openMore_bad (rrn acq pan : ByteArray) (ap ca un : Int) (n : Int) (til : Int) (gt : Nat) (ga : Nat) (w : World) (hm : hold_May.f rrn acq pan ap ca un true = some true)
    (ht : w.heap[gt]? = some (.cells #[.int .i64 til] 3 (0, 0)))
    (ha : w.heap[ga]? = some (.cells #[.int .i64 n] 2 (0, 0))) (h1 : 1 ≤ n) (h2 : Hid (til < 0 ∨ 2147483647 < til)) :
    Calls Try.prog 32 #[.agg #[.string rrn, .string acq, .string pan, .int .i64 ap, .int .i64 ca, .int .i64 un, .bool true], .int .i64 n, .func (.func 33) #[] #[.pointer (some ⟨gt, 0, none⟩), .pointer (some ⟨ga, 0, none⟩)]] w fun e w' => e = .returned (.tuple #[.agg #[.string (⟨#[]⟩ : ByteArray), .string (⟨#[]⟩ : ByteArray), .string (⟨#[]⟩ : ByteArray), .int .i64 0, .int .i64 0, .int .i64 0, .bool false], .int .i64 1]) ∧ Below w.heap.size w w' := by
  have HM := Lib.hid hm
  have Ht := Lib.hid ht
  have Ha := Lib.hid ha
  have HO := Aside0.mk (Ow.Own.nil w)
  have d1 : decide (n < 1) = false := decide_eq_false (by omega)
  clear h1
  clear hm ht ha
  go_enter Try.func32, Try.ntmps32
  go_wp2_with (first | ((with_reducible refine gate_dst (N := 3) rfl ?_); refine Ow.box rfl (N := 3) rfl (cs := #[.string rrn, .string acq, .string pan, .int .i64 ap, .int .i64 ca, .int .i64 un, .bool true]) (t := 25) HO.out (by first | (go_simp; done) | (go_simp; rfl)) ?_; clear HO; intro g1 w1 HO; simp only [List.cons_append, List.nil_append] at HO) | ((with_reducible refine gate_dst (N := 6) rfl ?_); refine Ow.box rfl (N := 6) rfl (cs := #[.string (⟨#[]⟩ : ByteArray), .string (⟨#[]⟩ : ByteArray), .string (⟨#[]⟩ : ByteArray), .int .i64 0, .int .i64 0, .int .i64 0, .bool false]) (t := 25) HO.out (by first | (go_simp; done) | (go_simp; rfl)) ?_; clear HO; intro g2 w2 HO; simp only [List.cons_append, List.nil_append] at HO) | (go_at_call 16; refine Calls.mono (hold_May.calls rrn acq pan ap ca un true true _ HM.out) ?_; rintro e wx ⟨rfl, hb⟩; replace HO := Aside0.mk (Ow.Own.call HO.out hb); clear hb) | (go_at_call 33; refine Calls.mono (hold_More1_bad rrn acq pan ap ca un n til true _ g1 gt ga (Ow.Own.get HO.out 0 rfl) ((Below.block HO.out.below gt (blk_lt Ht.out)).trans Ht.out) (Ne.symm (Nat.ne_of_lt (Nat.lt_of_lt_of_le (blk_lt Ht.out) (HO.out.blk 0 _ _ _ rfl).2))) ((Below.block HO.out.below ga (blk_lt Ha.out)).trans Ha.out) (Ne.symm (Nat.ne_of_lt (Nat.lt_of_lt_of_le (blk_lt Ha.out) (HO.out.blk 0 _ _ _ rfl).2))) h2.out) ?_; rintro e wx ⟨rfl, hb⟩; replace HO := Aside0.mk (Ow.Own.only HO.out 0 rfl hb); clear hb; simp only [List.set_cons_zero, List.set_cons_succ] at HO) | ((with_reducible refine Ow.gate_load rfl ?_); (try (refine gate_guard (by rfl) ?_; dsimp only)); (first | refine Ow.tload1 Ot.ty HO.out rfl rfl rfl rfl (by with_reducible first | exact Ow.at0 | exact Ow.at1) (by rfl) ?_ | refine Ow.tload0 Ot.ty HO.out rfl rfl rfl rfl (by with_reducible first | exact Ow.at0 | exact Ow.at1) (by rfl) ?_ | refine Ow.tloadp Ot.ty HO.out rfl rfl rfl rfl (by with_reducible first | exact Ow.at0 | exact Ow.at1) (by rfl) ?_)) | ((with_reducible refine gate_store rfl ?_); (try (refine gate_guard (by rfl) ?_; dsimp only)); (first | refine Ow.tput0 Ot.ty HO.out rfl rfl rfl rfl rfl (by with_reducible first | exact Ow.at0 | exact Ow.at1) (by first | exact Ow.ev_tmp rfl | rfl) (by rfl) (by rfl) (by rfl) ?_ | refine Ow.tput Ot.ty HO.out rfl rfl rfl rfl rfl (by with_reducible first | exact Ow.at0 | exact Ow.at1) (by first | exact Ow.ev_tmp rfl | rfl) (by rfl) (by rfl) (by rfl) ?_); clear HO; intro wz_ HO; simp only [List.set_cons_zero, List.set_cons_succ] at HO))
  refine' bodyPost_ret (results_ct rfl _ _ g2 25 _ (0, 0) _ rfl ?hb_ Try.underlying25 rfl ?hi_) rfl ?_
  case hb_ => refine' Ow.Own.get HO.out 1 ?hk_; (case hk_ => rfl)
  case hi_ => exact (Ot.ty.size 25 rfl).trans (congrArg some (by rfl))
  exact ⟨rfl, HO.out.below⟩
set_option maxRecDepth 100000 in
set_option maxHeartbeats 2000000 in
theorem hold_openMore_ok (rrn acq pan : ByteArray) (ap ca un : Int) (n : Int) (til : Int) (gt : Nat) (ga : Nat) (w : World) (hm : hold_May.f rrn acq pan ap ca un true = some true)
    (ht : w.heap[gt]? = some (.cells #[.int .i64 til] 3 (0, 0)))
    (ha : w.heap[ga]? = some (.cells #[.int .i64 n] 2 (0, 0))) (h1 : 1 ≤ n) (h2 : Hid ((0 ≤ til ∧ til ≤ 2147483647) ∧ money_Add.f ap n = some (ap + n, 0))) :
    Calls Try.prog 32 #[.agg #[.string rrn, .string acq, .string pan, .int .i64 ap, .int .i64 ca, .int .i64 un, .bool true], .int .i64 n, .func (.func 33) #[] #[.pointer (some ⟨gt, 0, none⟩), .pointer (some ⟨ga, 0, none⟩)]] w fun e w' => e = .returned (.tuple #[.agg #[.string rrn, .string acq, .string pan, .int .i64 (ap + n), .int .i64 ca, .int .i64 til, .bool (decide (ca < ap + n))], .int .i64 0]) ∧ Below w.heap.size w w' := by
  have HM := Lib.hid hm
  have Ht := Lib.hid ht
  have Ha := Lib.hid ha
  have HO := Aside0.mk (Ow.Own.nil w)
  have d1 : decide (n < 1) = false := decide_eq_false (by omega)
  clear h1
  clear hm ht ha
  go_enter Try.func32, Try.ntmps32
  go_wp2_with (first | ((with_reducible refine gate_dst (N := 3) rfl ?_); refine Ow.box rfl (N := 3) rfl (cs := #[.string rrn, .string acq, .string pan, .int .i64 ap, .int .i64 ca, .int .i64 un, .bool true]) (t := 25) HO.out (by first | (go_simp; done) | (go_simp; rfl)) ?_; clear HO; intro g1 w1 HO; simp only [List.cons_append, List.nil_append] at HO) | ((with_reducible refine gate_dst (N := 6) rfl ?_); refine Ow.box rfl (N := 6) rfl (cs := #[.string (⟨#[]⟩ : ByteArray), .string (⟨#[]⟩ : ByteArray), .string (⟨#[]⟩ : ByteArray), .int .i64 0, .int .i64 0, .int .i64 0, .bool false]) (t := 25) HO.out (by first | (go_simp; done) | (go_simp; rfl)) ?_; clear HO; intro g2 w2 HO; simp only [List.cons_append, List.nil_append] at HO) | (go_at_call 16; refine Calls.mono (hold_May.calls rrn acq pan ap ca un true true _ HM.out) ?_; rintro e wx ⟨rfl, hb⟩; replace HO := Aside0.mk (Ow.Own.call HO.out hb); clear hb) | (go_at_call 33; refine Calls.mono (hold_More1_ok rrn acq pan ap ca un n til true _ g1 gt ga (Ow.Own.get HO.out 0 rfl) ((Below.block HO.out.below gt (blk_lt Ht.out)).trans Ht.out) (Ne.symm (Nat.ne_of_lt (Nat.lt_of_lt_of_le (blk_lt Ht.out) (HO.out.blk 0 _ _ _ rfl).2))) ((Below.block HO.out.below ga (blk_lt Ha.out)).trans Ha.out) (Ne.symm (Nat.ne_of_lt (Nat.lt_of_lt_of_le (blk_lt Ha.out) (HO.out.blk 0 _ _ _ rfl).2))) h2.out) ?_; rintro e wx ⟨rfl, hb⟩; replace HO := Aside0.mk (Ow.Own.only HO.out 0 rfl hb); clear hb; simp only [List.set_cons_zero, List.set_cons_succ] at HO) | ((with_reducible refine Ow.gate_load rfl ?_); (try (refine gate_guard (by rfl) ?_; dsimp only)); (first | refine Ow.tload1 Ot.ty HO.out rfl rfl rfl rfl (by with_reducible first | exact Ow.at0 | exact Ow.at1) (by rfl) ?_ | refine Ow.tload0 Ot.ty HO.out rfl rfl rfl rfl (by with_reducible first | exact Ow.at0 | exact Ow.at1) (by rfl) ?_ | refine Ow.tloadp Ot.ty HO.out rfl rfl rfl rfl (by with_reducible first | exact Ow.at0 | exact Ow.at1) (by rfl) ?_)) | ((with_reducible refine gate_store rfl ?_); (try (refine gate_guard (by rfl) ?_; dsimp only)); (first | refine Ow.tput0 Ot.ty HO.out rfl rfl rfl rfl rfl (by with_reducible first | exact Ow.at0 | exact Ow.at1) (by first | exact Ow.ev_tmp rfl | rfl) (by rfl) (by rfl) (by rfl) ?_ | refine Ow.tput Ot.ty HO.out rfl rfl rfl rfl rfl (by with_reducible first | exact Ow.at0 | exact Ow.at1) (by first | exact Ow.ev_tmp rfl | rfl) (by rfl) (by rfl) (by rfl) ?_); clear HO; intro wz_ HO; simp only [List.set_cons_zero, List.set_cons_succ] at HO))
  refine' bodyPost_ret (results_ct rfl _ _ g2 25 _ (0, 0) _ rfl ?hb_ Try.underlying25 rfl ?hi_) rfl ?_
  case hb_ => refine' Ow.Own.get HO.out 1 ?hk_; (case hk_ => rfl)
  case hi_ => exact (Ot.ty.size 25 rfl).trans (congrArg some (by rfl))
  exact ⟨rfl, HO.out.below⟩
set_option maxRecDepth 100000 in
set_option maxHeartbeats 2000000 in
theorem hold_openMore_ov (rrn acq pan : ByteArray) (ap ca un : Int) (n : Int) (til : Int) (gt : Nat) (ga : Nat) (w : World) (hm : hold_May.f rrn acq pan ap ca un true = some true)
    (ht : w.heap[gt]? = some (.cells #[.int .i64 til] 3 (0, 0)))
    (ha : w.heap[ga]? = some (.cells #[.int .i64 n] 2 (0, 0))) (h1 : 1 ≤ n) (h2 : Hid ((0 ≤ til ∧ til ≤ 2147483647) ∧ money_Add.f ap n = some (0, 2))) :
    Calls Try.prog 32 #[.agg #[.string rrn, .string acq, .string pan, .int .i64 ap, .int .i64 ca, .int .i64 un, .bool true], .int .i64 n, .func (.func 33) #[] #[.pointer (some ⟨gt, 0, none⟩), .pointer (some ⟨ga, 0, none⟩)]] w fun e w' => e = .returned (.tuple #[.agg #[.string (⟨#[]⟩ : ByteArray), .string (⟨#[]⟩ : ByteArray), .string (⟨#[]⟩ : ByteArray), .int .i64 0, .int .i64 0, .int .i64 0, .bool false], .int .i64 2]) ∧ Below w.heap.size w w' := by
  have HM := Lib.hid hm
  have Ht := Lib.hid ht
  have Ha := Lib.hid ha
  have HO := Aside0.mk (Ow.Own.nil w)
  have d1 : decide (n < 1) = false := decide_eq_false (by omega)
  clear h1
  clear hm ht ha
  go_enter Try.func32, Try.ntmps32
  go_wp2_with (first | ((with_reducible refine gate_dst (N := 3) rfl ?_); refine Ow.box rfl (N := 3) rfl (cs := #[.string rrn, .string acq, .string pan, .int .i64 ap, .int .i64 ca, .int .i64 un, .bool true]) (t := 25) HO.out (by first | (go_simp; done) | (go_simp; rfl)) ?_; clear HO; intro g1 w1 HO; simp only [List.cons_append, List.nil_append] at HO) | ((with_reducible refine gate_dst (N := 6) rfl ?_); refine Ow.box rfl (N := 6) rfl (cs := #[.string (⟨#[]⟩ : ByteArray), .string (⟨#[]⟩ : ByteArray), .string (⟨#[]⟩ : ByteArray), .int .i64 0, .int .i64 0, .int .i64 0, .bool false]) (t := 25) HO.out (by first | (go_simp; done) | (go_simp; rfl)) ?_; clear HO; intro g2 w2 HO; simp only [List.cons_append, List.nil_append] at HO) | (go_at_call 16; refine Calls.mono (hold_May.calls rrn acq pan ap ca un true true _ HM.out) ?_; rintro e wx ⟨rfl, hb⟩; replace HO := Aside0.mk (Ow.Own.call HO.out hb); clear hb) | (go_at_call 33; refine Calls.mono (hold_More1_ov rrn acq pan ap ca un n til true _ g1 gt ga (Ow.Own.get HO.out 0 rfl) ((Below.block HO.out.below gt (blk_lt Ht.out)).trans Ht.out) (Ne.symm (Nat.ne_of_lt (Nat.lt_of_lt_of_le (blk_lt Ht.out) (HO.out.blk 0 _ _ _ rfl).2))) ((Below.block HO.out.below ga (blk_lt Ha.out)).trans Ha.out) (Ne.symm (Nat.ne_of_lt (Nat.lt_of_lt_of_le (blk_lt Ha.out) (HO.out.blk 0 _ _ _ rfl).2))) h2.out) ?_; rintro e wx ⟨rfl, hb⟩; replace HO := Aside0.mk (Ow.Own.only HO.out 0 rfl hb); clear hb; simp only [List.set_cons_zero, List.set_cons_succ] at HO) | ((with_reducible refine Ow.gate_load rfl ?_); (try (refine gate_guard (by rfl) ?_; dsimp only)); (first | refine Ow.tload1 Ot.ty HO.out rfl rfl rfl rfl (by with_reducible first | exact Ow.at0 | exact Ow.at1) (by rfl) ?_ | refine Ow.tload0 Ot.ty HO.out rfl rfl rfl rfl (by with_reducible first | exact Ow.at0 | exact Ow.at1) (by rfl) ?_ | refine Ow.tloadp Ot.ty HO.out rfl rfl rfl rfl (by with_reducible first | exact Ow.at0 | exact Ow.at1) (by rfl) ?_)) | ((with_reducible refine gate_store rfl ?_); (try (refine gate_guard (by rfl) ?_; dsimp only)); (first | refine Ow.tput0 Ot.ty HO.out rfl rfl rfl rfl rfl (by with_reducible first | exact Ow.at0 | exact Ow.at1) (by first | exact Ow.ev_tmp rfl | rfl) (by rfl) (by rfl) (by rfl) ?_ | refine Ow.tput Ot.ty HO.out rfl rfl rfl rfl rfl (by with_reducible first | exact Ow.at0 | exact Ow.at1) (by first | exact Ow.ev_tmp rfl | rfl) (by rfl) (by rfl) (by rfl) ?_); clear HO; intro wz_ HO; simp only [List.set_cons_zero, List.set_cons_succ] at HO))
  refine' bodyPost_ret (results_ct rfl _ _ g2 25 _ (0, 0) _ rfl ?hb_ Try.underlying25 rfl ?hi_) rfl ?_
  case hb_ => refine' Ow.Own.get HO.out 1 ?hk_; (case hk_ => rfl)
  case hi_ => exact (Ot.ty.size 25 rfl).trans (congrArg some (by rfl))
  exact ⟨rfl, HO.out.below⟩
set_option maxRecDepth 100000 in
set_option maxHeartbeats 2000000 in
theorem hold_More_may (rrn acq pan : ByteArray) (ap ca un : Int) (n : Int) (til : Int) (op : Bool) (w : World) (hm : hold_May.f rrn acq pan ap ca un op = some false) :
    Calls Try.prog 25 #[.agg #[.string rrn, .string acq, .string pan, .int .i64 ap, .int .i64 ca, .int .i64 un, .bool op], .int .i64 n, .int .i64 til] w fun e w' => e = .returned (.tuple #[.agg #[.string (⟨#[]⟩ : ByteArray), .string (⟨#[]⟩ : ByteArray), .string (⟨#[]⟩ : ByteArray), .int .i64 0, .int .i64 0, .int .i64 0, .bool false], .int .i64 1]) ∧ Below w.heap.size w w' := by
  have hmf : ∀ (fn : Fn) (first cap : Array Value) (w : World), (Instr.makeFunc fn first cap).run Try.prog w = .ok (.func fn first cap) w := fun _ _ _ _ => rfl
  have HM := Lib.hid hm
  have HO := Aside0.mk (Ow.Own.nil w)
  clear hm
  go_enter Try.func25, Try.ntmps25
  go_wp2_with (first | ((with_reducible refine gate_dst (N := 3) rfl ?_); refine Ow.box rfl (N := 3) rfl (cs := #[.string rrn, .string acq, .string pan, .int .i64 ap, .int .i64 ca, .int .i64 un, .bool op]) (t := 25) HO.out (by first | (go_simp; done) | (go_simp; rfl)) ?_; clear HO; intro g1 w1 HO; simp only [List.cons_append, List.nil_append] at HO) | ((with_reducible refine gate_dst (N := 4) rfl ?_); refine Ow.box rfl (N := 4) rfl (cs := #[.int .i64 n]) (t := 2) HO.out (by first | (go_simp; done) | (go_simp; rfl)) ?_; clear HO; intro g2 w2 HO; simp only [List.cons_append, List.nil_append] at HO) | ((with_reducible refine gate_dst (N := 5) rfl ?_); refine Ow.box rfl (N := 5) rfl (cs := #[.int .i64 til]) (t := 3) HO.out (by first | (go_simp; done) | (go_simp; rfl)) ?_; clear HO; intro g3 w3 HO; simp only [List.cons_append, List.nil_append] at HO) | ((with_reducible refine gate_dst (N := 6) rfl ?_); refine Ow.box rfl (N := 6) rfl (cs := #[.string (⟨#[]⟩ : ByteArray), .string (⟨#[]⟩ : ByteArray), .string (⟨#[]⟩ : ByteArray), .int .i64 0, .int .i64 0, .int .i64 0, .bool false]) (t := 25) HO.out (by first | (go_simp; done) | (go_simp; rfl)) ?_; clear HO; intro g4 w4 HO; simp only [List.cons_append, List.nil_append] at HO) | (go_at_call 32; refine Calls.mono (hold_openMore_may rrn acq pan ap ca un n til op g3 g2 _ HM.out (Ow.Own.get HO.out 2 rfl) (Ow.Own.get HO.out 1 rfl)) ?_; rintro e wx ⟨rfl, hb⟩; replace HO := Aside0.mk (Ow.Own.call HO.out hb); clear hb) | ((with_reducible refine Ow.gate_load rfl ?_); (try (refine gate_guard (by rfl) ?_; dsimp only)); (first | refine Ow.tload1 Ot.ty HO.out rfl rfl rfl rfl (by with_reducible first | exact Ow.at0 | exact Ow.at1 | exact Ow.at2 | exact Ow.at3) (by rfl) ?_ | refine Ow.tload0 Ot.ty HO.out rfl rfl rfl rfl (by with_reducible first | exact Ow.at0 | exact Ow.at1 | exact Ow.at2 | exact Ow.at3) (by rfl) ?_ | refine Ow.tloadp Ot.ty HO.out rfl rfl rfl rfl (by with_reducible first | exact Ow.at0 | exact Ow.at1 | exact Ow.at2 | exact Ow.at3) (by rfl) ?_)) | ((with_reducible refine gate_store rfl ?_); (try (refine gate_guard (by rfl) ?_; dsimp only)); (first | refine Ow.tput0 Ot.ty HO.out rfl rfl rfl rfl rfl (by with_reducible first | exact Ow.at0 | exact Ow.at1 | exact Ow.at2 | exact Ow.at3) (by first | exact Ow.ev_tmp rfl | rfl) (by rfl) (by rfl) (by rfl) ?_ | refine Ow.tput Ot.ty HO.out rfl rfl rfl rfl rfl (by with_reducible first | exact Ow.at0 | exact Ow.at1 | exact Ow.at2 | exact Ow.at3) (by first | exact Ow.ev_tmp rfl | rfl) (by rfl) (by rfl) (by rfl) ?_); clear HO; intro wz_ HO; simp only [List.set_cons_zero, List.set_cons_succ] at HO))
  refine' bodyPost_ret (results_ct rfl _ _ g4 25 _ (0, 0) _ rfl ?hb_ Try.underlying25 rfl ?hi_) rfl ?_
  case hb_ => refine' Ow.Own.get HO.out 3 ?hk_; (case hk_ => rfl)
  case hi_ => exact (Ot.ty.size 25 rfl).trans (congrArg some (by rfl))
  exact ⟨rfl, HO.out.below⟩
set_option maxRecDepth 100000 in
set_option maxHeartbeats 2000000 in
theorem hold_More_end (rrn acq pan : ByteArray) (ap ca un : Int) (n : Int) (til : Int) (w : World) (hm : hold_May.f rrn acq pan ap ca un false = some true) :
    Calls Try.prog 25 #[.agg #[.string rrn, .string acq, .string pan, .int .i64 ap, .int .i64 ca, .int .i64 un, .bool false], .int .i64 n, .int .i64 til] w fun e w' => e = .returned (.tuple #[.agg #[.string (⟨#[]⟩ : ByteArray), .string (⟨#[]⟩ : ByteArray), .string (⟨#[]⟩ : ByteArray), .int .i64 0, .int .i64 0, .int .i64 0, .bool false], .int .i64 14]) ∧ Below w.heap.size w w' := by
  have hmf : ∀ (fn : Fn) (first cap : Array Value) (w : World), (Instr.makeFunc fn first cap).run Try.prog w = .ok (.func fn first cap) w := fun _ _ _ _ => rfl
  have HM := Lib.hid hm
  have HO := Aside0.mk (Ow.Own.nil w)
  clear hm
  go_enter Try.func25, Try.ntmps25
  go_wp2_with (first | ((with_reducible refine gate_dst (N := 3) rfl ?_); refine Ow.box rfl (N := 3) rfl (cs := #[.string rrn, .string acq, .string pan, .int .i64 ap, .int .i64 ca, .int .i64 un, .bool false]) (t := 25) HO.out (by first | (go_simp; done) | (go_simp; rfl)) ?_; clear HO; intro g1 w1 HO; simp only [List.cons_append, List.nil_append] at HO) | ((with_reducible refine gate_dst (N := 4) rfl ?_); refine Ow.box rfl (N := 4) rfl (cs := #[.int .i64 n]) (t := 2) HO.out (by first | (go_simp; done) | (go_simp; rfl)) ?_; clear HO; intro g2 w2 HO; simp only [List.cons_append, List.nil_append] at HO) | ((with_reducible refine gate_dst (N := 5) rfl ?_); refine Ow.box rfl (N := 5) rfl (cs := #[.int .i64 til]) (t := 3) HO.out (by first | (go_simp; done) | (go_simp; rfl)) ?_; clear HO; intro g3 w3 HO; simp only [List.cons_append, List.nil_append] at HO) | ((with_reducible refine gate_dst (N := 6) rfl ?_); refine Ow.box rfl (N := 6) rfl (cs := #[.string (⟨#[]⟩ : ByteArray), .string (⟨#[]⟩ : ByteArray), .string (⟨#[]⟩ : ByteArray), .int .i64 0, .int .i64 0, .int .i64 0, .bool false]) (t := 25) HO.out (by first | (go_simp; done) | (go_simp; rfl)) ?_; clear HO; intro g4 w4 HO; simp only [List.cons_append, List.nil_append] at HO) | (go_at_call 32; refine Calls.mono (hold_openMore_end rrn acq pan ap ca un n til g3 g2 _ HM.out (Ow.Own.get HO.out 2 rfl) (Ow.Own.get HO.out 1 rfl)) ?_; rintro e wx ⟨rfl, hb⟩; replace HO := Aside0.mk (Ow.Own.call HO.out hb); clear hb) | ((with_reducible refine Ow.gate_load rfl ?_); (try (refine gate_guard (by rfl) ?_; dsimp only)); (first | refine Ow.tload1 Ot.ty HO.out rfl rfl rfl rfl (by with_reducible first | exact Ow.at0 | exact Ow.at1 | exact Ow.at2 | exact Ow.at3) (by rfl) ?_ | refine Ow.tload0 Ot.ty HO.out rfl rfl rfl rfl (by with_reducible first | exact Ow.at0 | exact Ow.at1 | exact Ow.at2 | exact Ow.at3) (by rfl) ?_ | refine Ow.tloadp Ot.ty HO.out rfl rfl rfl rfl (by with_reducible first | exact Ow.at0 | exact Ow.at1 | exact Ow.at2 | exact Ow.at3) (by rfl) ?_)) | ((with_reducible refine gate_store rfl ?_); (try (refine gate_guard (by rfl) ?_; dsimp only)); (first | refine Ow.tput0 Ot.ty HO.out rfl rfl rfl rfl rfl (by with_reducible first | exact Ow.at0 | exact Ow.at1 | exact Ow.at2 | exact Ow.at3) (by first | exact Ow.ev_tmp rfl | rfl) (by rfl) (by rfl) (by rfl) ?_ | refine Ow.tput Ot.ty HO.out rfl rfl rfl rfl rfl (by with_reducible first | exact Ow.at0 | exact Ow.at1 | exact Ow.at2 | exact Ow.at3) (by first | exact Ow.ev_tmp rfl | rfl) (by rfl) (by rfl) (by rfl) ?_); clear HO; intro wz_ HO; simp only [List.set_cons_zero, List.set_cons_succ] at HO))
  refine' bodyPost_ret (results_ct rfl _ _ g4 25 _ (0, 0) _ rfl ?hb_ Try.underlying25 rfl ?hi_) rfl ?_
  case hb_ => refine' Ow.Own.get HO.out 3 ?hk_; (case hk_ => rfl)
  case hi_ => exact (Ot.ty.size 25 rfl).trans (congrArg some (by rfl))
  exact ⟨rfl, HO.out.below⟩
set_option maxRecDepth 100000 in
set_option maxHeartbeats 2000000 in
theorem hold_More_arg (rrn acq pan : ByteArray) (ap ca un : Int) (n : Int) (til : Int) (w : World) (hm : hold_May.f rrn acq pan ap ca un true = some true) (h1 : n < 1) :
    Calls Try.prog 25 #[.agg #[.string rrn, .string acq, .string pan, .int .i64 ap, .int .i64 ca, .int .i64 un, .bool true], .int .i64 n, .int .i64 til] w fun e w' => e = .returned (.tuple #[.agg #[.string (⟨#[]⟩ : ByteArray), .string (⟨#[]⟩ : ByteArray), .string (⟨#[]⟩ : ByteArray), .int .i64 0, .int .i64 0, .int .i64 0, .bool false], .int .i64 1]) ∧ Below w.heap.size w w' := by
  have hmf : ∀ (fn : Fn) (first cap : Array Value) (w : World), (Instr.makeFunc fn first cap).run Try.prog w = .ok (.func fn first cap) w := fun _ _ _ _ => rfl
  have HM := Lib.hid hm
  have HO := Aside0.mk (Ow.Own.nil w)
  clear hm
  go_enter Try.func25, Try.ntmps25
  go_wp2_with (first | ((with_reducible refine gate_dst (N := 3) rfl ?_); refine Ow.box rfl (N := 3) rfl (cs := #[.string rrn, .string acq, .string pan, .int .i64 ap, .int .i64 ca, .int .i64 un, .bool true]) (t := 25) HO.out (by first | (go_simp; done) | (go_simp; rfl)) ?_; clear HO; intro g1 w1 HO; simp only [List.cons_append, List.nil_append] at HO) | ((with_reducible refine gate_dst (N := 4) rfl ?_); refine Ow.box rfl (N := 4) rfl (cs := #[.int .i64 n]) (t := 2) HO.out (by first | (go_simp; done) | (go_simp; rfl)) ?_; clear HO; intro g2 w2 HO; simp only [List.cons_append, List.nil_append] at HO) | ((with_reducible refine gate_dst (N := 5) rfl ?_); refine Ow.box rfl (N := 5) rfl (cs := #[.int .i64 til]) (t := 3) HO.out (by first | (go_simp; done) | (go_simp; rfl)) ?_; clear HO; intro g3 w3 HO; simp only [List.cons_append, List.nil_append] at HO) | ((with_reducible refine gate_dst (N := 6) rfl ?_); refine Ow.box rfl (N := 6) rfl (cs := #[.string (⟨#[]⟩ : ByteArray), .string (⟨#[]⟩ : ByteArray), .string (⟨#[]⟩ : ByteArray), .int .i64 0, .int .i64 0, .int .i64 0, .bool false]) (t := 25) HO.out (by first | (go_simp; done) | (go_simp; rfl)) ?_; clear HO; intro g4 w4 HO; simp only [List.cons_append, List.nil_append] at HO) | (go_at_call 32; refine Calls.mono (hold_openMore_arg rrn acq pan ap ca un n til g3 g2 _ HM.out (Ow.Own.get HO.out 2 rfl) (Ow.Own.get HO.out 1 rfl) h1) ?_; rintro e wx ⟨rfl, hb⟩; replace HO := Aside0.mk (Ow.Own.call HO.out hb); clear hb) | ((with_reducible refine Ow.gate_load rfl ?_); (try (refine gate_guard (by rfl) ?_; dsimp only)); (first | refine Ow.tload1 Ot.ty HO.out rfl rfl rfl rfl (by with_reducible first | exact Ow.at0 | exact Ow.at1 | exact Ow.at2 | exact Ow.at3) (by rfl) ?_ | refine Ow.tload0 Ot.ty HO.out rfl rfl rfl rfl (by with_reducible first | exact Ow.at0 | exact Ow.at1 | exact Ow.at2 | exact Ow.at3) (by rfl) ?_ | refine Ow.tloadp Ot.ty HO.out rfl rfl rfl rfl (by with_reducible first | exact Ow.at0 | exact Ow.at1 | exact Ow.at2 | exact Ow.at3) (by rfl) ?_)) | ((with_reducible refine gate_store rfl ?_); (try (refine gate_guard (by rfl) ?_; dsimp only)); (first | refine Ow.tput0 Ot.ty HO.out rfl rfl rfl rfl rfl (by with_reducible first | exact Ow.at0 | exact Ow.at1 | exact Ow.at2 | exact Ow.at3) (by first | exact Ow.ev_tmp rfl | rfl) (by rfl) (by rfl) (by rfl) ?_ | refine Ow.tput Ot.ty HO.out rfl rfl rfl rfl rfl (by with_reducible first | exact Ow.at0 | exact Ow.at1 | exact Ow.at2 | exact Ow.at3) (by first | exact Ow.ev_tmp rfl | rfl) (by rfl) (by rfl) (by rfl) ?_); clear HO; intro wz_ HO; simp only [List.set_cons_zero, List.set_cons_succ] at HO))
  refine' bodyPost_ret (results_ct rfl _ _ g4 25 _ (0, 0) _ rfl ?hb_ Try.underlying25 rfl ?hi_) rfl ?_
  case hb_ => refine' Ow.Own.get HO.out 3 ?hk_; (case hk_ => rfl)
  case hi_ => exact (Ot.ty.size 25 rfl).trans (congrArg some (by rfl))
  exact ⟨rfl, HO.out.below⟩
set_option maxRecDepth 100000 in
set_option maxHeartbeats 2000000 in
theorem hold_More_bad (rrn acq pan : ByteArray) (ap ca un : Int) (n : Int) (til : Int) (w : World) (hm : hold_May.f rrn acq pan ap ca un true = some true) (h1 : 1 ≤ n) (h2 : Hid (til < 0 ∨ 2147483647 < til)) :
    Calls Try.prog 25 #[.agg #[.string rrn, .string acq, .string pan, .int .i64 ap, .int .i64 ca, .int .i64 un, .bool true], .int .i64 n, .int .i64 til] w fun e w' => e = .returned (.tuple #[.agg #[.string (⟨#[]⟩ : ByteArray), .string (⟨#[]⟩ : ByteArray), .string (⟨#[]⟩ : ByteArray), .int .i64 0, .int .i64 0, .int .i64 0, .bool false], .int .i64 1]) ∧ Below w.heap.size w w' := by
  have hmf : ∀ (fn : Fn) (first cap : Array Value) (w : World), (Instr.makeFunc fn first cap).run Try.prog w = .ok (.func fn first cap) w := fun _ _ _ _ => rfl
  have HM := Lib.hid hm
  have HO := Aside0.mk (Ow.Own.nil w)
  clear hm
  go_enter Try.func25, Try.ntmps25
  go_wp2_with (first | ((with_reducible refine gate_dst (N := 3) rfl ?_); refine Ow.box rfl (N := 3) rfl (cs := #[.string rrn, .string acq, .string pan, .int .i64 ap, .int .i64 ca, .int .i64 un, .bool true]) (t := 25) HO.out (by first | (go_simp; done) | (go_simp; rfl)) ?_; clear HO; intro g1 w1 HO; simp only [List.cons_append, List.nil_append] at HO) | ((with_reducible refine gate_dst (N := 4) rfl ?_); refine Ow.box rfl (N := 4) rfl (cs := #[.int .i64 n]) (t := 2) HO.out (by first | (go_simp; done) | (go_simp; rfl)) ?_; clear HO; intro g2 w2 HO; simp only [List.cons_append, List.nil_append] at HO) | ((with_reducible refine gate_dst (N := 5) rfl ?_); refine Ow.box rfl (N := 5) rfl (cs := #[.int .i64 til]) (t := 3) HO.out (by first | (go_simp; done) | (go_simp; rfl)) ?_; clear HO; intro g3 w3 HO; simp only [List.cons_append, List.nil_append] at HO) | ((with_reducible refine gate_dst (N := 6) rfl ?_); refine Ow.box rfl (N := 6) rfl (cs := #[.string (⟨#[]⟩ : ByteArray), .string (⟨#[]⟩ : ByteArray), .string (⟨#[]⟩ : ByteArray), .int .i64 0, .int .i64 0, .int .i64 0, .bool false]) (t := 25) HO.out (by first | (go_simp; done) | (go_simp; rfl)) ?_; clear HO; intro g4 w4 HO; simp only [List.cons_append, List.nil_append] at HO) | (go_at_call 32; refine Calls.mono (hold_openMore_bad rrn acq pan ap ca un n til g3 g2 _ HM.out (Ow.Own.get HO.out 2 rfl) (Ow.Own.get HO.out 1 rfl) h1 h2) ?_; rintro e wx ⟨rfl, hb⟩; replace HO := Aside0.mk (Ow.Own.call HO.out hb); clear hb) | ((with_reducible refine Ow.gate_load rfl ?_); (try (refine gate_guard (by rfl) ?_; dsimp only)); (first | refine Ow.tload1 Ot.ty HO.out rfl rfl rfl rfl (by with_reducible first | exact Ow.at0 | exact Ow.at1 | exact Ow.at2 | exact Ow.at3) (by rfl) ?_ | refine Ow.tload0 Ot.ty HO.out rfl rfl rfl rfl (by with_reducible first | exact Ow.at0 | exact Ow.at1 | exact Ow.at2 | exact Ow.at3) (by rfl) ?_ | refine Ow.tloadp Ot.ty HO.out rfl rfl rfl rfl (by with_reducible first | exact Ow.at0 | exact Ow.at1 | exact Ow.at2 | exact Ow.at3) (by rfl) ?_)) | ((with_reducible refine gate_store rfl ?_); (try (refine gate_guard (by rfl) ?_; dsimp only)); (first | refine Ow.tput0 Ot.ty HO.out rfl rfl rfl rfl rfl (by with_reducible first | exact Ow.at0 | exact Ow.at1 | exact Ow.at2 | exact Ow.at3) (by first | exact Ow.ev_tmp rfl | rfl) (by rfl) (by rfl) (by rfl) ?_ | refine Ow.tput Ot.ty HO.out rfl rfl rfl rfl rfl (by with_reducible first | exact Ow.at0 | exact Ow.at1 | exact Ow.at2 | exact Ow.at3) (by first | exact Ow.ev_tmp rfl | rfl) (by rfl) (by rfl) (by rfl) ?_); clear HO; intro wz_ HO; simp only [List.set_cons_zero, List.set_cons_succ] at HO))
  refine' bodyPost_ret (results_ct rfl _ _ g4 25 _ (0, 0) _ rfl ?hb_ Try.underlying25 rfl ?hi_) rfl ?_
  case hb_ => refine' Ow.Own.get HO.out 3 ?hk_; (case hk_ => rfl)
  case hi_ => exact (Ot.ty.size 25 rfl).trans (congrArg some (by rfl))
  exact ⟨rfl, HO.out.below⟩
set_option maxRecDepth 100000 in
set_option maxHeartbeats 2000000 in
theorem hold_More_ok (rrn acq pan : ByteArray) (ap ca un : Int) (n : Int) (til : Int) (w : World) (hm : hold_May.f rrn acq pan ap ca un true = some true) (h1 : 1 ≤ n) (h2 : Hid ((0 ≤ til ∧ til ≤ 2147483647) ∧ money_Add.f ap n = some (ap + n, 0))) :
    Calls Try.prog 25 #[.agg #[.string rrn, .string acq, .string pan, .int .i64 ap, .int .i64 ca, .int .i64 un, .bool true], .int .i64 n, .int .i64 til] w fun e w' => e = .returned (.tuple #[.agg #[.string rrn, .string acq, .string pan, .int .i64 (ap + n), .int .i64 ca, .int .i64 til, .bool (decide (ca < ap + n))], .int .i64 0]) ∧ Below w.heap.size w w' := by
  have hmf : ∀ (fn : Fn) (first cap : Array Value) (w : World), (Instr.makeFunc fn first cap).run Try.prog w = .ok (.func fn first cap) w := fun _ _ _ _ => rfl
  have HM := Lib.hid hm
  have HO := Aside0.mk (Ow.Own.nil w)
  clear hm
  go_enter Try.func25, Try.ntmps25
  go_wp2_with (first | ((with_reducible refine gate_dst (N := 3) rfl ?_); refine Ow.box rfl (N := 3) rfl (cs := #[.string rrn, .string acq, .string pan, .int .i64 ap, .int .i64 ca, .int .i64 un, .bool true]) (t := 25) HO.out (by first | (go_simp; done) | (go_simp; rfl)) ?_; clear HO; intro g1 w1 HO; simp only [List.cons_append, List.nil_append] at HO) | ((with_reducible refine gate_dst (N := 4) rfl ?_); refine Ow.box rfl (N := 4) rfl (cs := #[.int .i64 n]) (t := 2) HO.out (by first | (go_simp; done) | (go_simp; rfl)) ?_; clear HO; intro g2 w2 HO; simp only [List.cons_append, List.nil_append] at HO) | ((with_reducible refine gate_dst (N := 5) rfl ?_); refine Ow.box rfl (N := 5) rfl (cs := #[.int .i64 til]) (t := 3) HO.out (by first | (go_simp; done) | (go_simp; rfl)) ?_; clear HO; intro g3 w3 HO; simp only [List.cons_append, List.nil_append] at HO) | ((with_reducible refine gate_dst (N := 6) rfl ?_); refine Ow.box rfl (N := 6) rfl (cs := #[.string (⟨#[]⟩ : ByteArray), .string (⟨#[]⟩ : ByteArray), .string (⟨#[]⟩ : ByteArray), .int .i64 0, .int .i64 0, .int .i64 0, .bool false]) (t := 25) HO.out (by first | (go_simp; done) | (go_simp; rfl)) ?_; clear HO; intro g4 w4 HO; simp only [List.cons_append, List.nil_append] at HO) | (go_at_call 32; refine Calls.mono (hold_openMore_ok rrn acq pan ap ca un n til g3 g2 _ HM.out (Ow.Own.get HO.out 2 rfl) (Ow.Own.get HO.out 1 rfl) h1 h2) ?_; rintro e wx ⟨rfl, hb⟩; replace HO := Aside0.mk (Ow.Own.call HO.out hb); clear hb) | ((with_reducible refine Ow.gate_load rfl ?_); (try (refine gate_guard (by rfl) ?_; dsimp only)); (first | refine Ow.tload1 Ot.ty HO.out rfl rfl rfl rfl (by with_reducible first | exact Ow.at0 | exact Ow.at1 | exact Ow.at2 | exact Ow.at3) (by rfl) ?_ | refine Ow.tload0 Ot.ty HO.out rfl rfl rfl rfl (by with_reducible first | exact Ow.at0 | exact Ow.at1 | exact Ow.at2 | exact Ow.at3) (by rfl) ?_ | refine Ow.tloadp Ot.ty HO.out rfl rfl rfl rfl (by with_reducible first | exact Ow.at0 | exact Ow.at1 | exact Ow.at2 | exact Ow.at3) (by rfl) ?_)) | ((with_reducible refine gate_store rfl ?_); (try (refine gate_guard (by rfl) ?_; dsimp only)); (first | refine Ow.tput0 Ot.ty HO.out rfl rfl rfl rfl rfl (by with_reducible first | exact Ow.at0 | exact Ow.at1 | exact Ow.at2 | exact Ow.at3) (by first | exact Ow.ev_tmp rfl | rfl) (by rfl) (by rfl) (by rfl) ?_ | refine Ow.tput Ot.ty HO.out rfl rfl rfl rfl rfl (by with_reducible first | exact Ow.at0 | exact Ow.at1 | exact Ow.at2 | exact Ow.at3) (by first | exact Ow.ev_tmp rfl | rfl) (by rfl) (by rfl) (by rfl) ?_); clear HO; intro wz_ HO; simp only [List.set_cons_zero, List.set_cons_succ] at HO))
  refine' bodyPost_ret (results_ct rfl _ _ g4 25 _ (0, 0) _ rfl ?hb_ Try.underlying25 rfl ?hi_) rfl ?_
  case hb_ => refine' Ow.Own.get HO.out 3 ?hk_; (case hk_ => rfl)
  case hi_ => exact (Ot.ty.size 25 rfl).trans (congrArg some (by rfl))
  exact ⟨rfl, HO.out.below⟩
set_option maxRecDepth 100000 in
set_option maxHeartbeats 2000000 in
theorem hold_More_ov (rrn acq pan : ByteArray) (ap ca un : Int) (n : Int) (til : Int) (w : World) (hm : hold_May.f rrn acq pan ap ca un true = some true) (h1 : 1 ≤ n) (h2 : Hid ((0 ≤ til ∧ til ≤ 2147483647) ∧ money_Add.f ap n = some (0, 2))) :
    Calls Try.prog 25 #[.agg #[.string rrn, .string acq, .string pan, .int .i64 ap, .int .i64 ca, .int .i64 un, .bool true], .int .i64 n, .int .i64 til] w fun e w' => e = .returned (.tuple #[.agg #[.string (⟨#[]⟩ : ByteArray), .string (⟨#[]⟩ : ByteArray), .string (⟨#[]⟩ : ByteArray), .int .i64 0, .int .i64 0, .int .i64 0, .bool false], .int .i64 2]) ∧ Below w.heap.size w w' := by
  have hmf : ∀ (fn : Fn) (first cap : Array Value) (w : World), (Instr.makeFunc fn first cap).run Try.prog w = .ok (.func fn first cap) w := fun _ _ _ _ => rfl
  have HM := Lib.hid hm
  have HO := Aside0.mk (Ow.Own.nil w)
  clear hm
  go_enter Try.func25, Try.ntmps25
  go_wp2_with (first | ((with_reducible refine gate_dst (N := 3) rfl ?_); refine Ow.box rfl (N := 3) rfl (cs := #[.string rrn, .string acq, .string pan, .int .i64 ap, .int .i64 ca, .int .i64 un, .bool true]) (t := 25) HO.out (by first | (go_simp; done) | (go_simp; rfl)) ?_; clear HO; intro g1 w1 HO; simp only [List.cons_append, List.nil_append] at HO) | ((with_reducible refine gate_dst (N := 4) rfl ?_); refine Ow.box rfl (N := 4) rfl (cs := #[.int .i64 n]) (t := 2) HO.out (by first | (go_simp; done) | (go_simp; rfl)) ?_; clear HO; intro g2 w2 HO; simp only [List.cons_append, List.nil_append] at HO) | ((with_reducible refine gate_dst (N := 5) rfl ?_); refine Ow.box rfl (N := 5) rfl (cs := #[.int .i64 til]) (t := 3) HO.out (by first | (go_simp; done) | (go_simp; rfl)) ?_; clear HO; intro g3 w3 HO; simp only [List.cons_append, List.nil_append] at HO) | ((with_reducible refine gate_dst (N := 6) rfl ?_); refine Ow.box rfl (N := 6) rfl (cs := #[.string (⟨#[]⟩ : ByteArray), .string (⟨#[]⟩ : ByteArray), .string (⟨#[]⟩ : ByteArray), .int .i64 0, .int .i64 0, .int .i64 0, .bool false]) (t := 25) HO.out (by first | (go_simp; done) | (go_simp; rfl)) ?_; clear HO; intro g4 w4 HO; simp only [List.cons_append, List.nil_append] at HO) | (go_at_call 32; refine Calls.mono (hold_openMore_ov rrn acq pan ap ca un n til g3 g2 _ HM.out (Ow.Own.get HO.out 2 rfl) (Ow.Own.get HO.out 1 rfl) h1 h2) ?_; rintro e wx ⟨rfl, hb⟩; replace HO := Aside0.mk (Ow.Own.call HO.out hb); clear hb) | ((with_reducible refine Ow.gate_load rfl ?_); (try (refine gate_guard (by rfl) ?_; dsimp only)); (first | refine Ow.tload1 Ot.ty HO.out rfl rfl rfl rfl (by with_reducible first | exact Ow.at0 | exact Ow.at1 | exact Ow.at2 | exact Ow.at3) (by rfl) ?_ | refine Ow.tload0 Ot.ty HO.out rfl rfl rfl rfl (by with_reducible first | exact Ow.at0 | exact Ow.at1 | exact Ow.at2 | exact Ow.at3) (by rfl) ?_ | refine Ow.tloadp Ot.ty HO.out rfl rfl rfl rfl (by with_reducible first | exact Ow.at0 | exact Ow.at1 | exact Ow.at2 | exact Ow.at3) (by rfl) ?_)) | ((with_reducible refine gate_store rfl ?_); (try (refine gate_guard (by rfl) ?_; dsimp only)); (first | refine Ow.tput0 Ot.ty HO.out rfl rfl rfl rfl rfl (by with_reducible first | exact Ow.at0 | exact Ow.at1 | exact Ow.at2 | exact Ow.at3) (by first | exact Ow.ev_tmp rfl | rfl) (by rfl) (by rfl) (by rfl) ?_ | refine Ow.tput Ot.ty HO.out rfl rfl rfl rfl rfl (by with_reducible first | exact Ow.at0 | exact Ow.at1 | exact Ow.at2 | exact Ow.at3) (by first | exact Ow.ev_tmp rfl | rfl) (by rfl) (by rfl) (by rfl) ?_); clear HO; intro wz_ HO; simp only [List.set_cons_zero, List.set_cons_succ] at HO))
  refine' bodyPost_ret (results_ct rfl _ _ g4 25 _ (0, 0) _ rfl ?hb_ Try.underlying25 rfl ?hi_) rfl ?_
  case hb_ => refine' Ow.Own.get HO.out 3 ?hk_; (case hk_ => rfl)
  case hi_ => exact (Ot.ty.size 25 rfl).trans (congrArg some (by rfl))
  exact ⟨rfl, HO.out.below⟩
def hold_More.f (a0_0 : ByteArray) (a0_1 : ByteArray) (a0_2 : ByteArray) (a0_3 : Int) (a0_4 : Int) (a0_5 : Int) (a0_6 : Bool) (a1 : Int) (a2 : Int) : Option (ByteArray × ByteArray × ByteArray × Int × Int × Int × Bool × Int) := if a0_0.size ≤ 4096 ∧ (-9223372036854775808 ≤ a0_3 ∧ a0_3 ≤ 9223372036854775807) ∧ (-9223372036854775808 ≤ a1 ∧ a1 ≤ 9223372036854775807) then some ((Pu.moreS a0_0 a0_1 a0_2 a0_3 a0_4 a0_5 a0_6 a1 a2).1.1, (Pu.moreS a0_0 a0_1 a0_2 a0_3 a0_4 a0_5 a0_6 a1 a2).1.2.1, (Pu.moreS a0_0 a0_1 a0_2 a0_3 a0_4 a0_5 a0_6 a1 a2).1.2.2.1, (Pu.moreS a0_0 a0_1 a0_2 a0_3 a0_4 a0_5 a0_6 a1 a2).1.2.2.2.1, (Pu.moreS a0_0 a0_1 a0_2 a0_3 a0_4 a0_5 a0_6 a1 a2).1.2.2.2.2.1, (Pu.moreS a0_0 a0_1 a0_2 a0_3 a0_4 a0_5 a0_6 a1 a2).1.2.2.2.2.2.1, (Pu.moreS a0_0 a0_1 a0_2 a0_3 a0_4 a0_5 a0_6 a1 a2).1.2.2.2.2.2.2, (Pu.moreS a0_0 a0_1 a0_2 a0_3 a0_4 a0_5 a0_6 a1 a2).2) else none
theorem hold_More.calls (a0_0 : ByteArray) (a0_1 : ByteArray) (a0_2 : ByteArray) (a0_3 : Int) (a0_4 : Int) (a0_5 : Int) (a0_6 : Bool) (a1 : Int) (a2 : Int) (r1 : ByteArray) (r2 : ByteArray) (r3 : ByteArray) (r4 : Int) (r5 : Int) (r6 : Int) (r7 : Bool) (r8 : Int) (w : World) (h : hold_More.f a0_0 a0_1 a0_2 a0_3 a0_4 a0_5 a0_6 a1 a2 = some (r1, r2, r3, r4, r5, r6, r7, r8)) :
    Calls Try.prog 25 #[.agg #[.string a0_0, .string a0_1, .string a0_2, .int .i64 a0_3, .int .i64 a0_4, .int .i64 a0_5, .bool a0_6], .int .i64 a1, .int .i64 a2] w fun e w' => e = .returned (.tuple #[.agg #[.string r1, .string r2, .string r3, .int .i64 r4, .int .i64 r5, .int .i64 r6, .bool r7], .int .i64 r8]) ∧ Below w.heap.size w w' := by
  unfold hold_More.f at h
  split at h
  · rename_i hs
    obtain ⟨hs, hs1, hs2⟩ := hs
    simp only [Option.some.injEq, Prod.mk.injEq] at h
    obtain ⟨rfl, rfl, rfl, rfl, rfl, rfl, rfl, rfl⟩ := h
    by_cases hm : Pu.hmay a0_0 a0_1 a0_2 a0_3 a0_4 a0_5 a0_6 = true
    · cases a0_6 with
      | false =>
        simp only [Pu.moreS, Pu.wrongS, Pu.h0, if_pos hm, Bool.false_eq_true, if_false, ne_eq, show ¬ (14 : Int) = 0 by decide, not_false_eq_true, if_true]
        exact hold_More_end a0_0 a0_1 a0_2 a0_3 a0_4 a0_5 a1 a2 w (show hold_May.f a0_0 a0_1 a0_2 a0_3 a0_4 a0_5 false = some true by unfold hold_May.f; rw [if_pos hs, hm])
      | true =>
        by_cases h1 : a1 < 1
        · simp only [Pu.moreS, Pu.wrongS, Pu.h0, if_pos hm, if_pos h1, ne_eq, show ¬ (1 : Int) = 0 by decide, not_false_eq_true, if_true]
          exact hold_More_arg a0_0 a0_1 a0_2 a0_3 a0_4 a0_5 a1 a2 w (show hold_May.f a0_0 a0_1 a0_2 a0_3 a0_4 a0_5 true = some true by unfold hold_May.f; rw [if_pos hs, hm]) h1
        · by_cases h2 : a2 < 0 ∨ a2 > 2147483647
          · simp only [Pu.moreS, Pu.wrongS, Pu.h0, if_pos hm, if_neg h1, if_true, ne_eq, not_true_eq_false, if_false, if_pos h2]
            exact hold_More_bad a0_0 a0_1 a0_2 a0_3 a0_4 a0_5 a1 a2 w (show hold_May.f a0_0 a0_1 a0_2 a0_3 a0_4 a0_5 true = some true by unfold hold_May.f; rw [if_pos hs, hm]) (by omega) (Lib.hid (by omega))
          · obtain ⟨_, _, _, _, _, q1, q2, _⟩ := Pu.hmay_iff.mp hm
            by_cases h3 : Pu.inI64 (a0_3 + a1)
            · simp only [Pu.moreS, Pu.wrongS, Pu.h0, if_pos hm, if_neg h1, if_true, ne_eq, not_true_eq_false, if_false, if_neg h2, if_pos h3]
              exact hold_More_ok a0_0 a0_1 a0_2 a0_3 a0_4 a0_5 a1 a2 w (show hold_May.f a0_0 a0_1 a0_2 a0_3 a0_4 a0_5 true = some true by unfold hold_May.f; rw [if_pos hs, hm]) (by omega) (Lib.hid ⟨by omega, by unfold money_Add.f; unfold Pu.inI64 at h3; rw [if_pos (by omega), if_pos (by omega)]⟩)
            · simp only [Pu.moreS, Pu.wrongS, Pu.h0, if_pos hm, if_neg h1, if_true, ne_eq, not_true_eq_false, if_false, if_neg h2, if_neg h3]
              exact hold_More_ov a0_0 a0_1 a0_2 a0_3 a0_4 a0_5 a1 a2 w (show hold_May.f a0_0 a0_1 a0_2 a0_3 a0_4 a0_5 true = some true by unfold hold_May.f; rw [if_pos hs, hm]) (by omega) (Lib.hid ⟨by omega, by unfold money_Add.f; unfold Pu.inI64 at h3; rw [if_pos (by omega), if_neg (by omega)]⟩)
    · simp only [Pu.moreS, Pu.wrongS, Pu.h0, if_neg hm, ne_eq, show ¬ (1 : Int) = 0 by decide, not_false_eq_true, if_true]
      exact hold_More_may a0_0 a0_1 a0_2 a0_3 a0_4 a0_5 a1 a2 a0_6 w (show hold_May.f a0_0 a0_1 a0_2 a0_3 a0_4 a0_5 a0_6 = some false by unfold hold_May.f; rw [if_pos hs, Bool.eq_false_iff.mpr hm])
  · cases h


end Go.Proofs.Ytmdpomilhejbcaa.XAE
