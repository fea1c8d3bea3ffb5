-- Written by wip/xprint.py, a session's program: printed out of the translation, with hand-written functions. Lean checks it.
import Derived.Test.YtkbhocncfldifaaXCh0
import Derived.Test.YtkbhocncfldifaaXCh1
import Derived.Test.YtkbhocncfldifaaXCh2
namespace Go.Proofs.Ytkbhocncfldifaa.XCh
open Go.RowKit Go.Proofs.YtkbhocncfldifaaW.PrintWords Go.Proofs.YtkbhocncfldifaaW.PrintLast Go.Proofs.YtkbhocncfldifaaW.PrintMore
attribute [local go_sem] max2_int min2_int max_two min_two max_three min_three max_four min_four   -- for this text's walks alone
set_option linter.unusedVariables false
set_option linter.unusedSimpArgs false

attribute [local go_sem high] eqA23
/-! #### bursarref02_Sound, refined -/
theorem ref02_Sound_l (s : ByteArray) (hs : s.size ≤ 4096) (hd : Pu.allD s = true) : ∀ (d i k : Nat) (n : Int), i + d = s.size → d < k → 0 ≤ n → n ≤ 9 * i → bursarref02_Sound_p.l0 k s n (i : Int) = some (Int.tmod (n + Pu.luhn ((Pu.bs s).drop i)) 10 == 0) := by
  intro d
  induction d with
  | zero =>
    intro i k n hi hk h0 h9
    obtain ⟨k, rfl⟩ : ∃ m, k = m + 1 := ⟨k - 1, by omega⟩
    obtain rfl : i = s.size := by omega
    simp only [bursarref02_Sound_p.l0]
    rw [if_neg (by omega), Pu.bs_drop_all, Pu.luhn, Int.add_zero]
  | succ d ih =>
    intro i k n hi hk h0 h9
    obtain ⟨k, rfl⟩ : ∃ m, k = m + 1 := ⟨k - 1, by omega⟩
    have hb := Pu.bt_dig s hd i (by omega)
    have hst := Pu.luhn_step s i (by omega)
    simp only [bursarref02_Sound_p.l0]
    rw [if_pos (by omega), if_pos (by omega), Pu.wrap_small (i := bt s i) (by omega) (by omega), Pu.wrap_small (i := bt s i - 48) (by omega) (by omega), Pu.wrap_small (i := (s.size : Int) - i) (by omega) (by omega), Pu.wrap_small (i := 2 * (bt s i - 48)) (by omega) (by omega), Pu.wrap_small (i := (i : Int) + 1) (by omega) (by omega), Pu.tmod_pos (by omega)]
    by_cases hp : ((s.size : Int) - i) % 2 = 0
    · rw [if_pos hp]
      rw [if_pos (by omega)] at hst
      unfold Pu.dbl at hst
      by_cases h5 : 2 * (bt s i - 48) > 9
      · rw [if_pos h5, Pu.wrap_small (i := 2 * (bt s i - 48) - 9) (by omega) (by omega), Pu.wrap_small (by omega) (by omega)]
        rw [if_pos (by omega)] at hst
        have := ih (i + 1) k (n + (2 * (bt s i - 48) - 9)) (by omega) (by omega) (by omega) (by omega)
        rw [show ((i : Int) + 1) = ((i + 1 : Nat) : Int) by omega, this, hst]
        congr 3; omega
      · rw [if_neg h5, Pu.wrap_small (i := n + 2 * (bt s i - 48)) (by omega) (by omega)]
        rw [if_neg (by omega)] at hst
        have := ih (i + 1) k (n + 2 * (bt s i - 48)) (by omega) (by omega) (by omega) (by omega)
        rw [show ((i : Int) + 1) = ((i + 1 : Nat) : Int) by omega, this, hst]
        congr 3; omega
    · rw [if_neg hp, Pu.wrap_small (i := n + (bt s i - 48)) (by omega) (by omega)]
      rw [if_neg (by omega)] at hst
      have := ih (i + 1) k (n + (bt s i - 48)) (by omega) (by omega) (by omega) (by omega)
      rw [show ((i : Int) + 1) = ((i + 1 : Nat) : Int) by omega, this, hst]
      congr 3; omega
theorem ref02_Sound_e (s : ByteArray) (hs : s.size ≤ 4096) : bursarref02_Sound_p.f (s.size + 2) s = some (Pu.soundB s) := by
  unfold bursarref02_Sound_p.f bursarref02_All.f
  by_cases h2 : 2 ≤ s.size
  · rw [if_neg (by omega), if_pos hs, Option.bind_some]
    simp only [bursarref02_Sound_p.j0]
    cases ha : Pu.allD s with
    | false => rw [if_pos (by rfl), Pu.soundB_no ha]
    | true => rw [if_neg (by simp), Pu.soundB_yes h2 ha]; have := ref02_Sound_l s hs ha s.size 0 (s.size + 1) 0 (by omega) (by omega) (by omega) (by omega); rw [Int.zero_add] at this; exact this
  · rw [if_pos (by omega), Pu.soundB_short h2]
    simp only [bursarref02_Sound_p.j0]; rw [if_pos trivial]
def bursarref02_Sound.f (a0 : ByteArray) : Option Bool := if a0.size ≤ 4096 then some (Pu.soundB a0) else none
theorem bursarref02_Sound.calls (a0 : ByteArray) (r : Bool) (w : World) (h : bursarref02_Sound.f a0 = some r) :
    Calls Try.prog 47 #[.string a0] w fun e w' => e = .returned (.bool r) ∧ Drawn0 w w' := by
  unfold bursarref02_Sound.f at h
  split at h
  · exact bursarref02_Sound_p.calls (a0.size + 2) a0 r w ((ref02_Sound_e a0 ‹_›).trans h)
  · cases h


/-! ### bursarref11_Name_p: function 16 -/
mutual
def bursarref11_Name_p.j0 : Nat → Bool → Int → ByteArray → Option (ByteArray × Bool)
  | 0, _, _, _ => none
  | k + 1, x17, x108000, x108001 => if x17 = true then (if 1 + x108001.size ≤ 9223372036854775807 then (some ((⟨#[67]⟩ : ByteArray) ++ x108001, true)) else (none)) else (if x108000 = 2 then (if (x108001.size : Int) = 6 then ((bursarref02_All.f x108001).bind fun t109 => (bursarref11_Name_p.j1 k t109 x108000 x108001)) else (bursarref11_Name_p.j1 k false x108000 x108001)) else (bursarref11_Name_p.j1 k false x108000 x108001))
def bursarref11_Name_p.j1 : Nat → Bool → Int → ByteArray → Option (ByteArray × Bool)
  | 0, _, _, _ => none
  | k + 1, x34, x108000, x108001 => if x34 = true then (if 1 + x108001.size ≤ 9223372036854775807 then (some ((⟨#[65]⟩ : ByteArray) ++ x108001, true)) else (none)) else (if x108000 = 3 then (bursarref11_Name_p.j2 k (x108001.toList == ([] : List UInt8)) x108000 x108001) else (bursarref11_Name_p.j2 k false x108000 x108001))
def bursarref11_Name_p.j2 : Nat → Bool → Int → ByteArray → Option (ByteArray × Bool)
  | 0, _, _, _ => none
  | k + 1, x45, x108000, x108001 => if x45 = true then (some ((⟨#[72]⟩ : ByteArray), true)) else (if x108000 = 4 then (if x108001.toList = ([] : List UInt8) then (some ((⟨#[68]⟩ : ByteArray), true)) else (some ((⟨#[]⟩ : ByteArray), false))) else (some ((⟨#[]⟩ : ByteArray), false)))
end
def bursarref11_Name_p.f (k : Nat) (a0_0 : Int) (a0_1 : ByteArray) : Option (ByteArray × Bool) := if a0_0 = 1 then (if (a0_1.size : Int) = 16 then ((bursarref02_Sound.f a0_1).bind fun t108 => (bursarref11_Name_p.j0 k t108 a0_0 a0_1)) else (bursarref11_Name_p.j0 k false a0_0 a0_1)) else (bursarref11_Name_p.j0 k false a0_0 a0_1)
theorem bursarref11_Name_p.mono_l : ∀ k, (∀ y0 y1 y2, LeO (bursarref11_Name_p.j0 k y0 y1 y2) (bursarref11_Name_p.j0 (k + 1) y0 y1 y2)) ∧ (∀ y0 y1 y2, LeO (bursarref11_Name_p.j1 k y0 y1 y2) (bursarref11_Name_p.j1 (k + 1) y0 y1 y2)) ∧ (∀ y0 y1 y2, LeO (bursarref11_Name_p.j2 k y0 y1 y2) (bursarref11_Name_p.j2 (k + 1) y0 y1 y2))
  | 0 => ⟨fun _ _ _ r h => by simp [bursarref11_Name_p.j0] at h, fun _ _ _ r h => by simp [bursarref11_Name_p.j1] at h, fun _ _ _ r h => by simp [bursarref11_Name_p.j2] at h⟩
  | k + 1 => by
    obtain ⟨ih0, ih1, ih2⟩ := bursarref11_Name_p.mono_l k
    refine ⟨?_, ?_, ?_⟩
    · intro y0 y1 y2
      unfold bursarref11_Name_p.j0
      repeat' first
      | (with_reducible exact ih0 _ _ _)
      | (with_reducible exact ih1 _ _ _)
      | (with_reducible exact ih2 _ _ _)
      | (with_reducible exact LeO.refl _)
      | (with_reducible exact LeO.none _)
      | (with_reducible refine LeO.ite ?_ ?_)
      | (with_reducible refine LeO.bind ?_ (fun _ => ?_))
      | exact ih0 _ _ _
      | exact ih1 _ _ _
      | exact ih2 _ _ _
      | exact LeO.none _
      | refine LeO.ite ?_ ?_
      | refine LeO.bind ?_ (fun _ => ?_)
    · intro y0 y1 y2
      unfold bursarref11_Name_p.j1
      repeat' first
      | (with_reducible exact ih0 _ _ _)
      | (with_reducible exact ih1 _ _ _)
      | (with_reducible exact ih2 _ _ _)
      | (with_reducible exact LeO.refl _)
      | (with_reducible exact LeO.none _)
      | (with_reducible refine LeO.ite ?_ ?_)
      | (with_reducible refine LeO.bind ?_ (fun _ => ?_))
      | exact ih0 _ _ _
      | exact ih1 _ _ _
      | exact ih2 _ _ _
      | exact LeO.none _
      | refine LeO.ite ?_ ?_
      | refine LeO.bind ?_ (fun _ => ?_)
    · intro y0 y1 y2
      unfold bursarref11_Name_p.j2
      repeat' first
      | (with_reducible exact ih0 _ _ _)
      | (with_reducible exact ih1 _ _ _)
      | (with_reducible exact ih2 _ _ _)
      | (with_reducible exact LeO.refl _)
      | (with_reducible exact LeO.none _)
      | (with_reducible refine LeO.ite ?_ ?_)
      | (with_reducible refine LeO.bind ?_ (fun _ => ?_))
      | exact ih0 _ _ _
      | exact ih1 _ _ _
      | exact ih2 _ _ _
      | exact LeO.none _
      | refine LeO.ite ?_ ?_
      | refine LeO.bind ?_ (fun _ => ?_)
theorem bursarref11_Name_p.mono : ∀ a0 a1 k, LeO (bursarref11_Name_p.f k a0 a1) (bursarref11_Name_p.f (k + 1) a0 a1) := by
  intro a0 a1 k
  obtain ⟨ih0, ih1, ih2⟩ := bursarref11_Name_p.mono_l k
  unfold bursarref11_Name_p.f
  repeat' first
      | (with_reducible exact ih0 _ _ _)
      | (with_reducible exact ih1 _ _ _)
      | (with_reducible exact ih2 _ _ _)
      | (with_reducible exact LeO.refl _)
      | (with_reducible exact LeO.none _)
      | (with_reducible refine LeO.ite ?_ ?_)
      | (with_reducible refine LeO.bind ?_ (fun _ => ?_))
      | exact ih0 _ _ _
      | exact ih1 _ _ _
      | exact ih2 _ _ _
      | exact LeO.none _
      | refine LeO.ite ?_ ?_
      | refine LeO.bind ?_ (fun _ => ?_)
set_option maxHeartbeats 8000000 in
set_option maxRecDepth 100000 in
theorem bursarref11_Name_p.calls (k : Nat) (a0_0 : Int) (a0_1 : ByteArray) (r1 : ByteArray) (r2 : Bool) (w : World) (h : bursarref11_Name_p.f k a0_0 a0_1 = some (r1, r2)) :
    Calls Try.prog 16 #[.agg #[.int .i64 a0_0, .string a0_1]] w fun e w' => e = .returned (.tuple #[.string r1, .bool r2]) ∧ Below w.heap.size w w' := by
  have hu23 := Try.underlying23
  have HB := Aside0.mk (Below.refl w.heap.size w)
  have H : (if a0_0 = 1 then (if (a0_1.size : Int) = 16 then ((bursarref02_Sound.f a0_1).bind fun t108 => (bursarref11_Name_p.j0 k t108 a0_0 a0_1)) else (bursarref11_Name_p.j0 k false a0_0 a0_1)) else (bursarref11_Name_p.j0 k false a0_0 a0_1)) = some (r1, r2) := h
  clear h
  have HC2 := Aside0.mk H
  clear H
  go_enter Try.func16, Try.ntmps16
  go_upto_region 1 with (first | ((with_reducible refine gate_dst (N := 1) rfl ?_); (try (refine gate_guard (by rfl) ?_; dsimp only)); refine box_event ?hg (N := 1) ?hd (cs := #[.int .i64 a0_0, .string a0_1]) (t := 23) ?hr ?_; (case hd => rfl); (case hg => rfl); (case hr => first | (go_simp; done) | (go_simp; rfl)); intro gb107 hg w3 hbox hb; have n0_ := Aside0.mk (below_step (by repeat (first | (with_reducible first | exact HB.out | apply below_alloc | apply pw_below_drewN | apply below_drew1) | exact HB.out)) hb); have n1_ := Aside0.mk (hbox); have n2_ := Aside0.mk ((by rw [hg]; exact (below_size (by repeat (first | (with_reducible first | exact HB.out | apply below_alloc | apply pw_below_drewN | apply below_drew1) | exact HB.out))) : w.heap.size ≤ gb107)); have n3_ := Aside0.mk ((by rw [hg]; exact (below_size (by repeat (first | (with_reducible first | exact HB.out | apply below_alloc | apply pw_below_drewN | apply below_drew1) | exact HB.out))) : w.heap.size ≤ gb107)); clear HB; have HB := n0_; have BK107 := n1_; have GW107 := n2_; have GE107 := n3_; clear n0_ n1_ n2_ n3_; clear hb hbox hg))
  (try simp only [Act.put, List.setIfInBounds_toArray, List.set_cons_zero, List.set_cons_succ])
  go_cut [17] (fun v17 wc => ∃ (kq : Nat) (x17_1 : Bool), v17 = .bool x17_1 ∧ Aside0 (bursarref11_Name_p.j0 kq x17_1 a0_0 a0_1 = some (r1, r2)) ∧ Aside0 (kq ≤ k) ∧ Aside0 (wc.heap[gb107]? = some (.cells #[.int .i64 a0_0, .string a0_1] 23 (0, 0))) ∧ Aside0 (Below w.heap.size w wc))
  case first =>
    have H := HC2.out
    clear HC2
    by_cases c4 : a0_0 = 1
    · rw [if_pos c4] at H
      have c4b0 : (a0_0 == 1) = true := beq_iff_eq.mpr c4
      have c4b1 : (a0_0 != 1) = false := bne_eq_false_iff_eq.mpr c4
      clear c4
      (first | rw [c4b0] | (simp only [i64_w, i32_w]; rw [c4b0]) | skip)
      by_cases c5 : (a0_1.size : Int) = 16
      · rw [if_pos c5] at H
        have c5b0 : ((a0_1.size : Int) == 16) = true := beq_iff_eq.mpr c5
        have c5b1 : ((a0_1.size : Int) != 16) = false := bne_eq_false_iff_eq.mpr c5
        clear c5
        replace H := Option.bind_eq_some_iff.mp H
        obtain ⟨t108, A60, H⟩ := H
        replace H : (bursarref11_Name_p.j0 k t108 a0_0 a0_1) = some (r1, r2) := H
        have A6 := Aside0.mk A60
        clear A60
        have H' := Aside0.mk H
        clear H
        have hcz7_0 : w3.cell? ⟨gb107, 0, none⟩ = some (.int .i64 a0_0) := (blk_cell BK107.out 0).trans rfl
        have hcz7_1 : w3.cell? ⟨gb107, 1, none⟩ = some (.string a0_1) := (blk_cell BK107.out 1).trans rfl
        have hfz7_0 := blk_frozen BK107.out 0
        have hfz7_1 := blk_frozen BK107.out 1
        go_wp2_with (first | (go_at_call 47; (with_reducible refine (bursarref02_Sound.calls a0_1 t108 _ A6.out).mono ?_); rintro e w' ⟨rfl, ⟨nd, rfl⟩⟩))
        go_meet
        case rel => exact ⟨_, (t108), (by first | rfl | (simp; done) | (simp [*]; done) | (simp [Pu.bne_nil, Pu.beq_nil]; done)), H', ⟨by first | omega | exact Nat.le_refl _⟩, ⟨by (with_reducible repeat (first | refine blk_drewN ?_ _ | refine blk_drew ?_ | refine blk_alloc ?_ _)); exact BK107.out⟩, ⟨by repeat (first | (with_reducible first | exact HB.out | apply below_alloc | apply pw_below_drewN | apply below_drew1 | refine below_set ?_ GE107.out) | exact HB.out)⟩⟩
      · rw [if_neg c5] at H
        have c5b0 : ((a0_1.size : Int) == 16) = false := beq_eq_false_iff_ne.mpr c5
        have c5b1 : ((a0_1.size : Int) != 16) = true := bne_iff_ne.mpr c5
        have H' := Aside0.mk H
        clear H
        have hcz8_0 : w3.cell? ⟨gb107, 0, none⟩ = some (.int .i64 a0_0) := (blk_cell BK107.out 0).trans rfl
        have hcz8_1 : w3.cell? ⟨gb107, 1, none⟩ = some (.string a0_1) := (blk_cell BK107.out 1).trans rfl
        have hfz8_0 := blk_frozen BK107.out 0
        have hfz8_1 := blk_frozen BK107.out 1
        go_wp2
        go_meet
        case rel => exact ⟨_, (false), (by first | rfl | (simp; done) | (simp [*]; done) | (simp [Pu.bne_nil, Pu.beq_nil]; done)), H', ⟨by first | omega | exact Nat.le_refl _⟩, ⟨by (with_reducible repeat (first | refine blk_drewN ?_ _ | refine blk_drew ?_ | refine blk_alloc ?_ _)); exact BK107.out⟩, ⟨by repeat (first | (with_reducible first | exact HB.out | apply below_alloc | apply pw_below_drewN | apply below_drew1 | refine below_set ?_ GE107.out) | exact HB.out)⟩⟩
    · rw [if_neg c4] at H
      have c4b0 : (a0_0 == 1) = false := beq_eq_false_iff_ne.mpr c4
      have c4b1 : (a0_0 != 1) = true := bne_iff_ne.mpr c4
      (first | rw [c4b0] | (simp only [i64_w, i32_w]; rw [c4b0]) | skip)
      have H' := Aside0.mk H
      clear H
      have hcz9_0 : w3.cell? ⟨gb107, 0, none⟩ = some (.int .i64 a0_0) := (blk_cell BK107.out 0).trans rfl
      have hcz9_1 : w3.cell? ⟨gb107, 1, none⟩ = some (.string a0_1) := (blk_cell BK107.out 1).trans rfl
      have hfz9_0 := blk_frozen BK107.out 0
      have hfz9_1 := blk_frozen BK107.out 1
      go_wp2
      go_meet
      case rel => exact ⟨_, (false), (by first | rfl | (simp; done) | (simp [*]; done) | (simp [Pu.bne_nil, Pu.beq_nil]; done)), H', ⟨by first | omega | exact Nat.le_refl _⟩, ⟨by (with_reducible repeat (first | refine blk_drewN ?_ _ | refine blk_drew ?_ | refine blk_alloc ?_ _)); exact BK107.out⟩, ⟨by repeat (first | (with_reducible first | exact HB.out | apply below_alloc | apply pw_below_drewN | apply below_drew1 | refine below_set ?_ GE107.out) | exact HB.out)⟩⟩
  case rest =>
    clear HC2
    try clear c1
    try clear p2
    try clear c4
    try clear c4b0
    try clear c4b1
    try clear c5
    try clear c5b0
    try clear c5b1
    try clear hcz7_0
    try clear hcz7_1
    try clear hcz8_0
    try clear hcz8_1
    try clear hcz9_0
    try clear hcz9_1
    try clear hfz7_0
    try clear hfz7_1
    try clear hfz8_0
    try clear hfz8_1
    try clear hfz9_0
    try clear hfz9_1
    obtain ⟨kq, x17_1, rfl, HA, HJ1, BK107, HB⟩ := hcut
    cases kq with
    | zero => exact absurd HA.out (by simp [bursarref11_Name_p.j0])
    | succ kj1 =>
      have H := HA.out
      clear HA
      simp only [bursarref11_Name_p.j0] at H
      by_cases c10 : x17_1 = true
      · subst c10
        have H1 : (if 1 + a0_1.size ≤ 9223372036854775807 then (some ((⟨#[67]⟩ : ByteArray) ++ a0_1, true)) else (none)) = some (r1, r2) := by rw [if_pos rfl] at H; exact H
        clear H
        have H := H1
        clear H1
        by_cases c11 : 1 + a0_1.size ≤ 9223372036854775807
        · rw [if_pos c11] at H
          have c11b0 := eq_true c11
          have c11b1 : decide (1 + a0_1.size ≤ 9223372036854775807) = true := decide_eq_true c11
          try have c11b2 : (9223372036854775807 < 1 + a0_1.size) = False := eq_false (Nat.not_lt.2 c11)
          simp only [Option.some.injEq, Prod.mk.injEq] at H
          obtain ⟨rfl, rfl⟩ := H
          have hcz12_0 : wc.cell? ⟨gb107, 0, none⟩ = some (.int .i64 a0_0) := (blk_cell BK107.out 0).trans rfl
          have hcz12_1 : wc.cell? ⟨gb107, 1, none⟩ = some (.string a0_1) := (blk_cell BK107.out 1).trans rfl
          have hfz12_0 := blk_frozen BK107.out 0
          have hfz12_1 := blk_frozen BK107.out 1
          go_wp2
          go_ret2
          exact ⟨by first | rfl | (simp [errW_none, errW_some] <;> rfl) | (simp [*, errW_none, errW_some] <;> rfl), by repeat (first | (with_reducible first | exact HB.out | apply below_alloc | apply pw_below_drewN | apply below_drew1 | refine below_set ?_ GE107.out) | exact HB.out)⟩
        · rw [if_neg c11] at H
          exact absurd H (by simp)
      · replace c10 := Bool.eq_false_iff.mpr c10
        subst c10
        have H1 : (if a0_0 = 2 then (if (a0_1.size : Int) = 6 then ((bursarref02_All.f a0_1).bind fun t109 => (bursarref11_Name_p.j1 kj1 t109 a0_0 a0_1)) else (bursarref11_Name_p.j1 kj1 false a0_0 a0_1)) else (bursarref11_Name_p.j1 kj1 false a0_0 a0_1)) = some (r1, r2) := by rw [if_neg (show ¬ (false = true) by decide)] at H; exact H
        clear H
        have H := H1
        clear H1
        have HC13 := Aside0.mk H
        clear H
        go_upto_region 3 with (fail)
        go_cut [34] (fun v34 wc => ∃ (kq : Nat) (x34_12 : Bool), v34 = .bool x34_12 ∧ Aside0 (bursarref11_Name_p.j1 kq x34_12 a0_0 a0_1 = some (r1, r2)) ∧ Aside0 (kq ≤ kj1) ∧ Aside0 (wc.heap[gb107]? = some (.cells #[.int .i64 a0_0, .string a0_1] 23 (0, 0))) ∧ Aside0 (Below w.heap.size w wc))
        case first =>
          have H := HC13.out
          clear HC13
          by_cases c14 : a0_0 = 2
          · rw [if_pos c14] at H
            have c14b0 : (a0_0 == 2) = true := beq_iff_eq.mpr c14
            have c14b1 : (a0_0 != 2) = false := bne_eq_false_iff_eq.mpr c14
            clear c14
            (first | rw [c14b0] | (simp only [i64_w, i32_w]; rw [c14b0]) | skip)
            by_cases c15 : (a0_1.size : Int) = 6
            · rw [if_pos c15] at H
              have c15b0 : ((a0_1.size : Int) == 6) = true := beq_iff_eq.mpr c15
              have c15b1 : ((a0_1.size : Int) != 6) = false := bne_eq_false_iff_eq.mpr c15
              clear c15
              replace H := Option.bind_eq_some_iff.mp H
              obtain ⟨t109, A160, H⟩ := H
              replace H : (bursarref11_Name_p.j1 kj1 t109 a0_0 a0_1) = some (r1, r2) := H
              have A16 := Aside0.mk A160
              clear A160
              have H' := Aside0.mk H
              clear H
              have hcz17_0 : wc.cell? ⟨gb107, 0, none⟩ = some (.int .i64 a0_0) := (blk_cell BK107.out 0).trans rfl
              have hcz17_1 : wc.cell? ⟨gb107, 1, none⟩ = some (.string a0_1) := (blk_cell BK107.out 1).trans rfl
              have hfz17_0 := blk_frozen BK107.out 0
              have hfz17_1 := blk_frozen BK107.out 1
              go_wp2_with (first | (go_at_call 48; (with_reducible refine (bursarref02_All.calls a0_1 t109 _ A16.out).mono ?_); rintro e w' ⟨rfl, ⟨nd, rfl⟩⟩))
              go_meet
              case rel => exact ⟨_, (t109), (by first | rfl | (simp; done) | (simp [*]; done) | (simp [Pu.bne_nil, Pu.beq_nil]; done)), H', ⟨by have := HJ1.out; first | omega | exact Nat.le_refl _⟩, ⟨by (with_reducible repeat (first | refine blk_drewN ?_ _ | refine blk_drew ?_ | refine blk_alloc ?_ _)); exact BK107.out⟩, ⟨by repeat (first | (with_reducible first | exact HB.out | apply below_alloc | apply pw_below_drewN | apply below_drew1 | refine below_set ?_ GE107.out) | exact HB.out)⟩⟩
            · rw [if_neg c15] at H
              have c15b0 : ((a0_1.size : Int) == 6) = false := beq_eq_false_iff_ne.mpr c15
              have c15b1 : ((a0_1.size : Int) != 6) = true := bne_iff_ne.mpr c15
              have H' := Aside0.mk H
              clear H
              have hcz18_0 : wc.cell? ⟨gb107, 0, none⟩ = some (.int .i64 a0_0) := (blk_cell BK107.out 0).trans rfl
              have hcz18_1 : wc.cell? ⟨gb107, 1, none⟩ = some (.string a0_1) := (blk_cell BK107.out 1).trans rfl
              have hfz18_0 := blk_frozen BK107.out 0
              have hfz18_1 := blk_frozen BK107.out 1
              go_wp2
              go_meet
              case rel => exact ⟨_, (false), (by first | rfl | (simp; done) | (simp [*]; done) | (simp [Pu.bne_nil, Pu.beq_nil]; done)), H', ⟨by have := HJ1.out; first | omega | exact Nat.le_refl _⟩, ⟨by (with_reducible repeat (first | refine blk_drewN ?_ _ | refine blk_drew ?_ | refine blk_alloc ?_ _)); exact BK107.out⟩, ⟨by repeat (first | (with_reducible first | exact HB.out | apply below_alloc | apply pw_below_drewN | apply below_drew1 | refine below_set ?_ GE107.out) | exact HB.out)⟩⟩
          · rw [if_neg c14] at H
            have c14b0 : (a0_0 == 2) = false := beq_eq_false_iff_ne.mpr c14
            have c14b1 : (a0_0 != 2) = true := bne_iff_ne.mpr c14
            (first | rw [c14b0] | (simp only [i64_w, i32_w]; rw [c14b0]) | skip)
            have H' := Aside0.mk H
            clear H
            have hcz19_0 : wc.cell? ⟨gb107, 0, none⟩ = some (.int .i64 a0_0) := (blk_cell BK107.out 0).trans rfl
            have hcz19_1 : wc.cell? ⟨gb107, 1, none⟩ = some (.string a0_1) := (blk_cell BK107.out 1).trans rfl
            have hfz19_0 := blk_frozen BK107.out 0
            have hfz19_1 := blk_frozen BK107.out 1
            go_wp2
            go_meet
            case rel => exact ⟨_, (false), (by first | rfl | (simp; done) | (simp [*]; done) | (simp [Pu.bne_nil, Pu.beq_nil]; done)), H', ⟨by have := HJ1.out; first | omega | exact Nat.le_refl _⟩, ⟨by (with_reducible repeat (first | refine blk_drewN ?_ _ | refine blk_drew ?_ | refine blk_alloc ?_ _)); exact BK107.out⟩, ⟨by repeat (first | (with_reducible first | exact HB.out | apply below_alloc | apply pw_below_drewN | apply below_drew1 | refine below_set ?_ GE107.out) | exact HB.out)⟩⟩
        case rest =>
          clear HC13
          try clear c1
          try clear p2
          try clear c4
          try clear c4b0
          try clear c4b1
          try clear c5
          try clear c5b0
          try clear c5b1
          try clear c10
          try clear c11
          try clear c11b0
          try clear c11b1
          try clear c11b2
          try clear c14
          try clear c14b0
          try clear c14b1
          try clear c15
          try clear c15b0
          try clear c15b1
          try clear c16
          try clear hcz12_0
          try clear hcz12_1
          try clear hcz17_0
          try clear hcz17_1
          try clear hcz18_0
          try clear hcz18_1
          try clear hcz19_0
          try clear hcz19_1
          try clear hcz7_0
          try clear hcz7_1
          try clear hcz8_0
          try clear hcz8_1
          try clear hcz9_0
          try clear hcz9_1
          try clear hfz12_0
          try clear hfz12_1
          try clear hfz17_0
          try clear hfz17_1
          try clear hfz18_0
          try clear hfz18_1
          try clear hfz19_0
          try clear hfz19_1
          try clear hfz7_0
          try clear hfz7_1
          try clear hfz8_0
          try clear hfz8_1
          try clear hfz9_0
          try clear hfz9_1
          try clear p2
          obtain ⟨kq, x34_12, rfl, HA, HJ12, BK107, HB⟩ := hcut
          cases kq with
          | zero => exact absurd HA.out (by simp [bursarref11_Name_p.j1])
          | succ kj12 =>
            have H := HA.out
            clear HA
            simp only [bursarref11_Name_p.j1] at H
            by_cases c20 : x34_12 = true
            · subst c20
              have H1 : (if 1 + a0_1.size ≤ 9223372036854775807 then (some ((⟨#[65]⟩ : ByteArray) ++ a0_1, true)) else (none)) = some (r1, r2) := by rw [if_pos rfl] at H; exact H
              clear H
              have H := H1
              clear H1
              by_cases c21 : 1 + a0_1.size ≤ 9223372036854775807
              · rw [if_pos c21] at H
                have c21b0 := eq_true c21
                have c21b1 : decide (1 + a0_1.size ≤ 9223372036854775807) = true := decide_eq_true c21
                try have c21b2 : (9223372036854775807 < 1 + a0_1.size) = False := eq_false (Nat.not_lt.2 c21)
                simp only [Option.some.injEq, Prod.mk.injEq] at H
                obtain ⟨rfl, rfl⟩ := H
                have hcz22_0 : wc.cell? ⟨gb107, 0, none⟩ = some (.int .i64 a0_0) := (blk_cell BK107.out 0).trans rfl
                have hcz22_1 : wc.cell? ⟨gb107, 1, none⟩ = some (.string a0_1) := (blk_cell BK107.out 1).trans rfl
                have hfz22_0 := blk_frozen BK107.out 0
                have hfz22_1 := blk_frozen BK107.out 1
                go_wp2
                go_ret2
                exact ⟨by first | rfl | (simp [errW_none, errW_some] <;> rfl) | (simp [*, errW_none, errW_some] <;> rfl), by repeat (first | (with_reducible first | exact HB.out | apply below_alloc | apply pw_below_drewN | apply below_drew1 | refine below_set ?_ GE107.out) | exact HB.out)⟩
              · rw [if_neg c21] at H
                exact absurd H (by simp)
            · replace c20 := Bool.eq_false_iff.mpr c20
              subst c20
              have H1 : (if a0_0 = 3 then (bursarref11_Name_p.j2 kj12 (a0_1.toList == ([] : List UInt8)) a0_0 a0_1) else (bursarref11_Name_p.j2 kj12 false a0_0 a0_1)) = some (r1, r2) := by rw [if_neg (show ¬ (false = true) by decide)] at H; exact H
              clear H
              have H := H1
              clear H1
              have HC23 := Aside0.mk H
              clear H
              go_upto_region 5 with (fail)
              go_cut [45] (fun v45 wc => ∃ (kq : Nat) (x45_22 : Bool), v45 = .bool x45_22 ∧ Aside0 (bursarref11_Name_p.j2 kq x45_22 a0_0 a0_1 = some (r1, r2)) ∧ Aside0 (kq ≤ kj12) ∧ Aside0 (wc.heap[gb107]? = some (.cells #[.int .i64 a0_0, .string a0_1] 23 (0, 0))) ∧ Aside0 (Below w.heap.size w wc))
              case first =>
                have H := HC23.out
                clear HC23
                by_cases c24 : a0_0 = 3
                · rw [if_pos c24] at H
                  have c24b0 : (a0_0 == 3) = true := beq_iff_eq.mpr c24
                  have c24b1 : (a0_0 != 3) = false := bne_eq_false_iff_eq.mpr c24
                  clear c24
                  (first | rw [c24b0] | (simp only [i64_w, i32_w]; rw [c24b0]) | skip)
                  have H' := Aside0.mk H
                  clear H
                  have hcz25_0 : wc.cell? ⟨gb107, 0, none⟩ = some (.int .i64 a0_0) := (blk_cell BK107.out 0).trans rfl
                  have hcz25_1 : wc.cell? ⟨gb107, 1, none⟩ = some (.string a0_1) := (blk_cell BK107.out 1).trans rfl
                  have hfz25_0 := blk_frozen BK107.out 0
                  have hfz25_1 := blk_frozen BK107.out 1
                  go_wp2
                  go_meet
                  case rel => exact ⟨_, ((a0_1.toList == ([] : List UInt8))), (by first | rfl | (simp; done) | (simp [*]; done) | (simp [Pu.bne_nil, Pu.beq_nil]; done)), H', ⟨by have := HJ1.out; have := HJ12.out; first | omega | exact Nat.le_refl _⟩, ⟨by (with_reducible repeat (first | refine blk_drewN ?_ _ | refine blk_drew ?_ | refine blk_alloc ?_ _)); exact BK107.out⟩, ⟨by repeat (first | (with_reducible first | exact HB.out | apply below_alloc | apply pw_below_drewN | apply below_drew1 | refine below_set ?_ GE107.out) | exact HB.out)⟩⟩
                · rw [if_neg c24] at H
                  have c24b0 : (a0_0 == 3) = false := beq_eq_false_iff_ne.mpr c24
                  have c24b1 : (a0_0 != 3) = true := bne_iff_ne.mpr c24
                  (first | rw [c24b0] | (simp only [i64_w, i32_w]; rw [c24b0]) | skip)
                  have H' := Aside0.mk H
                  clear H
                  have hcz26_0 : wc.cell? ⟨gb107, 0, none⟩ = some (.int .i64 a0_0) := (blk_cell BK107.out 0).trans rfl
                  have hcz26_1 : wc.cell? ⟨gb107, 1, none⟩ = some (.string a0_1) := (blk_cell BK107.out 1).trans rfl
                  have hfz26_0 := blk_frozen BK107.out 0
                  have hfz26_1 := blk_frozen BK107.out 1
                  go_wp2
                  go_meet
                  case rel => exact ⟨_, (false), (by first | rfl | (simp; done) | (simp [*]; done) | (simp [Pu.bne_nil, Pu.beq_nil]; done)), H', ⟨by have := HJ1.out; have := HJ12.out; first | omega | exact Nat.le_refl _⟩, ⟨by (with_reducible repeat (first | refine blk_drewN ?_ _ | refine blk_drew ?_ | refine blk_alloc ?_ _)); exact BK107.out⟩, ⟨by repeat (first | (with_reducible first | exact HB.out | apply below_alloc | apply pw_below_drewN | apply below_drew1 | refine below_set ?_ GE107.out) | exact HB.out)⟩⟩
              case rest =>
                clear HC23
                try clear c1
                try clear c2
                try clear p2
                try clear c4
                try clear c4b0
                try clear c4b1
                try clear c5
                try clear c5b0
                try clear c5b1
                try clear c10
                try clear c11
                try clear c11b0
                try clear c11b1
                try clear c11b2
                try clear c14
                try clear c14b0
                try clear c14b1
                try clear c15
                try clear c15b0
                try clear c15b1
                try clear c16
                try clear c20
                try clear c21
                try clear c21b0
                try clear c21b1
                try clear c21b2
                try clear c24
                try clear c24b0
                try clear c24b1
                try clear hcz12_0
                try clear hcz12_1
                try clear hcz17_0
                try clear hcz17_1
                try clear hcz18_0
                try clear hcz18_1
                try clear hcz19_0
                try clear hcz19_1
                try clear hcz22_0
                try clear hcz22_1
                try clear hcz25_0
                try clear hcz25_1
                try clear hcz26_0
                try clear hcz26_1
                try clear hcz7_0
                try clear hcz7_1
                try clear hcz8_0
                try clear hcz8_1
                try clear hcz9_0
                try clear hcz9_1
                try clear hfz12_0
                try clear hfz12_1
                try clear hfz17_0
                try clear hfz17_1
                try clear hfz18_0
                try clear hfz18_1
                try clear hfz19_0
                try clear hfz19_1
                try clear hfz22_0
                try clear hfz22_1
                try clear hfz25_0
                try clear hfz25_1
                try clear hfz26_0
                try clear hfz26_1
                try clear hfz7_0
                try clear hfz7_1
                try clear hfz8_0
                try clear hfz8_1
                try clear hfz9_0
                try clear hfz9_1
                try clear p2
                obtain ⟨kq, x45_22, rfl, HA, HJ22, BK107, HB⟩ := hcut
                cases kq with
                | zero => exact absurd HA.out (by simp [bursarref11_Name_p.j2])
                | succ kj22 =>
                  have H := HA.out
                  clear HA
                  simp only [bursarref11_Name_p.j2] at H
                  by_cases c27 : x45_22 = true
                  · subst c27
                    have H1 : (some ((⟨#[72]⟩ : ByteArray), true)) = some (r1, r2) := by rw [if_pos rfl] at H; exact H
                    clear H
                    have H := H1
                    clear H1
                    simp only [Option.some.injEq, Prod.mk.injEq] at H
                    obtain ⟨rfl, rfl⟩ := H
                    go_wp2
                    go_ret2
                    exact ⟨by first | rfl | (simp [errW_none, errW_some] <;> rfl) | (simp [*, errW_none, errW_some] <;> rfl), by repeat (first | (with_reducible first | exact HB.out | apply below_alloc | apply pw_below_drewN | apply below_drew1 | refine below_set ?_ GE107.out) | exact HB.out)⟩
                  · replace c27 := Bool.eq_false_iff.mpr c27
                    subst c27
                    have H1 : (if a0_0 = 4 then (if a0_1.toList = ([] : List UInt8) then (some ((⟨#[68]⟩ : ByteArray), true)) else (some ((⟨#[]⟩ : ByteArray), false))) else (some ((⟨#[]⟩ : ByteArray), false))) = some (r1, r2) := by rw [if_neg (show ¬ (false = true) by decide)] at H; exact H
                    clear H
                    have H := H1
                    clear H1
                    by_cases c28 : a0_0 = 4
                    · rw [if_pos c28] at H
                      have c28b0 : (a0_0 == 4) = true := beq_iff_eq.mpr c28
                      have c28b1 : (a0_0 != 4) = false := bne_eq_false_iff_eq.mpr c28
                      clear c28
                      by_cases c29 : a0_1.toList = ([] : List UInt8)
                      · rw [if_pos c29] at H
                        have c29b0 : (a0_1.toList == ([] : List UInt8)) = true := beq_iff_eq.mpr c29
                        have c29b1 : (a0_1.toList != ([] : List UInt8)) = false := bne_eq_false_iff_eq.mpr c29
                        clear c29
                        simp only [Option.some.injEq, Prod.mk.injEq] at H
                        obtain ⟨rfl, rfl⟩ := H
                        have hcz30_0 : wc.cell? ⟨gb107, 0, none⟩ = some (.int .i64 a0_0) := (blk_cell BK107.out 0).trans rfl
                        have hcz30_1 : wc.cell? ⟨gb107, 1, none⟩ = some (.string a0_1) := (blk_cell BK107.out 1).trans rfl
                        have hfz30_0 := blk_frozen BK107.out 0
                        have hfz30_1 := blk_frozen BK107.out 1
                        go_wp2
                        go_ret2
                        exact ⟨by first | rfl | (simp [errW_none, errW_some] <;> rfl) | (simp [*, errW_none, errW_some] <;> rfl), by repeat (first | (with_reducible first | exact HB.out | apply below_alloc | apply pw_below_drewN | apply below_drew1 | refine below_set ?_ GE107.out) | exact HB.out)⟩
                      · rw [if_neg c29] at H
                        have c29b0 : (a0_1.toList == ([] : List UInt8)) = false := beq_eq_false_iff_ne.mpr c29
                        have c29b1 : (a0_1.toList != ([] : List UInt8)) = true := bne_iff_ne.mpr c29
                        simp only [Option.some.injEq, Prod.mk.injEq] at H
                        obtain ⟨rfl, rfl⟩ := H
                        have hcz31_0 : wc.cell? ⟨gb107, 0, none⟩ = some (.int .i64 a0_0) := (blk_cell BK107.out 0).trans rfl
                        have hcz31_1 : wc.cell? ⟨gb107, 1, none⟩ = some (.string a0_1) := (blk_cell BK107.out 1).trans rfl
                        have hfz31_0 := blk_frozen BK107.out 0
                        have hfz31_1 := blk_frozen BK107.out 1
                        go_wp2
                        go_ret2
                        exact ⟨by first | rfl | (simp [errW_none, errW_some] <;> rfl) | (simp [*, errW_none, errW_some] <;> rfl), by repeat (first | (with_reducible first | exact HB.out | apply below_alloc | apply pw_below_drewN | apply below_drew1 | refine below_set ?_ GE107.out) | exact HB.out)⟩
                    · rw [if_neg c28] at H
                      have c28b0 : (a0_0 == 4) = false := beq_eq_false_iff_ne.mpr c28
                      have c28b1 : (a0_0 != 4) = true := bne_iff_ne.mpr c28
                      simp only [Option.some.injEq, Prod.mk.injEq] at H
                      obtain ⟨rfl, rfl⟩ := H
                      have hcz32_0 : wc.cell? ⟨gb107, 0, none⟩ = some (.int .i64 a0_0) := (blk_cell BK107.out 0).trans rfl
                      have hcz32_1 : wc.cell? ⟨gb107, 1, none⟩ = some (.string a0_1) := (blk_cell BK107.out 1).trans rfl
                      have hfz32_0 := blk_frozen BK107.out 0
                      have hfz32_1 := blk_frozen BK107.out 1
                      go_wp2
                      go_ret2
                      exact ⟨by first | rfl | (simp [errW_none, errW_some] <;> rfl) | (simp [*, errW_none, errW_some] <;> rfl), by repeat (first | (with_reducible first | exact HB.out | apply below_alloc | apply pw_below_drewN | apply below_drew1 | refine below_set ?_ GE107.out) | exact HB.out)⟩

/-! #### bursarref11_Name, refined -/
theorem ref11_Name_e (k : Int) (s : ByteArray) : bursarref11_Name_p.f 3 k s = some (Pu.nameB k s, Pu.mayB k s) := by
  simp only [bursarref11_Name_p.f, bursarref11_Name_p.j0, bursarref11_Name_p.j1, bursarref11_Name_p.j2, bursarref02_Sound.f, bursarref02_All.f, Pu.nameB]
  by_cases h1 : k = 1
  · subst h1
    rw [if_pos rfl, Pu.mayB_1]
    by_cases h : s.size = 16
    · rw [if_pos (by omega), if_pos (by omega), decide_eq_true h, Option.bind_some, Bool.true_and]
      cases Pu.soundB s with
      | true => rw [if_pos rfl, if_pos (by omega), if_pos rfl]; rfl
      | false => rw [if_neg (by simp), if_neg (by decide), if_neg (by simp), if_neg (by decide), if_neg (by simp), if_neg (by decide), if_neg (by simp)]
    · rw [if_neg (by omega), decide_eq_false h, if_neg (by simp), if_neg (by decide), if_neg (by simp), if_neg (by decide), if_neg (by simp), if_neg (by decide), if_neg (by simp)]; rfl
  rw [if_neg h1]
  rw [if_neg (by simp)]
  by_cases h2 : k = 2
  · subst h2
    rw [if_pos rfl, Pu.mayB_2]
    by_cases h : s.size = 6
    · rw [if_pos (by omega), if_pos (by omega), decide_eq_true h, Option.bind_some, Bool.true_and]
      cases Pu.allD s with
      | true => rw [if_pos rfl, if_pos (by omega), if_pos rfl]; rfl
      | false => rw [if_neg (by simp), if_neg (by decide), if_neg (by simp), if_neg (by decide), if_neg (by simp)]
    · rw [if_neg (by omega), decide_eq_false h, if_neg (by simp), if_neg (by decide), if_neg (by simp), if_neg (by decide), if_neg (by simp)]; rfl
  rw [if_neg h2, if_neg (by simp)]
  by_cases h3 : k = 3
  · subst h3
    rw [if_pos rfl, Pu.mayB_3, Pu.toList_empty]
    by_cases h : s.size = 0
    · rw [decide_eq_true h, if_pos rfl, if_pos rfl, Pu.app_nil _ h]; rfl
    · rw [decide_eq_false h, if_neg (by simp), if_neg (by decide), if_neg (by simp)]
  rw [if_neg h3, if_neg (by simp)]
  by_cases h4 : k = 4
  · subst h4
    rw [if_pos rfl, Pu.mayB_4]
    by_cases h : s.size = 0
    · rw [if_pos (Pu.toList_nil.mpr h), decide_eq_true h, if_pos rfl, Pu.app_nil _ h]; rfl
    · rw [if_neg (fun z => h (Pu.toList_nil.mp z)), decide_eq_false h, if_neg (by simp)]
  rw [if_neg h4, Pu.mayB_else s h1 h2 h3 h4, if_neg (by simp)]
def bursarref11_Name.f (a0_0 : Int) (a0_1 : ByteArray) : Option (ByteArray × Bool) := some (Pu.nameB a0_0 a0_1, Pu.mayB a0_0 a0_1)
theorem bursarref11_Name.calls (a0_0 : Int) (a0_1 : ByteArray) (r1 : ByteArray) (r2 : Bool) (w : World) (h : bursarref11_Name.f a0_0 a0_1 = some (r1, r2)) :
    Calls Try.prog 16 #[.agg #[.int .i64 a0_0, .string a0_1]] w fun e w' => e = .returned (.tuple #[.string r1, .bool r2]) ∧ Below w.heap.size w w' :=
  bursarref11_Name_p.calls 3 a0_0 a0_1 r1 r2 w ((ref11_Name_e a0_0 a0_1).trans h)


/-! ### chart_Parse: function 18 -/
set_option maxRecDepth 100000 in
theorem chart_letter_at (k : Nat) (h : k < 5) : ∀ w, (Instr.index 75 (.agg #[.string ⟨#[]⟩, .string ⟨#[67]⟩, .string ⟨#[65]⟩, .string ⟨#[72]⟩, .string ⟨#[68]⟩]) (.int .i64 (k : Int))).run Try.prog w = .ok (.string (Pu.letter k)) w := by
  match k, h with
  | 0, _ => exact fun _ => by kernel_rfl
  | 1, _ => exact fun _ => by kernel_rfl
  | 2, _ => exact fun _ => by kernel_rfl
  | 3, _ => exact fun _ => by kernel_rfl
  | 4, _ => exact fun _ => by kernel_rfl
def chart_Parse_post (s : ByteArray) (w : World) (e : Ending) (w' : World) : Prop := e = .returned (.tuple #[.agg #[.int .i64 (Pu.parseB s).1, .string (Pu.parseB s).2.1], .int .i64 (if (Pu.parseB s).2.2 = true then 0 else 4)]) ∧ Below w.heap.size w w'
theorem chart_Parse_none {s : ByteArray} {w w' : World} (h : ∀ j : Nat, j < 5 → Pu.hit s j = false) (hb : Below w.heap.size w w') : chart_Parse_post s w (.returned (.tuple #[.agg #[.int .i64 0, .string ⟨#[]⟩], .int .i64 4])) w' := by
  unfold chart_Parse_post; rw [Pu.parse_none s h]; exact ⟨rfl, hb⟩
theorem chart_Parse_hit {s : ByteArray} {w w' : World} (k : Nat) (hk : k < 5) (h : ∀ j : Nat, j < k → Pu.hit s j = false) (hh : Pu.hit s k = true) (hb : Below w.heap.size w w') : chart_Parse_post s w (.returned (.tuple #[.agg #[.int .i64 k, .string (s.extract 1 s.size)], .int .i64 0])) w' := by
  unfold chart_Parse_post; rw [Pu.parse_hit s k hk h hh]; exact ⟨rfl, hb⟩
theorem chart_hits {s : ByteArray} {k : Nat} (h : Aside0 (∀ j : Nat, j < k → Pu.hit s j = false)) (hk : Pu.hit s k = false) : Aside0 (∀ j : Nat, j < k + 1 → Pu.hit s j = false) :=
  ⟨fun j hj => by rcases Nat.lt_or_ge j k with g | g; exact h.out j g; (obtain rfl : j = k := (by omega)); exact hk⟩
set_option maxRecDepth 100000 in
set_option maxHeartbeats 2000000 in
theorem chart_Parse_w (s : ByteArray) (w : World) : Calls Try.prog 18 #[.string s] w (chart_Parse_post s w) := by
  have hu23 := Try.underlying23
  have hu75 := Try.underlying75
  have H0 : Aside0 (s.size = 0 ∨ (1 : Int) ≤ s.size) := ⟨by omega⟩
  go_enter Try.func18, Try.ntmps18
  go_wp2_with (go_at_call 46; refine (chart_letters_w _).mono ?_; rintro e w2 ⟨rfl, rfl⟩)
  go_loopw [8] (fun i wr => ∃ k : Nat, k ≤ 5 ∧ i = .int .i64 k ∧ Aside0 (∀ j : Nat, j < k → Pu.hit s j = false) ∧ Aside0 (wr.heap[w.heap.size]? = some (.cells #[.int .i64 0, .string ⟨#[]⟩] 23 (0, 0))) ∧ Aside0 (Below w.heap.size w wr)) (fun i _ => 5 - (intOf i).toNat)
  case atStart => exact ⟨0, by omega, rfl, ⟨fun j hj => absurd hj (by omega)⟩, ⟨blk_alloc (blk_new _ _) _⟩, ⟨((Below.refl _ _).alloc (Nat.le_refl _) _).alloc (by simp) _⟩⟩
  case round =>
    obtain ⟨k, hk, rfl, HN, HB, HW⟩ := hrel
    have hsz : w.heap.size < wr.heap.size := blk_lt HB.out
    by_cases hlt : k < 5
    · have hi := chart_letter_at k hlt
      rcases H0.out with h0 | hs1
      · have hE : s.toList.isEmpty = true := by rw [Pu.toList_nil.mpr h0]; rfl
        have HK := chart_hits HN (Pu.hit_empty s h0 k)
        clear h0
        go_wp2
        go_roundw
        case rel => exact ⟨k + 1, by omega, by go_num, HK, HB, HW⟩
        case measure => simp [intOf]; omega
      have hE : s.toList.isEmpty = false := by
        cases h : s.toList.isEmpty with
        | false => rfl
        | true => have := Pu.toList_nil.mp (List.isEmpty_iff.mp h); omega
      obtain ⟨c, hc⟩ : ∃ c, c = Pu.letter k := ⟨_, rfl⟩
      rw [← hc] at hi
      have HC := Lib.hid hc
      clear hc
      cases hcmp : (c.toList == (s.extract 0 1).toList) with
      | false =>
        have HK := chart_hits HN (Pu.hit_cmp s k (by rw [← HC.out]; exact hcmp))
        go_wp2
        go_roundw
        case rel => exact ⟨k + 1, by omega, by go_num, HK, HB, HW⟩
        case measure => simp [intOf]; omega
      | true =>
        have HX := Lib.hid hcmp
        cases hm : Pu.mayB k (s.extract 1 s.size) with
        | false =>
          have HK := chart_hits HN (Pu.hit_may s k hm)
          have HM := Lib.hid hm
          clear hm
          go_wp2_with (go_at_call 17; refine (chart_May.calls _ _ false _ (congrArg some HM.out)).mono ?_; rintro e w3 ⟨rfl, hb⟩)
          go_roundw
          case rel => exact ⟨k + 1, by omega, by go_num, HK, ⟨blk_below (blk_alloc HB.out _) hb⟩, ⟨(HW.out.alloc (by omega) _).trans (hb.mono (by simp; omega))⟩⟩
          case measure => simp [intOf]; omega
        | true =>
          have HH : Aside0 (Pu.hit s k = true) := ⟨Pu.hit_yes s k (by rw [← HC.out]; exact HX.out) hm⟩
          have HM := Lib.hid hm
          clear hm
          go_wp2_with (go_at_call 17; refine (chart_May.calls _ _ true _ (congrArg some HM.out)).mono ?_; rintro e w3 ⟨rfl, hb⟩; have hd0 := hb.cell (p := ⟨wr.heap.size, 0, none⟩) (by simp); have hd1 := hb.cell (p := ⟨wr.heap.size, 1, none⟩) (by simp); have hz := hb.size; simp at hd0 hd1 hz; have B3 := blk_below (blk_alloc HB.out _) hb; have hc0 := (blk_cell B3 0).trans rfl; have hc1 := (blk_cell B3 1).trans rfl; have hf0 := blk_frozen B3 0; have hf1 := blk_frozen B3 1; clear B3)
          refine bodyPost_ret (v := .tuple #[.agg #[.int .i64 k, .string (s.extract 1 s.size)], .int .i64 0]) (by simp [results, Try.results18, go_sem, hsz, hz, hc0, hc1]) rfl ?_
          exact chart_Parse_hit k hlt HN.out HH.out (((((HW.out.alloc (by omega) _).trans (hb.mono (by simp; omega))).setCell (by simp) _).setCell (by simp) _))
    · have hlt' : ¬ (k : Int) < 5 := by omega
      have HN5 : Aside0 (∀ j : Nat, j < 5 → Pu.hit s j = false) := ⟨fun j hj => HN.out j (by omega)⟩
      have hc0 := (blk_cell HB.out 0).trans rfl
      have hc1 := (blk_cell HB.out 1).trans rfl
      have hf0 := blk_frozen HB.out 0
      have hf1 := blk_frozen HB.out 1
      clear hlt hk HN
      go_wp2
      refine bodyPost_ret (v := .tuple #[.agg #[.int .i64 0, .string ⟨#[]⟩], .int .i64 4]) (by simp [results, Try.results18, go_sem, hsz, hc0, hc1]) rfl ?_
      exact chart_Parse_none HN5.out ((HW.out.setCell (by simp) _).setCell (by simp) _)
def chart_Parse.f (a0 : ByteArray) : Option (Int × ByteArray × Int) := some ((Pu.parseB a0).1, (Pu.parseB a0).2.1, if (Pu.parseB a0).2.2 = true then 0 else 4)
theorem chart_Parse.calls (a0 : ByteArray) (r1 : Int) (r2 : ByteArray) (r3 : Int) (w : World) (h : chart_Parse.f a0 = some (r1, r2, r3)) :
    Calls Try.prog 18 #[.string a0] w fun e w' => e = .returned (.tuple #[.agg #[.int .i64 r1, .string r2], .int .i64 r3]) ∧ Below w.heap.size w w' := by
  have h' := Option.some.inj h
  clear h
  cases h'
  exact chart_Parse_w a0 w


/-! ### bursarlaw11_awake_p: function 19 -/
def bursarlaw11_awake_p.f  : Option (Bool) := (chart_Name.f 1 (⟨#[52, 49, 49, 49, 49, 49, 49, 49, 49, 49, 49, 49, 49, 49, 49, 49]⟩ : ByteArray)).bind fun bt110 => ((chart_Parse.f (⟨#[65, 49, 50, 51, 52, 53]⟩ : ByteArray)).bind fun bt112 => ((chart_Parse.f (⟨#[72]⟩ : ByteArray)).bind fun bt116 => (if bt110.1.toList = ([67, 52, 49, 49, 49, 49, 49, 49, 49, 49, 49, 49, 49, 49, 49, 49, 49] : List UInt8) then (if bt110.2 = 0 then (if bt112.2.2 = 4 then (if (bt116.1 == 3 && (bt116.2.1.toList == ([] : List UInt8))) = true then (if bt116.2.2 = 0 then (some true) else (some false)) else (some false)) else (some false)) else (some false)) else (some false))))
set_option maxHeartbeats 8000000 in
set_option maxRecDepth 100000 in
theorem bursarlaw11_awake_p.calls  (r : Bool) (w : World) (h : bursarlaw11_awake_p.f  = some r) :
    Calls Try.prog 19 #[] w fun e w' => e = .returned (.bool r) ∧ Below w.heap.size w w' := by
  have hu23 := Try.underlying23
  have HB := Aside0.mk (Below.refl w.heap.size w)
  have H : ((chart_Name.f 1 (⟨#[52, 49, 49, 49, 49, 49, 49, 49, 49, 49, 49, 49, 49, 49, 49, 49]⟩ : ByteArray)).bind fun bt110 => ((chart_Parse.f (⟨#[65, 49, 50, 51, 52, 53]⟩ : ByteArray)).bind fun bt112 => ((chart_Parse.f (⟨#[72]⟩ : ByteArray)).bind fun bt116 => (if bt110.1.toList = ([67, 52, 49, 49, 49, 49, 49, 49, 49, 49, 49, 49, 49, 49, 49, 49, 49] : List UInt8) then (if bt110.2 = 0 then (if bt112.2.2 = 4 then (if (bt116.1 == 3 && (bt116.2.1.toList == ([] : List UInt8))) = true then (if bt116.2.2 = 0 then (some true) else (some false)) else (some false)) else (some false)) else (some false)) else (some false))))) = some r := h
  clear h
  replace H := Option.bind_eq_some_iff.mp H
  obtain ⟨⟨t110, t111⟩, A10, H⟩ := H
  replace H : ((chart_Parse.f (⟨#[65, 49, 50, 51, 52, 53]⟩ : ByteArray)).bind fun bt112 => ((chart_Parse.f (⟨#[72]⟩ : ByteArray)).bind fun bt116 => (if t110.toList = ([67, 52, 49, 49, 49, 49, 49, 49, 49, 49, 49, 49, 49, 49, 49, 49, 49] : List UInt8) then (if t111 = 0 then (if bt112.2.2 = 4 then (if (bt116.1 == 3 && (bt116.2.1.toList == ([] : List UInt8))) = true then (if bt116.2.2 = 0 then (some true) else (some false)) else (some false)) else (some false)) else (some false)) else (some false)))) = some r := H
  have A1 := Aside0.mk A10
  clear A10
  replace H := Option.bind_eq_some_iff.mp H
  obtain ⟨⟨t112, t113, t114⟩, A20, H⟩ := H
  replace H : ((chart_Parse.f (⟨#[72]⟩ : ByteArray)).bind fun bt116 => (if t110.toList = ([67, 52, 49, 49, 49, 49, 49, 49, 49, 49, 49, 49, 49, 49, 49, 49, 49] : List UInt8) then (if t111 = 0 then (if t114 = 4 then (if (bt116.1 == 3 && (bt116.2.1.toList == ([] : List UInt8))) = true then (if bt116.2.2 = 0 then (some true) else (some false)) else (some false)) else (some false)) else (some false)) else (some false))) = some r := H
  have A2 := Aside0.mk A20
  clear A20
  replace H := Option.bind_eq_some_iff.mp H
  obtain ⟨⟨t116, t117, t118⟩, A30, H⟩ := H
  replace H : (if t110.toList = ([67, 52, 49, 49, 49, 49, 49, 49, 49, 49, 49, 49, 49, 49, 49, 49, 49] : List UInt8) then (if t111 = 0 then (if t114 = 4 then (if (t116 == 3 && (t117.toList == ([] : List UInt8))) = true then (if t118 = 0 then (some true) else (some false)) else (some false)) else (some false)) else (some false)) else (some false)) = some r := H
  have A3 := Aside0.mk A30
  clear A30
  by_cases c4 : t110.toList = ([67, 52, 49, 49, 49, 49, 49, 49, 49, 49, 49, 49, 49, 49, 49, 49, 49] : List UInt8)
  · rw [if_pos c4] at H
    have c4b0 : (t110.toList == ([67, 52, 49, 49, 49, 49, 49, 49, 49, 49, 49, 49, 49, 49, 49, 49, 49] : List UInt8)) = true := beq_iff_eq.mpr c4
    have c4b1 : (t110.toList != ([67, 52, 49, 49, 49, 49, 49, 49, 49, 49, 49, 49, 49, 49, 49, 49, 49] : List UInt8)) = false := bne_eq_false_iff_eq.mpr c4
    clear c4
    by_cases c5 : t111 = 0
    · rw [if_pos c5] at H
      have c5b0 : (t111 == 0) = true := beq_iff_eq.mpr c5
      have c5b1 : (t111 != 0) = false := bne_eq_false_iff_eq.mpr c5
      clear c5
      by_cases c6 : t114 = 4
      · rw [if_pos c6] at H
        have c6b0 : (t114 == 4) = true := beq_iff_eq.mpr c6
        have c6b1 : (t114 != 4) = false := bne_eq_false_iff_eq.mpr c6
        clear c6
        by_cases c7 : (t116 == 3 && (t117.toList == ([] : List UInt8))) = true
        · rw [if_pos c7] at H
          have c7b0 : (t116 == 3 && (t117.toList == ([] : List UInt8))) = true := c7
          (try (have c7b1 : decide (t116 = 3 && (t117.toList == ([] : List UInt8))) = true := by simpa using c7))
          (try (have c7b2 : (t116 == 3 && (t117.toList == ([] : List UInt8))) = true := by simpa using c7))
          (try (have c7b3 : ((t116 = 3 ∧ (t117.toList = ([] : List UInt8))) = True) := eq_true (by first | (simpa using c7; done) | (intro h_; have g_ := c7; simp [h_] at g_; done) | (have g_ := c7; simp at g_; exact g_))))
          (try (have c7b4 : ((t116 == 3)) = true := (by first | (have g_ := c7; simp at g_; simp [g_]; done) | (have g_ := c7; simp [Pu.beq_nil] at g_ ⊢; simp [g_]; done) | (have g_ := c7; simp [Pu.beq_nil] at g_ ⊢; exact g_))))
          (try (have c7b5 : (t117.toList.isEmpty) = true := (by first | (have g_ := c7; simp at g_; simp [g_]; done) | (have g_ := c7; simp [Pu.beq_nil] at g_ ⊢; simp [g_]; done) | (have g_ := c7; simp [Pu.beq_nil] at g_ ⊢; exact g_))))
          (try (have c7b6 : (t117.toList == ([] : List UInt8)) = true := (by first | (have g_ := c7; simp at g_; simp [g_]; done) | (have g_ := c7; simp [Pu.beq_nil] at g_ ⊢; simp [g_]; done) | (have g_ := c7; simp [Pu.beq_nil] at g_ ⊢; exact g_))))
          clear c7
          by_cases c8 : t118 = 0
          · rw [if_pos c8] at H
            have c8b0 : (t118 == 0) = true := beq_iff_eq.mpr c8
            have c8b1 : (t118 != 0) = false := bne_eq_false_iff_eq.mpr c8
            clear c8
            obtain rfl := Option.some.inj H
            go_enter Try.func19, Try.ntmps19
            go_wp2_with (first | ((with_reducible refine gate_callee (f := 15) rfl ?_); refine goesL_ (some 9) rfl rfl Try.func15 (by kernel_rfl) rfl #[.agg #[.int .i64 1, .string (⟨#[52, 49, 49, 49, 49, 49, 49, 49, 49, 49, 49, 49, 49, 49, 49, 49]⟩ : ByteArray)]] rfl (by (try simp only [List.map_toArray, List.map_cons, List.map_nil]); first | done | rfl | (simp only [List.length_drop, List.length_take]; rfl)) ?_; (with_reducible refine (chart_Name.calls 1 (⟨#[52, 49, 49, 49, 49, 49, 49, 49, 49, 49, 49, 49, 49, 49, 49, 49]⟩ : ByteArray) t110 t111 _ A1.out).mono ?_); rintro e w9 ⟨rfl, hb⟩; refine ⟨_, rfl, ?_⟩; have n0_ := Aside0.mk (below_step (by repeat (first | (with_reducible first | exact HB.out | apply below_alloc | apply pw_below_drewN | apply below_drew1) | exact HB.out)) hb); clear HB; have HB := n0_; clear n0_; (try clear hb); (try clear hb2); (try clear hk); (try clear hi)) | ((with_reducible refine gate_callee (f := 18) rfl ?_); refine goesL_ (some 13) rfl rfl Try.func18 (by kernel_rfl) rfl #[.string (⟨#[65, 49, 50, 51, 52, 53]⟩ : ByteArray)] rfl (by (try simp only [List.map_toArray, List.map_cons, List.map_nil]); first | done | rfl | (simp only [List.length_drop, List.length_take]; rfl)) ?_; (with_reducible refine (chart_Parse.calls (⟨#[65, 49, 50, 51, 52, 53]⟩ : ByteArray) t112 t113 t114 _ A2.out).mono ?_); rintro e w10 ⟨rfl, hb⟩; refine ⟨_, rfl, ?_⟩; have n0_ := Aside0.mk (below_step (by repeat (first | (with_reducible first | exact HB.out | apply below_alloc | apply pw_below_drewN | apply below_drew1) | exact HB.out)) hb); clear HB; have HB := n0_; clear n0_; (try clear hb); (try clear hb2); (try clear hk); (try clear hi)) | ((with_reducible refine gate_dst (N := 3) rfl ?_); refine box_event ?hg (N := 3) ?hd (cs := #[.int .i64 0, .string (⟨#[]⟩ : ByteArray)]) (t := 23) ?hr ?_; (case hd => rfl); (case hg => rfl); (case hr => first | (go_simp; done) | (go_simp; rfl)); intro gb115 hg w11 hbox hb; have n0_ := Aside0.mk (below_step (by repeat (first | (with_reducible first | exact HB.out | apply below_alloc | apply pw_below_drewN | apply below_drew1) | exact HB.out)) hb); have n1_ := Aside0.mk (hbox); have n2_ := Aside0.mk ((by rw [hg]; exact (below_size (by repeat (first | (with_reducible first | exact HB.out | apply below_alloc | apply pw_below_drewN | apply below_drew1) | exact HB.out))) : w.heap.size ≤ gb115)); have n3_ := Aside0.mk ((by rw [hg]; exact (below_size (by repeat (first | (with_reducible first | exact HB.out | apply below_alloc | apply pw_below_drewN | apply below_drew1) | exact HB.out))) : w.heap.size ≤ gb115)); clear HB; have HB := n0_; have BK115 := n1_; have GW115 := n2_; have GE115 := n3_; clear n0_ n1_ n2_ n3_; clear hb hbox hg; have hcz12_0 : w11.cell? ⟨gb115, 0, none⟩ = some (.int .i64 0) := (blk_cell BK115.out 0).trans rfl; have hcz12_1 : w11.cell? ⟨gb115, 1, none⟩ = some (.string (⟨#[]⟩ : ByteArray)) := (blk_cell BK115.out 1).trans rfl; have hfz12_0 := blk_frozen BK115.out 0; have hfz12_1 := blk_frozen BK115.out 1) | ((with_reducible refine gate_callee (f := 18) rfl ?_); refine goesL_ (some 17) rfl rfl Try.func18 (by kernel_rfl) rfl #[.string (⟨#[72]⟩ : ByteArray)] rfl (by (try simp only [List.map_toArray, List.map_cons, List.map_nil]); first | done | rfl | (simp only [List.length_drop, List.length_take]; rfl)) ?_; (with_reducible refine (chart_Parse.calls (⟨#[72]⟩ : ByteArray) t116 t117 t118 _ A3.out).mono ?_); rintro e w13 ⟨rfl, hb⟩; refine ⟨_, rfl, ?_⟩; have n0_ := Aside0.mk (blk_below (g := gb115) (o := .cells #[.int .i64 t112, .string t113] 23 (0, 0)) (by (with_reducible repeat (first | refine blk_drewN ?_ _ | refine blk_drew ?_ | refine blk_alloc ?_ _)); refine blk_put (cs := #[.int .i64 t112, .string (⟨#[]⟩ : ByteArray)]) ?_ 1 _ rfl; (with_reducible repeat (first | refine blk_drewN ?_ _ | refine blk_drew ?_ | refine blk_alloc ?_ _)); refine blk_put (cs := #[.int .i64 0, .string (⟨#[]⟩ : ByteArray)]) ?_ 0 _ rfl; (with_reducible repeat (first | refine blk_drewN ?_ _ | refine blk_drew ?_ | refine blk_alloc ?_ _)); exact BK115.out) hb); have n1_ := Aside0.mk (below_step (by repeat (first | (with_reducible first | exact HB.out | apply below_alloc | apply pw_below_drewN | apply below_drew1 | refine below_set ?_ GE115.out) | exact HB.out)) hb); clear BK115; clear HB; have BK115 := n0_; have HB := n1_; clear n0_ n1_; (try clear hb); (try clear hb2); (try clear hk); (try clear hi)) | ((with_reducible refine gate_dst (N := 5) rfl ?_); refine box_event ?hg (N := 5) ?hd (cs := #[.int .i64 0, .string (⟨#[]⟩ : ByteArray)]) (t := 23) ?hr ?_; (case hd => rfl); (case hg => rfl); (case hr => first | (go_simp; done) | (go_simp; rfl)); intro gb119 hg w14 hbox hb; have n0_ := Aside0.mk (blk_below (g := gb115) (o := .cells #[.int .i64 t112, .string t113] 23 (0, 0)) (by (with_reducible repeat (first | refine blk_drewN ?_ _ | refine blk_drew ?_ | refine blk_alloc ?_ _)); exact BK115.out) hb); have n1_ := Aside0.mk (below_step (by repeat (first | (with_reducible first | exact HB.out | apply below_alloc | apply pw_below_drewN | apply below_drew1 | refine below_set ?_ GE115.out) | exact HB.out)) hb); have n2_ := Aside0.mk (hbox); have n3_ := Aside0.mk ((by rw [hg]; exact (below_size (by repeat (first | (with_reducible first | exact HB.out | apply below_alloc | apply pw_below_drewN | apply below_drew1 | refine below_set ?_ GE115.out) | exact HB.out))) : w.heap.size ≤ gb119)); have n4_ := Aside0.mk ((by rw [hg]; exact (below_size (by repeat (first | (with_reducible first | exact HB.out | apply below_alloc | apply pw_below_drewN | apply below_drew1 | refine below_set ?_ GE115.out) | exact HB.out))) : w.heap.size ≤ gb119)); have n5_ := Aside0.mk ((by rw [hg]; exact Nat.ne_of_lt (blk_lt (g := gb115) (o := .cells #[.int .i64 t112, .string t113] 23 (0, 0)) (by (with_reducible repeat (first | refine blk_drewN ?_ _ | refine blk_drew ?_ | refine blk_alloc ?_ _)); exact BK115.out)) : gb115 ≠ gb119)); have n6_ := Aside0.mk ((by rw [hg]; exact Nat.ne_of_gt (blk_lt (g := gb115) (o := .cells #[.int .i64 t112, .string t113] 23 (0, 0)) (by (with_reducible repeat (first | refine blk_drewN ?_ _ | refine blk_drew ?_ | refine blk_alloc ?_ _)); exact BK115.out)) : gb119 ≠ gb115)); clear BK115; clear HB; have BK115 := n0_; have HB := n1_; have BK119 := n2_; have GW119 := n3_; have GE119 := n4_; have NB115_119 := n5_; have NB119_115 := n6_; clear n0_ n1_ n2_ n3_ n4_ n5_ n6_; clear hb hbox hg; have hnb15 := NB119_115.out; have hnc15 := NB115_119.out; have hcz16_0 : w14.cell? ⟨gb119, 0, none⟩ = some (.int .i64 0) := (blk_cell BK119.out 0).trans rfl; have hcz16_1 : w14.cell? ⟨gb119, 1, none⟩ = some (.string (⟨#[]⟩ : ByteArray)) := (blk_cell BK119.out 1).trans rfl; have hfz16_0 := blk_frozen BK119.out 0; have hfz16_1 := blk_frozen BK119.out 1))
            go_ret
            exact ⟨by first | rfl | (simp [errW_none, errW_some] <;> rfl) | (simp [*, errW_none, errW_some] <;> rfl), by repeat (first | (with_reducible first | exact HB.out | apply below_alloc | apply pw_below_drewN | apply below_drew1 | refine below_set ?_ GE115.out | refine below_set ?_ GE119.out) | exact HB.out)⟩
          · rw [if_neg c8] at H
            have c8b0 : (t118 == 0) = false := beq_eq_false_iff_ne.mpr c8
            have c8b1 : (t118 != 0) = true := bne_iff_ne.mpr c8
            obtain rfl := Option.some.inj H
            go_enter Try.func19, Try.ntmps19
            go_wp2_with (first | ((with_reducible refine gate_callee (f := 15) rfl ?_); refine goesL_ (some 9) rfl rfl Try.func15 (by kernel_rfl) rfl #[.agg #[.int .i64 1, .string (⟨#[52, 49, 49, 49, 49, 49, 49, 49, 49, 49, 49, 49, 49, 49, 49, 49]⟩ : ByteArray)]] rfl (by (try simp only [List.map_toArray, List.map_cons, List.map_nil]); first | done | rfl | (simp only [List.length_drop, List.length_take]; rfl)) ?_; (with_reducible refine (chart_Name.calls 1 (⟨#[52, 49, 49, 49, 49, 49, 49, 49, 49, 49, 49, 49, 49, 49, 49, 49]⟩ : ByteArray) t110 t111 _ A1.out).mono ?_); rintro e w17 ⟨rfl, hb⟩; refine ⟨_, rfl, ?_⟩; have n0_ := Aside0.mk (below_step (by repeat (first | (with_reducible first | exact HB.out | apply below_alloc | apply pw_below_drewN | apply below_drew1) | exact HB.out)) hb); clear HB; have HB := n0_; clear n0_; (try clear hb); (try clear hb2); (try clear hk); (try clear hi)) | ((with_reducible refine gate_callee (f := 18) rfl ?_); refine goesL_ (some 13) rfl rfl Try.func18 (by kernel_rfl) rfl #[.string (⟨#[65, 49, 50, 51, 52, 53]⟩ : ByteArray)] rfl (by (try simp only [List.map_toArray, List.map_cons, List.map_nil]); first | done | rfl | (simp only [List.length_drop, List.length_take]; rfl)) ?_; (with_reducible refine (chart_Parse.calls (⟨#[65, 49, 50, 51, 52, 53]⟩ : ByteArray) t112 t113 t114 _ A2.out).mono ?_); rintro e w18 ⟨rfl, hb⟩; refine ⟨_, rfl, ?_⟩; have n0_ := Aside0.mk (below_step (by repeat (first | (with_reducible first | exact HB.out | apply below_alloc | apply pw_below_drewN | apply below_drew1) | exact HB.out)) hb); clear HB; have HB := n0_; clear n0_; (try clear hb); (try clear hb2); (try clear hk); (try clear hi)) | ((with_reducible refine gate_dst (N := 3) rfl ?_); refine box_event ?hg (N := 3) ?hd (cs := #[.int .i64 0, .string (⟨#[]⟩ : ByteArray)]) (t := 23) ?hr ?_; (case hd => rfl); (case hg => rfl); (case hr => first | (go_simp; done) | (go_simp; rfl)); intro gb115 hg w19 hbox hb; have n0_ := Aside0.mk (below_step (by repeat (first | (with_reducible first | exact HB.out | apply below_alloc | apply pw_below_drewN | apply below_drew1) | exact HB.out)) hb); have n1_ := Aside0.mk (hbox); have n2_ := Aside0.mk ((by rw [hg]; exact (below_size (by repeat (first | (with_reducible first | exact HB.out | apply below_alloc | apply pw_below_drewN | apply below_drew1) | exact HB.out))) : w.heap.size ≤ gb115)); have n3_ := Aside0.mk ((by rw [hg]; exact (below_size (by repeat (first | (with_reducible first | exact HB.out | apply below_alloc | apply pw_below_drewN | apply below_drew1) | exact HB.out))) : w.heap.size ≤ gb115)); clear HB; have HB := n0_; have BK115 := n1_; have GW115 := n2_; have GE115 := n3_; clear n0_ n1_ n2_ n3_; clear hb hbox hg; have hcz20_0 : w19.cell? ⟨gb115, 0, none⟩ = some (.int .i64 0) := (blk_cell BK115.out 0).trans rfl; have hcz20_1 : w19.cell? ⟨gb115, 1, none⟩ = some (.string (⟨#[]⟩ : ByteArray)) := (blk_cell BK115.out 1).trans rfl; have hfz20_0 := blk_frozen BK115.out 0; have hfz20_1 := blk_frozen BK115.out 1) | ((with_reducible refine gate_callee (f := 18) rfl ?_); refine goesL_ (some 17) rfl rfl Try.func18 (by kernel_rfl) rfl #[.string (⟨#[72]⟩ : ByteArray)] rfl (by (try simp only [List.map_toArray, List.map_cons, List.map_nil]); first | done | rfl | (simp only [List.length_drop, List.length_take]; rfl)) ?_; (with_reducible refine (chart_Parse.calls (⟨#[72]⟩ : ByteArray) t116 t117 t118 _ A3.out).mono ?_); rintro e w21 ⟨rfl, hb⟩; refine ⟨_, rfl, ?_⟩; have n0_ := Aside0.mk (blk_below (g := gb115) (o := .cells #[.int .i64 t112, .string t113] 23 (0, 0)) (by (with_reducible repeat (first | refine blk_drewN ?_ _ | refine blk_drew ?_ | refine blk_alloc ?_ _)); refine blk_put (cs := #[.int .i64 t112, .string (⟨#[]⟩ : ByteArray)]) ?_ 1 _ rfl; (with_reducible repeat (first | refine blk_drewN ?_ _ | refine blk_drew ?_ | refine blk_alloc ?_ _)); refine blk_put (cs := #[.int .i64 0, .string (⟨#[]⟩ : ByteArray)]) ?_ 0 _ rfl; (with_reducible repeat (first | refine blk_drewN ?_ _ | refine blk_drew ?_ | refine blk_alloc ?_ _)); exact BK115.out) hb); have n1_ := Aside0.mk (below_step (by repeat (first | (with_reducible first | exact HB.out | apply below_alloc | apply pw_below_drewN | apply below_drew1 | refine below_set ?_ GE115.out) | exact HB.out)) hb); clear BK115; clear HB; have BK115 := n0_; have HB := n1_; clear n0_ n1_; (try clear hb); (try clear hb2); (try clear hk); (try clear hi)) | ((with_reducible refine gate_dst (N := 5) rfl ?_); refine box_event ?hg (N := 5) ?hd (cs := #[.int .i64 0, .string (⟨#[]⟩ : ByteArray)]) (t := 23) ?hr ?_; (case hd => rfl); (case hg => rfl); (case hr => first | (go_simp; done) | (go_simp; rfl)); intro gb119 hg w22 hbox hb; have n0_ := Aside0.mk (blk_below (g := gb115) (o := .cells #[.int .i64 t112, .string t113] 23 (0, 0)) (by (with_reducible repeat (first | refine blk_drewN ?_ _ | refine blk_drew ?_ | refine blk_alloc ?_ _)); exact BK115.out) hb); have n1_ := Aside0.mk (below_step (by repeat (first | (with_reducible first | exact HB.out | apply below_alloc | apply pw_below_drewN | apply below_drew1 | refine below_set ?_ GE115.out) | exact HB.out)) hb); have n2_ := Aside0.mk (hbox); have n3_ := Aside0.mk ((by rw [hg]; exact (below_size (by repeat (first | (with_reducible first | exact HB.out | apply below_alloc | apply pw_below_drewN | apply below_drew1 | refine below_set ?_ GE115.out) | exact HB.out))) : w.heap.size ≤ gb119)); have n4_ := Aside0.mk ((by rw [hg]; exact (below_size (by repeat (first | (with_reducible first | exact HB.out | apply below_alloc | apply pw_below_drewN | apply below_drew1 | refine below_set ?_ GE115.out) | exact HB.out))) : w.heap.size ≤ gb119)); have n5_ := Aside0.mk ((by rw [hg]; exact Nat.ne_of_lt (blk_lt (g := gb115) (o := .cells #[.int .i64 t112, .string t113] 23 (0, 0)) (by (with_reducible repeat (first | refine blk_drewN ?_ _ | refine blk_drew ?_ | refine blk_alloc ?_ _)); exact BK115.out)) : gb115 ≠ gb119)); have n6_ := Aside0.mk ((by rw [hg]; exact Nat.ne_of_gt (blk_lt (g := gb115) (o := .cells #[.int .i64 t112, .string t113] 23 (0, 0)) (by (with_reducible repeat (first | refine blk_drewN ?_ _ | refine blk_drew ?_ | refine blk_alloc ?_ _)); exact BK115.out)) : gb119 ≠ gb115)); clear BK115; clear HB; have BK115 := n0_; have HB := n1_; have BK119 := n2_; have GW119 := n3_; have GE119 := n4_; have NB115_119 := n5_; have NB119_115 := n6_; clear n0_ n1_ n2_ n3_ n4_ n5_ n6_; clear hb hbox hg; have hnb23 := NB119_115.out; have hnc23 := NB115_119.out; have hcz24_0 : w22.cell? ⟨gb119, 0, none⟩ = some (.int .i64 0) := (blk_cell BK119.out 0).trans rfl; have hcz24_1 : w22.cell? ⟨gb119, 1, none⟩ = some (.string (⟨#[]⟩ : ByteArray)) := (blk_cell BK119.out 1).trans rfl; have hfz24_0 := blk_frozen BK119.out 0; have hfz24_1 := blk_frozen BK119.out 1))
            go_ret
            exact ⟨by first | rfl | (simp [errW_none, errW_some] <;> rfl) | (simp [*, errW_none, errW_some] <;> rfl), by repeat (first | (with_reducible first | exact HB.out | apply below_alloc | apply pw_below_drewN | apply below_drew1 | refine below_set ?_ GE115.out | refine below_set ?_ GE119.out) | exact HB.out)⟩
        · rw [if_neg c7] at H
          have c7b0 : (t116 == 3 && (t117.toList == ([] : List UInt8))) = false := by simpa using c7
          (try (have c7b1 : decide (t116 = 3 && (t117.toList == ([] : List UInt8))) = false := by simpa using c7))
          (try (have c7b2 : (t116 == 3 && (t117.toList == ([] : List UInt8))) = false := by simpa using c7))
          (try (have c7b3 : ¬ (t116 = 3 && (t117.toList == ([] : List UInt8))) := by simpa using c7))
          (try (have c7b4 : ((t116 = 3 ∧ (t117.toList = ([] : List UInt8))) = False) := eq_false (by first | (simpa using c7; done) | (intro h_; have g_ := c7; simp [h_] at g_; done) | (have g_ := c7; simp at g_; exact g_))))
          (try (have c7b5 : ((((!(t116 == 3)) = true) ∨ ((!t117.toList.isEmpty) = true)) = True) := (by have g_ := c7; cases g1_ : (t116 == 3) <;> cases g2_ : t117.toList.isEmpty <;> first | (simp; done) | (exfalso; revert g_; simp [Pu.beq_nil] at g1_ g2_ ⊢; simp [g1_, g2_]; done))))
          (try (have c7b6 : ((((!(t116 == 3)) = false) ∧ ((!t117.toList.isEmpty) = false)) = False) := (by have g_ := c7; cases g1_ : (t116 == 3) <;> cases g2_ : t117.toList.isEmpty <;> first | (simp; done) | (exfalso; revert g_; simp [Pu.beq_nil] at g1_ g2_ ⊢; simp [g1_, g2_]; done))))
          clear c7
          obtain rfl := Option.some.inj H
          go_enter Try.func19, Try.ntmps19
          go_wp2_with (first | ((with_reducible refine gate_callee (f := 15) rfl ?_); refine goesL_ (some 9) rfl rfl Try.func15 (by kernel_rfl) rfl #[.agg #[.int .i64 1, .string (⟨#[52, 49, 49, 49, 49, 49, 49, 49, 49, 49, 49, 49, 49, 49, 49, 49]⟩ : ByteArray)]] rfl (by (try simp only [List.map_toArray, List.map_cons, List.map_nil]); first | done | rfl | (simp only [List.length_drop, List.length_take]; rfl)) ?_; (with_reducible refine (chart_Name.calls 1 (⟨#[52, 49, 49, 49, 49, 49, 49, 49, 49, 49, 49, 49, 49, 49, 49, 49]⟩ : ByteArray) t110 t111 _ A1.out).mono ?_); rintro e w25 ⟨rfl, hb⟩; refine ⟨_, rfl, ?_⟩; have n0_ := Aside0.mk (below_step (by repeat (first | (with_reducible first | exact HB.out | apply below_alloc | apply pw_below_drewN | apply below_drew1) | exact HB.out)) hb); clear HB; have HB := n0_; clear n0_; (try clear hb); (try clear hb2); (try clear hk); (try clear hi)) | ((with_reducible refine gate_callee (f := 18) rfl ?_); refine goesL_ (some 13) rfl rfl Try.func18 (by kernel_rfl) rfl #[.string (⟨#[65, 49, 50, 51, 52, 53]⟩ : ByteArray)] rfl (by (try simp only [List.map_toArray, List.map_cons, List.map_nil]); first | done | rfl | (simp only [List.length_drop, List.length_take]; rfl)) ?_; (with_reducible refine (chart_Parse.calls (⟨#[65, 49, 50, 51, 52, 53]⟩ : ByteArray) t112 t113 t114 _ A2.out).mono ?_); rintro e w26 ⟨rfl, hb⟩; refine ⟨_, rfl, ?_⟩; have n0_ := Aside0.mk (below_step (by repeat (first | (with_reducible first | exact HB.out | apply below_alloc | apply pw_below_drewN | apply below_drew1) | exact HB.out)) hb); clear HB; have HB := n0_; clear n0_; (try clear hb); (try clear hb2); (try clear hk); (try clear hi)) | ((with_reducible refine gate_dst (N := 3) rfl ?_); refine box_event ?hg (N := 3) ?hd (cs := #[.int .i64 0, .string (⟨#[]⟩ : ByteArray)]) (t := 23) ?hr ?_; (case hd => rfl); (case hg => rfl); (case hr => first | (go_simp; done) | (go_simp; rfl)); intro gb115 hg w27 hbox hb; have n0_ := Aside0.mk (below_step (by repeat (first | (with_reducible first | exact HB.out | apply below_alloc | apply pw_below_drewN | apply below_drew1) | exact HB.out)) hb); have n1_ := Aside0.mk (hbox); have n2_ := Aside0.mk ((by rw [hg]; exact (below_size (by repeat (first | (with_reducible first | exact HB.out | apply below_alloc | apply pw_below_drewN | apply below_drew1) | exact HB.out))) : w.heap.size ≤ gb115)); have n3_ := Aside0.mk ((by rw [hg]; exact (below_size (by repeat (first | (with_reducible first | exact HB.out | apply below_alloc | apply pw_below_drewN | apply below_drew1) | exact HB.out))) : w.heap.size ≤ gb115)); clear HB; have HB := n0_; have BK115 := n1_; have GW115 := n2_; have GE115 := n3_; clear n0_ n1_ n2_ n3_; clear hb hbox hg; have hcz28_0 : w27.cell? ⟨gb115, 0, none⟩ = some (.int .i64 0) := (blk_cell BK115.out 0).trans rfl; have hcz28_1 : w27.cell? ⟨gb115, 1, none⟩ = some (.string (⟨#[]⟩ : ByteArray)) := (blk_cell BK115.out 1).trans rfl; have hfz28_0 := blk_frozen BK115.out 0; have hfz28_1 := blk_frozen BK115.out 1) | ((with_reducible refine gate_callee (f := 18) rfl ?_); refine goesL_ (some 17) rfl rfl Try.func18 (by kernel_rfl) rfl #[.string (⟨#[72]⟩ : ByteArray)] rfl (by (try simp only [List.map_toArray, List.map_cons, List.map_nil]); first | done | rfl | (simp only [List.length_drop, List.length_take]; rfl)) ?_; (with_reducible refine (chart_Parse.calls (⟨#[72]⟩ : ByteArray) t116 t117 t118 _ A3.out).mono ?_); rintro e w29 ⟨rfl, hb⟩; refine ⟨_, rfl, ?_⟩; have n0_ := Aside0.mk (blk_below (g := gb115) (o := .cells #[.int .i64 t112, .string t113] 23 (0, 0)) (by (with_reducible repeat (first | refine blk_drewN ?_ _ | refine blk_drew ?_ | refine blk_alloc ?_ _)); refine blk_put (cs := #[.int .i64 t112, .string (⟨#[]⟩ : ByteArray)]) ?_ 1 _ rfl; (with_reducible repeat (first | refine blk_drewN ?_ _ | refine blk_drew ?_ | refine blk_alloc ?_ _)); refine blk_put (cs := #[.int .i64 0, .string (⟨#[]⟩ : ByteArray)]) ?_ 0 _ rfl; (with_reducible repeat (first | refine blk_drewN ?_ _ | refine blk_drew ?_ | refine blk_alloc ?_ _)); exact BK115.out) hb); have n1_ := Aside0.mk (below_step (by repeat (first | (with_reducible first | exact HB.out | apply below_alloc | apply pw_below_drewN | apply below_drew1 | refine below_set ?_ GE115.out) | exact HB.out)) hb); clear BK115; clear HB; have BK115 := n0_; have HB := n1_; clear n0_ n1_; (try clear hb); (try clear hb2); (try clear hk); (try clear hi)) | ((with_reducible refine gate_dst (N := 5) rfl ?_); refine box_event ?hg (N := 5) ?hd (cs := #[.int .i64 0, .string (⟨#[]⟩ : ByteArray)]) (t := 23) ?hr ?_; (case hd => rfl); (case hg => rfl); (case hr => first | (go_simp; done) | (go_simp; rfl)); intro gb119 hg w30 hbox hb; have n0_ := Aside0.mk (blk_below (g := gb115) (o := .cells #[.int .i64 t112, .string t113] 23 (0, 0)) (by (with_reducible repeat (first | refine blk_drewN ?_ _ | refine blk_drew ?_ | refine blk_alloc ?_ _)); exact BK115.out) hb); have n1_ := Aside0.mk (below_step (by repeat (first | (with_reducible first | exact HB.out | apply below_alloc | apply pw_below_drewN | apply below_drew1 | refine below_set ?_ GE115.out) | exact HB.out)) hb); have n2_ := Aside0.mk (hbox); have n3_ := Aside0.mk ((by rw [hg]; exact (below_size (by repeat (first | (with_reducible first | exact HB.out | apply below_alloc | apply pw_below_drewN | apply below_drew1 | refine below_set ?_ GE115.out) | exact HB.out))) : w.heap.size ≤ gb119)); have n4_ := Aside0.mk ((by rw [hg]; exact (below_size (by repeat (first | (with_reducible first | exact HB.out | apply below_alloc | apply pw_below_drewN | apply below_drew1 | refine below_set ?_ GE115.out) | exact HB.out))) : w.heap.size ≤ gb119)); have n5_ := Aside0.mk ((by rw [hg]; exact Nat.ne_of_lt (blk_lt (g := gb115) (o := .cells #[.int .i64 t112, .string t113] 23 (0, 0)) (by (with_reducible repeat (first | refine blk_drewN ?_ _ | refine blk_drew ?_ | refine blk_alloc ?_ _)); exact BK115.out)) : gb115 ≠ gb119)); have n6_ := Aside0.mk ((by rw [hg]; exact Nat.ne_of_gt (blk_lt (g := gb115) (o := .cells #[.int .i64 t112, .string t113] 23 (0, 0)) (by (with_reducible repeat (first | refine blk_drewN ?_ _ | refine blk_drew ?_ | refine blk_alloc ?_ _)); exact BK115.out)) : gb119 ≠ gb115)); clear BK115; clear HB; have BK115 := n0_; have HB := n1_; have BK119 := n2_; have GW119 := n3_; have GE119 := n4_; have NB115_119 := n5_; have NB119_115 := n6_; clear n0_ n1_ n2_ n3_ n4_ n5_ n6_; clear hb hbox hg; have hnb31 := NB119_115.out; have hnc31 := NB115_119.out; have hcz32_0 : w30.cell? ⟨gb119, 0, none⟩ = some (.int .i64 0) := (blk_cell BK119.out 0).trans rfl; have hcz32_1 : w30.cell? ⟨gb119, 1, none⟩ = some (.string (⟨#[]⟩ : ByteArray)) := (blk_cell BK119.out 1).trans rfl; have hfz32_0 := blk_frozen BK119.out 0; have hfz32_1 := blk_frozen BK119.out 1))
          go_ret
          exact ⟨by first | rfl | (simp [errW_none, errW_some] <;> rfl) | (simp [*, errW_none, errW_some] <;> rfl), by repeat (first | (with_reducible first | exact HB.out | apply below_alloc | apply pw_below_drewN | apply below_drew1 | refine below_set ?_ GE115.out | refine below_set ?_ GE119.out) | exact HB.out)⟩
      · rw [if_neg c6] at H
        have c6b0 : (t114 == 4) = false := beq_eq_false_iff_ne.mpr c6
        have c6b1 : (t114 != 4) = true := bne_iff_ne.mpr c6
        obtain rfl := Option.some.inj H
        go_enter Try.func19, Try.ntmps19
        go_wp2_with (first | ((with_reducible refine gate_callee (f := 15) rfl ?_); refine goesL_ (some 9) rfl rfl Try.func15 (by kernel_rfl) rfl #[.agg #[.int .i64 1, .string (⟨#[52, 49, 49, 49, 49, 49, 49, 49, 49, 49, 49, 49, 49, 49, 49, 49]⟩ : ByteArray)]] rfl (by (try simp only [List.map_toArray, List.map_cons, List.map_nil]); first | done | rfl | (simp only [List.length_drop, List.length_take]; rfl)) ?_; (with_reducible refine (chart_Name.calls 1 (⟨#[52, 49, 49, 49, 49, 49, 49, 49, 49, 49, 49, 49, 49, 49, 49, 49]⟩ : ByteArray) t110 t111 _ A1.out).mono ?_); rintro e w33 ⟨rfl, hb⟩; refine ⟨_, rfl, ?_⟩; have n0_ := Aside0.mk (below_step (by repeat (first | (with_reducible first | exact HB.out | apply below_alloc | apply pw_below_drewN | apply below_drew1) | exact HB.out)) hb); clear HB; have HB := n0_; clear n0_; (try clear hb); (try clear hb2); (try clear hk); (try clear hi)) | ((with_reducible refine gate_callee (f := 18) rfl ?_); refine goesL_ (some 13) rfl rfl Try.func18 (by kernel_rfl) rfl #[.string (⟨#[65, 49, 50, 51, 52, 53]⟩ : ByteArray)] rfl (by (try simp only [List.map_toArray, List.map_cons, List.map_nil]); first | done | rfl | (simp only [List.length_drop, List.length_take]; rfl)) ?_; (with_reducible refine (chart_Parse.calls (⟨#[65, 49, 50, 51, 52, 53]⟩ : ByteArray) t112 t113 t114 _ A2.out).mono ?_); rintro e w34 ⟨rfl, hb⟩; refine ⟨_, rfl, ?_⟩; have n0_ := Aside0.mk (below_step (by repeat (first | (with_reducible first | exact HB.out | apply below_alloc | apply pw_below_drewN | apply below_drew1) | exact HB.out)) hb); clear HB; have HB := n0_; clear n0_; (try clear hb); (try clear hb2); (try clear hk); (try clear hi)) | ((with_reducible refine gate_dst (N := 3) rfl ?_); refine box_event ?hg (N := 3) ?hd (cs := #[.int .i64 0, .string (⟨#[]⟩ : ByteArray)]) (t := 23) ?hr ?_; (case hd => rfl); (case hg => rfl); (case hr => first | (go_simp; done) | (go_simp; rfl)); intro gb115 hg w35 hbox hb; have n0_ := Aside0.mk (below_step (by repeat (first | (with_reducible first | exact HB.out | apply below_alloc | apply pw_below_drewN | apply below_drew1) | exact HB.out)) hb); have n1_ := Aside0.mk (hbox); have n2_ := Aside0.mk ((by rw [hg]; exact (below_size (by repeat (first | (with_reducible first | exact HB.out | apply below_alloc | apply pw_below_drewN | apply below_drew1) | exact HB.out))) : w.heap.size ≤ gb115)); have n3_ := Aside0.mk ((by rw [hg]; exact (below_size (by repeat (first | (with_reducible first | exact HB.out | apply below_alloc | apply pw_below_drewN | apply below_drew1) | exact HB.out))) : w.heap.size ≤ gb115)); clear HB; have HB := n0_; have BK115 := n1_; have GW115 := n2_; have GE115 := n3_; clear n0_ n1_ n2_ n3_; clear hb hbox hg; have hcz36_0 : w35.cell? ⟨gb115, 0, none⟩ = some (.int .i64 0) := (blk_cell BK115.out 0).trans rfl; have hcz36_1 : w35.cell? ⟨gb115, 1, none⟩ = some (.string (⟨#[]⟩ : ByteArray)) := (blk_cell BK115.out 1).trans rfl; have hfz36_0 := blk_frozen BK115.out 0; have hfz36_1 := blk_frozen BK115.out 1) | ((with_reducible refine gate_callee (f := 18) rfl ?_); refine goesL_ (some 17) rfl rfl Try.func18 (by kernel_rfl) rfl #[.string (⟨#[72]⟩ : ByteArray)] rfl (by (try simp only [List.map_toArray, List.map_cons, List.map_nil]); first | done | rfl | (simp only [List.length_drop, List.length_take]; rfl)) ?_; (with_reducible refine (chart_Parse.calls (⟨#[72]⟩ : ByteArray) t116 t117 t118 _ A3.out).mono ?_); rintro e w37 ⟨rfl, hb⟩; refine ⟨_, rfl, ?_⟩; have n0_ := Aside0.mk (blk_below (g := gb115) (o := .cells #[.int .i64 t112, .string t113] 23 (0, 0)) (by (with_reducible repeat (first | refine blk_drewN ?_ _ | refine blk_drew ?_ | refine blk_alloc ?_ _)); refine blk_put (cs := #[.int .i64 t112, .string (⟨#[]⟩ : ByteArray)]) ?_ 1 _ rfl; (with_reducible repeat (first | refine blk_drewN ?_ _ | refine blk_drew ?_ | refine blk_alloc ?_ _)); refine blk_put (cs := #[.int .i64 0, .string (⟨#[]⟩ : ByteArray)]) ?_ 0 _ rfl; (with_reducible repeat (first | refine blk_drewN ?_ _ | refine blk_drew ?_ | refine blk_alloc ?_ _)); exact BK115.out) hb); have n1_ := Aside0.mk (below_step (by repeat (first | (with_reducible first | exact HB.out | apply below_alloc | apply pw_below_drewN | apply below_drew1 | refine below_set ?_ GE115.out) | exact HB.out)) hb); clear BK115; clear HB; have BK115 := n0_; have HB := n1_; clear n0_ n1_; (try clear hb); (try clear hb2); (try clear hk); (try clear hi)) | ((with_reducible refine gate_dst (N := 5) rfl ?_); refine box_event ?hg (N := 5) ?hd (cs := #[.int .i64 0, .string (⟨#[]⟩ : ByteArray)]) (t := 23) ?hr ?_; (case hd => rfl); (case hg => rfl); (case hr => first | (go_simp; done) | (go_simp; rfl)); intro gb119 hg w38 hbox hb; have n0_ := Aside0.mk (blk_below (g := gb115) (o := .cells #[.int .i64 t112, .string t113] 23 (0, 0)) (by (with_reducible repeat (first | refine blk_drewN ?_ _ | refine blk_drew ?_ | refine blk_alloc ?_ _)); exact BK115.out) hb); have n1_ := Aside0.mk (below_step (by repeat (first | (with_reducible first | exact HB.out | apply below_alloc | apply pw_below_drewN | apply below_drew1 | refine below_set ?_ GE115.out) | exact HB.out)) hb); have n2_ := Aside0.mk (hbox); have n3_ := Aside0.mk ((by rw [hg]; exact (below_size (by repeat (first | (with_reducible first | exact HB.out | apply below_alloc | apply pw_below_drewN | apply below_drew1 | refine below_set ?_ GE115.out) | exact HB.out))) : w.heap.size ≤ gb119)); have n4_ := Aside0.mk ((by rw [hg]; exact (below_size (by repeat (first | (with_reducible first | exact HB.out | apply below_alloc | apply pw_below_drewN | apply below_drew1 | refine below_set ?_ GE115.out) | exact HB.out))) : w.heap.size ≤ gb119)); have n5_ := Aside0.mk ((by rw [hg]; exact Nat.ne_of_lt (blk_lt (g := gb115) (o := .cells #[.int .i64 t112, .string t113] 23 (0, 0)) (by (with_reducible repeat (first | refine blk_drewN ?_ _ | refine blk_drew ?_ | refine blk_alloc ?_ _)); exact BK115.out)) : gb115 ≠ gb119)); have n6_ := Aside0.mk ((by rw [hg]; exact Nat.ne_of_gt (blk_lt (g := gb115) (o := .cells #[.int .i64 t112, .string t113] 23 (0, 0)) (by (with_reducible repeat (first | refine blk_drewN ?_ _ | refine blk_drew ?_ | refine blk_alloc ?_ _)); exact BK115.out)) : gb119 ≠ gb115)); clear BK115; clear HB; have BK115 := n0_; have HB := n1_; have BK119 := n2_; have GW119 := n3_; have GE119 := n4_; have NB115_119 := n5_; have NB119_115 := n6_; clear n0_ n1_ n2_ n3_ n4_ n5_ n6_; clear hb hbox hg; have hnb39 := NB119_115.out; have hnc39 := NB115_119.out; have hcz40_0 : w38.cell? ⟨gb119, 0, none⟩ = some (.int .i64 0) := (blk_cell BK119.out 0).trans rfl; have hcz40_1 : w38.cell? ⟨gb119, 1, none⟩ = some (.string (⟨#[]⟩ : ByteArray)) := (blk_cell BK119.out 1).trans rfl; have hfz40_0 := blk_frozen BK119.out 0; have hfz40_1 := blk_frozen BK119.out 1))
        go_ret
        exact ⟨by first | rfl | (simp [errW_none, errW_some] <;> rfl) | (simp [*, errW_none, errW_some] <;> rfl), by repeat (first | (with_reducible first | exact HB.out | apply below_alloc | apply pw_below_drewN | apply below_drew1 | refine below_set ?_ GE115.out | refine below_set ?_ GE119.out) | exact HB.out)⟩
    · rw [if_neg c5] at H
      have c5b0 : (t111 == 0) = false := beq_eq_false_iff_ne.mpr c5
      have c5b1 : (t111 != 0) = true := bne_iff_ne.mpr c5
      obtain rfl := Option.some.inj H
      go_enter Try.func19, Try.ntmps19
      go_wp2_with (first | ((with_reducible refine gate_callee (f := 15) rfl ?_); refine goesL_ (some 9) rfl rfl Try.func15 (by kernel_rfl) rfl #[.agg #[.int .i64 1, .string (⟨#[52, 49, 49, 49, 49, 49, 49, 49, 49, 49, 49, 49, 49, 49, 49, 49]⟩ : ByteArray)]] rfl (by (try simp only [List.map_toArray, List.map_cons, List.map_nil]); first | done | rfl | (simp only [List.length_drop, List.length_take]; rfl)) ?_; (with_reducible refine (chart_Name.calls 1 (⟨#[52, 49, 49, 49, 49, 49, 49, 49, 49, 49, 49, 49, 49, 49, 49, 49]⟩ : ByteArray) t110 t111 _ A1.out).mono ?_); rintro e w41 ⟨rfl, hb⟩; refine ⟨_, rfl, ?_⟩; have n0_ := Aside0.mk (below_step (by repeat (first | (with_reducible first | exact HB.out | apply below_alloc | apply pw_below_drewN | apply below_drew1) | exact HB.out)) hb); clear HB; have HB := n0_; clear n0_; (try clear hb); (try clear hb2); (try clear hk); (try clear hi)) | ((with_reducible refine gate_callee (f := 18) rfl ?_); refine goesL_ (some 13) rfl rfl Try.func18 (by kernel_rfl) rfl #[.string (⟨#[65, 49, 50, 51, 52, 53]⟩ : ByteArray)] rfl (by (try simp only [List.map_toArray, List.map_cons, List.map_nil]); first | done | rfl | (simp only [List.length_drop, List.length_take]; rfl)) ?_; (with_reducible refine (chart_Parse.calls (⟨#[65, 49, 50, 51, 52, 53]⟩ : ByteArray) t112 t113 t114 _ A2.out).mono ?_); rintro e w42 ⟨rfl, hb⟩; refine ⟨_, rfl, ?_⟩; have n0_ := Aside0.mk (below_step (by repeat (first | (with_reducible first | exact HB.out | apply below_alloc | apply pw_below_drewN | apply below_drew1) | exact HB.out)) hb); clear HB; have HB := n0_; clear n0_; (try clear hb); (try clear hb2); (try clear hk); (try clear hi)) | ((with_reducible refine gate_dst (N := 3) rfl ?_); refine box_event ?hg (N := 3) ?hd (cs := #[.int .i64 0, .string (⟨#[]⟩ : ByteArray)]) (t := 23) ?hr ?_; (case hd => rfl); (case hg => rfl); (case hr => first | (go_simp; done) | (go_simp; rfl)); intro gb115 hg w43 hbox hb; have n0_ := Aside0.mk (below_step (by repeat (first | (with_reducible first | exact HB.out | apply below_alloc | apply pw_below_drewN | apply below_drew1) | exact HB.out)) hb); have n1_ := Aside0.mk (hbox); have n2_ := Aside0.mk ((by rw [hg]; exact (below_size (by repeat (first | (with_reducible first | exact HB.out | apply below_alloc | apply pw_below_drewN | apply below_drew1) | exact HB.out))) : w.heap.size ≤ gb115)); have n3_ := Aside0.mk ((by rw [hg]; exact (below_size (by repeat (first | (with_reducible first | exact HB.out | apply below_alloc | apply pw_below_drewN | apply below_drew1) | exact HB.out))) : w.heap.size ≤ gb115)); clear HB; have HB := n0_; have BK115 := n1_; have GW115 := n2_; have GE115 := n3_; clear n0_ n1_ n2_ n3_; clear hb hbox hg; have hcz44_0 : w43.cell? ⟨gb115, 0, none⟩ = some (.int .i64 0) := (blk_cell BK115.out 0).trans rfl; have hcz44_1 : w43.cell? ⟨gb115, 1, none⟩ = some (.string (⟨#[]⟩ : ByteArray)) := (blk_cell BK115.out 1).trans rfl; have hfz44_0 := blk_frozen BK115.out 0; have hfz44_1 := blk_frozen BK115.out 1) | ((with_reducible refine gate_callee (f := 18) rfl ?_); refine goesL_ (some 17) rfl rfl Try.func18 (by kernel_rfl) rfl #[.string (⟨#[72]⟩ : ByteArray)] rfl (by (try simp only [List.map_toArray, List.map_cons, List.map_nil]); first | done | rfl | (simp only [List.length_drop, List.length_take]; rfl)) ?_; (with_reducible refine (chart_Parse.calls (⟨#[72]⟩ : ByteArray) t116 t117 t118 _ A3.out).mono ?_); rintro e w45 ⟨rfl, hb⟩; refine ⟨_, rfl, ?_⟩; have n0_ := Aside0.mk (blk_below (g := gb115) (o := .cells #[.int .i64 t112, .string t113] 23 (0, 0)) (by (with_reducible repeat (first | refine blk_drewN ?_ _ | refine blk_drew ?_ | refine blk_alloc ?_ _)); refine blk_put (cs := #[.int .i64 t112, .string (⟨#[]⟩ : ByteArray)]) ?_ 1 _ rfl; (with_reducible repeat (first | refine blk_drewN ?_ _ | refine blk_drew ?_ | refine blk_alloc ?_ _)); refine blk_put (cs := #[.int .i64 0, .string (⟨#[]⟩ : ByteArray)]) ?_ 0 _ rfl; (with_reducible repeat (first | refine blk_drewN ?_ _ | refine blk_drew ?_ | refine blk_alloc ?_ _)); exact BK115.out) hb); have n1_ := Aside0.mk (below_step (by repeat (first | (with_reducible first | exact HB.out | apply below_alloc | apply pw_below_drewN | apply below_drew1 | refine below_set ?_ GE115.out) | exact HB.out)) hb); clear BK115; clear HB; have BK115 := n0_; have HB := n1_; clear n0_ n1_; (try clear hb); (try clear hb2); (try clear hk); (try clear hi)) | ((with_reducible refine gate_dst (N := 5) rfl ?_); refine box_event ?hg (N := 5) ?hd (cs := #[.int .i64 0, .string (⟨#[]⟩ : ByteArray)]) (t := 23) ?hr ?_; (case hd => rfl); (case hg => rfl); (case hr => first | (go_simp; done) | (go_simp; rfl)); intro gb119 hg w46 hbox hb; have n0_ := Aside0.mk (blk_below (g := gb115) (o := .cells #[.int .i64 t112, .string t113] 23 (0, 0)) (by (with_reducible repeat (first | refine blk_drewN ?_ _ | refine blk_drew ?_ | refine blk_alloc ?_ _)); exact BK115.out) hb); have n1_ := Aside0.mk (below_step (by repeat (first | (with_reducible first | exact HB.out | apply below_alloc | apply pw_below_drewN | apply below_drew1 | refine below_set ?_ GE115.out) | exact HB.out)) hb); have n2_ := Aside0.mk (hbox); have n3_ := Aside0.mk ((by rw [hg]; exact (below_size (by repeat (first | (with_reducible first | exact HB.out | apply below_alloc | apply pw_below_drewN | apply below_drew1 | refine below_set ?_ GE115.out) | exact HB.out))) : w.heap.size ≤ gb119)); have n4_ := Aside0.mk ((by rw [hg]; exact (below_size (by repeat (first | (with_reducible first | exact HB.out | apply below_alloc | apply pw_below_drewN | apply below_drew1 | refine below_set ?_ GE115.out) | exact HB.out))) : w.heap.size ≤ gb119)); have n5_ := Aside0.mk ((by rw [hg]; exact Nat.ne_of_lt (blk_lt (g := gb115) (o := .cells #[.int .i64 t112, .string t113] 23 (0, 0)) (by (with_reducible repeat (first | refine blk_drewN ?_ _ | refine blk_drew ?_ | refine blk_alloc ?_ _)); exact BK115.out)) : gb115 ≠ gb119)); have n6_ := Aside0.mk ((by rw [hg]; exact Nat.ne_of_gt (blk_lt (g := gb115) (o := .cells #[.int .i64 t112, .string t113] 23 (0, 0)) (by (with_reducible repeat (first | refine blk_drewN ?_ _ | refine blk_drew ?_ | refine blk_alloc ?_ _)); exact BK115.out)) : gb119 ≠ gb115)); clear BK115; clear HB; have BK115 := n0_; have HB := n1_; have BK119 := n2_; have GW119 := n3_; have GE119 := n4_; have NB115_119 := n5_; have NB119_115 := n6_; clear n0_ n1_ n2_ n3_ n4_ n5_ n6_; clear hb hbox hg; have hnb47 := NB119_115.out; have hnc47 := NB115_119.out; have hcz48_0 : w46.cell? ⟨gb119, 0, none⟩ = some (.int .i64 0) := (blk_cell BK119.out 0).trans rfl; have hcz48_1 : w46.cell? ⟨gb119, 1, none⟩ = some (.string (⟨#[]⟩ : ByteArray)) := (blk_cell BK119.out 1).trans rfl; have hfz48_0 := blk_frozen BK119.out 0; have hfz48_1 := blk_frozen BK119.out 1))
      go_ret
      exact ⟨by first | rfl | (simp [errW_none, errW_some] <;> rfl) | (simp [*, errW_none, errW_some] <;> rfl), by repeat (first | (with_reducible first | exact HB.out | apply below_alloc | apply pw_below_drewN | apply below_drew1 | refine below_set ?_ GE115.out | refine below_set ?_ GE119.out) | exact HB.out)⟩
  · rw [if_neg c4] at H
    have c4b0 : (t110.toList == ([67, 52, 49, 49, 49, 49, 49, 49, 49, 49, 49, 49, 49, 49, 49, 49, 49] : List UInt8)) = false := beq_eq_false_iff_ne.mpr c4
    have c4b1 : (t110.toList != ([67, 52, 49, 49, 49, 49, 49, 49, 49, 49, 49, 49, 49, 49, 49, 49, 49] : List UInt8)) = true := bne_iff_ne.mpr c4
    obtain rfl := Option.some.inj H
    go_enter Try.func19, Try.ntmps19
    go_wp2_with (first | ((with_reducible refine gate_callee (f := 15) rfl ?_); refine goesL_ (some 9) rfl rfl Try.func15 (by kernel_rfl) rfl #[.agg #[.int .i64 1, .string (⟨#[52, 49, 49, 49, 49, 49, 49, 49, 49, 49, 49, 49, 49, 49, 49, 49]⟩ : ByteArray)]] rfl (by (try simp only [List.map_toArray, List.map_cons, List.map_nil]); first | done | rfl | (simp only [List.length_drop, List.length_take]; rfl)) ?_; (with_reducible refine (chart_Name.calls 1 (⟨#[52, 49, 49, 49, 49, 49, 49, 49, 49, 49, 49, 49, 49, 49, 49, 49]⟩ : ByteArray) t110 t111 _ A1.out).mono ?_); rintro e w49 ⟨rfl, hb⟩; refine ⟨_, rfl, ?_⟩; have n0_ := Aside0.mk (below_step (by repeat (first | (with_reducible first | exact HB.out | apply below_alloc | apply pw_below_drewN | apply below_drew1) | exact HB.out)) hb); clear HB; have HB := n0_; clear n0_; (try clear hb); (try clear hb2); (try clear hk); (try clear hi)) | ((with_reducible refine gate_callee (f := 18) rfl ?_); refine goesL_ (some 13) rfl rfl Try.func18 (by kernel_rfl) rfl #[.string (⟨#[65, 49, 50, 51, 52, 53]⟩ : ByteArray)] rfl (by (try simp only [List.map_toArray, List.map_cons, List.map_nil]); first | done | rfl | (simp only [List.length_drop, List.length_take]; rfl)) ?_; (with_reducible refine (chart_Parse.calls (⟨#[65, 49, 50, 51, 52, 53]⟩ : ByteArray) t112 t113 t114 _ A2.out).mono ?_); rintro e w50 ⟨rfl, hb⟩; refine ⟨_, rfl, ?_⟩; have n0_ := Aside0.mk (below_step (by repeat (first | (with_reducible first | exact HB.out | apply below_alloc | apply pw_below_drewN | apply below_drew1) | exact HB.out)) hb); clear HB; have HB := n0_; clear n0_; (try clear hb); (try clear hb2); (try clear hk); (try clear hi)) | ((with_reducible refine gate_dst (N := 3) rfl ?_); refine box_event ?hg (N := 3) ?hd (cs := #[.int .i64 0, .string (⟨#[]⟩ : ByteArray)]) (t := 23) ?hr ?_; (case hd => rfl); (case hg => rfl); (case hr => first | (go_simp; done) | (go_simp; rfl)); intro gb115 hg w51 hbox hb; have n0_ := Aside0.mk (below_step (by repeat (first | (with_reducible first | exact HB.out | apply below_alloc | apply pw_below_drewN | apply below_drew1) | exact HB.out)) hb); have n1_ := Aside0.mk (hbox); have n2_ := Aside0.mk ((by rw [hg]; exact (below_size (by repeat (first | (with_reducible first | exact HB.out | apply below_alloc | apply pw_below_drewN | apply below_drew1) | exact HB.out))) : w.heap.size ≤ gb115)); have n3_ := Aside0.mk ((by rw [hg]; exact (below_size (by repeat (first | (with_reducible first | exact HB.out | apply below_alloc | apply pw_below_drewN | apply below_drew1) | exact HB.out))) : w.heap.size ≤ gb115)); clear HB; have HB := n0_; have BK115 := n1_; have GW115 := n2_; have GE115 := n3_; clear n0_ n1_ n2_ n3_; clear hb hbox hg; have hcz52_0 : w51.cell? ⟨gb115, 0, none⟩ = some (.int .i64 0) := (blk_cell BK115.out 0).trans rfl; have hcz52_1 : w51.cell? ⟨gb115, 1, none⟩ = some (.string (⟨#[]⟩ : ByteArray)) := (blk_cell BK115.out 1).trans rfl; have hfz52_0 := blk_frozen BK115.out 0; have hfz52_1 := blk_frozen BK115.out 1) | ((with_reducible refine gate_callee (f := 18) rfl ?_); refine goesL_ (some 17) rfl rfl Try.func18 (by kernel_rfl) rfl #[.string (⟨#[72]⟩ : ByteArray)] rfl (by (try simp only [List.map_toArray, List.map_cons, List.map_nil]); first | done | rfl | (simp only [List.length_drop, List.length_take]; rfl)) ?_; (with_reducible refine (chart_Parse.calls (⟨#[72]⟩ : ByteArray) t116 t117 t118 _ A3.out).mono ?_); rintro e w53 ⟨rfl, hb⟩; refine ⟨_, rfl, ?_⟩; have n0_ := Aside0.mk (blk_below (g := gb115) (o := .cells #[.int .i64 t112, .string t113] 23 (0, 0)) (by (with_reducible repeat (first | refine blk_drewN ?_ _ | refine blk_drew ?_ | refine blk_alloc ?_ _)); refine blk_put (cs := #[.int .i64 t112, .string (⟨#[]⟩ : ByteArray)]) ?_ 1 _ rfl; (with_reducible repeat (first | refine blk_drewN ?_ _ | refine blk_drew ?_ | refine blk_alloc ?_ _)); refine blk_put (cs := #[.int .i64 0, .string (⟨#[]⟩ : ByteArray)]) ?_ 0 _ rfl; (with_reducible repeat (first | refine blk_drewN ?_ _ | refine blk_drew ?_ | refine blk_alloc ?_ _)); exact BK115.out) hb); have n1_ := Aside0.mk (below_step (by repeat (first | (with_reducible first | exact HB.out | apply below_alloc | apply pw_below_drewN | apply below_drew1 | refine below_set ?_ GE115.out) | exact HB.out)) hb); clear BK115; clear HB; have BK115 := n0_; have HB := n1_; clear n0_ n1_; (try clear hb); (try clear hb2); (try clear hk); (try clear hi)) | ((with_reducible refine gate_dst (N := 5) rfl ?_); refine box_event ?hg (N := 5) ?hd (cs := #[.int .i64 0, .string (⟨#[]⟩ : ByteArray)]) (t := 23) ?hr ?_; (case hd => rfl); (case hg => rfl); (case hr => first | (go_simp; done) | (go_simp; rfl)); intro gb119 hg w54 hbox hb; have n0_ := Aside0.mk (blk_below (g := gb115) (o := .cells #[.int .i64 t112, .string t113] 23 (0, 0)) (by (with_reducible repeat (first | refine blk_drewN ?_ _ | refine blk_drew ?_ | refine blk_alloc ?_ _)); exact BK115.out) hb); have n1_ := Aside0.mk (below_step (by repeat (first | (with_reducible first | exact HB.out | apply below_alloc | apply pw_below_drewN | apply below_drew1 | refine below_set ?_ GE115.out) | exact HB.out)) hb); have n2_ := Aside0.mk (hbox); have n3_ := Aside0.mk ((by rw [hg]; exact (below_size (by repeat (first | (with_reducible first | exact HB.out | apply below_alloc | apply pw_below_drewN | apply below_drew1 | refine below_set ?_ GE115.out) | exact HB.out))) : w.heap.size ≤ gb119)); have n4_ := Aside0.mk ((by rw [hg]; exact (below_size (by repeat (first | (with_reducible first | exact HB.out | apply below_alloc | apply pw_below_drewN | apply below_drew1 | refine below_set ?_ GE115.out) | exact HB.out))) : w.heap.size ≤ gb119)); have n5_ := Aside0.mk ((by rw [hg]; exact Nat.ne_of_lt (blk_lt (g := gb115) (o := .cells #[.int .i64 t112, .string t113] 23 (0, 0)) (by (with_reducible repeat (first | refine blk_drewN ?_ _ | refine blk_drew ?_ | refine blk_alloc ?_ _)); exact BK115.out)) : gb115 ≠ gb119)); have n6_ := Aside0.mk ((by rw [hg]; exact Nat.ne_of_gt (blk_lt (g := gb115) (o := .cells #[.int .i64 t112, .string t113] 23 (0, 0)) (by (with_reducible repeat (first | refine blk_drewN ?_ _ | refine blk_drew ?_ | refine blk_alloc ?_ _)); exact BK115.out)) : gb119 ≠ gb115)); clear BK115; clear HB; have BK115 := n0_; have HB := n1_; have BK119 := n2_; have GW119 := n3_; have GE119 := n4_; have NB115_119 := n5_; have NB119_115 := n6_; clear n0_ n1_ n2_ n3_ n4_ n5_ n6_; clear hb hbox hg; have hnb55 := NB119_115.out; have hnc55 := NB115_119.out; have hcz56_0 : w54.cell? ⟨gb119, 0, none⟩ = some (.int .i64 0) := (blk_cell BK119.out 0).trans rfl; have hcz56_1 : w54.cell? ⟨gb119, 1, none⟩ = some (.string (⟨#[]⟩ : ByteArray)) := (blk_cell BK119.out 1).trans rfl; have hfz56_0 := blk_frozen BK119.out 0; have hfz56_1 := blk_frozen BK119.out 1))
    go_ret
    exact ⟨by first | rfl | (simp [errW_none, errW_some] <;> rfl) | (simp [*, errW_none, errW_some] <;> rfl), by repeat (first | (with_reducible first | exact HB.out | apply below_alloc | apply pw_below_drewN | apply below_drew1 | refine below_set ?_ GE115.out | refine below_set ?_ GE119.out) | exact HB.out)⟩

/-! #### bursarlaw11_awake, refined -/
theorem bursarlaw11_awake_e : bursarlaw11_awake_p.f = some true := by decide +kernel
def bursarlaw11_awake.f : Option Bool := some true
theorem bursarlaw11_awake.calls (r : Bool) (w : World) (h : bursarlaw11_awake.f = some r) :
    Calls Try.prog 19 #[] w fun e w' => e = .returned (.bool r) ∧ Below w.heap.size w w' :=
  bursarlaw11_awake_p.calls r w (bursarlaw11_awake_e.trans h)


end Go.Proofs.Ytkbhocncfldifaa.XCh
