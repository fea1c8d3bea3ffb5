-- Written by wip/xprint.py, a session's program: printed out of the translation, with hand-written functions. Lean checks it.
import Derived.Test.YteghpaomggajdaaDoorXP0
import Derived.Test.YteghpaomggajdaaDoorXP1
namespace Go.Proofs.YteghpaomggajdaaDoor.XP
open Go.RowKit Go.Proofs.YteghpaomggajdaaDoorW.PrintWords Go.Proofs.YteghpaomggajdaaDoorW.PrintLast Go.Proofs.YteghpaomggajdaaDoorW.PrintMore
attribute [local go_sem] max2_int min2_int max_two min_two max_three min_three max_four min_four   -- for this text's walks alone
set_option linter.unusedVariables false
set_option linter.unusedSimpArgs false

/-! ### bursarlaw02_awake: function 9 -/
def bursarlaw02_awake.f  : Option (Bool) := (digit_Put.f 42 6).bind fun bt103 => ((digit_Sign.f (⟨#[55, 57, 57, 50, 55, 51, 57, 56, 55, 49]⟩ : ByteArray)).bind fun bt105 => ((digit_Get.f (⟨#[49, 97]⟩ : ByteArray)).bind fun bt107 => (if bt103.1.toList = ([48, 48, 48, 48, 52, 50] : List UInt8) then (if bt103.2 = 0 then ((digit_Sound.f (⟨#[55, 57, 57, 50, 55, 51, 57, 56, 55, 49, 51]⟩ : ByteArray)).bind fun t109 => (if t109 = true then (if bt105.1.toList = ([55, 57, 57, 50, 55, 51, 57, 56, 55, 49, 51] : List UInt8) then (if bt105.2 = 0 then (if bt107.2 = 4 then (some true) else (none)) else (none)) else (none)) else (none))) else (none)) else (none))))
set_option maxHeartbeats 8000000 in
set_option maxRecDepth 100000 in
theorem bursarlaw02_awake.calls  (r : Bool) (w : World) (h : bursarlaw02_awake.f  = some r) :
    Calls Tryd.prog 9 #[] w fun e w' => e = .returned (.bool r) ∧ Below w.heap.size w w' := by
  have HB := Aside0.mk (Below.refl w.heap.size w)
  have H : ((digit_Put.f 42 6).bind fun bt103 => ((digit_Sign.f (⟨#[55, 57, 57, 50, 55, 51, 57, 56, 55, 49]⟩ : ByteArray)).bind fun bt105 => ((digit_Get.f (⟨#[49, 97]⟩ : ByteArray)).bind fun bt107 => (if bt103.1.toList = ([48, 48, 48, 48, 52, 50] : List UInt8) then (if bt103.2 = 0 then ((digit_Sound.f (⟨#[55, 57, 57, 50, 55, 51, 57, 56, 55, 49, 51]⟩ : ByteArray)).bind fun t109 => (if t109 = true then (if bt105.1.toList = ([55, 57, 57, 50, 55, 51, 57, 56, 55, 49, 51] : List UInt8) then (if bt105.2 = 0 then (if bt107.2 = 4 then (some true) else (none)) else (none)) else (none)) else (none))) else (none)) else (none))))) = some r := h
  clear h
  replace H := Option.bind_eq_some_iff.mp H
  obtain ⟨⟨t103, t104⟩, A10, H⟩ := H
  replace H : ((digit_Sign.f (⟨#[55, 57, 57, 50, 55, 51, 57, 56, 55, 49]⟩ : ByteArray)).bind fun bt105 => ((digit_Get.f (⟨#[49, 97]⟩ : ByteArray)).bind fun bt107 => (if t103.toList = ([48, 48, 48, 48, 52, 50] : List UInt8) then (if t104 = 0 then ((digit_Sound.f (⟨#[55, 57, 57, 50, 55, 51, 57, 56, 55, 49, 51]⟩ : ByteArray)).bind fun t109 => (if t109 = true then (if bt105.1.toList = ([55, 57, 57, 50, 55, 51, 57, 56, 55, 49, 51] : List UInt8) then (if bt105.2 = 0 then (if bt107.2 = 4 then (some true) else (none)) else (none)) else (none)) else (none))) else (none)) else (none)))) = some r := H
  have A1 := Aside0.mk A10
  clear A10
  replace H := Option.bind_eq_some_iff.mp H
  obtain ⟨⟨t105, t106⟩, A20, H⟩ := H
  replace H : ((digit_Get.f (⟨#[49, 97]⟩ : ByteArray)).bind fun bt107 => (if t103.toList = ([48, 48, 48, 48, 52, 50] : List UInt8) then (if t104 = 0 then ((digit_Sound.f (⟨#[55, 57, 57, 50, 55, 51, 57, 56, 55, 49, 51]⟩ : ByteArray)).bind fun t109 => (if t109 = true then (if t105.toList = ([55, 57, 57, 50, 55, 51, 57, 56, 55, 49, 51] : List UInt8) then (if t106 = 0 then (if bt107.2 = 4 then (some true) else (none)) else (none)) else (none)) else (none))) else (none)) else (none))) = some r := H
  have A2 := Aside0.mk A20
  clear A20
  replace H := Option.bind_eq_some_iff.mp H
  obtain ⟨⟨t107, t108⟩, A30, H⟩ := H
  replace H : (if t103.toList = ([48, 48, 48, 48, 52, 50] : List UInt8) then (if t104 = 0 then ((digit_Sound.f (⟨#[55, 57, 57, 50, 55, 51, 57, 56, 55, 49, 51]⟩ : ByteArray)).bind fun t109 => (if t109 = true then (if t105.toList = ([55, 57, 57, 50, 55, 51, 57, 56, 55, 49, 51] : List UInt8) then (if t106 = 0 then (if t108 = 4 then (some true) else (none)) else (none)) else (none)) else (none))) else (none)) else (none)) = some r := H
  have A3 := Aside0.mk A30
  clear A30
  by_cases c4 : t103.toList = ([48, 48, 48, 48, 52, 50] : List UInt8)
  · rw [if_pos c4] at H
    have c4b0 : (t103.toList == ([48, 48, 48, 48, 52, 50] : List UInt8)) = true := beq_iff_eq.mpr c4
    have c4b1 : (t103.toList != ([48, 48, 48, 48, 52, 50] : List UInt8)) = false := bne_eq_false_iff_eq.mpr c4
    clear c4
    by_cases c5 : t104 = 0
    · rw [if_pos c5] at H
      have c5b0 : (t104 == 0) = true := beq_iff_eq.mpr c5
      have c5b1 : (t104 != 0) = false := bne_eq_false_iff_eq.mpr c5
      clear c5
      replace H := Option.bind_eq_some_iff.mp H
      obtain ⟨t109, A60, H⟩ := H
      replace H : (if t109 = true then (if t105.toList = ([55, 57, 57, 50, 55, 51, 57, 56, 55, 49, 51] : List UInt8) then (if t106 = 0 then (if t108 = 4 then (some true) else (none)) else (none)) else (none)) else (none)) = some r := H
      have A6 := Aside0.mk A60
      clear A60
      by_cases c7 : t109 = true
      · subst c7
        have H1 : (if t105.toList = ([55, 57, 57, 50, 55, 51, 57, 56, 55, 49, 51] : List UInt8) then (if t106 = 0 then (if t108 = 4 then (some true) else (none)) else (none)) else (none)) = some r := by rw [if_pos rfl] at H; exact H
        clear H
        have H := H1
        clear H1
        by_cases c8 : t105.toList = ([55, 57, 57, 50, 55, 51, 57, 56, 55, 49, 51] : List UInt8)
        · rw [if_pos c8] at H
          have c8b0 : (t105.toList == ([55, 57, 57, 50, 55, 51, 57, 56, 55, 49, 51] : List UInt8)) = true := beq_iff_eq.mpr c8
          have c8b1 : (t105.toList != ([55, 57, 57, 50, 55, 51, 57, 56, 55, 49, 51] : List UInt8)) = false := bne_eq_false_iff_eq.mpr c8
          clear c8
          by_cases c9 : t106 = 0
          · rw [if_pos c9] at H
            have c9b0 : (t106 == 0) = true := beq_iff_eq.mpr c9
            have c9b1 : (t106 != 0) = false := bne_eq_false_iff_eq.mpr c9
            clear c9
            by_cases c10 : t108 = 4
            · rw [if_pos c10] at H
              have c10b0 : (t108 == 4) = true := beq_iff_eq.mpr c10
              have c10b1 : (t108 != 4) = false := bne_eq_false_iff_eq.mpr c10
              clear c10
              obtain rfl := Option.some.inj H
              go_enter Tryd.func9, Tryd.ntmps9
              go_wp2_with (first | ((with_reducible refine gate_callee (f := 8) rfl ?_); refine goesL_ (some 8) rfl rfl Tryd.func8 (by kernel_rfl) rfl #[.int .u64 42, .int .i64 6] rfl (by (try simp only [List.map_toArray, List.map_cons, List.map_nil]); first | done | rfl | (simp only [List.length_drop, List.length_take]; rfl)) ?_; (with_reducible refine (digit_Put.calls 42 6 t103 t104 _ A1.out (fun h_ => absurd h_ (by decide))).mono ?_); rintro e w11 ⟨rfl, hb⟩; refine ⟨_, rfl, ?_⟩; have n0_ := Aside0.mk (below_step (by repeat (first | (with_reducible first | exact HB.out | apply below_alloc | apply pw_below_drewN | apply below_drew1) | exact HB.out)) hb); clear HB; have HB := n0_; clear n0_; (try clear hb); (try clear hb2); (try clear hk); (try clear hi)) | ((with_reducible refine gate_callee (f := 16) rfl ?_); refine goesL_ (some 12) rfl rfl Tryd.func16 (by kernel_rfl) rfl #[.string (⟨#[55, 57, 57, 50, 55, 51, 57, 56, 55, 49]⟩ : ByteArray)] rfl (by (try simp only [List.map_toArray, List.map_cons, List.map_nil]); first | done | rfl | (simp only [List.length_drop, List.length_take]; rfl)) ?_; (with_reducible refine (digit_Sign.calls (⟨#[55, 57, 57, 50, 55, 51, 57, 56, 55, 49]⟩ : ByteArray) t105 t106 _ A2.out).mono ?_); rintro e w12 ⟨rfl, hb⟩; refine ⟨_, rfl, ?_⟩; have n0_ := Aside0.mk (below_step (by repeat (first | (with_reducible first | exact HB.out | apply below_alloc | apply pw_below_drewN | apply below_drew1) | exact HB.out)) hb); clear HB; have HB := n0_; clear n0_; (try clear hb); (try clear hb2); (try clear hk); (try clear hi)) | ((with_reducible refine gate_callee (f := 11) rfl ?_); refine goesL_ (some 16) rfl rfl Tryd.func11 (by kernel_rfl) rfl #[.string (⟨#[49, 97]⟩ : ByteArray)] rfl (by (try simp only [List.map_toArray, List.map_cons, List.map_nil]); first | done | rfl | (simp only [List.length_drop, List.length_take]; rfl)) ?_; (with_reducible refine (digit_Get.calls (⟨#[49, 97]⟩ : ByteArray) t107 t108 _ A3.out).mono ?_); rintro e w13 ⟨rfl, hb⟩; refine ⟨_, rfl, ?_⟩; have n0_ := Aside0.mk (below_step (by repeat (first | (with_reducible first | exact HB.out | apply below_alloc | apply pw_below_drewN | apply below_drew1) | exact HB.out)) hb); clear HB; have HB := n0_; clear n0_; (try clear hb); (try clear hb2); (try clear hk); (try clear hi)) | (go_at_call 18; (with_reducible refine (digit_Sound.calls (⟨#[55, 57, 57, 50, 55, 51, 57, 56, 55, 49, 51]⟩ : ByteArray) true _ A6.out).mono ?_); rintro e w' ⟨rfl, ⟨nd, rfl⟩⟩))
              go_ret
              exact ⟨by first | rfl | (simp [errW_none, errW_some] <;> rfl) | (simp [*, errW_none, errW_some] <;> rfl), by repeat (first | (with_reducible first | exact HB.out | apply below_alloc | apply pw_below_drewN | apply below_drew1) | exact HB.out)⟩
            · rw [if_neg c10] at H
              exact absurd H (by simp)
          · rw [if_neg c9] at H
            exact absurd H (by simp)
        · rw [if_neg c8] at H
          exact absurd H (by simp)
      · replace c7 := Bool.eq_false_iff.mpr c7
        subst c7
        have H1 : (none) = some r := by rw [if_neg (show ¬ (false = true) by decide)] at H; exact H
        clear H
        have H := H1
        clear H1
        exact absurd H (by simp)
    · rw [if_neg c5] at H
      exact absurd H (by simp)
  · rw [if_neg c4] at H
    exact absurd H (by simp)

/-! ### bursarref02_Put: function 10 -/
def bursarref02_Put.l0 : Nat → Int → Int → ByteArray → Int → Option (ByteArray × Bool)
  | 0, _, _, _, _ => none
  | k + 1, x0, x1, x6, x7 => if x7 < x1 then ((some (([(IntKind.u64.wrap (48 + (Int.tmod x0 10))) % 256] : List Int) : List Int)).bind fun y110 => (if (strOfNums y110).size + x6.size ≤ 9223372036854775807 then (bursarref02_Put.l0 k (IntKind.u64.wrap (Int.tdiv x0 10)) x1 ((strOfNums y110) ++ x6) (wrap64 (x7 + 1))) else (none))) else (some (x6, (x0 == 0)))
def bursarref02_Put.f (k : Nat) (a0 : Int) (a1 : Int) : Option (ByteArray × Bool) := bursarref02_Put.l0 k a0 a1 (⟨#[]⟩ : ByteArray) 0
theorem bursarref02_Put.mono_l : ∀ k, (∀ y0 y1 y2 y3, LeO (bursarref02_Put.l0 k y0 y1 y2 y3) (bursarref02_Put.l0 (k + 1) y0 y1 y2 y3))
  | 0 => fun _ _ _ _ r h => by simp [bursarref02_Put.l0] at h
  | k + 1 => by
    have ih0 := bursarref02_Put.mono_l k
    · intro y0 y1 y2 y3
      unfold bursarref02_Put.l0
      repeat' first
      | (with_reducible exact ih0 _ _ _ _)
      | (with_reducible exact LeO.refl _)
      | (with_reducible exact LeO.none _)
      | (with_reducible refine LeO.ite ?_ ?_)
      | (with_reducible refine LeO.bind ?_ (fun _ => ?_))
      | exact ih0 _ _ _ _
      | exact LeO.none _
      | refine LeO.ite ?_ ?_
      | refine LeO.bind ?_ (fun _ => ?_)
theorem bursarref02_Put.mono : ∀ a0 a1 k, LeO (bursarref02_Put.f k a0 a1) (bursarref02_Put.f (k + 1) a0 a1) := by
  intro a0 a1 k
  have ih0 := bursarref02_Put.mono_l k
  unfold bursarref02_Put.f
  repeat' first
      | (with_reducible exact ih0 _ _ _ _)
      | (with_reducible exact LeO.refl _)
      | (with_reducible exact LeO.none _)
      | (with_reducible refine LeO.ite ?_ ?_)
      | (with_reducible refine LeO.bind ?_ (fun _ => ?_))
      | exact ih0 _ _ _ _
      | exact LeO.none _
      | refine LeO.ite ?_ ?_
      | refine LeO.bind ?_ (fun _ => ?_)
set_option maxHeartbeats 8000000 in
set_option maxRecDepth 100000 in
theorem bursarref02_Put.calls (k : Nat) (a0 : Int) (a1 : Int) (r1 : ByteArray) (r2 : Bool) (w : World) (h : bursarref02_Put.f k a0 a1 = some (r1, r2)) :
    Calls Tryd.prog 10 #[.int .u64 a0, .int .i64 a1] w fun e w' => e = .returned (.tuple #[.string r1, .bool r2]) ∧ Below w.heap.size w w' := by
  have HB := Aside0.mk (Below.refl w.heap.size w)
  have H : (bursarref02_Put.l0 k a0 a1 (⟨#[]⟩ : ByteArray) 0) = some (r1, r2) := h
  clear h
  have H' := Aside0.mk H
  clear H
  go_enter Tryd.func10, Tryd.ntmps10
  go_wp2
  go_loopg [0, 6, 7] k (fun kq v0 v6 v7 w' => ∃ (x0_1 : Int) (x6_1 : ByteArray) (x7_1 : Int), v0 = .int .u64 x0_1 ∧ v6 = .string x6_1 ∧ v7 = .int .i64 x7_1 ∧ Aside0 (bursarref02_Put.l0 kq x0_1 a1 x6_1 x7_1 = some (r1, r2)) ∧ Aside0 (kq ≤ k) ∧ Aside0 (Below w.heap.size w w'))
  case atStart => exact ⟨(a0), ((⟨#[]⟩ : ByteArray)), (0), (by first | rfl | (simp; done) | (simp [*]; done) | (simp [Pu.bne_nil, Pu.beq_nil]; done)), (by first | rfl | (simp; done) | (simp [*]; done) | (simp [Pu.bne_nil, Pu.beq_nil]; done)), (by first | rfl | (simp; done) | (simp [*]; done) | (simp [Pu.bne_nil, Pu.beq_nil]; done)), H', ⟨Nat.le_refl _⟩, ⟨by repeat (first | (with_reducible first | exact HB.out | apply below_alloc | apply pw_below_drewN | apply below_drew1) | exact HB.out)⟩⟩
  case round =>
    clear H'
    try clear c1
    try clear p2
    obtain ⟨x0_1, x6_1, x7_1, rfl, rfl, rfl, HA, HK1, HB⟩ := hrel
    cases gk with
    | zero => exact absurd HA.out (by simp [bursarref02_Put.l0])
    | succ k1 =>
      have H := HA.out
      clear HA
      simp only [bursarref02_Put.l0] at H
      by_cases c3 : x7_1 < a1
      · rw [if_pos c3] at H
        have c3b0 : decide (x7_1 < a1) = true := decide_eq_true c3
        clear c3
        obtain ⟨y110, hy110⟩ : ∃ y_ : List Int, y_ = (([(IntKind.u64.wrap (48 + (Int.tmod x0_1 10))) % 256] : List Int)) := ⟨_, rfl⟩
        replace H : (if (strOfNums y110).size + x6_1.size ≤ 9223372036854775807 then (bursarref02_Put.l0 k1 (IntKind.u64.wrap (Int.tdiv x0_1 10)) a1 ((strOfNums y110) ++ x6_1) (wrap64 (x7_1 + 1))) else (none)) = some (r1, r2) := by first | (rw [hy110]; with_reducible exact H) | (have H2_ := (Option.bind_some _ _).symm.trans H; rw [hy110]; with_reducible exact H2_) | (have H2_ := (Option.bind_some _ _).symm.trans H; with_reducible exact H2_) | with_reducible exact H | (rw [hy110]; exact H) | exact H
        have Ny110 := Aside0.mk hy110
        clear hy110
        by_cases c4 : (strOfNums y110).size + x6_1.size ≤ 9223372036854775807
        · rw [if_pos c4] at H
          have c4b0 := eq_true c4
          have c4b1 : decide ((strOfNums y110).size + x6_1.size ≤ 9223372036854775807) = true := decide_eq_true c4
          try have c4b2 : (9223372036854775807 < (strOfNums y110).size + x6_1.size) = False := eq_false (Nat.not_lt.2 c4)
          have H' := Aside0.mk H
          clear H
          go_wp2_with (first | ((with_reducible refine gate_dst (N := 17) rfl ?_); refine Kd.R_lit (Kd.int .u8) _ 5 ?hg (N := 17) ?hd (xs := ([(IntKind.u64.wrap (48 + (Int.tmod x0_1 10))) % 256] : List Int)) (inner := [.int .u8 ((IntKind.u64.wrap (48 + (Int.tmod x0_1 10))) % 256)]) (ok := fun _ => True) (okp := fun _ => True) ?hr ?hp (fun _ hk => hk) trivial (Below.refl _ _) (Nat.le_refl _) (by simp) ?_; (case hd => rfl); (case hg => rfl); (case hr => first | (go_simp; done) | (go_simp; rfl)); (case hp => exact (Reps.one (show Kd.M (Kd.int .u8) _ _ _ ((IntKind.u64.wrap (48 + (Int.tmod x0_1 10))) % 256) [.int .u8 ((IntKind.u64.wrap (48 + (Int.tmod x0_1 10))) % 256)] from rfl) (Reps.none _ _))); intro v111 w5 ho6 hb hg_ hnew_; clear hg_ hnew_; (first | rw [← Ny110.out] at ho6 | (simp only [Int.reduceToNat] at ho6; rw [← Ny110.out] at ho6)); have n0_ := Aside0.mk (Kd.R_lower ho6 (below_size (by repeat (first | (with_reducible first | exact HB.out | apply below_alloc | apply pw_below_drewN | apply below_drew1) | exact HB.out)))); have n1_ := Aside0.mk (below_step (by repeat (first | (with_reducible first | exact HB.out | apply below_alloc | apply pw_below_drewN | apply below_drew1) | exact HB.out)) hb); clear HB; have HO112 := n0_; have HB := n1_; clear n0_ n1_; clear hb ho6; have hcv7 := own_string (P := Tryd.prog) Tryd.underlying38 Tryd.underlying5 Tryd.underlying9 (Kd.own_of_R HO112.out)))
          go_roundg k1
          case measure => have := HK1.out; omega
          case rel => exact ⟨(IntKind.u64.wrap (Int.tdiv x0_1 10)), ((strOfNums y110) ++ x6_1), (wrap64 (x7_1 + 1)), (by first | rfl | (simp; done) | (simp [*]; done) | (simp [Pu.bne_nil, Pu.beq_nil]; done)), (by first | rfl | (simp; done) | (simp [*]; done) | (simp [Pu.bne_nil, Pu.beq_nil]; done)), (by first | rfl | (simp; done) | (simp [*]; done) | (simp [Pu.bne_nil, Pu.beq_nil]; done)), H', ⟨by have := HK1.out; omega⟩, ⟨by repeat (first | (with_reducible first | exact HB.out | apply below_alloc | apply pw_below_drewN | apply below_drew1) | exact HB.out)⟩⟩
        · rw [if_neg c4] at H
          exact absurd H (by simp)
      · rw [if_neg c3] at H
        have c3b0 : decide (x7_1 < a1) = false := decide_eq_false c3
        clear c3
        simp only [Option.some.injEq, Prod.mk.injEq] at H
        obtain ⟨rfl, rfl⟩ := H
        go_wp2
        go_ret2
        exact ⟨by first | rfl | (simp [errW_none, errW_some] <;> rfl) | (simp [*, errW_none, errW_some] <;> rfl), by repeat (first | (with_reducible first | exact HB.out | apply below_alloc | apply pw_below_drewN | apply below_drew1) | exact HB.out)⟩

/-! ### bursarlaw02_DigitPuts: function 3 -/
def bursarlaw02_DigitPuts.j0 : Nat → Int → Int → ByteArray → Int → Bool → Option (Bool)
  | 0, _, _, _, _, _ => none
  | k + 1, x0, x1, x5, x6, x22 => if x22 = true then (if x5.toList = ([] : List UInt8) then (if x6 = 1 then ((bursarlaw02_awake.f).bind fun t115 => (some t115)) else (none)) else (none)) else ((bursarref02_Put.f k x0 x1).bind fun bt116 => (if bt116.2 = true then ((digit_Get.f x5).bind fun bt118 => (if x5.toList = bt116.1.toList then (if x6 = 0 then (if bt118.1 = x0 then (if bt118.2 = 0 then ((bursarlaw02_awake.f).bind fun t120 => (some t120)) else (none)) else (none)) else (none)) else (none))) else (if x5.toList = ([] : List UInt8) then (if x6 = 2 then ((bursarlaw02_awake.f).bind fun t121 => (some t121)) else (none)) else (none))))
def bursarlaw02_DigitPuts.f (k : Nat) (a0 : Int) (a1 : Int) : Option (Bool) := (digit_Put.f a0 a1).bind fun bt113 => (if a1 < 1 then (bursarlaw02_DigitPuts.j0 k a0 a1 bt113.1 bt113.2 true) else (bursarlaw02_DigitPuts.j0 k a0 a1 bt113.1 bt113.2 (decide (a1 > 19))))
theorem bursarlaw02_DigitPuts.mono_l : ∀ k, (∀ y0 y1 y2 y3 y4, LeO (bursarlaw02_DigitPuts.j0 k y0 y1 y2 y3 y4) (bursarlaw02_DigitPuts.j0 (k + 1) y0 y1 y2 y3 y4))
  | 0 => fun _ _ _ _ _ r h => by simp [bursarlaw02_DigitPuts.j0] at h
  | k + 1 => by
    have ih0 := bursarlaw02_DigitPuts.mono_l k
    · intro y0 y1 y2 y3 y4
      unfold bursarlaw02_DigitPuts.j0
      repeat' first
      | (with_reducible exact ih0 _ _ _ _ _)
      | (with_reducible exact bursarref02_Put.mono _ _ _)
      | (with_reducible exact LeO.refl _)
      | (with_reducible exact LeO.none _)
      | (with_reducible refine LeO.ite ?_ ?_)
      | (with_reducible refine LeO.bind ?_ (fun _ => ?_))
      | exact ih0 _ _ _ _ _
      | exact bursarref02_Put.mono _ _ _
      | exact LeO.none _
      | refine LeO.ite ?_ ?_
      | refine LeO.bind ?_ (fun _ => ?_)
theorem bursarlaw02_DigitPuts.mono : ∀ a0 a1 k, LeO (bursarlaw02_DigitPuts.f k a0 a1) (bursarlaw02_DigitPuts.f (k + 1) a0 a1) := by
  intro a0 a1 k
  have ih0 := bursarlaw02_DigitPuts.mono_l k
  unfold bursarlaw02_DigitPuts.f
  repeat' first
      | (with_reducible exact ih0 _ _ _ _ _)
      | (with_reducible exact bursarref02_Put.mono _ _ _)
      | (with_reducible exact LeO.refl _)
      | (with_reducible exact LeO.none _)
      | (with_reducible refine LeO.ite ?_ ?_)
      | (with_reducible refine LeO.bind ?_ (fun _ => ?_))
      | exact ih0 _ _ _ _ _
      | exact bursarref02_Put.mono _ _ _
      | exact LeO.none _
      | refine LeO.ite ?_ ?_
      | refine LeO.bind ?_ (fun _ => ?_)
set_option maxHeartbeats 8000000 in
set_option maxRecDepth 100000 in
theorem bursarlaw02_DigitPuts.calls (k : Nat) (a0 : Int) (a1 : Int) (r : Bool) (w : World) (h : bursarlaw02_DigitPuts.f k a0 a1 = some r) (HT0 : Fu.Tab w) :
    Calls Tryd.prog 3 #[.int .u64 a0, .int .i64 a1] w fun e w' => e = .returned (.bool r) ∧ Below w.heap.size w w' := by
  have HT := Aside0.mk HT0
  clear HT0
  have HB := Aside0.mk (Below.refl w.heap.size w)
  have H : ((digit_Put.f a0 a1).bind fun bt113 => (if a1 < 1 then (bursarlaw02_DigitPuts.j0 k a0 a1 bt113.1 bt113.2 true) else (bursarlaw02_DigitPuts.j0 k a0 a1 bt113.1 bt113.2 (decide (a1 > 19))))) = some r := h
  clear h
  replace H := Option.bind_eq_some_iff.mp H
  obtain ⟨⟨t113, t114⟩, A30, H⟩ := H
  replace H : (if a1 < 1 then (bursarlaw02_DigitPuts.j0 k a0 a1 t113 t114 true) else (bursarlaw02_DigitPuts.j0 k a0 a1 t113 t114 (decide (a1 > 19)))) = some r := H
  have A3 := Aside0.mk A30
  clear A30
  have HC4 := Aside0.mk H
  clear H
  go_enter Tryd.func3, Tryd.ntmps3
  go_upto_region 2 with (first | ((with_reducible refine gate_callee (f := 8) rfl ?_); refine goesL_ (some 14) rfl rfl Tryd.func8 (by kernel_rfl) rfl #[.int .u64 a0, .int .i64 a1] rfl (by (try simp only [List.map_toArray, List.map_cons, List.map_nil]); first | done | rfl | (simp only [List.length_drop, List.length_take]; rfl)) ?_; (with_reducible refine (digit_Put.calls a0 a1 t113 t114 _ A3.out (fun _ => Fu.tab_below HT.out (by repeat (first | (with_reducible first | exact HB.out | apply below_alloc | apply pw_below_drewN | apply below_drew1) | exact HB.out)))).mono ?_); rintro e w5 ⟨rfl, hb⟩; refine ⟨_, rfl, ?_⟩; have n0_ := Aside0.mk (below_step (by repeat (first | (with_reducible first | exact HB.out | apply below_alloc | apply pw_below_drewN | apply below_drew1) | exact HB.out)) hb); clear HB; have HB := n0_; clear n0_; (try clear hb); (try clear hb2); (try clear hk); (try clear hi)))
  (try simp only [Act.put, List.setIfInBounds_toArray, List.set_cons_zero, List.set_cons_succ])
  go_cut [22] (fun v22 wc => ∃ (kq : Nat) (x22_3 : Bool), v22 = .bool x22_3 ∧ Aside0 (bursarlaw02_DigitPuts.j0 kq a0 a1 t113 t114 x22_3 = some r) ∧ Aside0 (kq ≤ k) ∧ Aside0 (Below w.heap.size w wc))
  case first =>
    have H := HC4.out
    clear HC4
    by_cases c6 : a1 < 1
    · rw [if_pos c6] at H
      have c6b0 : decide (a1 < 1) = true := decide_eq_true c6
      clear c6
      (first | rw [c6b0] | (simp only [i64_w, i32_w]; rw [c6b0]) | skip)
      have H' := Aside0.mk H
      clear H
      go_wp2
      go_meet
      case rel => exact ⟨_, (true), (by first | rfl | (simp; done) | (simp [*]; done) | (simp [Pu.bne_nil, Pu.beq_nil]; done)), H', ⟨by first | omega | exact Nat.le_refl _⟩, ⟨by repeat (first | (with_reducible first | exact HB.out | apply below_alloc | apply pw_below_drewN | apply below_drew1) | exact HB.out)⟩⟩
    · rw [if_neg c6] at H
      have c6b0 : decide (a1 < 1) = false := decide_eq_false c6
      clear c6
      (first | rw [c6b0] | (simp only [i64_w, i32_w]; rw [c6b0]) | skip)
      have H' := Aside0.mk H
      clear H
      go_wp2
      go_meet
      case rel => exact ⟨_, (decide (a1 > 19)), (by first | rfl | (simp; done) | (simp [*]; done) | (simp [Pu.bne_nil, Pu.beq_nil]; done)), H', ⟨by first | omega | exact Nat.le_refl _⟩, ⟨by repeat (first | (with_reducible first | exact HB.out | apply below_alloc | apply pw_below_drewN | apply below_drew1) | exact HB.out)⟩⟩
  case rest =>
    clear HC4
    try clear p2
    try clear c3
    try clear c6
    try clear c6b0
    obtain ⟨kq, x22_3, rfl, HA, HJ3, HB⟩ := hcut
    cases kq with
    | zero => exact absurd HA.out (by simp [bursarlaw02_DigitPuts.j0])
    | succ kj3 =>
      have H := HA.out
      clear HA
      simp only [bursarlaw02_DigitPuts.j0] at H
      by_cases c7 : x22_3 = true
      · subst c7
        have H1 : (if t113.toList = ([] : List UInt8) then (if t114 = 1 then ((bursarlaw02_awake.f).bind fun t115 => (some t115)) else (none)) else (none)) = some r := by rw [if_pos rfl] at H; exact H
        clear H
        have H := H1
        clear H1
        by_cases c8 : t113.toList = ([] : List UInt8)
        · rw [if_pos c8] at H
          have c8b0 : (t113.toList == ([] : List UInt8)) = true := beq_iff_eq.mpr c8
          have c8b1 : (t113.toList != ([] : List UInt8)) = false := bne_eq_false_iff_eq.mpr c8
          clear c8
          by_cases c9 : t114 = 1
          · rw [if_pos c9] at H
            have c9b0 : (t114 == 1) = true := beq_iff_eq.mpr c9
            have c9b1 : (t114 != 1) = false := bne_eq_false_iff_eq.mpr c9
            clear c9
            replace H := Option.bind_eq_some_iff.mp H
            obtain ⟨t115, A100, H⟩ := H
            replace H : (some t115) = some r := H
            have A10 := Aside0.mk A100
            clear A100
            obtain rfl := Option.some.inj H
            go_wp2_with (first | (go_at_call 9; (with_reducible refine (bursarlaw02_awake.calls  t115 _ A10.out).mono ?_); rintro e w11 ⟨rfl, hb⟩; have n0_ := Aside0.mk (below_step (by repeat (first | (with_reducible first | exact HB.out | apply below_alloc | apply pw_below_drewN | apply below_drew1) | exact HB.out)) hb); clear HB; have HB := n0_; clear n0_; (try clear hb); (try clear hb2); (try clear hk); (try clear hi)))
            go_ret
            exact ⟨by first | rfl | (simp [errW_none, errW_some] <;> rfl) | (simp [*, errW_none, errW_some] <;> rfl), by repeat (first | (with_reducible first | exact HB.out | apply below_alloc | apply pw_below_drewN | apply below_drew1) | exact HB.out)⟩
          · rw [if_neg c9] at H
            exact absurd H (by simp)
        · rw [if_neg c8] at H
          exact absurd H (by simp)
      · replace c7 := Bool.eq_false_iff.mpr c7
        subst c7
        have H1 : ((bursarref02_Put.f kj3 a0 a1).bind fun bt116 => (if bt116.2 = true then ((digit_Get.f t113).bind fun bt118 => (if t113.toList = bt116.1.toList then (if t114 = 0 then (if bt118.1 = a0 then (if bt118.2 = 0 then ((bursarlaw02_awake.f).bind fun t120 => (some t120)) else (none)) else (none)) else (none)) else (none))) else (if t113.toList = ([] : List UInt8) then (if t114 = 2 then ((bursarlaw02_awake.f).bind fun t121 => (some t121)) else (none)) else (none)))) = some r := by rw [if_neg (show ¬ (false = true) by decide)] at H; exact H
        clear H
        have H := H1
        clear H1
        replace H := Option.bind_eq_some_iff.mp H
        obtain ⟨⟨t116, t117⟩, A120, H⟩ := H
        replace H : (if t117 = true then ((digit_Get.f t113).bind fun bt118 => (if t113.toList = t116.toList then (if t114 = 0 then (if bt118.1 = a0 then (if bt118.2 = 0 then ((bursarlaw02_awake.f).bind fun t120 => (some t120)) else (none)) else (none)) else (none)) else (none))) else (if t113.toList = ([] : List UInt8) then (if t114 = 2 then ((bursarlaw02_awake.f).bind fun t121 => (some t121)) else (none)) else (none))) = some r := H
        have A12 := Aside0.mk A120
        clear A120
        by_cases c13 : t117 = true
        · subst c13
          have H1 : ((digit_Get.f t113).bind fun bt118 => (if t113.toList = t116.toList then (if t114 = 0 then (if bt118.1 = a0 then (if bt118.2 = 0 then ((bursarlaw02_awake.f).bind fun t120 => (some t120)) else (none)) else (none)) else (none)) else (none))) = some r := by rw [if_pos rfl] at H; exact H
          clear H
          have H := H1
          clear H1
          replace H := Option.bind_eq_some_iff.mp H
          obtain ⟨⟨t118, t119⟩, A140, H⟩ := H
          replace H : (if t113.toList = t116.toList then (if t114 = 0 then (if t118 = a0 then (if t119 = 0 then ((bursarlaw02_awake.f).bind fun t120 => (some t120)) else (none)) else (none)) else (none)) else (none)) = some r := H
          have A14 := Aside0.mk A140
          clear A140
          by_cases c15 : t113.toList = t116.toList
          · rw [if_pos c15] at H
            have c15b0 : (t113.toList == t116.toList) = true := beq_iff_eq.mpr c15
            have c15b1 : (t113.toList != t116.toList) = false := bne_eq_false_iff_eq.mpr c15
            clear c15
            by_cases c16 : t114 = 0
            · rw [if_pos c16] at H
              have c16b0 : (t114 == 0) = true := beq_iff_eq.mpr c16
              have c16b1 : (t114 != 0) = false := bne_eq_false_iff_eq.mpr c16
              clear c16
              by_cases c17 : t118 = a0
              · rw [if_pos c17] at H
                have c17b0 : (t118 == a0) = true := beq_iff_eq.mpr c17
                have c17b1 : (t118 != a0) = false := bne_eq_false_iff_eq.mpr c17
                clear c17
                by_cases c18 : t119 = 0
                · rw [if_pos c18] at H
                  have c18b0 : (t119 == 0) = true := beq_iff_eq.mpr c18
                  have c18b1 : (t119 != 0) = false := bne_eq_false_iff_eq.mpr c18
                  clear c18
                  replace H := Option.bind_eq_some_iff.mp H
                  obtain ⟨t120, A190, H⟩ := H
                  replace H : (some t120) = some r := H
                  have A19 := Aside0.mk A190
                  clear A190
                  obtain rfl := Option.some.inj H
                  go_wp2_with (first | ((with_reducible refine gate_callee (f := 10) rfl ?_); refine goesL_ (some 35) rfl rfl Tryd.func10 (by kernel_rfl) rfl #[.int .u64 a0, .int .i64 a1] rfl (by (try simp only [List.map_toArray, List.map_cons, List.map_nil]); first | done | rfl | (simp only [List.length_drop, List.length_take]; rfl)) ?_; (with_reducible refine (bursarref02_Put.calls kj3 a0 a1 t116 true _ A12.out).mono ?_); rintro e w20 ⟨rfl, hb⟩; refine ⟨_, rfl, ?_⟩; have n0_ := Aside0.mk (below_step (by repeat (first | (with_reducible first | exact HB.out | apply below_alloc | apply pw_below_drewN | apply below_drew1) | exact HB.out)) hb); clear HB; have HB := n0_; clear n0_; (try clear hb); (try clear hb2); (try clear hk); (try clear hi)) | ((with_reducible refine gate_callee (f := 11) rfl ?_); refine goesL_ (some 51) rfl rfl Tryd.func11 (by kernel_rfl) rfl #[.string t113] rfl (by (try simp only [List.map_toArray, List.map_cons, List.map_nil]); first | done | rfl | (simp only [List.length_drop, List.length_take]; rfl)) ?_; (with_reducible refine (digit_Get.calls t113 t118 t119 _ A14.out).mono ?_); rintro e w21 ⟨rfl, hb⟩; refine ⟨_, rfl, ?_⟩; have n0_ := Aside0.mk (below_step (by repeat (first | (with_reducible first | exact HB.out | apply below_alloc | apply pw_below_drewN | apply below_drew1) | exact HB.out)) hb); clear HB; have HB := n0_; clear n0_; (try clear hb); (try clear hb2); (try clear hk); (try clear hi)) | (go_at_call 9; (with_reducible refine (bursarlaw02_awake.calls  t120 _ A19.out).mono ?_); rintro e w22 ⟨rfl, hb⟩; have n0_ := Aside0.mk (below_step (by repeat (first | (with_reducible first | exact HB.out | apply below_alloc | apply pw_below_drewN | apply below_drew1) | exact HB.out)) hb); clear HB; have HB := n0_; clear n0_; (try clear hb); (try clear hb2); (try clear hk); (try clear hi)))
                  go_ret
                  exact ⟨by first | rfl | (simp [errW_none, errW_some] <;> rfl) | (simp [*, errW_none, errW_some] <;> rfl), by repeat (first | (with_reducible first | exact HB.out | apply below_alloc | apply pw_below_drewN | apply below_drew1) | exact HB.out)⟩
                · rw [if_neg c18] at H
                  exact absurd H (by simp)
              · rw [if_neg c17] at H
                exact absurd H (by simp)
            · rw [if_neg c16] at H
              exact absurd H (by simp)
          · rw [if_neg c15] at H
            exact absurd H (by simp)
        · replace c13 := Bool.eq_false_iff.mpr c13
          subst c13
          have H1 : (if t113.toList = ([] : List UInt8) then (if t114 = 2 then ((bursarlaw02_awake.f).bind fun t121 => (some t121)) else (none)) else (none)) = some r := by rw [if_neg (show ¬ (false = true) by decide)] at H; exact H
          clear H
          have H := H1
          clear H1
          by_cases c23 : t113.toList = ([] : List UInt8)
          · rw [if_pos c23] at H
            have c23b0 : (t113.toList == ([] : List UInt8)) = true := beq_iff_eq.mpr c23
            have c23b1 : (t113.toList != ([] : List UInt8)) = false := bne_eq_false_iff_eq.mpr c23
            clear c23
            by_cases c24 : t114 = 2
            · rw [if_pos c24] at H
              have c24b0 : (t114 == 2) = true := beq_iff_eq.mpr c24
              have c24b1 : (t114 != 2) = false := bne_eq_false_iff_eq.mpr c24
              clear c24
              replace H := Option.bind_eq_some_iff.mp H
              obtain ⟨t121, A250, H⟩ := H
              replace H : (some t121) = some r := H
              have A25 := Aside0.mk A250
              clear A250
              obtain rfl := Option.some.inj H
              go_wp2_with (first | ((with_reducible refine gate_callee (f := 10) rfl ?_); refine goesL_ (some 35) rfl rfl Tryd.func10 (by kernel_rfl) rfl #[.int .u64 a0, .int .i64 a1] rfl (by (try simp only [List.map_toArray, List.map_cons, List.map_nil]); first | done | rfl | (simp only [List.length_drop, List.length_take]; rfl)) ?_; (with_reducible refine (bursarref02_Put.calls kj3 a0 a1 t116 false _ A12.out).mono ?_); rintro e w26 ⟨rfl, hb⟩; refine ⟨_, rfl, ?_⟩; have n0_ := Aside0.mk (below_step (by repeat (first | (with_reducible first | exact HB.out | apply below_alloc | apply pw_below_drewN | apply below_drew1) | exact HB.out)) hb); clear HB; have HB := n0_; clear n0_; (try clear hb); (try clear hb2); (try clear hk); (try clear hi)) | (go_at_call 9; (with_reducible refine (bursarlaw02_awake.calls  t121 _ A25.out).mono ?_); rintro e w27 ⟨rfl, hb⟩; have n0_ := Aside0.mk (below_step (by repeat (first | (with_reducible first | exact HB.out | apply below_alloc | apply pw_below_drewN | apply below_drew1) | exact HB.out)) hb); clear HB; have HB := n0_; clear n0_; (try clear hb); (try clear hb2); (try clear hk); (try clear hi)))
              go_ret
              exact ⟨by first | rfl | (simp [errW_none, errW_some] <;> rfl) | (simp [*, errW_none, errW_some] <;> rfl), by repeat (first | (with_reducible first | exact HB.out | apply below_alloc | apply pw_below_drewN | apply below_drew1) | exact HB.out)⟩
            · rw [if_neg c24] at H
              exact absurd H (by simp)
          · rw [if_neg c23] at H
            exact absurd H (by simp)

/-- THE ONE PURE STATEMENT of bursarlaw02_DigitPuts: yours. -/
def bursarlaw02_DigitPuts.Pure : Prop := ∀ (a0 : Int) (a1 : Int), (Lit.int .u64 a0).wf = true → (Lit.int .i64 a1).wf = true → ∃ k, bursarlaw02_DigitPuts.f k a0 a1 = some true
theorem bursarlaw02_DigitPuts.walk (P : bursarlaw02_DigitPuts.Pure) (a0 : Int) (a1 : Int) (w : World) (w0 : (Lit.int .u64 a0).wf = true) (w1 : (Lit.int .i64 a1).wf = true) (HT : Fu.Tab w) :
    Calls Tryd.prog 3 #[.int .u64 a0, .int .i64 a1] w fun e w' => e = .returned (.bool true) ∧ Below w.heap.size w w' := by
  obtain ⟨k, h⟩ := P a0 a1 w0 w1
  refine (bursarlaw02_DigitPuts.calls k a0 a1 true w h HT).mono ?_
  rintro e w' ⟨rfl, hd⟩
  exact ⟨rfl, hd⟩

end Go.Proofs.YteghpaomggajdaaDoor.XP
