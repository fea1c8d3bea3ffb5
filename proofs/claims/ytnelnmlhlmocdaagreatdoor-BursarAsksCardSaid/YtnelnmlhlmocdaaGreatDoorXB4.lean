-- Written by wip/xprint.py, a session's program: printed out of the translation, with hand-written functions. Lean checks it.
import Derived.Test.YtnelnmlhlmocdaaGreatDoorXB0
import Derived.Test.YtnelnmlhlmocdaaGreatDoorXB3
namespace Go.Proofs.YtnelnmlhlmocdaaGreatDoor.XB
open Go.RowKit Go.Proofs.YtnelnmlhlmocdaaGreatDoorW.PrintWords Go.Proofs.YtnelnmlhlmocdaaGreatDoorW.PrintLast Go.Proofs.YtnelnmlhlmocdaaGreatDoorW.PrintMore
attribute [local go_sem] max2_int min2_int max_two min_two max_three min_three max_four min_four   -- for this text's walks alone
set_option linter.unusedVariables false
set_option linter.unusedSimpArgs false

/-! ### mti_bits: function 82 -/
def mti_bits.l0 : Nat → Int → List Bool → Int → Int → Option (Int)
  | 0, _, _, _, _ => none
  | k + 1, x3, x6, x7, x8 => if x8 < x7 then (if 0 ≤ x8 then (if x8 < (x6.length : Int) then (if rdOf false x6 x8 = true then (mti_bits.l0 k (Go.bits .or .i64 x3 (shl .i64 1 x8)) x6 x7 (wrap64 (x8 + 1))) else (mti_bits.l0 k x3 x6 x7 (wrap64 (x8 + 1)))) else (none)) else (none)) else (some x3)
def mti_bits.f (k : Nat) (l0 : List Bool) : Option (Int) := mti_bits.l0 k 0 l0 (l0.length : Int) 0
theorem mti_bits.mono_l : ∀ k, (∀ y0 y1 y2 y3, LeO (mti_bits.l0 k y0 y1 y2 y3) (mti_bits.l0 (k + 1) y0 y1 y2 y3))
  | 0 => fun _ _ _ _ r h => by simp [mti_bits.l0] at h
  | k + 1 => by
    have ih0 := mti_bits.mono_l k
    · intro y0 y1 y2 y3
      unfold mti_bits.l0
      repeat' first
      | (with_reducible exact ih0 _ _ _ _)
      | (with_reducible exact LeO.refl _)
      | (with_reducible exact LeO.none _)
      | (with_reducible refine LeO.ite ?_ ?_)
      | (with_reducible refine LeO.bind ?_ (fun _ => ?_))
      | exact ih0 _ _ _ _
      | exact LeO.none _
      | refine LeO.ite ?_ ?_
      | refine LeO.bind ?_ (fun _ => ?_)
theorem mti_bits.mono : ∀ a0 k, LeO (mti_bits.f k a0) (mti_bits.f (k + 1) a0) := by
  intro a0 k
  have ih0 := mti_bits.mono_l k
  unfold mti_bits.f
  repeat' first
      | (with_reducible exact ih0 _ _ _ _)
      | (with_reducible exact LeO.refl _)
      | (with_reducible exact LeO.none _)
      | (with_reducible refine LeO.ite ?_ ?_)
      | (with_reducible refine LeO.bind ?_ (fun _ => ?_))
      | exact ih0 _ _ _ _
      | exact LeO.none _
      | refine LeO.ite ?_ ?_
      | refine LeO.bind ?_ (fun _ => ?_)
set_option maxHeartbeats 8000000 in
set_option maxRecDepth 100000 in
theorem mti_bits.calls (k : Nat) (A0 : Option Addr) (c0 : Nat) (l0 : List Bool) (r : Int) (w : World) (hr0 : Kd.C Kd.bool w A0 l0.length l0) (hc0 : l0.length ≤ c0) (h : mti_bits.f k l0 = some r) :
    Calls Tryz.prog 82 #[.slice A0 l0.length c0] w fun e w' => e = .returned (.int .i64 r) ∧ Drawn0 w w' := by
  have HR0 := Aside0.mk hr0
  have HC0 := Aside0.mk hc0
  clear hr0 hc0
  have H : (mti_bits.l0 k 0 l0 (l0.length : Int) 0) = some r := h
  clear h
  have H' := Aside0.mk H
  clear H
  go_enter Tryz.func82, Tryz.ntmps82
  go_wp2
  go_loopg [3, 8] k (fun kq v3 v8 w' => ∃ (x3_1 : Int) (x8_1 : Int), v3 = .int .i64 x3_1 ∧ v8 = .int .i64 x8_1 ∧ Aside0 (mti_bits.l0 kq x3_1 l0 (l0.length : Int) x8_1 = some r) ∧ Aside0 (kq ≤ k) ∧ Drawn0 w w')
  case atStart => exact ⟨(0), (0), (by first | rfl | (simp; done) | (simp [*]; done) | (simp [Pu.bne_nil, Pu.beq_nil]; done)), (by first | rfl | (simp; done) | (simp [*]; done) | (simp [Pu.bne_nil, Pu.beq_nil]; done)), H', ⟨Nat.le_refl _⟩, by repeat (first | exact Drawn0.refl _ | apply Drawn0.step)⟩
  case round =>
    clear H'
    obtain ⟨x3_1, x8_1, rfl, rfl, HA, HK1, ⟨m1, rfl⟩⟩ := hrel
    cases gk with
    | zero => exact absurd HA.out (by simp [mti_bits.l0])
    | succ k1 =>
      have H := HA.out
      clear HA
      simp only [mti_bits.l0] at H
      by_cases c2 : x8_1 < (l0.length : Int)
      · rw [if_pos c2] at H
        have c2b0 : decide (x8_1 < (l0.length : Int)) = true := decide_eq_true c2
        clear c2
        by_cases c3 : 0 ≤ x8_1
        · rw [if_pos c3] at H
          have c3b0 : decide (0 ≤ x8_1) = true := decide_eq_true c3
          clear c3
          by_cases c4 : x8_1 < (l0.length : Int)
          · rw [if_pos c4] at H
            have c4b0 : decide (x8_1 < (l0.length : Int)) = true := decide_eq_true c4
            clear c4
            obtain ⟨bq5, hbq5⟩ : ∃ b_ : Bool, b_ = (rdOf false l0 x8_1) := ⟨_, rfl⟩
            replace H : (if bq5 = true then (mti_bits.l0 k1 (Go.bits .or .i64 x3_1 (shl .i64 1 x8_1)) l0 (l0.length : Int) (wrap64 (x8_1 + 1))) else (mti_bits.l0 k1 x3_1 l0 (l0.length : Int) (wrap64 (x8_1 + 1)))) = some r := by rw [← hbq5] at H; exact H
            have Nbq5 := Aside0.mk hbq5
            clear hbq5
            by_cases c6 : bq5 = true
            · subst c6
              have H1 : (mti_bits.l0 k1 (Go.bits .or .i64 x3_1 (shl .i64 1 x8_1)) l0 (l0.length : Int) (wrap64 (x8_1 + 1))) = some r := by rw [if_pos rfl] at H; exact H
              clear H
              have H := H1
              clear H1
              have c7b0 := eq_true (of_decide_eq_true (by first | (with_reducible assumption) | assumption) : 0 ≤ x8_1)
              obtain ⟨ji8, hji8⟩ : ∃ j_ : Int, (shl .i64 1 x8_1) = j_ := ⟨_, rfl⟩
              replace H : (mti_bits.l0 k1 (Go.bits .or .i64 x3_1 (ji8)) l0 (l0.length : Int) (wrap64 (x8_1 + 1))) = some r := by first | (rw [hji8] at H; exact H) | (simp only [hji8] at H ⊢; exact H)
              have hji8_ : (IntKind.i64.wrap (1 * 2 ^ min x8_1.toNat 64)) = ji8 := hji8
              have hji8z : x8_1 ≤ 64 → (IntKind.i64.wrap (1 * 2 ^ x8_1.toNat)) = ji8 := shl_small hji8
              have hji8u : (IntKind.i64.wrap (2 ^ min x8_1.toNat 64)) = ji8 := by have h_ := hji8_; rw [Int.one_mul] at h_; exact h_
              have hji8v : x8_1 ≤ 64 → (IntKind.i64.wrap (2 ^ x8_1.toNat)) = ji8 := fun hle_ => by have h_ := hji8z hle_; rw [Int.one_mul] at h_; exact h_
              have hji8y : (wrap64 (1 * 2 ^ min x8_1.toNat 64)) = ji8 := (i64_w _).symm.trans hji8_
              have hji8x : x8_1 ≤ 64 → (wrap64 (1 * 2 ^ x8_1.toNat)) = ji8 := fun h_ => (i64_w _).symm.trans (hji8z h_)
              have H' := Aside0.mk H
              clear H
              have p108 : 0 ≤ (x8_1 : Int) := of_decide_eq_true (by first | (with_reducible assumption) | assumption)
              have q108 : x8_1 < (l0.length : Int) := of_decide_eq_true (by first | (with_reducible assumption) | assumption)
              obtain ⟨ad108, e108, hx108_0⟩ := Kd.at_bool HR0.out x8_1 p108 q108
              (try rw [← Nbq5.out] at hx108_0)
              cases e108
              replace p108 := eq_true p108
              replace q108 := eq_true q108
              go_wp2
              go_roundg k1
              case measure => have := HK1.out; omega
              case rel => exact ⟨(Go.bits .or .i64 x3_1 (ji8)), (wrap64 (x8_1 + 1)), (by first | rfl | (simp; done) | (simp only [← hji8] <;> (first | rfl | simp)) | (simp [*]; done)), (by first | rfl | (simp; done) | (simp [*]; done) | (simp [Pu.bne_nil, Pu.beq_nil]; done)), H', ⟨by have := HK1.out; omega⟩, by repeat (first | exact Drawn0.refl _ | apply Drawn0.step)⟩
            · replace c6 := Bool.eq_false_iff.mpr c6
              subst c6
              have H1 : (mti_bits.l0 k1 x3_1 l0 (l0.length : Int) (wrap64 (x8_1 + 1))) = some r := by rw [if_neg (show ¬ (false = true) by decide)] at H; exact H
              clear H
              have H := H1
              clear H1
              have H' := Aside0.mk H
              clear H
              have p108 : 0 ≤ (x8_1 : Int) := of_decide_eq_true (by first | (with_reducible assumption) | assumption)
              have q108 : x8_1 < (l0.length : Int) := of_decide_eq_true (by first | (with_reducible assumption) | assumption)
              obtain ⟨ad108, e108, hx108_0⟩ := Kd.at_bool HR0.out x8_1 p108 q108
              (try rw [← Nbq5.out] at hx108_0)
              cases e108
              replace p108 := eq_true p108
              replace q108 := eq_true q108
              go_wp2
              go_roundg k1
              case measure => have := HK1.out; omega
              case rel => exact ⟨(x3_1), (wrap64 (x8_1 + 1)), (by first | rfl | (simp; done) | (simp [*]; done) | (simp [Pu.bne_nil, Pu.beq_nil]; done)), (by first | rfl | (simp; done) | (simp [*]; done) | (simp [Pu.bne_nil, Pu.beq_nil]; done)), H', ⟨by have := HK1.out; omega⟩, by repeat (first | exact Drawn0.refl _ | apply Drawn0.step)⟩
          · rw [if_neg c4] at H
            exact absurd H (by simp)
        · rw [if_neg c3] at H
          exact absurd H (by simp)
      · rw [if_neg c2] at H
        have c2b0 : decide (x8_1 < (l0.length : Int)) = false := decide_eq_false c2
        clear c2
        obtain rfl := Option.some.inj H
        go_wp2
        go_ret
        exact ⟨by first | rfl | (simp; done) | (simp [*]; done), by repeat (first | exact Drawn0.refl _ | apply Drawn0.step)⟩

/-! ### mti_text: function 54 -/
def mti_text.f (k : Nat) (a0_0 : Int) (a0_1 : Bool) (a0_2 : Bool) (a0_3 : Bool) : Option (ByteArray) := (mti_bits.f k (([a0_2, a0_1] : List Bool))).bind fun t113 => ((mti_bits.f k (([a0_3] : List Bool))).bind fun t117 => (some (strOfNums (([48, (wrap64 (48 + a0_0)) % 256, (wrap64 (48 + t113)) % 256, (wrap64 (48 + t117)) % 256] : List Int)))))
theorem mti_text.mono : ∀ a0 a1 a2 a3 k, LeO (mti_text.f k a0 a1 a2 a3) (mti_text.f (k + 1) a0 a1 a2 a3) := by
  intro a0 a1 a2 a3 k
  unfold mti_text.f
  repeat' first
      | (with_reducible exact mti_bits.mono _ _)
      | (with_reducible exact LeO.refl _)
      | (with_reducible exact LeO.none _)
      | (with_reducible refine LeO.ite ?_ ?_)
      | (with_reducible refine LeO.bind ?_ (fun _ => ?_))
      | exact mti_bits.mono _ _
      | exact LeO.none _
      | refine LeO.ite ?_ ?_
      | refine LeO.bind ?_ (fun _ => ?_)
def mti_text.T1 : Bool × List (List Nat × List Nat) := (true, [([], []), ([0], [0]), ([1], [1]), ([2], [2]), ([], []), ([4], [4]), ([], []), ([6], [6]), ([5, 7], [5, 7]), ([8], [8]), ([9], [9]), ([10], [10]), ([], []), ([12], [12]), ([13], [13]), ([14, 9], [14]), ([15], [15]), ([16], [16]), ([3, 11, 17], [3, 11, 17]), ([18], [18]), ([19, 15, 0, 1, 2, 3, 4, 5, 6, 7, 8, 9, 10, 11, 12, 13, 14, 15, 16, 17, 18, 19], [19])])
def mti_text.B1 : List Nat := [0, 1, 3, 7, 0, 16, 0, 64, 240, 496, 1008, 2032, 0, 4096, 12288, 29680, 62448, 127984, 262143, 524287, 1048575]
theorem mti_text.tab1 : rtab .any (opsOf Tryz.f54 1) = mti_text.T1 := by kernel_rfl
theorem mti_text.bits1 : waitsOk mti_text.T1.2 mti_text.B1 = true := by kernel_rfl
set_option maxHeartbeats 8000000 in
set_option maxRecDepth 100000 in
theorem mti_text.calls (k : Nat) (a0_0 : Int) (a0_1 : Bool) (a0_2 : Bool) (a0_3 : Bool) (r : ByteArray) (w : World) (h : mti_text.f k a0_0 a0_1 a0_2 a0_3 = some r) :
    Calls Tryz.prog 54 #[.agg #[.int .i64 a0_0, .bool a0_1, .bool a0_2, .bool a0_3]] w fun e w' => e = .returned (.string r) ∧ Below w.heap.size w w' := by
  have hu62 := Tryz.underlying62
  have HB := Aside0.mk (Below.refl w.heap.size w)
  have H : ((mti_bits.f k (([a0_2, a0_1] : List Bool))).bind fun t113 => ((mti_bits.f k (([a0_3] : List Bool))).bind fun t117 => (some (strOfNums (([48, (wrap64 (48 + a0_0)) % 256, (wrap64 (48 + t113)) % 256, (wrap64 (48 + t117)) % 256] : List Int)))))) = some r := h
  clear h
  obtain ⟨y110, hy110⟩ : ∃ y_ : List Bool, y_ = (([a0_2, a0_1] : List Bool)) := ⟨_, rfl⟩
  replace H : ((mti_bits.f k y110).bind fun t113 => ((mti_bits.f k (([a0_3] : List Bool))).bind fun t117 => (some (strOfNums (([48, (wrap64 (48 + a0_0)) % 256, (wrap64 (48 + t113)) % 256, (wrap64 (48 + t117)) % 256] : List Int)))))) = some r := by first | (rw [hy110]; with_reducible exact H) | (have H2_ := (Option.bind_some _ _).symm.trans H; rw [hy110]; with_reducible exact H2_) | (have H2_ := (Option.bind_some _ _).symm.trans H; with_reducible exact H2_) | with_reducible exact H | (rw [hy110]; exact H) | exact H
  have Ny110 := Aside0.mk hy110
  clear hy110
  replace H := Option.bind_eq_some_iff.mp H
  obtain ⟨t113, A20, H⟩ := H
  replace H : ((mti_bits.f k (([a0_3] : List Bool))).bind fun t117 => (some (strOfNums (([48, (wrap64 (48 + a0_0)) % 256, (wrap64 (48 + t113)) % 256, (wrap64 (48 + t117)) % 256] : List Int))))) = some r := H
  have A2 := Aside0.mk A20
  clear A20
  obtain ⟨y114, hy114⟩ : ∃ y_ : List Bool, y_ = (([a0_3] : List Bool)) := ⟨_, rfl⟩
  replace H : ((mti_bits.f k y114).bind fun t117 => (some (strOfNums (([48, (wrap64 (48 + a0_0)) % 256, (wrap64 (48 + t113)) % 256, (wrap64 (48 + t117)) % 256] : List Int))))) = some r := by first | (rw [hy114]; with_reducible exact H) | (have H2_ := (Option.bind_some _ _).symm.trans H; rw [hy114]; with_reducible exact H2_) | (have H2_ := (Option.bind_some _ _).symm.trans H; with_reducible exact H2_) | with_reducible exact H | (rw [hy114]; exact H) | exact H
  have Ny114 := Aside0.mk hy114
  clear hy114
  replace H := Option.bind_eq_some_iff.mp H
  obtain ⟨t117, A30, H⟩ := H
  replace H : (some (strOfNums (([48, (wrap64 (48 + a0_0)) % 256, (wrap64 (48 + t113)) % 256, (wrap64 (48 + t117)) % 256] : List Int)))) = some r := H
  have A3 := Aside0.mk A30
  clear A30
  obtain ⟨y118, hy118⟩ : ∃ y_ : List Int, y_ = (([48, (wrap64 (48 + a0_0)) % 256, (wrap64 (48 + t113)) % 256, (wrap64 (48 + t117)) % 256] : List Int)) := ⟨_, rfl⟩
  replace H : (some (strOfNums y118)) = some r := by first | (rw [hy118]; with_reducible exact H) | (have H2_ := (Option.bind_some _ _).symm.trans H; rw [hy118]; with_reducible exact H2_) | (have H2_ := (Option.bind_some _ _).symm.trans H; with_reducible exact H2_) | with_reducible exact H | (rw [hy118]; exact H) | exact H
  have Ny118 := Aside0.mk hy118
  clear hy118
  obtain rfl := Option.some.inj H
  go_enter Tryz.func54, Tryz.ntmps54
  try go_wp2_with (first | ((with_reducible refine gate_dst (N := 1) rfl ?_); refine box_event ?hg (N := 1) ?hd (cs := #[.int .i64 a0_0, .bool a0_1, .bool a0_2, .bool a0_3]) (t := 62) ?hr ?_; (case hd => rfl); (case hg => rfl); (case hr => first | (go_simp; done) | (go_simp; rfl)); intro gb109 hg w4 hbox hb; have n0_ := Aside0.mk (below_step (by repeat (first | (with_reducible first | exact HB.out | apply below_alloc | apply pw_below_drewN | apply below_drew1) | exact HB.out)) hb); have n1_ := Aside0.mk (hbox); have n2_ := Aside0.mk ((by rw [hg]; exact (below_size (by repeat (first | (with_reducible first | exact HB.out | apply below_alloc | apply pw_below_drewN | apply below_drew1) | exact HB.out))) : w.heap.size ≤ gb109)); have n3_ := Aside0.mk ((by rw [hg]; exact (below_size (by repeat (first | (with_reducible first | exact HB.out | apply below_alloc | apply pw_below_drewN | apply below_drew1) | exact HB.out))) : w.heap.size ≤ gb109)); clear HB; have HB := n0_; have BK109 := n1_; have GW109 := n2_; have GE109 := n3_; clear n0_ n1_ n2_ n3_; clear hb hbox hg))
  have n0_ := Aside0.mk (blk_drew BK109.out)
  have n1_ := Aside0.mk (below_drew1 HB.out)
  clear BK109
  clear HB
  have BK109 := n0_
  have HB := n1_
  clear n0_ n1_
  refine start_ (n := 21) (S := fun w' => w'.cell? ⟨gb109, 0, none⟩ = some (.int .i64 a0_0) ∧ w'.cell? ⟨gb109, 1, none⟩ = some (.bool a0_1) ∧ w'.cell? ⟨gb109, 2, none⟩ = some (.bool a0_2) ∧ w'.cell? ⟨gb109, 3, none⟩ = some (.bool a0_3)) (ds := []) #[false, false, false, false, false, false, false, false, false, false, false, false, false, false, false, false, false, false, false, false, false] (by kernel_rfl) rfl rfl ⟨(blk_cell BK109.out 0).trans rfl, (blk_cell BK109.out 1).trans rfl, (blk_cell BK109.out 2).trans rfl, (blk_cell BK109.out 3).trans rfl⟩ (fun hHeld => ?_); refine with_tabW mti_text.tab1 mti_text.bits1 (fun HT_ HW_ => ?_)
  generalize w4.drew = w5 at BK109 HB hHeld ⊢
  refine pure_ (i := 0) (N := some 3) (v := ?_) (a' := ?_) #[true, false, false, false, false, false, false, false, false, false, false, false, false, false, false, false, false, false, false, false, false] rfl rfl (any_of HT_.out (by kernel_rfl)) (fun _ _ _ h => h) (Or.inl ⟨by rfl, ?_⟩) ?_ ?_
  rotate_left
  · intro w'
    go_simp
    with_reducible rfl
  rotate_left
  · simp only [Act.put, List.setIfInBounds_toArray, List.set_cons_zero, List.set_cons_succ, i64_w, i32_w]
    rfl
  refine pure_ (i := 4) (N := some 7) (v := ?_) (a' := ?_) #[true, false, false, false, true, false, false, false, false, false, false, false, false, false, false, false, false, false, false, false, false] rfl rfl (any_of HT_.out (by kernel_rfl)) (fun _ _ _ h => h) (Or.inl ⟨by rfl, ?_⟩) ?_ ?_
  rotate_left
  · intro w'
    go_simp
    with_reducible rfl
  rotate_left
  · simp only [Act.put, List.setIfInBounds_toArray, List.set_cons_zero, List.set_cons_succ, i64_w, i32_w]
    rfl
  refine pure_ (i := 6) (N := some 9) (v := ?_) (a' := ?_) #[true, false, false, false, true, false, true, false, false, false, false, false, false, false, false, false, false, false, false, false, false] rfl rfl (any_of HT_.out (by kernel_rfl)) (fun _ _ _ h => h) (Or.inl ⟨by rfl, ?_⟩) ?_ ?_
  rotate_left
  · intro w'
    go_simp
    with_reducible rfl
  rotate_left
  · simp only [Act.put, List.setIfInBounds_toArray, List.set_cons_zero, List.set_cons_succ, i64_w, i32_w]
    rfl
  refine pure_ (i := 12) (N := some 15) (v := ?_) (a' := ?_) #[true, false, false, false, true, false, true, false, false, false, false, false, true, false, false, false, false, false, false, false, false] rfl rfl (any_of HT_.out (by kernel_rfl)) (fun _ _ _ h => h) (Or.inl ⟨by rfl, ?_⟩) ?_ ?_
  rotate_left
  · intro w'
    go_simp
    with_reducible rfl
  rotate_left
  · simp only [Act.put, List.setIfInBounds_toArray, List.set_cons_zero, List.set_cons_succ, i64_w, i32_w]
    rfl
  refine take_ (i := 1) (N := some 4) (v := ?_) (a' := ?_) #[true, true, false, false, true, false, true, false, false, false, false, false, true, false, false, false, false, false, false, false, false] rfl rfl (take_ofW HT_.out HW_.out (by kernel_rfl)) (fun _ _ _ h => h) (Or.inl ⟨by rfl, ?_⟩) hHeld ?_ ?_
  rotate_left
  · rintro w' ⟨s0, s1, s2, s3⟩
    go_simp
    with_reducible rfl
  rotate_left
  · simp only [Act.put, List.setIfInBounds_toArray, List.set_cons_zero, List.set_cons_succ, i64_w, i32_w]
    rfl
  refine pure_ (i := 2) (N := some 5) (v := ?_) (a' := ?_) #[true, true, true, false, true, false, true, false, false, false, false, false, true, false, false, false, false, false, false, false, false] rfl rfl (any_of HT_.out (by kernel_rfl)) (fun _ _ _ h => h) (Or.inl ⟨by rfl, ?_⟩) ?_ ?_
  rotate_left
  · intro w'
    go_simp
    with_reducible rfl
  rotate_left
  · simp only [Act.put, List.setIfInBounds_toArray, List.set_cons_zero, List.set_cons_succ, i64_w, i32_w]
    rfl
  refine pure_ (i := 3) (N := some 6) (v := ?_) (a' := ?_) #[true, true, true, true, true, false, true, false, false, false, false, false, true, false, false, false, false, false, false, false, false] rfl rfl (any_of HT_.out (by kernel_rfl)) (fun _ _ _ h => h) (Or.inl ⟨by rfl, ?_⟩) ?_ ?_
  rotate_left
  · intro w'
    go_simp
    with_reducible rfl
  rotate_left
  · simp only [Act.put, List.setIfInBounds_toArray, List.set_cons_zero, List.set_cons_succ, i64_w, i32_w]
    rfl
  refine take_ (i := 5) (N := some 8) (v := ?_) (a' := ?_) #[true, true, true, true, true, true, true, false, false, false, false, false, true, false, false, false, false, false, false, false, false] rfl rfl (take_ofW HT_.out HW_.out (by kernel_rfl)) (fun _ _ _ h => h) (Or.inl ⟨by rfl, ?_⟩) hHeld ?_ ?_
  rotate_left
  · rintro w' ⟨s0, s1, s2, s3⟩
    go_simp
    with_reducible rfl
  rotate_left
  · simp only [Act.put, List.setIfInBounds_toArray, List.set_cons_zero, List.set_cons_succ, i64_w, i32_w]
    rfl
  refine take_ (i := 7) (N := some 10) (v := ?_) (a' := ?_) #[true, true, true, true, true, true, true, true, false, false, false, false, true, false, false, false, false, false, false, false, false] rfl rfl (take_ofW HT_.out HW_.out (by kernel_rfl)) (fun _ _ _ h => h) (Or.inl ⟨by rfl, ?_⟩) hHeld ?_ ?_
  rotate_left
  · rintro w' ⟨s0, s1, s2, s3⟩
    go_simp
    with_reducible rfl
  rotate_left
  · simp only [Act.put, List.setIfInBounds_toArray, List.set_cons_zero, List.set_cons_succ, i64_w, i32_w]
    rfl
  refine take_ (i := 13) (N := some 16) (v := ?_) (a' := ?_) #[true, true, true, true, true, true, true, true, false, false, false, false, true, true, false, false, false, false, false, false, false] rfl rfl (take_ofW HT_.out HW_.out (by kernel_rfl)) (fun _ _ _ h => h) (Or.inl ⟨by rfl, ?_⟩) hHeld ?_ ?_
  rotate_left
  · rintro w' ⟨s0, s1, s2, s3⟩
    go_simp
    with_reducible rfl
  rotate_left
  · simp only [Act.put, List.setIfInBounds_toArray, List.set_cons_zero, List.set_cons_succ, i64_w, i32_w]
    rfl
  refine join_ (σ := Value × Value) 6 #[true, true, true, true, true, true, true, true, true, true, true, true, true, true, true, false, false, false, false, false, false] (fun s_ => [(11, s_.1), (12, .int .i64 t113), (17, s_.2), (13, .int .i64 (wrap64 (48 + t113))), (14, .int .u8 ((wrap64 (48 + t113)) % 256))]) (fun s_ w' => (w'.cell? ⟨gb109, 0, none⟩ = some (.int .i64 a0_0) ∧ w'.cell? ⟨gb109, 1, none⟩ = some (.bool a0_1) ∧ w'.cell? ⟨gb109, 2, none⟩ = some (.bool a0_2) ∧ w'.cell? ⟨gb109, 3, none⟩ = some (.bool a0_3)) ∧ (Kd.R Kd.bool 4 w' w.heap.size (fun k_ => some k_ ≠ (s_.2 : Value).ownBlock) s_.1 y110) ∧ (Kd.R Kd.bool 4 w' w.heap.size (fun k_ => some k_ ≠ (s_.1 : Value).ownBlock) s_.2 y114) ∧ (w'.heap[gb109]? = some (.cells #[.int .i64 a0_0, .bool a0_1, .bool a0_2, .bool a0_3] 62 (0, 0))) ∧ (Below w.heap.size w w')) ?_ ?_
  rotate_left
  · intro hCont
    refine two_ (i := 8) (j := 14) (Ni := some 11) (Nj := some 17) #[true, true, true, true, true, true, true, true, true, false, false, false, true, true, false, false, false, false, false, false, false] #[true, true, true, true, true, true, true, true, false, false, false, false, true, true, true, false, false, false, false, false, false] rfl rfl rfl rfl (two_of HT_.out (by kernel_rfl)) (by decide) (by decide) (fun K hK => ?_) (fun K hK => ?_)
    · skip
      refine Kd.R_lit_step Kd.bool _ 4 ?hg (N := 11) ?hd (xs := ([a0_2, a0_1] : List Bool)) (inner := [.bool a0_2, .bool a0_1]) (ok := fun _ => True) (okp := fun _ => True) ?hr ?hp (fun _ hk => hk) trivial (Below.refl _ _) (Nat.le_refl _) (by simp) ?_; (case hd => rfl); (case hg => rfl); (case hr => first | (go_simp; done) | (go_simp; rfl)); (case hp => exact (Reps.one (show Kd.M Kd.bool _ _ _ a0_2 [.bool a0_2] from rfl) (Reps.one (show Kd.M Kd.bool _ _ _ a0_1 [.bool a0_1] from rfl) (Reps.none _ _))))
      intro v111 w6 ho7 hb hg_ hnew_
      clear hg_ hnew_
      (first | rw [← Ny110.out] at ho7 | (simp only [Int.reduceToNat] at ho7; rw [← Ny110.out] at ho7))
      have n0_ := Aside0.mk (Kd.R_lower ho7 (below_size (by repeat (first | (with_reducible first | exact HB.out | apply below_alloc | apply pw_below_drewN | apply below_drew1 | refine below_set ?_ GE109.out) | exact HB.out))))
      have n1_ := Aside0.mk (blk_below (g := gb109) (o := .cells #[.int .i64 a0_0, .bool a0_1, .bool a0_2, .bool a0_3] 62 (0, 0)) (by (with_reducible repeat (first | refine blk_drewN ?_ _ | refine blk_drew ?_ | refine blk_alloc ?_ _)); exact BK109.out) hb)
      have n2_ := Aside0.mk (below_step (by repeat (first | (with_reducible first | exact HB.out | apply below_alloc | apply pw_below_drewN | apply below_drew1 | refine below_set ?_ GE109.out) | exact HB.out)) hb)
      clear BK109
      clear HB
      have HO112 := n0_
      have BK109 := n1_
      have HB := n2_
      clear n0_ n1_ n2_
      clear hb ho7
      obtain ⟨Ao8, co8, eo8⟩ := Kd.R_slice HO112.out
      (first | subst eo8 | (injection eo8 with f1_ f2_ f3_; have f4_ := f1_.symm; have f5_ := f3_.symm; clear f1_ f2_ f3_; subst f4_; subst f5_))
      refine hK.out _ _ ⟨(blk_cell BK109.out 0).trans rfl, (blk_cell BK109.out 1).trans rfl, (blk_cell BK109.out 2).trans rfl, (blk_cell BK109.out 3).trans rfl⟩ (fun hHeld => ?_)
      clear hK K
      refine norm_ (a' := ?_) ?_ ?_
      rotate_left
      · show Act.put _ (some 11) _ = _
        simp only [Act.put, List.setIfInBounds_toArray, List.set_cons_zero, List.set_cons_succ, i64_w, i32_w]
        rfl
      refine two_ (i := 9) (j := 14) (Ni := some 12) (Nj := some 17) #[true, true, true, true, true, true, true, true, true, true, false, false, true, true, false, false, false, false, false, false, false] #[true, true, true, true, true, true, true, true, true, false, false, false, true, true, true, false, false, false, false, false, false] rfl rfl rfl rfl (two_of HT_.out (by kernel_rfl)) (by decide) (by decide) (fun K hK => ?_) (fun K hK => ?_)
      · skip
        refine goes_ Tryz.func82 (by kernel_rfl) rfl #[.slice Ao8 y110.length co8] (by rfl) rfl rfl (by (try simp only [List.map_toArray, List.map_cons, List.map_nil]); first | done | rfl | (simp only [List.length_drop, List.length_take]; rfl)) ?_
        with_reducible refine (mti_bits.calls k _ _ y110 t113 _ ?side1 ?side2 A2.out).mono ?_
        (case side1 => repeat (first | exact (Kd.R_reads' HO112.out).2.2 | (with_reducible refine Kd.C_alloc ?_ _) | (with_reducible refine Kd.C_drewN ?_ _) | (with_reducible refine Kd.C_drew ?_)))
        (case side2 => exact (Kd.R_reads' HO112.out).2.1)
        rintro e w' ⟨rfl, ⟨nd, rfl⟩⟩
        refine ⟨_, rfl, ?_⟩
        refine hK.out _ _ ⟨(blk_cell BK109.out 0).trans rfl, (blk_cell BK109.out 1).trans rfl, (blk_cell BK109.out 2).trans rfl, (blk_cell BK109.out 3).trans rfl⟩ (fun hHeld => ?_)
        clear hK K
        refine norm_ (a' := ?_) ?_ ?_
        rotate_left
        · show Act.put _ (some 12) _ = _
          simp only [Act.put, List.setIfInBounds_toArray, List.set_cons_zero, List.set_cons_succ, i64_w, i32_w]
          rfl
        refine pure_ (i := 10) (N := some 13) (v := ?_) (a' := ?_) #[true, true, true, true, true, true, true, true, true, true, true, false, true, true, false, false, false, false, false, false, false] rfl rfl (any_of HT_.out (by kernel_rfl)) (fun _ _ _ h => h) (Or.inl ⟨by rfl, ?_⟩) ?_ ?_
        rotate_left
        · intro w'
          go_simp
          with_reducible rfl
        rotate_left
        · simp only [Act.put, List.setIfInBounds_toArray, List.set_cons_zero, List.set_cons_succ, i64_w, i32_w]
          rfl
        refine pure_ (i := 11) (N := some 14) (v := ?_) (a' := ?_) #[true, true, true, true, true, true, true, true, true, true, true, true, true, true, false, false, false, false, false, false, false] rfl rfl (any_of HT_.out (by kernel_rfl)) (fun _ _ _ h => h) (Or.inl ⟨by rfl, ?_⟩) ?_ ?_
        rotate_left
        · intro w'
          go_simp
          with_reducible rfl
        rotate_left
        · simp only [Act.put, List.setIfInBounds_toArray, List.set_cons_zero, List.set_cons_succ, i64_w, i32_w]
          rfl
        refine one_ (i := 14) (N := some 17) #[true, true, true, true, true, true, true, true, true, true, true, true, true, true, true, false, false, false, false, false, false] rfl rfl (one_of HT_.out (by kernel_rfl)) (by decide) (fun K hK => ?_)
        refine Kd.R_lit_step Kd.bool _ 4 ?hg (N := 17) ?hd (xs := ([a0_3] : List Bool)) (inner := [.bool a0_3]) (ok := fun _ => True) (okp := fun _ => True) ?hr ?hp (fun _ hk => hk) trivial (Below.refl _ _) (Nat.le_refl _) (by simp) ?_; (case hd => rfl); (case hg => rfl); (case hr => first | (go_simp; done) | (go_simp; rfl)); (case hp => exact (Reps.one (show Kd.M Kd.bool _ _ _ a0_3 [.bool a0_3] from rfl) (Reps.none _ _)))
        intro v115 w9 ho10 hb hg_ hnew_
        clear hg_ hnew_
        (first | rw [← Ny114.out] at ho10 | (simp only [Int.reduceToNat] at ho10; rw [← Ny114.out] at ho10))
        have n0_ := Aside0.mk (Kd.R_elder' (by (with_reducible repeat (first | apply Kd.R_alloc | apply Kd.R_drewN | apply Kd.R_drew)); exact HO112.out) (Kd.R_base ho10) hb)
        have n1_ := Aside0.mk (Kd.R_lower (Kd.R_new' ho10 (Kd.R_lt (by (with_reducible repeat (first | apply Kd.R_alloc | apply Kd.R_drewN | apply Kd.R_drew)); exact HO112.out))) (below_size (by repeat (first | (with_reducible first | exact HB.out | apply below_alloc | apply pw_below_drewN | apply below_drew1 | refine below_set ?_ GE109.out) | exact HB.out))))
        have n2_ := Aside0.mk (blk_below (g := gb109) (o := .cells #[.int .i64 a0_0, .bool a0_1, .bool a0_2, .bool a0_3] 62 (0, 0)) (by (with_reducible repeat (first | refine blk_drewN ?_ _ | refine blk_drew ?_ | refine blk_alloc ?_ _)); exact BK109.out) hb)
        have n3_ := Aside0.mk (below_step (by repeat (first | (with_reducible first | exact HB.out | apply below_alloc | apply pw_below_drewN | apply below_drew1 | refine below_set ?_ GE109.out) | exact HB.out)) hb)
        clear HO112
        clear BK109
        clear HB
        have HO112 := n0_
        have HO116 := n1_
        have BK109 := n2_
        have HB := n3_
        clear n0_ n1_ n2_ n3_
        clear hb ho10
        refine hK.out _ _ ⟨(blk_cell BK109.out 0).trans rfl, (blk_cell BK109.out 1).trans rfl, (blk_cell BK109.out 2).trans rfl, (blk_cell BK109.out 3).trans rfl⟩ (fun hHeld => ?_)
        clear hK K
        refine norm_ (a' := ?_) ?_ ?_
        rotate_left
        · show Act.put _ (some 17) _ = _
          simp only [Act.put, List.setIfInBounds_toArray, List.set_cons_zero, List.set_cons_succ, i64_w, i32_w]
          rfl
        exact norm_ (by first | (simp only [putAll, Act.put, List.setIfInBounds_toArray, List.set_cons_zero, List.set_cons_succ]; done) | (simp only [putAll, Act.put, List.setIfInBounds_toArray, List.set_cons_zero, List.set_cons_succ, IntKind.wrap_u8]; done)) (hCont (.slice Ao8 y110.length co8, v115) _ ⟨hHeld, (by (with_reducible repeat (first | apply Kd.R_alloc | apply Kd.R_drewN | apply Kd.R_drew)); exact Kd.R_mono HO112.out (fun _ hk => hk.2)), (by (with_reducible repeat (first | apply Kd.R_alloc | apply Kd.R_drewN | apply Kd.R_drew)); exact Kd.R_mono HO116.out (fun _ hk => hk.2)), (by (with_reducible repeat (first | refine blk_drewN ?_ _ | refine blk_drew ?_ | refine blk_alloc ?_ _)); exact BK109.out), (by repeat (first | (with_reducible first | exact HB.out | apply below_alloc | apply pw_below_drewN | apply below_drew1 | refine below_set ?_ GE109.out) | exact HB.out))⟩)
      · skip
        refine Kd.R_lit_step Kd.bool _ 4 ?hg (N := 17) ?hd (xs := ([a0_3] : List Bool)) (inner := [.bool a0_3]) (ok := fun _ => True) (okp := fun _ => True) ?hr ?hp (fun _ hk => hk) trivial (Below.refl _ _) (Nat.le_refl _) (by simp) ?_; (case hd => rfl); (case hg => rfl); (case hr => first | (go_simp; done) | (go_simp; rfl)); (case hp => exact (Reps.one (show Kd.M Kd.bool _ _ _ a0_3 [.bool a0_3] from rfl) (Reps.none _ _)))
        intro v115 w8 ho9 hb hg_ hnew_
        clear hg_ hnew_
        (first | rw [← Ny114.out] at ho9 | (simp only [Int.reduceToNat] at ho9; rw [← Ny114.out] at ho9))
        have n0_ := Aside0.mk (Kd.R_elder' (by (with_reducible repeat (first | apply Kd.R_alloc | apply Kd.R_drewN | apply Kd.R_drew)); exact HO112.out) (Kd.R_base ho9) hb)
        have n1_ := Aside0.mk (Kd.R_lower (Kd.R_new' ho9 (Kd.R_lt (by (with_reducible repeat (first | apply Kd.R_alloc | apply Kd.R_drewN | apply Kd.R_drew)); exact HO112.out))) (below_size (by repeat (first | (with_reducible first | exact HB.out | apply below_alloc | apply pw_below_drewN | apply below_drew1 | refine below_set ?_ GE109.out) | exact HB.out))))
        have n2_ := Aside0.mk (blk_below (g := gb109) (o := .cells #[.int .i64 a0_0, .bool a0_1, .bool a0_2, .bool a0_3] 62 (0, 0)) (by (with_reducible repeat (first | refine blk_drewN ?_ _ | refine blk_drew ?_ | refine blk_alloc ?_ _)); exact BK109.out) hb)
        have n3_ := Aside0.mk (below_step (by repeat (first | (with_reducible first | exact HB.out | apply below_alloc | apply pw_below_drewN | apply below_drew1 | refine below_set ?_ GE109.out) | exact HB.out)) hb)
        clear HO112
        clear BK109
        clear HB
        have HO112 := n0_
        have HO116 := n1_
        have BK109 := n2_
        have HB := n3_
        clear n0_ n1_ n2_ n3_
        clear hb ho9
        obtain ⟨Ao10, co10, eo10⟩ := Kd.R_slice HO112.out
        (first | subst eo10 | (injection eo10 with f1_ f2_ f3_; have f4_ := f1_.symm; have f5_ := f3_.symm; clear f1_ f2_ f3_; subst f4_; subst f5_))
        refine hK.out _ _ ⟨(blk_cell BK109.out 0).trans rfl, (blk_cell BK109.out 1).trans rfl, (blk_cell BK109.out 2).trans rfl, (blk_cell BK109.out 3).trans rfl⟩ (fun hHeld => ?_)
        clear hK K
        refine norm_ (a' := ?_) ?_ ?_
        rotate_left
        · show Act.put _ (some 17) _ = _
          simp only [Act.put, List.setIfInBounds_toArray, List.set_cons_zero, List.set_cons_succ, i64_w, i32_w]
          rfl
        refine one_ (i := 9) (N := some 12) #[true, true, true, true, true, true, true, true, true, true, false, false, true, true, true, false, false, false, false, false, false] rfl rfl (one_of HT_.out (by kernel_rfl)) (by decide) (fun K hK => ?_)
        refine goes_ Tryz.func82 (by kernel_rfl) rfl #[.slice Ao10 y110.length co10] (by rfl) rfl rfl (by (try simp only [List.map_toArray, List.map_cons, List.map_nil]); first | done | rfl | (simp only [List.length_drop, List.length_take]; rfl)) ?_
        with_reducible refine (mti_bits.calls k _ _ y110 t113 _ ?side1 ?side2 A2.out).mono ?_
        (case side1 => repeat (first | exact (Kd.R_reads' HO112.out).2.2 | (with_reducible refine Kd.C_alloc ?_ _) | (with_reducible refine Kd.C_drewN ?_ _) | (with_reducible refine Kd.C_drew ?_)))
        (case side2 => exact (Kd.R_reads' HO112.out).2.1)
        rintro e w' ⟨rfl, ⟨nd, rfl⟩⟩
        refine ⟨_, rfl, ?_⟩
        refine hK.out _ _ ⟨(blk_cell BK109.out 0).trans rfl, (blk_cell BK109.out 1).trans rfl, (blk_cell BK109.out 2).trans rfl, (blk_cell BK109.out 3).trans rfl⟩ (fun hHeld => ?_)
        clear hK K
        refine norm_ (a' := ?_) ?_ ?_
        rotate_left
        · show Act.put _ (some 12) _ = _
          simp only [Act.put, List.setIfInBounds_toArray, List.set_cons_zero, List.set_cons_succ, i64_w, i32_w]
          rfl
        refine pure_ (i := 10) (N := some 13) (v := ?_) (a' := ?_) #[true, true, true, true, true, true, true, true, true, true, true, false, true, true, true, false, false, false, false, false, false] rfl rfl (any_of HT_.out (by kernel_rfl)) (fun _ _ _ h => h) (Or.inl ⟨by rfl, ?_⟩) ?_ ?_
        rotate_left
        · intro w'
          go_simp
          with_reducible rfl
        rotate_left
        · simp only [Act.put, List.setIfInBounds_toArray, List.set_cons_zero, List.set_cons_succ, i64_w, i32_w]
          rfl
        refine pure_ (i := 11) (N := some 14) (v := ?_) (a' := ?_) #[true, true, true, true, true, true, true, true, true, true, true, true, true, true, true, false, false, false, false, false, false] rfl rfl (any_of HT_.out (by kernel_rfl)) (fun _ _ _ h => h) (Or.inl ⟨by rfl, ?_⟩) ?_ ?_
        rotate_left
        · intro w'
          go_simp
          with_reducible rfl
        rotate_left
        · simp only [Act.put, List.setIfInBounds_toArray, List.set_cons_zero, List.set_cons_succ, i64_w, i32_w]
          rfl
        exact norm_ (by first | (simp only [putAll, Act.put, List.setIfInBounds_toArray, List.set_cons_zero, List.set_cons_succ]; done) | (simp only [putAll, Act.put, List.setIfInBounds_toArray, List.set_cons_zero, List.set_cons_succ, IntKind.wrap_u8]; done)) (hCont (.slice Ao10 y110.length co10, v115) _ ⟨hHeld, (by (with_reducible repeat (first | apply Kd.R_alloc | apply Kd.R_drewN | apply Kd.R_drew)); exact Kd.R_mono HO112.out (fun _ hk => hk.2)), (by (with_reducible repeat (first | apply Kd.R_alloc | apply Kd.R_drewN | apply Kd.R_drew)); exact Kd.R_mono HO116.out (fun _ hk => hk.2)), (by (with_reducible repeat (first | refine blk_drewN ?_ _ | refine blk_drew ?_ | refine blk_alloc ?_ _)); exact BK109.out), (by repeat (first | (with_reducible first | exact HB.out | apply below_alloc | apply pw_below_drewN | apply below_drew1 | refine below_set ?_ GE109.out) | exact HB.out))⟩)
    · skip
      refine Kd.R_lit_step Kd.bool _ 4 ?hg (N := 17) ?hd (xs := ([a0_3] : List Bool)) (inner := [.bool a0_3]) (ok := fun _ => True) (okp := fun _ => True) ?hr ?hp (fun _ hk => hk) trivial (Below.refl _ _) (Nat.le_refl _) (by simp) ?_; (case hd => rfl); (case hg => rfl); (case hr => first | (go_simp; done) | (go_simp; rfl)); (case hp => exact (Reps.one (show Kd.M Kd.bool _ _ _ a0_3 [.bool a0_3] from rfl) (Reps.none _ _)))
      intro v115 w6 ho7 hb hg_ hnew_
      clear hg_ hnew_
      (first | rw [← Ny114.out] at ho7 | (simp only [Int.reduceToNat] at ho7; rw [← Ny114.out] at ho7))
      have n0_ := Aside0.mk (Kd.R_lower ho7 (below_size (by repeat (first | (with_reducible first | exact HB.out | apply below_alloc | apply pw_below_drewN | apply below_drew1 | refine below_set ?_ GE109.out) | exact HB.out))))
      have n1_ := Aside0.mk (blk_below (g := gb109) (o := .cells #[.int .i64 a0_0, .bool a0_1, .bool a0_2, .bool a0_3] 62 (0, 0)) (by (with_reducible repeat (first | refine blk_drewN ?_ _ | refine blk_drew ?_ | refine blk_alloc ?_ _)); exact BK109.out) hb)
      have n2_ := Aside0.mk (below_step (by repeat (first | (with_reducible first | exact HB.out | apply below_alloc | apply pw_below_drewN | apply below_drew1 | refine below_set ?_ GE109.out) | exact HB.out)) hb)
      clear BK109
      clear HB
      have HO116 := n0_
      have BK109 := n1_
      have HB := n2_
      clear n0_ n1_ n2_
      clear hb ho7
      refine hK.out _ _ ⟨(blk_cell BK109.out 0).trans rfl, (blk_cell BK109.out 1).trans rfl, (blk_cell BK109.out 2).trans rfl, (blk_cell BK109.out 3).trans rfl⟩ (fun hHeld => ?_)
      clear hK K
      refine norm_ (a' := ?_) ?_ ?_
      rotate_left
      · show Act.put _ (some 17) _ = _
        simp only [Act.put, List.setIfInBounds_toArray, List.set_cons_zero, List.set_cons_succ, i64_w, i32_w]
        rfl
      refine one_ (i := 8) (N := some 11) #[true, true, true, true, true, true, true, true, true, false, false, false, true, true, true, false, false, false, false, false, false] rfl rfl (one_of HT_.out (by kernel_rfl)) (by decide) (fun K hK => ?_)
      refine Kd.R_lit_step Kd.bool _ 4 ?hg (N := 11) ?hd (xs := ([a0_2, a0_1] : List Bool)) (inner := [.bool a0_2, .bool a0_1]) (ok := fun _ => True) (okp := fun _ => True) ?hr ?hp (fun _ hk => hk) trivial (Below.refl _ _) (Nat.le_refl _) (by simp) ?_; (case hd => rfl); (case hg => rfl); (case hr => first | (go_simp; done) | (go_simp; rfl)); (case hp => exact (Reps.one (show Kd.M Kd.bool _ _ _ a0_2 [.bool a0_2] from rfl) (Reps.one (show Kd.M Kd.bool _ _ _ a0_1 [.bool a0_1] from rfl) (Reps.none _ _))))
      intro v111 w8 ho9 hb hg_ hnew_
      clear hg_ hnew_
      (first | rw [← Ny110.out] at ho9 | (simp only [Int.reduceToNat] at ho9; rw [← Ny110.out] at ho9))
      have n0_ := Aside0.mk (Kd.R_elder' (by (with_reducible repeat (first | apply Kd.R_alloc | apply Kd.R_drewN | apply Kd.R_drew)); exact HO116.out) (Kd.R_base ho9) hb)
      have n1_ := Aside0.mk (Kd.R_lower (Kd.R_new' ho9 (Kd.R_lt (by (with_reducible repeat (first | apply Kd.R_alloc | apply Kd.R_drewN | apply Kd.R_drew)); exact HO116.out))) (below_size (by repeat (first | (with_reducible first | exact HB.out | apply below_alloc | apply pw_below_drewN | apply below_drew1 | refine below_set ?_ GE109.out) | exact HB.out))))
      have n2_ := Aside0.mk (blk_below (g := gb109) (o := .cells #[.int .i64 a0_0, .bool a0_1, .bool a0_2, .bool a0_3] 62 (0, 0)) (by (with_reducible repeat (first | refine blk_drewN ?_ _ | refine blk_drew ?_ | refine blk_alloc ?_ _)); exact BK109.out) hb)
      have n3_ := Aside0.mk (below_step (by repeat (first | (with_reducible first | exact HB.out | apply below_alloc | apply pw_below_drewN | apply below_drew1 | refine below_set ?_ GE109.out) | exact HB.out)) hb)
      clear HO116
      clear BK109
      clear HB
      have HO116 := n0_
      have HO112 := n1_
      have BK109 := n2_
      have HB := n3_
      clear n0_ n1_ n2_ n3_
      clear hb ho9
      obtain ⟨Ao10, co10, eo10⟩ := Kd.R_slice HO112.out
      (first | subst eo10 | (injection eo10 with f1_ f2_ f3_; have f4_ := f1_.symm; have f5_ := f3_.symm; clear f1_ f2_ f3_; subst f4_; subst f5_))
      refine hK.out _ _ ⟨(blk_cell BK109.out 0).trans rfl, (blk_cell BK109.out 1).trans rfl, (blk_cell BK109.out 2).trans rfl, (blk_cell BK109.out 3).trans rfl⟩ (fun hHeld => ?_)
      clear hK K
      refine norm_ (a' := ?_) ?_ ?_
      rotate_left
      · show Act.put _ (some 11) _ = _
        simp only [Act.put, List.setIfInBounds_toArray, List.set_cons_zero, List.set_cons_succ, i64_w, i32_w]
        rfl
      refine one_ (i := 9) (N := some 12) #[true, true, true, true, true, true, true, true, true, true, false, false, true, true, true, false, false, false, false, false, false] rfl rfl (one_of HT_.out (by kernel_rfl)) (by decide) (fun K hK => ?_)
      refine goes_ Tryz.func82 (by kernel_rfl) rfl #[.slice Ao10 y110.length co10] (by rfl) rfl rfl (by (try simp only [List.map_toArray, List.map_cons, List.map_nil]); first | done | rfl | (simp only [List.length_drop, List.length_take]; rfl)) ?_
      with_reducible refine (mti_bits.calls k _ _ y110 t113 _ ?side1 ?side2 A2.out).mono ?_
      (case side1 => repeat (first | exact (Kd.R_reads' HO112.out).2.2 | (with_reducible refine Kd.C_alloc ?_ _) | (with_reducible refine Kd.C_drewN ?_ _) | (with_reducible refine Kd.C_drew ?_)))
      (case side2 => exact (Kd.R_reads' HO112.out).2.1)
      rintro e w' ⟨rfl, ⟨nd, rfl⟩⟩
      refine ⟨_, rfl, ?_⟩
      refine hK.out _ _ ⟨(blk_cell BK109.out 0).trans rfl, (blk_cell BK109.out 1).trans rfl, (blk_cell BK109.out 2).trans rfl, (blk_cell BK109.out 3).trans rfl⟩ (fun hHeld => ?_)
      clear hK K
      refine norm_ (a' := ?_) ?_ ?_
      rotate_left
      · show Act.put _ (some 12) _ = _
        simp only [Act.put, List.setIfInBounds_toArray, List.set_cons_zero, List.set_cons_succ, i64_w, i32_w]
        rfl
      refine pure_ (i := 10) (N := some 13) (v := ?_) (a' := ?_) #[true, true, true, true, true, true, true, true, true, true, true, false, true, true, true, false, false, false, false, false, false] rfl rfl (any_of HT_.out (by kernel_rfl)) (fun _ _ _ h => h) (Or.inl ⟨by rfl, ?_⟩) ?_ ?_
      rotate_left
      · intro w'
        go_simp
        with_reducible rfl
      rotate_left
      · simp only [Act.put, List.setIfInBounds_toArray, List.set_cons_zero, List.set_cons_succ, i64_w, i32_w]
        rfl
      refine pure_ (i := 11) (N := some 14) (v := ?_) (a' := ?_) #[true, true, true, true, true, true, true, true, true, true, true, true, true, true, true, false, false, false, false, false, false] rfl rfl (any_of HT_.out (by kernel_rfl)) (fun _ _ _ h => h) (Or.inl ⟨by rfl, ?_⟩) ?_ ?_
      rotate_left
      · intro w'
        go_simp
        with_reducible rfl
      rotate_left
      · simp only [Act.put, List.setIfInBounds_toArray, List.set_cons_zero, List.set_cons_succ, i64_w, i32_w]
        rfl
      exact norm_ (by first | (simp only [putAll, Act.put, List.setIfInBounds_toArray, List.set_cons_zero, List.set_cons_succ]; done) | (simp only [putAll, Act.put, List.setIfInBounds_toArray, List.set_cons_zero, List.set_cons_succ, IntKind.wrap_u8]; done)) (hCont (.slice Ao10 y110.length co10, v115) _ ⟨hHeld, (by (with_reducible repeat (first | apply Kd.R_alloc | apply Kd.R_drewN | apply Kd.R_drew)); exact Kd.R_mono HO112.out (fun _ hk => hk.2)), (by (with_reducible repeat (first | apply Kd.R_alloc | apply Kd.R_drewN | apply Kd.R_drew)); exact Kd.R_mono HO116.out (fun _ hk => hk.2)), (by (with_reducible repeat (first | refine blk_drewN ?_ _ | refine blk_drew ?_ | refine blk_alloc ?_ _)); exact BK109.out), (by repeat (first | (with_reducible first | exact HB.out | apply below_alloc | apply pw_below_drewN | apply below_drew1 | refine below_set ?_ GE109.out) | exact HB.out))⟩)
  rintro ⟨v111, v115⟩ w11 ⟨hS_, h0_, h1_, h2_, h3_⟩
  have n0_ : Aside0 (Kd.R Kd.bool 4 w11 w.heap.size (fun k_ => some k_ ≠ (v115 : Value).ownBlock) v111 y110) := ⟨h0_⟩
  have n1_ : Aside0 (Kd.R Kd.bool 4 w11 w.heap.size (fun k_ => some k_ ≠ (v111 : Value).ownBlock) v115 y114) := ⟨h1_⟩
  have n2_ : Aside0 (w11.heap[gb109]? = some (.cells #[.int .i64 a0_0, .bool a0_1, .bool a0_2, .bool a0_3] 62 (0, 0))) := ⟨h2_⟩
  have n3_ : Aside0 (Below w.heap.size w w11) := ⟨h3_⟩
  clear BK109
  clear HB
  clear h0_ h1_ h2_ h3_
  have HO112 := n0_
  have HO116 := n1_
  have BK109 := n2_
  have HB := n3_
  clear n0_ n1_ n2_ n3_
  have hHeld : w11.cell? ⟨gb109, 0, none⟩ = some (.int .i64 a0_0) ∧ w11.cell? ⟨gb109, 1, none⟩ = some (.bool a0_1) ∧ w11.cell? ⟨gb109, 2, none⟩ = some (.bool a0_2) ∧ w11.cell? ⟨gb109, 3, none⟩ = some (.bool a0_3) := hS_
  obtain ⟨Ao12, co12, eo12⟩ := Kd.R_slice HO116.out
  (first | subst eo12 | (injection eo12 with f1_ f2_ f3_; have f4_ := f1_.symm; have f5_ := f3_.symm; clear f1_ f2_ f3_; subst f4_; subst f5_))
  refine norm_ (a' := ?_) ?_ ?_
  rotate_left
  · simp only [putAll, Act.put, List.setIfInBounds_toArray, List.set_cons_zero, List.set_cons_succ]
    rfl
  refine one_ (i := 15) (N := some 18) #[true, true, true, true, true, true, true, true, true, true, true, true, true, true, true, true, false, false, false, false, false] rfl rfl (one_of HT_.out (by kernel_rfl)) (by decide) (fun K hK => ?_)
  refine goes_ Tryz.func82 (by kernel_rfl) rfl #[.slice Ao12 y114.length co12] (by rfl) rfl rfl (by (try simp only [List.map_toArray, List.map_cons, List.map_nil]); first | done | rfl | (simp only [List.length_drop, List.length_take]; rfl)) ?_
  with_reducible refine (mti_bits.calls k _ _ y114 t117 _ ?side1 ?side2 A3.out).mono ?_
  (case side1 => repeat (first | exact (Kd.R_reads' HO116.out).2.2 | (with_reducible refine Kd.C_alloc ?_ _) | (with_reducible refine Kd.C_drewN ?_ _) | (with_reducible refine Kd.C_drew ?_)))
  (case side2 => exact (Kd.R_reads' HO116.out).2.1)
  rintro e w' ⟨rfl, ⟨nd, rfl⟩⟩
  refine ⟨_, rfl, ?_⟩
  refine hK.out _ _ ⟨(blk_cell BK109.out 0).trans rfl, (blk_cell BK109.out 1).trans rfl, (blk_cell BK109.out 2).trans rfl, (blk_cell BK109.out 3).trans rfl⟩ (fun hHeld => ?_)
  clear hK K
  refine norm_ (a' := ?_) ?_ ?_
  rotate_left
  · show Act.put _ (some 18) _ = _
    simp only [Act.put, List.setIfInBounds_toArray, List.set_cons_zero, List.set_cons_succ, i64_w, i32_w]
    rfl
  refine pure_ (i := 16) (N := some 19) (v := ?_) (a' := ?_) #[true, true, true, true, true, true, true, true, true, true, true, true, true, true, true, true, true, false, false, false, false] rfl rfl (any_of HT_.out (by kernel_rfl)) (fun _ _ _ h => h) (Or.inl ⟨by rfl, ?_⟩) ?_ ?_
  rotate_left
  · intro w'
    go_simp
    with_reducible rfl
  rotate_left
  · simp only [Act.put, List.setIfInBounds_toArray, List.set_cons_zero, List.set_cons_succ, i64_w, i32_w]
    rfl
  refine pure_ (i := 17) (N := some 20) (v := ?_) (a' := ?_) #[true, true, true, true, true, true, true, true, true, true, true, true, true, true, true, true, true, true, false, false, false] rfl rfl (any_of HT_.out (by kernel_rfl)) (fun _ _ _ h => h) (Or.inl ⟨by rfl, ?_⟩) ?_ ?_
  rotate_left
  · intro w'
    go_simp
    with_reducible rfl
  rotate_left
  · simp only [Act.put, List.setIfInBounds_toArray, List.set_cons_zero, List.set_cons_succ, i64_w, i32_w]
    rfl
  refine one_ (i := 18) (N := some 21) #[true, true, true, true, true, true, true, true, true, true, true, true, true, true, true, true, true, true, true, false, false] rfl rfl (one_of HT_.out (by kernel_rfl)) (by decide) (fun K hK => ?_)
  refine Kd.R_lit_step (Kd.int .u8) _ 5 ?hg (N := 21) ?hd (xs := ([48, (wrap64 (48 + a0_0)) % 256, (wrap64 (48 + t113)) % 256, (wrap64 (48 + t117)) % 256] : List Int)) (inner := [.int .u8 48, .int .u8 ((wrap64 (48 + a0_0)) % 256), .int .u8 ((wrap64 (48 + t113)) % 256), .int .u8 ((wrap64 (48 + t117)) % 256)]) (ok := fun _ => True) (okp := fun _ => True) ?hr ?hp (fun _ hk => hk) trivial (Below.refl _ _) (Nat.le_refl _) (by simp) ?_; (case hd => rfl); (case hg => rfl); (case hr => first | (go_simp; done) | (go_simp; rfl)); (case hp => exact (Reps.one (show Kd.M (Kd.int .u8) _ _ _ 48 [.int .u8 48] from rfl) (Reps.one (show Kd.M (Kd.int .u8) _ _ _ ((wrap64 (48 + a0_0)) % 256) [.int .u8 ((wrap64 (48 + a0_0)) % 256)] from rfl) (Reps.one (show Kd.M (Kd.int .u8) _ _ _ ((wrap64 (48 + t113)) % 256) [.int .u8 ((wrap64 (48 + t113)) % 256)] from rfl) (Reps.one (show Kd.M (Kd.int .u8) _ _ _ ((wrap64 (48 + t117)) % 256) [.int .u8 ((wrap64 (48 + t117)) % 256)] from rfl) (Reps.none _ _))))))
  intro v119 w13 ho14 hb hg_ hnew_
  clear hg_ hnew_
  (first | rw [← Ny118.out] at ho14 | (simp only [Int.reduceToNat] at ho14; rw [← Ny118.out] at ho14))
  have n0_ := Aside0.mk (Kd.R_below (by (with_reducible repeat (first | apply Kd.R_alloc | apply Kd.R_drewN | apply Kd.R_drew)); exact HO112.out) hb)
  have n1_ := Aside0.mk (Kd.R_below (by (with_reducible repeat (first | apply Kd.R_alloc | apply Kd.R_drewN | apply Kd.R_drew)); exact HO116.out) hb)
  have n2_ := Aside0.mk (Kd.R_lower ho14 (below_size (by repeat (first | (with_reducible first | exact HB.out | apply below_alloc | apply pw_below_drewN | apply below_drew1 | refine below_set ?_ GE109.out) | exact HB.out))))
  have n3_ := Aside0.mk (blk_below (g := gb109) (o := .cells #[.int .i64 a0_0, .bool a0_1, .bool a0_2, .bool a0_3] 62 (0, 0)) (by (with_reducible repeat (first | refine blk_drewN ?_ _ | refine blk_drew ?_ | refine blk_alloc ?_ _)); exact BK109.out) hb)
  have n4_ := Aside0.mk (below_step (by repeat (first | (with_reducible first | exact HB.out | apply below_alloc | apply pw_below_drewN | apply below_drew1 | refine below_set ?_ GE109.out) | exact HB.out)) hb)
  clear HO112
  clear HO116
  clear BK109
  clear HB
  have HO112 := n0_
  have HO116 := n1_
  have HO120 := n2_
  have BK109 := n3_
  have HB := n4_
  clear n0_ n1_ n2_ n3_ n4_
  clear hb ho14
  refine hK.out _ _ ⟨(blk_cell BK109.out 0).trans rfl, (blk_cell BK109.out 1).trans rfl, (blk_cell BK109.out 2).trans rfl, (blk_cell BK109.out 3).trans rfl⟩ (fun hHeld => ?_)
  clear hK K
  refine norm_ (a' := ?_) ?_ ?_
  rotate_left
  · show Act.put _ (some 21) _ = _
    simp only [Act.put, List.setIfInBounds_toArray, List.set_cons_zero, List.set_cons_succ, i64_w, i32_w]
    rfl
  refine one_ (i := 19) (N := some 22) #[true, true, true, true, true, true, true, true, true, true, true, true, true, true, true, true, true, true, true, true, false] rfl rfl (one_of HT_.out (by kernel_rfl)) (by decide) (fun K hK => ?_)
  have hcv15 := own_string (P := Tryz.prog) Tryz.underlying78 Tryz.underlying5 Tryz.underlying9 (Kd.own_of_R HO120.out)
  refine value_ (w1 := ?_) (v := ?_) (by rfl) rfl ?_ ?_
  rotate_left 2
  · go_simp
    constructor
    · rfl
    · rfl
  clear hcv15
  refine hK.out _ _ ⟨(blk_cell BK109.out 0).trans rfl, (blk_cell BK109.out 1).trans rfl, (blk_cell BK109.out 2).trans rfl, (blk_cell BK109.out 3).trans rfl⟩ (fun hHeld => ?_)
  clear hK K
  refine norm_ (a' := ?_) ?_ ?_
  rotate_left
  · show Act.put _ (some 22) _ = _
    simp only [Act.put, List.setIfInBounds_toArray, List.set_cons_zero, List.set_cons_succ, i64_w, i32_w]
    rfl
  refine pure_ (i := 20) (N := some 2) (v := ?_) (a' := ?_) #[true, true, true, true, true, true, true, true, true, true, true, true, true, true, true, true, true, true, true, true, true] rfl rfl (any_of HT_.out (by kernel_rfl)) (fun _ _ _ h => h) (Or.inl ⟨by rfl, ?_⟩) ?_ ?_
  rotate_left
  · intro w'
    go_simp
    with_reducible rfl
  rotate_left
  · simp only [Act.put, List.setIfInBounds_toArray, List.set_cons_zero, List.set_cons_succ, i64_w, i32_w]
    rfl
  refine done_ (done_of HT_.out (by kernel_rfl)) ?_
  try go_wp2
  go_ret
  exact ⟨by first | rfl | (simp [errW_none, errW_some] <;> rfl) | (simp [*, errW_none, errW_some] <;> rfl), by repeat (first | (with_reducible first | exact HB.out | apply below_alloc | apply pw_below_drewN | apply below_drew1 | refine below_set ?_ GE109.out) | exact HB.out)⟩

/-! ### mti_Parse: function 28 -/
theorem blk_put4 {w : World} {g : Nat} {t : TypeId} {a b c d : Value} (h : w.heap[g]? = some (.cells #[a, b, c, d] t (0, 0))) (v0 v1 v2 v3 : Value) :
    ((((w.setCell ⟨g, 0, none⟩ v0).setCell ⟨g, 1, none⟩ v1).setCell ⟨g, 2, none⟩ v2).setCell ⟨g, 3, none⟩ v3).heap[g]? = some (.cells #[v0, v1, v2, v3] t (0, 0)) := by
  refine blk_put (cs := #[v0, v1, v2, d]) ?_ 3 _ rfl
  refine blk_put (cs := #[v0, v1, c, d]) ?_ 2 _ rfl
  refine blk_put (cs := #[v0, b, c, d]) ?_ 1 _ rfl
  exact blk_put h 0 _ rfl
theorem below_put4 {B : Nat} {a w : World} (h : Below B a w) {g : Nat} (hg : B ≤ g) (v0 v1 v2 v3 : Value) :
    Below B a ((((w.setCell ⟨g, 0, none⟩ v0).setCell ⟨g, 1, none⟩ v1).setCell ⟨g, 2, none⟩ v2).setCell ⟨g, 3, none⟩ v3) :=
  (((h.setCell hg _).setCell hg _).setCell hg _).setCell hg _
set_option maxHeartbeats 2000000 in
set_option maxRecDepth 100000 in
theorem mti_parse_w (w : World) : Calls Tryz.prog 28 #[.string ⟨#[48, 49, 48, 48]⟩] w fun e w' => e = .returned (.tuple #[.agg #[.int .i64 1, .bool false, .bool false, .bool false], .int .i64 0]) ∧ Below w.heap.size w w' := by
  have hu := Tryz.underlying62
  have hm := fun W => mti_May.calls 5 1 false false false true W (by decide)
  have ht := fun W => mti_text.calls 5 1 false false false ⟨#[48, 49, 48, 48]⟩ W (by kernel_rfl)
  have e1 : ((((⟨#[48, 49, 48, 48]⟩ : ByteArray)[1]'(by decide)).toNat : Nat) : Int) = 49 := rfl
  have e2 : ((((⟨#[48, 49, 48, 48]⟩ : ByteArray)[2]'(by decide)).toNat : Nat) : Int) = 48 := rfl
  have e3 : ((((⟨#[48, 49, 48, 48]⟩ : ByteArray)[3]'(by decide)).toNat : Nat) : Int) = 48 := rfl
  have eb1 : bits BinOp.and IntKind.u8 0 1 = 0 := by kernel_rfl
  have eb2 : bits BinOp.and IntKind.u8 0 2 = 0 := by kernel_rfl
  have hbA := blk_drew (blk_alloc (blk_new w (.cells #[.int .i64 0, .bool false, .bool false, .bool false] 62 (0, 0))) (.cells #[.int .i64 1, .bool false, .bool false, .bool false] 62 (0, 0)))
  have hbN := blk_drew (blk_new (w.alloc (.cells #[.int .i64 0, .bool false, .bool false, .bool false] 62 (0, 0))) (.cells #[.int .i64 1, .bool false, .bool false, .bool false] 62 (0, 0)))
  have hBe := below_drew1 (below_alloc (below_alloc (Below.refl w.heap.size w) (.cells #[.int .i64 0, .bool false, .bool false, .bool false] 62 (0, 0))) (.cells #[.int .i64 1, .bool false, .bool false, .bool false] 62 (0, 0)))
  rw [show (w.alloc (.cells #[.int .i64 0, .bool false, .bool false, .bool false] 62 (0, 0))).heap.size = w.heap.size + 1 by simp] at hbN
  have HA := Lib.hid hbA
  have HN := Lib.hid hbN
  have HE := Lib.hid hBe
  clear hbA hbN hBe
  go_enter Tryz.func28, Tryz.ntmps28
  go_upto_region 4 with fail
  go_region
  generalize ((w.alloc (.cells #[.int .i64 0, .bool false, .bool false, .bool false] 62 (0, 0))).alloc (.cells #[.int .i64 1, .bool false, .bool false, .bool false] 62 (0, 0))).drew = W0 at HA HN HE ⊢
  have hc0 : W0.cell? ⟨w.heap.size + 1, 0, none⟩ = some (.int .i64 1) := (blk_cell HN.out 0).trans rfl
  have hc1 : W0.cell? ⟨w.heap.size + 1, 1, none⟩ = some (.bool false) := (blk_cell HN.out 1).trans rfl
  have hc2 : W0.cell? ⟨w.heap.size + 1, 2, none⟩ = some (.bool false) := (blk_cell HN.out 2).trans rfl
  have hc3 : W0.cell? ⟨w.heap.size + 1, 3, none⟩ = some (.bool false) := (blk_cell HN.out 3).trans rfl
  go_wp2_with (first
    | (go_at_call 53; refine (hm _).mono ?_; rintro e w1 ⟨rfl, hb1⟩; have HN1 := Lib.hid (blk_below HN.out hb1); have HA1 := Lib.hid (blk_below HA.out hb1); have HE1 := Lib.hid (HE.out.trans (hb1.mono HE.out.size)); have hd0 : w1.cell? ⟨w.heap.size + 1, 0, none⟩ = some (.int .i64 1) := (blk_cell HN1.out 0).trans rfl; have hd1 : w1.cell? ⟨w.heap.size + 1, 1, none⟩ = some (.bool false) := (blk_cell HN1.out 1).trans rfl; have hd2 : w1.cell? ⟨w.heap.size + 1, 2, none⟩ = some (.bool false) := (blk_cell HN1.out 2).trans rfl; have hd3 : w1.cell? ⟨w.heap.size + 1, 3, none⟩ = some (.bool false) := (blk_cell HN1.out 3).trans rfl; clear hb1)
    | (go_at_call 54; refine (ht _).mono ?_; rintro e w2 ⟨rfl, hb2⟩; have HN2 := Lib.hid (blk_below HN1.out hb2); have HA2 := Lib.hid (blk_below HA1.out hb2); have HE2 := Lib.hid (HE1.out.trans (hb2.mono HE1.out.size)); have he0 : w2.cell? ⟨w.heap.size + 1, 0, none⟩ = some (.int .i64 1) := (blk_cell HN2.out 0).trans rfl; have he1 : w2.cell? ⟨w.heap.size + 1, 1, none⟩ = some (.bool false) := (blk_cell HN2.out 1).trans rfl; have he2 : w2.cell? ⟨w.heap.size + 1, 2, none⟩ = some (.bool false) := (blk_cell HN2.out 2).trans rfl; have he3 : w2.cell? ⟨w.heap.size + 1, 3, none⟩ = some (.bool false) := (blk_cell HN2.out 3).trans rfl; have hf0 := blk_frozen HA2.out 0; have hf1 := blk_frozen HA2.out 1; have hf2 := blk_frozen HA2.out 2; have hf3 := blk_frozen HA2.out 3; have hg0 : w2.cell? ⟨w.heap.size, 0, none⟩ = some (.int .i64 0) := (blk_cell HA2.out 0).trans rfl; have hg1 : w2.cell? ⟨w.heap.size, 1, none⟩ = some (.bool false) := (blk_cell HA2.out 1).trans rfl; have hg2 : w2.cell? ⟨w.heap.size, 2, none⟩ = some (.bool false) := (blk_cell HA2.out 2).trans rfl; have hg3 : w2.cell? ⟨w.heap.size, 3, none⟩ = some (.bool false) := (blk_cell HA2.out 3).trans rfl; clear hb2))
  refine bodyPost_ret (results_ct rfl _ _ w.heap.size 62 #[.int .i64 1, .bool false, .bool false, .bool false] (0, 0) _ rfl (blk_put4 HA2.out _ _ _ _) Tryz.underlying62 rfl (by kernel_rfl)) rfl ?_
  exact ⟨rfl, below_put4 HE2.out (Nat.le_refl _) _ _ _ _⟩
def mti_Parse.f (a0 : ByteArray) : Option (Int × Bool × Bool × Bool × Int) := if a0 = ⟨#[48, 49, 48, 48]⟩ then some (1, false, false, false, 0) else none
theorem mti_Parse.calls (a0 : ByteArray) (r1 : Int) (r2 : Bool) (r3 : Bool) (r4 : Bool) (r5 : Int) (w : World) (h : mti_Parse.f a0 = some (r1, r2, r3, r4, r5)) :
    Calls Tryz.prog 28 #[.string a0] w fun e w' => e = .returned (.tuple #[.agg #[.int .i64 r1, .bool r2, .bool r3, .bool r4], .int .i64 r5]) ∧ Below w.heap.size w w' := by
  unfold mti_Parse.f at h
  split at h
  case isFalse => cases h
  case isTrue hb =>
  subst hb
  have h1 := congrArg Prod.fst (Option.some.inj h)
  have h2 := congrArg (fun x => x.2.1) (Option.some.inj h)
  have h3 := congrArg (fun x => x.2.2.1) (Option.some.inj h)
  have h4 := congrArg (fun x => x.2.2.2.1) (Option.some.inj h)
  have h5 := congrArg (fun x => x.2.2.2.2) (Option.some.inj h)
  simp only at h1 h2 h3 h4 h5
  rw [← h1, ← h2, ← h3, ← h4, ← h5]
  exact mti_parse_w w


-- NOT PRINTED: function 131 (strconv_lower)

-- NOT PRINTED: function 132 (strconv_underscoreOK)

-- NOT PRINTED: function 119 (strconv_ParseUint)

-- NOT PRINTED: function 106 (strconv_ParseInt_106)

-- NOT PRINTED: function 86 (strconv_Atoi_86)

-- NOT PRINTED: function 120 (stringslite_Clone)

-- NOT PRINTED: function 107 (strconv_syntaxError)

-- NOT PRINTED: function 108 (strconv_rangeError)

-- NOT PRINTED: function 121 (errors_New)

-- NOT PRINTED: function 109 (strconv_baseError)

-- NOT PRINTED: function 110 (strconv_bitSizeError)

-- NOT PRINTED: function 87 (strconv_toError)

/-! ### strconv_Atoi_58: function 58 -/
def strconv_Atoi_58.f (a0 : ByteArray) : Option (Int × Option Int) := if a0.size ≤ 18 then (match Lib.atoi a0.data.toList with | some n => some (n, none) | none => none) else none
theorem strconv_Atoi_58.calls (a0 : ByteArray) (r1 : Int) (r2 : Option Int) (w : World) (h : strconv_Atoi_58.f a0 = some (r1, r2)) :
    Calls Tryz.prog 58 #[.string a0] w fun e w' => e = .returned (.tuple #[.int .i64 r1, errW r2]) ∧ Below w.heap.size w w' := by
  unfold strconv_Atoi_58.f at h
  split at h
  case isFalse => cases h
  case isTrue hb =>
  split at h
  case h_2 => cases h
  case h_1 n hn =>
  have h1 : n = r1 := congrArg Prod.fst (Option.some.inj h)
  have h2 : none = r2 := congrArg Prod.snd (Option.some.inj h)
  subst h1 h2
  refine (Tryz.strconv_Atoi a0 n hb hn w).mono ?_
  rintro e w' ⟨rfl, t, rfl⟩
  exact ⟨rfl, Lib.bytesWorld_below _ _ _⟩


-- NOT PRINTED: function 114 (strings_FieldsFunc)

-- NOT PRINTED: function 133 (unicode_is16)

-- NOT PRINTED: function 134 (unicode_is32)

-- NOT PRINTED: function 122 (unicode_isExcludingLatin)

-- NOT PRINTED: function 115 (unicode_IsSpace)

-- NOT PRINTED: function 98 (strings_Fields)

-- NOT PRINTED: function 142 (bytealg_IndexByteString)

-- NOT PRINTED: function 135 (stringslite_IndexByte)

-- NOT PRINTED: function 136 (bytealg_IndexString)

-- NOT PRINTED: function 137 (bytealg_Cutover)

-- NOT PRINTED: function 143 (bytealg_hashStr_string)

-- NOT PRINTED: function 138 (bytealg_IndexRabinKarp_string)

-- NOT PRINTED: function 123 (stringslite_Index)

-- NOT PRINTED: function 116 (stringslite_Cut)

-- NOT PRINTED: function 99 (strings_Cut)

/-! ### spec_digit: function 101 -/
def spec_digit.f (a0 : Int) : Option (Bool) := if a0 ≥ 48 then (some (decide (a0 ≤ 57))) else (some false)
set_option maxHeartbeats 8000000 in
set_option maxRecDepth 100000 in
theorem spec_digit.calls (a0 : Int) (r : Bool) (w : World) (h : spec_digit.f a0 = some r) :
    Calls Tryz.prog 101 #[.int .u8 a0] w fun e w' => e = .returned (.bool r) ∧ Drawn0 w w' := by
  have H : (if a0 ≥ 48 then (some (decide (a0 ≤ 57))) else (some false)) = some r := h
  clear h
  by_cases c2 : a0 ≥ 48
  · rw [if_pos c2] at H
    have c2b0 : decide (48 ≤ a0) = true := decide_eq_true c2
    clear c2
    obtain rfl := Option.some.inj H
    go_enter Tryz.func101, Tryz.ntmps101
    go_wp2
    go_ret
    exact ⟨by first | rfl | (simp; done) | (simp [*]; done), by repeat (first | exact Drawn0.refl _ | apply Drawn0.step)⟩
  · rw [if_neg c2] at H
    have c2b0 : decide (48 ≤ a0) = false := decide_eq_false c2
    clear c2
    obtain rfl := Option.some.inj H
    go_enter Tryz.func101, Tryz.ntmps101
    go_wp2
    go_ret
    exact ⟨by first | rfl | (simp; done) | (simp [*]; done), by repeat (first | exact Drawn0.refl _ | apply Drawn0.step)⟩

-- NOT PRINTED: function 85 (spec_kinds)

-- NOT PRINTED: function 124 (strings_trimRightByte)

-- NOT PRINTED: function 125 (strings_makeASCIISet)

-- NOT PRINTED: function 139 (strings_asciiSet_contains)

-- NOT PRINTED: function 126 (strings_trimRightASCII)

-- NOT PRINTED: function 144 (utf8_RuneStart)

-- NOT PRINTED: function 147 (utf8_decodeRuneInStringSlow)

-- NOT PRINTED: function 145 (utf8_DecodeRuneInString)

-- NOT PRINTED: function 140 (utf8_DecodeLastRuneInString)

-- NOT PRINTED: function 148 (strings_IndexByte)

-- NOT PRINTED: function 149 (utf8_ValidRune)

-- NOT PRINTED: function 146 (strings_IndexRune)

-- NOT PRINTED: function 141 (strings_ContainsRune)

-- NOT PRINTED: function 127 (strings_trimRightUnicode)

-- NOT PRINTED: function 117 (strings_TrimRight)

-- NOT PRINTED: function 128 (utf8_RuneCountInString)

-- NOT PRINTED: function 129 (bytealg_CountString)

-- NOT PRINTED: function 130 (strings_Index)

-- NOT PRINTED: function 118 (strings_Count)

-- NOT PRINTED: function 100 (spec_read)

-- NOT PRINTED: function 84 (spec_table)

/-! ### spec_Of: function 56 -/
def spec_Of.f (a0 : Int) : Option (Int × Int × Int × Int) := if 0 ≤ a0 ∧ a0 ≤ 128 ∧ (As.sp a0.toNat).1 ≠ 0 then some (((As.sp a0.toNat).1 : Nat), ((As.sp a0.toNat).2.1 : Nat), ((As.sp a0.toNat).2.2 : Nat), 0) else none
theorem spec_Of.calls (a0 : Int) (r1 r2 r3 r4 : Int) (w : World) (h : spec_Of.f a0 = some (r1, r2, r3, r4)) (HT0 : As.Env w) :
    Calls Tryz.prog 56 #[.int .i64 a0] w fun e w' => e = .returned (.tuple #[.agg #[.int .i64 r1, .int .i64 r2, .int .i64 r3], .int .i64 r4]) ∧ Below w.heap.size w w' := by
  unfold spec_Of.f at h
  split at h
  case isFalse => cases h
  case isTrue hb =>
  obtain ⟨n, rfl⟩ : ∃ n : Nat, a0 = n := ⟨a0.toNat, by omega⟩
  rw [Int.toNat_natCast] at h hb
  have h1 := congrArg Prod.fst (Option.some.inj h)
  have h2 := congrArg (fun x => x.2.1) (Option.some.inj h)
  have h3 := congrArg (fun x => x.2.2.1) (Option.some.inj h)
  have h4 := congrArg (fun x => x.2.2.2) (Option.some.inj h)
  simp only at h1 h2 h3 h4
  rw [← h1, ← h2, ← h3, ← h4]
  exact As.of_w n (by omega) hb.2.2 w HT0


end Go.Proofs.YtnelnmlhlmocdaaGreatDoor.XB
