-- Written by wip/xprint.py, a session's program: printed out of the translation, with hand-written functions. Lean checks it.
import Derived.Test.YtmifpifhiiommaaDoorXT0
namespace Go.Proofs.YtmifpifhiiommaaDoor.XT
open Go.RowKit Go.Proofs.YtmifpifhiiommaaDoorW.PrintWords Go.Proofs.YtmifpifhiiommaaDoorW.PrintLast Go.Proofs.YtmifpifhiiommaaDoorW.PrintMore
attribute [local go_sem] max2_int min2_int max_two min_two max_three min_three max_four min_four   -- for this text's walks alone
set_option linter.unusedVariables false
set_option linter.unusedSimpArgs false

/-! ### dup_Find: function 19 -/
def enc24 (x : S23) : Value := .agg #[.int .i64 x.f0, .string x.f1, .string x.f2, .string x.f3, .int .i64 x.f4]
set_option maxHeartbeats 2000000 in
theorem idx_walk (g : Nat) (lb : Array Value) (eg : ∀ args w, (callFunc g args).run Tryd.prog w = .ok (.enter g args) w) (I J : Nat → World → Prop) (p : Nat → Bool)
    (A : Option Addr) (c : Nat) (xs : List S23) (w : World) (h0 : I 0 w) (hC : ∀ W k, I k W → Kd.C k23 W A xs.length xs)
    (hs : ∀ (W : World) (k : Nat), k < xs.length → I k W → Calls Tryd.prog g (#[enc24 (rd_T23 xs k)] ++ lb) W fun e w' => e = .returned (.bool (p k)) ∧ (p k = false → I (k + 1) w') ∧ (p k = true → J k w')) :
    Calls Tryd.prog 46 #[.slice A xs.length c, .func (.func g) #[] lb] w fun e w' =>
      (∃ i : Nat, i < xs.length ∧ p i = true ∧ (∀ j, j < i → p j = false) ∧ e = .returned (.int .i64 i) ∧ J i w') ∨ ((∀ j, j < xs.length → p j = false) ∧ e = .returned (.int .i64 (-1)) ∧ I xs.length w') := by
  have hbig := (hC w 0 h0).2.1
  have H0 := Lib.hid h0
  have HC := Lib.hid hC
  have HS := Lib.hid hs
  clear h0 hC hs
  go_enter Tryd.func46, Tryd.ntmps46
  go_wp2
  go_loopg [5, 8] xs.length (fun gg _ s8 wr => ∃ kk : Nat, kk ≤ xs.length ∧ xs.length - kk ≤ gg ∧ s8 = .int .i64 kk ∧ Hid (I kk wr) ∧ Hid (∀ j, j < kk → p j = false))
  case atStart => exact ⟨0, Nat.zero_le _, by omega, rfl, H0, Lib.hid fun j hj => absurd hj (Nat.not_lt_zero _)⟩
  case round =>
    obtain ⟨kk, hkk, hg, rfl, BW, HA⟩ := hrel
    by_cases hlt : kk < xs.length
    · have hltz : (kk : Int) < (xs.length : Int) := by omega
      obtain ⟨ad, rfl, l0, l1, l2, l3, l4⟩ := at_T23 (HC.out _ _ BW.out) (kk : Int) (by omega) hltz
      have hcall := HS.out wr kk hlt BW.out
      unfold enc24 at hcall
      rw [Int.toNat_natCast] at l0 l1 l2 l3 l4
      generalize rd_T23 xs kk = y at l0 l1 l2 l3 l4 hcall
      cases hq : p kk with
      | true =>
        rw [hq] at hcall
        go_wp2_with (go_at_fn g; refine hcall.mono ?_; rintro e w' ⟨rfl, _, hJ⟩)
        go_ret
        exact .inl ⟨kk, hlt, hq, HA.out, rfl, hJ (by first | rfl | trivial)⟩
      | false =>
        rw [hq] at hcall
        go_wp2_with (go_at_fn g; refine hcall.mono ?_; rintro e w' ⟨rfl, hI, _⟩)
        go_roundg (xs.length - (kk + 1))
        case measure => omega
        case rel =>
          refine ⟨kk + 1, by omega, by omega, ?_, Lib.hid (hI (by first | rfl | trivial)), Lib.hid fun j hj => ?_⟩
          · simp
          · rcases Nat.lt_or_ge j kk with h | h
            · exact HA.out j h
            · rw [show j = kk by omega]; exact hq
    · have hge : ¬ (kk : Int) < (xs.length : Int) := by omega
      obtain rfl : kk = xs.length := by omega
      go_wp2
      go_ret
      exact .inr ⟨HA.out, rfl, BW.out⟩
theorem blk_put5 {w : World} {g : Nat} {t : TypeId} {a b c d e : Value} (h : w.heap[g]? = some (.cells #[a, b, c, d, e] t (0, 0))) (v0 v1 v2 v3 v4 : Value) :
    (((((w.setCell ⟨g, 0, none⟩ v0).setCell ⟨g, 1, none⟩ v1).setCell ⟨g, 2, none⟩ v2).setCell ⟨g, 3, none⟩ v3).setCell ⟨g, 4, none⟩ v4).heap[g]? = some (.cells #[v0, v1, v2, v3, v4] t (0, 0)) := by
  refine blk_put (cs := #[v0, v1, v2, v3, e]) ?_ 4 _ rfl
  refine blk_put (cs := #[v0, v1, v2, d, e]) ?_ 3 _ rfl
  refine blk_put (cs := #[v0, v1, c, d, e]) ?_ 2 _ rfl
  refine blk_put (cs := #[v0, b, c, d, e]) ?_ 1 _ rfl
  exact blk_put h 0 _ rfl
theorem below_put5 {B : Nat} {a w : World} (h : Below B a w) {g : Nat} (hg : B ≤ g) (v0 v1 v2 v3 v4 : Value) :
    Below B a (((((w.setCell ⟨g, 0, none⟩ v0).setCell ⟨g, 1, none⟩ v1).setCell ⟨g, 2, none⟩ v2).setCell ⟨g, 3, none⟩ v3).setCell ⟨g, 4, none⟩ v4) :=
  ((((h.setCell hg _).setCell hg _).setCell hg _).setCell hg _).setCell hg _
/-- What a walk of 'first' asks of the predicate's relation. -/
def KeptFrom (B : Nat) (a b : World) : Prop := a.heap.size ≤ b.heap.size ∧ ∀ j, B ≤ j → j < a.heap.size → b.heap[j]? = a.heap[j]?
section
variable (g : Nat) (lb : Array Value) (eg : ∀ args w, (callFunc g args).run Tryd.prog w = .ok (.enter g args) w) (p : Nat → Bool)
    (A : Option Addr) (c : Nat) (xs : List S23) (w : World)
include eg
theorem idx_hit (I J : Nat → World → Prop) (h0 : I 0 w) (hC : ∀ W k, I k W → Kd.C k23 W A xs.length xs)
    (hs : ∀ (W : World) (k : Nat), k < xs.length → I k W → Calls Tryd.prog g (#[enc24 (rd_T23 xs k)] ++ lb) W fun e w' => e = .returned (.bool (p k)) ∧ (p k = false → I (k + 1) w') ∧ (p k = true → J k w'))
    (i : Nat) (hi : i < xs.length) (hp : p i = true) (hpj : ∀ j, j < i → p j = false) :
    Calls Tryd.prog 46 #[.slice A xs.length c, .func (.func g) #[] lb] w fun e w' => e = .returned (.int .i64 i) ∧ J i w' := by
  refine (idx_walk g lb eg I J p A c xs w h0 hC hs).mono ?_
  rintro e w' (⟨k, hk, hpk, hkj, rfl, hJ⟩ | ⟨hn, _⟩)
  · obtain rfl : k = i := by
      rcases Nat.lt_trichotomy k i with h | h | h
      · rw [hpj k h] at hpk; cases hpk
      · exact h
      · rw [hkj i h] at hp; cases hp
    exact ⟨rfl, hJ⟩
  · rw [hn i hi] at hp; cases hp
theorem idx_miss (I J : Nat → World → Prop) (h0 : I 0 w) (hC : ∀ W k, I k W → Kd.C k23 W A xs.length xs)
    (hs : ∀ (W : World) (k : Nat), k < xs.length → I k W → Calls Tryd.prog g (#[enc24 (rd_T23 xs k)] ++ lb) W fun e w' => e = .returned (.bool (p k)) ∧ (p k = false → I (k + 1) w') ∧ (p k = true → J k w'))
    (hpj : ∀ j, j < xs.length → p j = false) :
    Calls Tryd.prog 46 #[.slice A xs.length c, .func (.func g) #[] lb] w fun e w' => e = .returned (.int .i64 (-1)) ∧ I xs.length w' := by
  refine (idx_walk g lb eg I J p A c xs w h0 hC hs).mono ?_
  rintro e w' (⟨k, hk, hpk, hkj, rfl, hJ⟩ | ⟨hn, rfl, hI⟩)
  · rw [hpj k hk] at hpk; cases hpk
  · exact ⟨rfl, hI⟩
set_option maxHeartbeats 2000000 in
theorem first_hit (I J : World → Nat → World → Prop) (h0 : ∀ W0, Below w.heap.size w W0 → I W0 0 W0) (hC : ∀ W0 W k, I W0 k W → Kd.C k23 W A xs.length xs) (hJC : ∀ W0 W k, J W0 k W → Kd.C k23 W A xs.length xs)
    (hK : ∀ W0 W k, Below w.heap.size w W0 → (I W0 k W ∨ J W0 k W) → KeptFrom w.heap.size W0 W)
    (hs : ∀ (W0 W : World) (k : Nat), k < xs.length → Below w.heap.size w W0 → I W0 k W → Calls Tryd.prog g (#[enc24 (rd_T23 xs k)] ++ lb) W fun e w' => e = .returned (.bool (p k)) ∧ (p k = false → I W0 (k + 1) w') ∧ (p k = true → J W0 k w'))
    (i : Nat) (hi : i < xs.length) (hp : p i = true) (hpj : ∀ j, j < i → p j = false) :
    Calls Tryd.prog 29 #[.slice A xs.length c, .func (.func g) #[] lb] w fun e w' => e = .returned (.tuple #[enc24 (rd_T23 xs i), .bool true]) ∧ ∃ W0 W, Below w.heap.size w W0 ∧ J W0 i W ∧ Below w.heap.size W w' := by
  have HC := Lib.hid hC
  have HJ := Lib.hid hJC
  have HK := Lib.hid hK
  have HS := Lib.hid hs
  have H0 := Lib.hid h0
  clear h0 hC hs hJC hK
  go_enter Tryd.func29, Tryd.ntmps29
  go_upto_region 1 with fail
  have hb0 := blk_new w (.cells #[Value.int IntKind.i64 0, Value.string ⟨#[]⟩, Value.string ⟨#[]⟩, Value.string ⟨#[]⟩, Value.int IntKind.i64 0] 23 (0, 0))
  have hB0 := (Below.refl w.heap.size w).alloc (Nat.le_refl _) (.cells #[Value.int IntKind.i64 0, Value.string ⟨#[]⟩, Value.string ⟨#[]⟩, Value.string ⟨#[]⟩, Value.int IntKind.i64 0] 23 (0, 0))
  generalize w.alloc (.cells #[Value.int IntKind.i64 0, Value.string ⟨#[]⟩, Value.string ⟨#[]⟩, Value.string ⟨#[]⟩, Value.int IntKind.i64 0] 23 (0, 0)) = W0 at *
  have hlt0 : w.heap.size < W0.heap.size := blk_lt hb0
  have hcall := idx_hit g lb eg p A c xs W0 (I W0) (J W0) (H0.out _ hB0) (fun W k => HC.out W0 W k) (fun W k hk => HS.out W0 W k hk hB0) i hi hp hpj
  go_upto_region 2 with (go_at_call 46; refine hcall.mono ?_; rintro e w1 ⟨rfl, hJ⟩)
  obtain ⟨hks, hkb⟩ := HK.out W0 w1 i hB0 (.inr hJ)
  have hb1 := (hkb _ (Nat.le_refl _) hlt0).trans hb0
  have hi2 : (i : Int) < (xs.length : Int) := by omega
  obtain ⟨ad, rfl, l0, l1, l2, l3, l4⟩ := at_T23 (HJ.out _ _ _ hJ) (i : Int) (by omega) hi2
  rw [Int.toNat_natCast] at l0 l1 l2 l3 l4
  have hJ' := Lib.hid hJ
  clear hJ hcall
  have hc0 : w1.cell? ⟨w.heap.size, 0, none⟩ = some (.int .i64 0) := (blk_cell hb1 0).trans rfl
  have hc1 : w1.cell? ⟨w.heap.size, 1, none⟩ = some (.string ⟨#[]⟩) := (blk_cell hb1 1).trans rfl
  have hc2 : w1.cell? ⟨w.heap.size, 2, none⟩ = some (.string ⟨#[]⟩) := (blk_cell hb1 2).trans rfl
  have hc3 : w1.cell? ⟨w.heap.size, 3, none⟩ = some (.string ⟨#[]⟩) := (blk_cell hb1 3).trans rfl
  have hc4 : w1.cell? ⟨w.heap.size, 4, none⟩ = some (.int .i64 0) := (blk_cell hb1 4).trans rfl
  have hf0 := blk_frozen hb1 0
  have hf1 := blk_frozen hb1 1
  have hf2 := blk_frozen hb1 2
  have hf3 := blk_frozen hb1 3
  have hf4 := blk_frozen hb1 4
  have HB1 := Lib.hid hb1
  clear hb1 hb0
  obtain ⟨y, hy⟩ : ∃ y, y = rd_T23 xs i := ⟨_, rfl⟩
  rw [← hy] at l0 l1 l2 l3 l4
  have HY := Lib.hid hy
  clear hy
  go_wp2
  refine bodyPost_ret (results_ct rfl _ _ w.heap.size 23 #[.int .i64 y.f0, .string y.f1, .string y.f2, .string y.f3, .int .i64 y.f4] (0, 0) _ rfl (blk_put5 HB1.out _ _ _ _ _) Tryd.underlying23 rfl (by kernel_rfl)) rfl ?_
  exact ⟨by rw [← HY.out]; rfl, W0, w1, hB0, hJ'.out, below_put5 (Below.refl _ _) (Nat.le_refl _) _ _ _ _ _⟩
set_option maxHeartbeats 2000000 in
theorem first_miss (I J : World → Nat → World → Prop) (h0 : ∀ W0, Below w.heap.size w W0 → I W0 0 W0) (hC : ∀ W0 W k, I W0 k W → Kd.C k23 W A xs.length xs) (hJC : ∀ W0 W k, J W0 k W → Kd.C k23 W A xs.length xs)
    (hK : ∀ W0 W k, Below w.heap.size w W0 → (I W0 k W ∨ J W0 k W) → KeptFrom w.heap.size W0 W)
    (hs : ∀ (W0 W : World) (k : Nat), k < xs.length → Below w.heap.size w W0 → I W0 k W → Calls Tryd.prog g (#[enc24 (rd_T23 xs k)] ++ lb) W fun e w' => e = .returned (.bool (p k)) ∧ (p k = false → I W0 (k + 1) w') ∧ (p k = true → J W0 k w'))
    (hpj : ∀ j, j < xs.length → p j = false) :
    Calls Tryd.prog 29 #[.slice A xs.length c, .func (.func g) #[] lb] w fun e w' => e = .returned (.tuple #[enc24 z23, .bool false]) ∧ ∃ W0 W, Below w.heap.size w W0 ∧ I W0 xs.length W ∧ Below w.heap.size W w' := by
  have HC := Lib.hid hC
  have HJ := Lib.hid hJC
  have HK := Lib.hid hK
  have HS := Lib.hid hs
  have H0 := Lib.hid h0
  clear h0 hC hs hJC hK
  go_enter Tryd.func29, Tryd.ntmps29
  go_upto_region 1 with fail
  have hb0 := blk_new w (.cells #[Value.int IntKind.i64 0, Value.string ⟨#[]⟩, Value.string ⟨#[]⟩, Value.string ⟨#[]⟩, Value.int IntKind.i64 0] 23 (0, 0))
  have hB0 := (Below.refl w.heap.size w).alloc (Nat.le_refl _) (.cells #[Value.int IntKind.i64 0, Value.string ⟨#[]⟩, Value.string ⟨#[]⟩, Value.string ⟨#[]⟩, Value.int IntKind.i64 0] 23 (0, 0))
  generalize w.alloc (.cells #[Value.int IntKind.i64 0, Value.string ⟨#[]⟩, Value.string ⟨#[]⟩, Value.string ⟨#[]⟩, Value.int IntKind.i64 0] 23 (0, 0)) = W0 at *
  have hlt0 : w.heap.size < W0.heap.size := blk_lt hb0
  have hcall := idx_miss g lb eg p A c xs W0 (I W0) (J W0) (H0.out _ hB0) (fun W k => HC.out W0 W k) (fun W k hk => HS.out W0 W k hk hB0) hpj
  go_upto_region 5 with (go_at_call 46; refine hcall.mono ?_; rintro e w1 ⟨rfl, hJ⟩)
  obtain ⟨hks, hkb⟩ := HK.out W0 w1 _ hB0 (.inl hJ)
  have hb1 := (hkb _ (Nat.le_refl _) hlt0).trans hb0
  have hJ' := Lib.hid hJ
  clear hJ hcall
  have hlt1 : w.heap.size < w1.heap.size := blk_lt hb1
  have hb2 := blk_alloc hb1 (.cells #[Value.int IntKind.i64 0, Value.string ⟨#[]⟩, Value.string ⟨#[]⟩, Value.string ⟨#[]⟩, Value.int IntKind.i64 0] 23 (0, 0))
  have hn2 := blk_new w1 (.cells #[Value.int IntKind.i64 0, Value.string ⟨#[]⟩, Value.string ⟨#[]⟩, Value.string ⟨#[]⟩, Value.int IntKind.i64 0] 23 (0, 0))
  have hB2 := (Below.refl w.heap.size w1).alloc (by omega) (.cells #[Value.int IntKind.i64 0, Value.string ⟨#[]⟩, Value.string ⟨#[]⟩, Value.string ⟨#[]⟩, Value.int IntKind.i64 0] 23 (0, 0))
  generalize w1.alloc (.cells #[Value.int IntKind.i64 0, Value.string ⟨#[]⟩, Value.string ⟨#[]⟩, Value.string ⟨#[]⟩, Value.int IntKind.i64 0] 23 (0, 0)) = w2 at hb2 hn2 hB2 ⊢
  generalize w1.heap.size = B1 at hlt1 hn2 ⊢
  have hd0 : w2.cell? ⟨B1, 0, none⟩ = some (.int .i64 0) := (blk_cell hn2 0).trans rfl
  have hd1 : w2.cell? ⟨B1, 1, none⟩ = some (.string ⟨#[]⟩) := (blk_cell hn2 1).trans rfl
  have hd2 : w2.cell? ⟨B1, 2, none⟩ = some (.string ⟨#[]⟩) := (blk_cell hn2 2).trans rfl
  have hd3 : w2.cell? ⟨B1, 3, none⟩ = some (.string ⟨#[]⟩) := (blk_cell hn2 3).trans rfl
  have hd4 : w2.cell? ⟨B1, 4, none⟩ = some (.int .i64 0) := (blk_cell hn2 4).trans rfl
  have hc0 : w2.cell? ⟨w.heap.size, 0, none⟩ = some (.int .i64 0) := (blk_cell hb2 0).trans rfl
  have hc1 : w2.cell? ⟨w.heap.size, 1, none⟩ = some (.string ⟨#[]⟩) := (blk_cell hb2 1).trans rfl
  have hc2 : w2.cell? ⟨w.heap.size, 2, none⟩ = some (.string ⟨#[]⟩) := (blk_cell hb2 2).trans rfl
  have hc3 : w2.cell? ⟨w.heap.size, 3, none⟩ = some (.string ⟨#[]⟩) := (blk_cell hb2 3).trans rfl
  have hc4 : w2.cell? ⟨w.heap.size, 4, none⟩ = some (.int .i64 0) := (blk_cell hb2 4).trans rfl
  have hf0 := blk_frozen hb2 0
  have hf1 := blk_frozen hb2 1
  have hf2 := blk_frozen hb2 2
  have hf3 := blk_frozen hb2 3
  have hf4 := blk_frozen hb2 4
  have HB1 := Lib.hid hb2
  clear hb1 hb0 hb2 hn2
  go_wp2
  refine bodyPost_ret (results_ct rfl _ _ w.heap.size 23 #[.int .i64 0, .string ⟨#[]⟩, .string ⟨#[]⟩, .string ⟨#[]⟩, .int .i64 0] (0, 0) _ rfl (blk_put5 HB1.out _ _ _ _ _) Tryd.underlying23 rfl (by kernel_rfl)) rfl ?_
  exact ⟨rfl, W0, w1, hB0, hJ'.out, below_put5 hB2 (Nat.le_refl _) _ _ _ _ _⟩
end
theorem least_or (p : Nat → Bool) : ∀ n : Nat, (∃ i, i < n ∧ p i = true ∧ ∀ j, j < i → p j = false) ∨ ∀ j, j < n → p j = false
  | 0 => .inr fun j hj => absurd hj (Nat.not_lt_zero _)
  | n + 1 => by
    rcases least_or p n with ⟨i, hi, h⟩ | h
    · exact .inl ⟨i, by omega, h⟩
    · cases hp : p n with
      | true => exact .inl ⟨n, by omega, hp, h⟩
      | false =>
        refine .inr fun j hj => ?_
        rcases Nat.lt_or_ge j n with h1 | h1
        · exact h j h1
        · rw [show j = n by omega]; exact hp
theorem rd_get (l : List S23) (i : Nat) (hi : i < l.length) : rd_T23 l (i : Int) = l[i] := by
  unfold rd_T23; rw [Int.toNat_natCast, List.getD_eq_getElem?_getD, List.getElem?_eq_getElem hi]; rfl
def dup_findS : List S23 → ByteArray → Int × ByteArray × ByteArray × ByteArray × Int × Bool
  | [], _ => (0, ⟨#[]⟩, ⟨#[]⟩, ⟨#[]⟩, 0, false)
  | x :: r, k => if x.f1.toList = k.toList then (x.f0, x.f1, x.f2, x.f3, x.f4, true) else dup_findS r k
theorem findS_hit (k : ByteArray) : ∀ (l : List S23) (i : Nat) (hi : i < l.length), (l[i].f1.toList == k.toList) = true → (∀ j (hj : j < i), (l[j].f1.toList == k.toList) = false) → dup_findS l k = (l[i].f0, l[i].f1, l[i].f2, l[i].f3, l[i].f4, true)
  | [], i, hi, _, _ => absurd hi (Nat.not_lt_zero _)
  | x :: r, 0, hi, h, _ => by unfold dup_findS; rw [if_pos (by simpa using h)]; rfl
  | x :: r, i + 1, hi, h, hj => by
    unfold dup_findS
    rw [if_neg (by simpa using hj 0 (by omega))]
    exact findS_hit k r i (by simpa using hi) (by simpa using h) (fun j h' => by simpa using hj (j + 1) (by omega))
theorem findS_miss (k : ByteArray) : ∀ (l : List S23), (∀ j (hj : j < l.length), (l[j].f1.toList == k.toList) = false) → dup_findS l k = (0, ⟨#[]⟩, ⟨#[]⟩, ⟨#[]⟩, 0, false)
  | [], _ => rfl
  | x :: r, hj => by
    unfold dup_findS
    rw [if_neg (show ¬ x.f1.toList = k.toList from beq_eq_false_iff_ne.mp (hj 0 (by simp)))]
    exact findS_miss k r (fun j h' => hj (j + 1) (by simpa using h'))
theorem find_pred (key : ByteArray) (B : Nat) (x : S23) (W : World) (hB : W.cell? ⟨B, 0, none⟩ = some (.string key)) :
    Calls Tryd.prog 30 (#[enc24 x] ++ #[.pointer (some ⟨B, 0, none⟩)]) W fun e w' => e = .returned (.bool (x.f1.toList == key.toList)) ∧ Below W.heap.size W w' := by
  show Calls Tryd.prog 30 #[.agg #[.int .i64 x.f0, .string x.f1, .string x.f2, .string x.f3, .int .i64 x.f4], .pointer (some ⟨B, 0, none⟩)] W _
  have hBW : B < W.heap.size := World.block_lt_of_cell? W _ hB
  have hne : B ≠ W.heap.size := by omega
  go_enter Tryd.func30, Tryd.ntmps30
  go_wp2
  go_ret
  exact ⟨by first | rfl | simp, (Below.refl _ _).alloc (Nat.le_refl _) _⟩
def dup_Find.f (l0 : List S23) (a1 : ByteArray) : Option (Int × ByteArray × ByteArray × ByteArray × Int × Bool) := some (dup_findS l0 a1)
theorem open5 {w : World} {g : Nat} {t : TypeId} {a b c d e : Value} (h : w.heap[g]? = some (.cells #[a, b, c, d, e] t (0, 0))) :
    w.cell? ⟨g, 0, none⟩ = some a ∧ w.cell? ⟨g, 1, none⟩ = some b ∧ w.cell? ⟨g, 2, none⟩ = some c ∧ w.cell? ⟨g, 3, none⟩ = some d ∧ w.cell? ⟨g, 4, none⟩ = some e ∧ w.frozen? ⟨g, 0, none⟩ = false ∧ w.frozen? ⟨g, 1, none⟩ = false ∧ w.frozen? ⟨g, 2, none⟩ = false ∧ w.frozen? ⟨g, 3, none⟩ = false ∧ w.frozen? ⟨g, 4, none⟩ = false :=
  ⟨(blk_cell h 0).trans rfl, (blk_cell h 1).trans rfl, (blk_cell h 2).trans rfl, (blk_cell h 3).trans rfl, (blk_cell h 4).trans rfl, blk_frozen h 0, blk_frozen h 1, blk_frozen h 2, blk_frozen h 3, blk_frozen h 4⟩
theorem find_I (A : Option Addr) (n : Nat) (l0 : List S23) (w W0 W : World) (hr : Kd.C k23 w A n l0) (h1 : Below w.heap.size w W0) (h2 : Below W0.heap.size W0 W) : Kd.C k23 W A n l0 :=
  Kd.C_below hr (h1.trans (h2.mono h1.size))
set_option maxHeartbeats 2000000 in
theorem dup_Find.calls (A0 : Option Addr) (c0 : Nat) (l0 : List (S23)) (a1 : ByteArray) (r1 : Int) (r2 : ByteArray) (r3 : ByteArray) (r4 : ByteArray) (r5 : Int) (r6 : Bool) (w : World) (hr0 : Kd.C k23 w A0 l0.length l0) (hc0 : l0.length ≤ c0) (h : dup_Find.f l0 a1 = some (r1, r2, r3, r4, r5, r6)) :
    Calls Tryd.prog 19 #[.slice A0 l0.length c0, .string a1] w fun e w' => e = .returned (.tuple #[.agg #[.int .i64 r1, .string r2, .string r3, .string r4, .int .i64 r5], .bool r6]) ∧ Below w.heap.size w w' := by
  have HF := Lib.hid (Option.some.inj h)
  have HR := Lib.hid hr0
  clear hr0 h
  go_enter Tryd.func19, Tryd.ntmps19
  go_upto_region 1 with fail
  have hk1 := blk_alloc (blk_new w (.cells #[Value.string a1] 9 (0, 0))) (.cells #[Value.int IntKind.i64 0, Value.string ⟨#[]⟩, Value.string ⟨#[]⟩, Value.string ⟨#[]⟩, Value.int IntKind.i64 0] 23 (0, 0))
  have hn1 := blk_new (w.alloc (.cells #[Value.string a1] 9 (0, 0))) (.cells #[Value.int IntKind.i64 0, Value.string ⟨#[]⟩, Value.string ⟨#[]⟩, Value.string ⟨#[]⟩, Value.int IntKind.i64 0] 23 (0, 0))
  have hB1 := ((Below.refl w.heap.size w).alloc (Nat.le_refl _) (.cells #[Value.string a1] 9 (0, 0))).alloc (by rw [show (w.alloc (.cells #[Value.string a1] 9 (0, 0))).heap.size = w.heap.size + 1 by simp [World.alloc, -World.alloc_eq]]; omega) (.cells #[Value.int IntKind.i64 0, Value.string ⟨#[]⟩, Value.string ⟨#[]⟩, Value.string ⟨#[]⟩, Value.int IntKind.i64 0] 23 (0, 0))
  rw [show (w.alloc (.cells #[Value.string a1] 9 (0, 0))).heap.size = w.heap.size + 1 by simp [World.alloc, -World.alloc_eq]] at hn1
  generalize (w.alloc (.cells #[Value.string a1] 9 (0, 0))).alloc (.cells #[Value.int IntKind.i64 0, Value.string ⟨#[]⟩, Value.string ⟨#[]⟩, Value.string ⟨#[]⟩, Value.int IntKind.i64 0] 23 (0, 0)) = w1 at hk1 hn1 hB1 ⊢
  have hlt1 : w.heap.size + 1 < w1.heap.size := blk_lt hn1
  have hcall : ∃ y b, (y.f0, y.f1, y.f2, y.f3, y.f4, b) = dup_findS l0 a1 ∧ Calls Tryd.prog 29 #[.slice A0 l0.length c0, .func (.func 30) #[] #[.pointer (some ⟨w.heap.size, 0, none⟩)]] w1 fun e w' => e = .returned (.tuple #[enc24 y, .bool b]) ∧ Below w1.heap.size w1 w' := by
    have h0 : ∀ W0, Below w1.heap.size w1 W0 → Below W0.heap.size W0 W0 := fun W0 _ => Below.refl _ _
    have hK : ∀ (W0 W : World) (k : Nat), Below w1.heap.size w1 W0 → (Below W0.heap.size W0 W ∨ Below W0.heap.size W0 W) → KeptFrom w1.heap.size W0 W := fun W0 W k _ h => by
      have h : Below W0.heap.size W0 W := h.elim id id
      exact ⟨h.size, fun j _ hj => h.block j hj⟩
    have hs : ∀ (W0 W : World) (k : Nat), k < l0.length → Below w1.heap.size w1 W0 → (Below w1.heap.size w1 W0 ∧ Below W0.heap.size W0 W) → Calls Tryd.prog 30 (#[enc24 (rd_T23 l0 k)] ++ #[.pointer (some ⟨w.heap.size, 0, none⟩)]) W fun e w' => e = .returned (.bool ((rd_T23 l0 (k : Int)).f1.toList == a1.toList)) ∧ ((((rd_T23 l0 (k : Int)).f1.toList == a1.toList) = false) → (Below w1.heap.size w1 W0 ∧ Below W0.heap.size W0 w')) ∧ ((((rd_T23 l0 (k : Int)).f1.toList == a1.toList) = true) → (Below w1.heap.size w1 W0 ∧ Below W0.heap.size W0 w')) := fun W0 W k hk h1 h2 => by
      have hW : Below w1.heap.size w1 W := h1.trans (h2.2.mono h1.size)
      refine (find_pred a1 w.heap.size _ W ((blk_cell (blk_below hk1 hW) 0).trans rfl)).mono ?_
      rintro e w' ⟨rfl, hb⟩
      have hb' := h2.2.trans (hb.mono h2.2.size)
      exact ⟨rfl, fun _ => ⟨h1, hb'⟩, fun _ => ⟨h1, hb'⟩⟩
    have hC : ∀ (W0 W : World) (k : Nat), (Below w1.heap.size w1 W0 ∧ Below W0.heap.size W0 W) → Kd.C k23 W A0 l0.length l0 := fun W0 W k h => find_I A0 _ l0 w W0 W HR.out (hB1.trans (h.1.mono (by omega))) h.2
    rcases least_or (fun i => (rd_T23 l0 (i : Int)).f1.toList == a1.toList) l0.length with ⟨i, hi, hp, hpj⟩ | hpj
    · refine ⟨rd_T23 l0 i, true, ?_, ?_⟩
      · rw [rd_get l0 i hi]
        refine (findS_hit a1 l0 i hi (by have := hp; rw [rd_get l0 i hi] at this; exact this) (fun j hj => ?_)).symm
        have := hpj j hj
        rw [rd_get l0 j (by omega)] at this; exact this
      · refine (first_hit 30 _ (enters_of Tryd.func30 (by kernel_rfl) rfl) (fun i => (rd_T23 l0 (i : Int)).f1.toList == a1.toList) A0 c0 l0 w1 (fun W0 _ W => Below w1.heap.size w1 W0 ∧ Below W0.heap.size W0 W) (fun W0 _ W => Below w1.heap.size w1 W0 ∧ Below W0.heap.size W0 W) (fun W0 h => ⟨h, Below.refl _ _⟩) (fun W0 W k h => hC W0 W k h) (fun W0 W k h => hC W0 W k h) (fun W0 W k h1 h2 => hK W0 W k h1 (h2.imp And.right And.right)) hs i hi hp hpj).mono ?_
        rintro e w' ⟨rfl, W0, W, b0, ⟨_, b1⟩, b2⟩
        exact ⟨rfl, (b0.trans (b1.mono b0.size)).trans b2⟩
    · refine ⟨z23, false, ?_, ?_⟩
      · refine (findS_miss a1 l0 (fun j hj => ?_)).symm
        have := hpj j hj
        rw [rd_get l0 j hj] at this; exact this
      · refine (first_miss 30 _ (enters_of Tryd.func30 (by kernel_rfl) rfl) (fun i => (rd_T23 l0 (i : Int)).f1.toList == a1.toList) A0 c0 l0 w1 (fun W0 _ W => Below w1.heap.size w1 W0 ∧ Below W0.heap.size W0 W) (fun W0 _ W => Below w1.heap.size w1 W0 ∧ Below W0.heap.size W0 W) (fun W0 h => ⟨h, Below.refl _ _⟩) (fun W0 W k h => hC W0 W k h) (fun W0 W k h => hC W0 W k h) (fun W0 W k h1 h2 => hK W0 W k h1 (h2.imp And.right And.right)) hs hpj).mono ?_
        rintro e w' ⟨rfl, W0, W, b0, ⟨_, b1⟩, b2⟩
        exact ⟨rfl, (b0.trans (b1.mono b0.size)).trans b2⟩
  obtain ⟨y, b, hy, hcall⟩ := hcall
  have hy2 := hy.trans HF.out
  simp only [Prod.mk.injEq] at hy2
  obtain ⟨rfl, rfl, rfl, rfl, rfl, rfl⟩ := hy2
  unfold enc24 at hcall
  clear hy hk1
  go_wp2_with (go_at_call 29; refine hcall.mono ?_; rintro e w2 ⟨rfl, hb⟩; have hn2 := blk_below hn1 hb; obtain ⟨hc0, hc1, hc2, hc3, hc4, hf0, hf1, hf2, hf3, hf4⟩ := open5 hn2; have HN2 := Lib.hid hn2; clear hn2)
  refine bodyPost_ret (results_ct rfl _ _ (w.heap.size + 1) 23 #[.int .i64 y.f0, .string y.f1, .string y.f2, .string y.f3, .int .i64 y.f4] (0, 0) _ rfl (blk_put5 HN2.out _ _ _ _ _) Tryd.underlying23 rfl (by kernel_rfl)) rfl ?_
  exact ⟨rfl, below_put5 (hB1.trans (hb.mono hB1.size)) (by omega) _ _ _ _ _⟩


end Go.Proofs.YtmifpifhiiommaaDoor.XT
