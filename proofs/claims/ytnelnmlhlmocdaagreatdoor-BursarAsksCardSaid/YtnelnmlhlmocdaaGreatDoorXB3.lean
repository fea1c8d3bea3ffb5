-- Written by wip/xprint.py, a session's program: printed out of the translation, with hand-written functions. Lean checks it.
import Derived.Test.YtnelnmlhlmocdaaGreatDoorXB0
namespace Go.Proofs.YtnelnmlhlmocdaaGreatDoor.XB
open Go.RowKit Go.Proofs.YtnelnmlhlmocdaaGreatDoorW.PrintWords Go.Proofs.YtnelnmlhlmocdaaGreatDoorW.PrintLast Go.Proofs.YtnelnmlhlmocdaaGreatDoorW.PrintMore
attribute [local go_sem] max2_int min2_int max_two min_two max_three min_three max_four min_four   -- for this text's walks alone
set_option linter.unusedVariables false
set_option linter.unusedSimpArgs false

/-! ### iso_Put: function 6 -/
def field_Clone.f (l0 : List S56) : Option (List S56) := if l0.length ≤ 1000 then some l0 else none
set_option maxHeartbeats 2000000 in
theorem field_Clone.calls (A0 : Option Addr) (c0 : Nat) (l0 : List (S56)) (r : List (S56)) (w : World) (hr0 : Kd.C k56 w A0 l0.length l0) (hc0 : l0.length ≤ c0) (h : field_Clone.f l0 = some r) :
    Calls Tryz.prog 22 #[.slice A0 l0.length c0] w fun e w' => ∃ v0_ : Value, e = .returned v0_ ∧ Kd.R k56 56 w' w.heap.size (fun _ => True) v0_ r ∧ Below w.heap.size w w' := by
  unfold field_Clone.f at h
  split at h
  case isFalse => cases h
  case isTrue hl =>
  obtain rfl := Option.some.inj h
  have HR := Lib.hid hr0
  clear h hr0
  have q22 : ∀ (w : World) (a : Option Addr) (n c n' c' : Nat), (binOp .eql 30 (.slice a n c) (.slice none n' c')).run Tryz.prog w = .ok (.bool a.isNone) w := fun w a n c n' c' => Lib.run_eql_slice_nil w _ _ a n c n' c' Tryz.underlying30
  cases A0 with
  | none =>
    have h0 : l0 = [] := by
      rcases Nat.eq_zero_or_pos l0.length with h | h
      · exact List.eq_nil_of_length_eq_zero h
      · obtain ⟨ad, e, _⟩ := HR.out.2.2 h; cases e
    subst h0
    go_enter Tryz.func22, Tryz.ntmps22
    go_wp2
    go_ret
    exact ⟨_, rfl, Kd.R_nil _ _ _ _ _, Below.refl _ _⟩
  | some ad =>
    have hW : Below w.heap.size w (w.alloc (.cells #[] 56 (0, 0))) := (Below.refl _ _).alloc (Nat.le_refl _) _
    have HO : Hid (Kd.R k56 56 (w.alloc (.cells #[] 56 (0, 0))) w.heap.size (fun _ => True) (.slice (some ⟨w.heap.size, 0, none⟩) 0 0) []) := Lib.hid ⟨fun _ _ => trivial, [], World.ownsRow_made w #[] 0 (Nat.le_refl _) (Nat.zero_le _) rfl, Reps.none _ _⟩
    have HR2 : Hid (Kd.C k56 (w.alloc (.cells #[] 56 (0, 0))) (some ad) l0.length l0) := Lib.hid (Kd.C_below HR.out hW)
    go_enter Tryz.func22, Tryz.ntmps22
    go_wp2_with (
      (with_reducible refine gate_builtin (b := .append) (xs := #[.tmp 5, .tmp 6]) rfl ?_)
      at_builtin
      refine Kd.R_append_rows k56 (w0 := w) w.heap.size rfl (.tmp 5) (.tmp 6) 30 56 (.agg #[(.int .i64 0), (.string ⟨#[]⟩)]) 24 rfl Tryz.underlying30 info56 rfl (by decide) (by omega) (.slice (some ⟨w.heap.size, 0, none⟩) 0 0) [] l0 (some ad) l0.length c0 (fun _ => True) (fun _ => False) rfl rfl HO.out HR2.out (fun x cs hk => by obtain rfl := k56_open hk; exact k56_mkM _ _ _ _) (fun _ h => h.elim) (fun _ _ => trivial) hW (by rw [show (w.alloc (.cells #[] 56 (0, 0))).heap.size = w.heap.size + 1 by simp [World.alloc, -World.alloc_eq]]; omega) (by simp; omega) ?_
      intro v1 w1 hR1 hB1 _ _)
    go_ret
    exact ⟨_, rfl, by simpa using hR1, hB1⟩
def encF (x : S56) : Value := .agg #[.int .i64 x.f0, .string x.f1]
set_option maxHeartbeats 2000000 in
theorem fidx_walk (g : Nat) (lb : Array Value) (eg : ∀ args w, (callFunc g args).run Tryz.prog w = .ok (.enter g args) w) (I : World → Prop) (p : Nat → Bool)
    (A : Option Addr) (c : Nat) (xs : List S56) (w : World) (h0 : I w) (hC : ∀ W, I W → Kd.C k56 W A xs.length xs)
    (hs : ∀ (W : World) (k : Nat), k < xs.length → I W → Calls Tryz.prog g (#[encF (rd_T56 xs k)] ++ lb) W fun e w' => e = .returned (.bool (p k)) ∧ I w') :
    Calls Tryz.prog 24 #[.slice A xs.length c, .func (.func g) #[] lb] w fun e w' =>
      (∃ i : Nat, i < xs.length ∧ p i = true ∧ (∀ j, j < i → p j = false) ∧ e = .returned (.int .i64 i) ∧ I w') ∨ ((∀ j, j < xs.length → p j = false) ∧ e = .returned (.int .i64 (-1)) ∧ I w') := by
  have hbig := (hC w h0).2.1
  have H0 := Lib.hid h0
  have HC := Lib.hid hC
  have HS := Lib.hid hs
  clear h0 hC hs
  go_enter Tryz.func24, Tryz.ntmps24
  go_wp2
  go_loopg [5, 8] xs.length (fun gg _ s8 wr => ∃ kk : Nat, kk ≤ xs.length ∧ xs.length - kk ≤ gg ∧ s8 = .int .i64 kk ∧ Hid (I wr) ∧ Hid (∀ j, j < kk → p j = false))
  case atStart => exact ⟨0, Nat.zero_le _, by omega, rfl, H0, Lib.hid fun j hj => absurd hj (Nat.not_lt_zero _)⟩
  case round =>
    obtain ⟨kk, hkk, hg, rfl, BW, HA⟩ := hrel
    by_cases hlt : kk < xs.length
    · have hltz : (kk : Int) < (xs.length : Int) := by omega
      obtain ⟨ad, rfl, l0, l1⟩ := at_T56 (HC.out _ BW.out) (kk : Int) (by omega) hltz
      have hcall := HS.out wr kk hlt BW.out
      unfold encF at hcall
      rw [Int.toNat_natCast] at l0 l1
      generalize rd_T56 xs kk = y at l0 l1 hcall
      cases hq : p kk with
      | true =>
        rw [hq] at hcall
        go_wp2_with (go_at_fn g; refine hcall.mono ?_; rintro e w' ⟨rfl, hJ⟩)
        go_ret
        exact .inl ⟨kk, hlt, hq, HA.out, rfl, hJ⟩
      | false =>
        rw [hq] at hcall
        go_wp2_with (go_at_fn g; refine hcall.mono ?_; rintro e w' ⟨rfl, hI⟩)
        go_roundg (xs.length - (kk + 1))
        case measure => omega
        case rel =>
          refine ⟨kk + 1, by omega, by omega, ?_, Lib.hid hI, Lib.hid fun j hj => ?_⟩
          · simp
          · rcases Nat.lt_or_ge j kk with h | h
            · exact HA.out j h
            · rw [show j = kk by omega]; exact hq
    · have hge : ¬ (kk : Int) < (xs.length : Int) := by omega
      obtain rfl : kk = xs.length := by omega
      go_wp2
      go_ret
      exact .inr ⟨HA.out, rfl, BW.out⟩
theorem eqF_w (f : Nat) (hf : f = 23 ∨ f = 111) (n : Int) (T : Nat) (x : S56) (w : World) (hT : w.cell? ⟨T, 0, none⟩ = some (.int .i64 n)) :
    Calls Tryz.prog f #[.agg #[.int .i64 x.f0, .string x.f1], .pointer (some ⟨T, 0, none⟩)] w fun e w' => e = .returned (.bool (x.f0 == n)) ∧ Below w.heap.size w w' := by
  have hu := Tryz.underlying56
  obtain ⟨a, b⟩ := x
  have hT1 := Lib.cell?_alloc_some (.cells #[.int .i64 a, .string b] 56 (0, 0)) hT
  rcases hf with rfl | rfl
  · go_enter Tryz.func23, Tryz.ntmps23
    go_wp2
    go_ret
    exact ⟨rfl, below_alloc (Below.refl _ _) _⟩
  · go_enter Tryz.func111, Tryz.ntmps111
    go_wp2
    go_ret
    exact ⟨rfl, below_alloc (Below.refl _ _) _⟩
theorem gtF_w (n : Int) (T : Nat) (x : S56) (w : World) (hT : w.cell? ⟨T, 0, none⟩ = some (.int .i64 n)) :
    Calls Tryz.prog 25 #[.agg #[.int .i64 x.f0, .string x.f1], .pointer (some ⟨T, 0, none⟩)] w fun e w' => e = .returned (.bool (decide (x.f0 > n))) ∧ Below w.heap.size w w' := by
  have hu := Tryz.underlying56
  obtain ⟨a, b⟩ := x
  have hT1 := Lib.cell?_alloc_some (.cells #[.int .i64 a, .string b] 56 (0, 0)) hT
  go_enter Tryz.func25, Tryz.ntmps25
  go_wp2
  go_ret
  exact ⟨rfl, below_alloc (Below.refl _ _) _⟩
theorem rd_mem56 (xs : List S56) (k : Nat) (h : k < xs.length) : rd_T56 xs (k : Int) ∈ xs := by
  unfold rd_T56
  rw [Int.toNat_natCast, List.getD_eq_getElem?_getD, List.getElem?_eq_getElem h]
  exact List.getElem_mem h
theorem fdel_none (n : Int) (T : Nat) (A : Option Addr) (c : Nat) (xs : List S56) (w : World) (hC : Kd.C k56 w A xs.length xs) (hT : w.cell? ⟨T, 0, none⟩ = some (.int .i64 n)) (hno : ∀ x ∈ xs, x.f0 ≠ n) :
    Calls Tryz.prog 21 #[.slice A xs.length c, .func (.func 23) #[] #[.pointer (some ⟨T, 0, none⟩)]] w fun e w' => e = .returned (.slice A xs.length c) ∧ Below w.heap.size w w' := by
  have hTl : T < w.heap.size := block_lt_of_cell hT
  have hw := fidx_walk 23 #[.pointer (some ⟨T, 0, none⟩)] (enters_of Tryz.func23 (by kernel_rfl) rfl) (fun W => Below w.heap.size w W) (fun k => (rd_T56 xs (k : Int)).f0 == n) A c xs w (Below.refl _ _) (fun W h => Kd.C_below hC h) (fun W k hk hb => by
    refine (eqF_w 23 (.inl rfl) n T _ W ((hb.cell (p := ⟨T, 0, none⟩) hTl).trans hT)).mono ?_
    rintro e w' ⟨rfl, hb2⟩
    exact ⟨rfl, hb.trans (hb2.mono hb.size)⟩)
  have hw2 := hw.mono (R' := fun e w' => e = .returned (.int .i64 (-1)) ∧ Below w.heap.size w w') (by
    rintro e w' (⟨i, hi, hp, -⟩ | ⟨-, rfl, hb⟩)
    · exact absurd (eq_of_beq hp) (hno _ (rd_mem56 xs i hi))
    · exact ⟨rfl, hb⟩)
  clear hw hC hno
  go_enter Tryz.func21, Tryz.ntmps21
  go_wp2_with (go_at_call 24; refine hw2.mono ?_; rintro e w1 ⟨rfl, hb1⟩)
  go_ret
  exact ⟨rfl, hb1⟩
theorem fgt_idx (n : Int) (T : Nat) (A : Option Addr) (c : Nat) (xs : List S56) (w : World) (hC : Kd.C k56 w A xs.length xs) (hT : w.cell? ⟨T, 0, none⟩ = some (.int .i64 n)) (hgt : ∀ x ∈ xs, x.f0 > n) :
    Calls Tryz.prog 24 #[.slice A xs.length c, .func (.func 25) #[] #[.pointer (some ⟨T, 0, none⟩)]] w fun e w' => e = .returned (.int .i64 (if xs = [] then -1 else 0)) ∧ Below w.heap.size w w' := by
  have hTl : T < w.heap.size := block_lt_of_cell hT
  refine (fidx_walk 25 #[.pointer (some ⟨T, 0, none⟩)] (enters_of Tryz.func25 (by kernel_rfl) rfl) (fun W => Below w.heap.size w W) (fun k => decide ((rd_T56 xs (k : Int)).f0 > n)) A c xs w (Below.refl _ _) (fun W h => Kd.C_below hC h) (fun W k hk hb => by
    refine (gtF_w n T _ W ((hb.cell (p := ⟨T, 0, none⟩) hTl).trans hT)).mono ?_
    rintro e w' ⟨rfl, hb2⟩
    exact ⟨rfl, hb.trans (hb2.mono hb.size)⟩)).mono ?_
  rintro e w' (⟨i, hi, hp, hj, rfl, hb⟩ | ⟨hn, rfl, hb⟩)
  · have h0 : i = 0 := by
      rcases Nat.eq_zero_or_pos i with h | h
      · exact h
      · have h1 := of_decide_eq_false (hj 0 h)
        exact absurd (hgt _ (rd_mem56 xs 0 (by omega))) h1
    subst h0
    have hne : xs ≠ [] := by intro e; subst e; exact absurd hi (Nat.not_lt_zero _)
    exact ⟨by rw [if_neg hne]; rfl, hb⟩
  · have h0 : xs = [] := by
      rcases Nat.eq_zero_or_pos xs.length with h | h
      · exact List.eq_nil_of_length_eq_zero h
      · exact absurd (hgt _ (rd_mem56 xs 0 h)) (of_decide_eq_false (hn 0 h))
    exact ⟨by rw [if_pos h0], hb⟩
theorem run_copy_two {P : Program} (w : World) (dT sT ty elem : TypeId) (b o dLen dCap : Nat) (a : Addr) (sLen sCap n : Nat) (cs : List Value)
    (hu : P.underlying dT = some (.slice elem)) (hs : (P.info? elem).map (·.size) = some 2) (hn : n = Nat.min sLen dLen) (hcl : cs.length = n * 2)
    (hsrc : ∀ j v, cs[j]? = some v → w.cell? (a.add j) = some v) (hc : ∀ j, j < cs.length → (w.cell? ⟨b, o + j, none⟩).isSome = true) (hf : ∀ j, j < cs.length → w.frozen? ⟨b, o + j, none⟩ = false) (h1 : ∀ v ∈ cs, v.oneCell' = true) :
    (Builtin.copy_ #[dT, sT] ty #[.slice (some ⟨b, o, none⟩) dLen dCap, .slice (some a) sLen sCap]).run P w = .ok (goInt n) (w.setCells b o cs) := by
  have hl := run_loadCells_list (P := P) w a cs hsrc
  rw [hcl] at hl
  have hst := run_storeCells_cells (P := P) b o cs 0 w (by simpa using hc) (by simpa using hf) h1
  cases hq : P.info? elem with
  | none => simp [hq] at hs
  | some i =>
    have hi : i.size = 2 := by simpa [hq] using hs
    simp [Builtin.copy_, run_underlying hu, Builtin.lenOf, Builtin.firstCells, sizeOf, typeInfo, hq, hi, ← hn, hl, hst]
theorem M_ext56 (W W' : World) (base base' : Nat) (ok ok' : Nat → Prop) {x : S56} {cs : List Value} (h : k56.M W base ok x cs) : k56.M W' base' ok' x cs := by
  obtain rfl := k56_openM h
  exact k56_mkM _ _ _ _
/-- a row of fields whose block is known -/
theorem R_of_block {W : World} {base g cap : Nat} {cur : Array Value} {xs : List S56} {inner : List Value} (hg : base ≤ g) (hb : W.heap[g]? = some (.cells cur 56 (0, 0))) (hle : xs.length ≤ cap) (hcap : cap ≤ maxLen) (hsz : cur.size = cap * 2)
    (hin : Reps (fun (x : S56) (cs : List Value) => cs = [.int .i64 x.f0, .string x.f1]) 2 xs inner) (hc : cur.toList.take (xs.length * 2) = inner) : Kd.R k56 56 W base (fun _ => True) (.slice (some ⟨g, 0, none⟩) xs.length cap) xs :=
  ⟨fun _ _ => trivial, inner, ⟨hin.1, .inr ⟨g, cap, cur, rfl, hg, hb, hle, hcap, hsz, hc⟩⟩, hin.imp_ (fun x cs h => by subst h; exact k56_mkM _ _ _ _)⟩
theorem reps_cons (x : S56) {xs : List S56} {inner : List Value} (h : Reps (fun (x : S56) (cs : List Value) => cs = [.int .i64 x.f0, .string x.f1]) 2 xs inner) : Reps (fun (x : S56) (cs : List Value) => cs = [.int .i64 x.f0, .string x.f1]) 2 (x :: xs) (.int .i64 x.f0 :: .string x.f1 :: inner) := by
  refine ⟨by simp only [List.length_cons, h.1]; omega, fun m p hm => ?_⟩
  cases m with
  | zero => cases hm; rfl
  | succ m =>
    rw [show (m + 1) * 2 = m * 2 + 2 by omega]
    exact h.2 m p hm
theorem inner_one {xs : List S56} {inner : List Value} (h : Reps (fun (x : S56) (cs : List Value) => cs = [.int .i64 x.f0, .string x.f1]) 2 xs inner) : ∀ v ∈ inner, v.oneCell' = true :=
  Kd.reps_one h (by decide) (fun x cs hc => by subst hc; intro u hu; simp only [List.mem_cons, List.not_mem_nil, or_false] at hu; rcases hu with rfl | rfl <;> rfl)
set_option maxHeartbeats 4000000 in
set_option maxRecDepth 100000 in
theorem fins_nil (x : S56) (vb base : Nat) (v : Value) (w : World) (HR : Kd.R k56 56 w base (fun _ => True) v []) (hvb : w.heap[vb]? = some (.cells #[.int .i64 x.f0, .string x.f1] 56 (0, 0))) (hvo : some vb ≠ v.ownBlock) (hbase : base ≤ w.heap.size) :
    Calls Tryz.prog 26 #[v, .int .i64 0, .slice (some ⟨vb, 0, none⟩) 1 1] w fun e w' => ∃ v', e = .returned v' ∧ Kd.R k56 56 w' base (fun _ => True) v' [x] ∧ Below base w w' := by
  have HC : Hid (Kd.C k56 w (some ⟨vb, 0, none⟩) 1 [x]) := Lib.hid (by
    refine ⟨rfl, by omega, fun _ => ⟨_, rfl, fun j p hj => ?_⟩⟩
    cases j with
    | zero =>
      cases hj
      refine ⟨[.int .i64 x.f0, .string x.f1], rfl, k56_mk _ _, fun i u hu => ?_⟩
      rw [Addr.add_lit]
      refine (blk_cell hvb _).trans ?_
      rw [← hu, Nat.zero_mul, Nat.zero_add, Nat.zero_add]
      exact List.getElem?_toArray
    | succ j => cases hj)
  have HRR := Lib.hid HR
  obtain ⟨inner, ho⟩ := Kd.R_own HR
  clear HR hvb hvo
  have mixed : Tryz.prog.follows .mixedOrders = true := by kernel_rfl
  rcases ho.2 with ⟨rfl, -⟩ | ⟨g, c, cur, rfl, -, -, -, hcm, -⟩
  all_goals
    clear ho
    go_enter Tryz.func26, Tryz.ntmps26
    go_wp2_with (
      (with_reducible refine gate_builtin (b := .append) (xs := #[.tmp 23, .tmp 24]) rfl ?_)
      at_builtin
      refine Kd.R_append_rows k56 (w0 := w) base rfl (.tmp 23) (.tmp 24) 30 56 (.agg #[(.int .i64 0), (.string ⟨#[]⟩)]) 24 rfl Tryz.underlying30 info56 rfl (by decide) (by omega) _ [] [x] (some ⟨vb, 0, none⟩) 1 1 (fun _ => True) (fun _ => False) rfl rfl HRR.out HC.out (fun x cs hk => by obtain rfl := k56_open hk; exact k56_mkM _ _ _ _) (fun _ h => h.elim) (fun _ _ => trivial) (Below.refl _ _) hbase (by simp) ?_
      intro v1 w1 hR1 hB1 _ _)
    all_goals
      go_ret
      exact ⟨_, rfl, hR1, hB1⟩
theorem ins_list (a b : Value) (L inner R : List Value) (n : Nat) (hL : 2 ≤ L.length) (hi : inner.length = n * 2) : ((L.take 2 ++ inner ++ R).take 0 ++ [a, b] ++ (L.take 2 ++ inner ++ R).drop (0 + 2)).take ((n + 1) * 2) = a :: b :: inner := by
  rw [List.take_zero, List.nil_append, List.append_assoc (L.take 2), List.drop_left' (by rw [List.length_take]; omega), show (n + 1) * 2 = n * 2 + 1 + 1 by omega]
  show (a :: b :: (inner ++ R)).take (n * 2 + 1 + 1) = _
  rw [List.take_succ_cons, List.take_succ_cons, List.take_left' hi]
theorem below_setCells {B g : Nat} {a w : World} (h : Below B a w) (hg : B ≤ g) (o : Nat) (vs : List Value) : Below B a (w.setCells g o vs) := by
  obtain ⟨h1, h2, h3, h4⟩ := setCells_same g vs o w
  exact ⟨h1.trans h.os, h2.trans h.tape, h3.trans h.output, by rw [h4]; exact h.size, fun j hj => (setCells_far vs o j (by omega)).trans (h.block j hj)⟩
set_option maxHeartbeats 4000000 in
set_option maxRecDepth 100000 in
/-- there is room: in place -/
theorem fins_room (x : S56) (vb base g n cap : Nat) (cur : Array Value) (xs : List S56) (inner : List Value) (w : World) (hn : xs.length = n) (hn1 : 1 ≤ n) (hn2 : n ≤ 20) (hroom : n + 1 ≤ cap) (hcap : cap ≤ maxLen) (hsz : cur.size = cap * 2) (hg : w.heap[g]? = some (.cells cur 56 (0, 0))) (hbg : base ≤ g) (hbase : base ≤ w.heap.size)
    (hin : Reps (fun (x : S56) (cs : List Value) => cs = [.int .i64 x.f0, .string x.f1]) 2 xs inner) (hc : cur.toList.take (n * 2) = inner) (hvb : w.heap[vb]? = some (.cells #[.int .i64 x.f0, .string x.f1] 56 (0, 0))) (hne : vb ≠ g) :
    Calls Tryz.prog 26 #[.slice (some ⟨g, 0, none⟩) n cap, .int .i64 0, .slice (some ⟨vb, 0, none⟩) 1 1] w fun e w' => ∃ v', e = .returned v' ∧ Kd.R k56 56 w' base (fun _ => True) v' (x :: xs) ∧ Below base w w' := by
  have hil : inner.length = n * 2 := by rw [hin.1, hn]
  have hcm := hcap
  unfold maxLen at hcm
  have h1i := inner_one hin
  have hcell : ∀ j u, inner[j]? = some u → w.cell? ⟨g, j, none⟩ = some u := fun j u hj => by
    rw [blk_cell hg, ← Array.getElem?_toList]
    rw [← hc, List.getElem?_take] at hj
    split at hj
    · exact hj
    · cases hj
  have hsome : ∀ j, j < cap * 2 → (w.cell? ⟨g, j, none⟩).isSome = true := fun j hj => by
    rw [blk_cell hg, Array.getElem?_eq_getElem (by omega)]; rfl
  have hfz : ∀ j, w.frozen? ⟨g, j, none⟩ = false := fun j => blk_frozen hg j
  have hsz56 : (Tryz.prog.info? 56).map (·.size) = some 2 := by kernel_rfl
  have hz56 : ∀ w, (Go.sizeOf 56).run Tryz.prog w = .ok 2 w := fun w => by kernel_rfl
  have hov : ∀ lb cb, (callFunc 48 #[.slice (some ⟨vb, 0, none⟩) 1 1, .slice (some ⟨g, 2, none⟩) lb cb]).run Tryz.prog w = .ok (.value (.bool false)) w := fun lb cb => by
    rw [run_callFunc_extern Tryz.func48 (by kernel_rfl) (by kernel_rfl) (by kernel_rfl) (e := Extern.SlicesOverlaps.overlaps #[30, 30] #[4]) (by kernel_rfl),
      Lib.run_overlaps_apart w 30 4 56 Tryz.underlying30 2 hz56 ⟨vb, 0, none⟩ ⟨g, 2, none⟩ 1 1 lb cb hne 56 56 2 (cap * 2) (by simp [World.shape?, hvb]) (by simp [World.shape?, hg, hsz]) (by omega) (blk_frozen hvb 0) (blk_frozen hvb 2)]
    rfl
  have hcp1 : ∀ ty dc sc, (Builtin.copy_ #[30, 30] ty #[.slice (some ⟨g, 2, none⟩) n dc, .slice (some ⟨g, 0, none⟩) (n + 1) sc]).run Tryz.prog w.drew = .ok (goInt n) (w.drew.setCells g 2 inner) := fun ty dc sc =>
    run_copy_two w.drew _ _ ty 56 g 2 n dc ⟨g, 0, none⟩ (n + 1) sc n inner Tryz.underlying30 hsz56 (by simp only [Nat.min_def]; split <;> omega) hil
      (fun j u hj => by rw [Addr.add_lit, Nat.zero_add]; exact hcell j u hj)
      (fun j hj => hsome _ (by omega)) (fun j hj => hfz _) h1i
  obtain ⟨W1, hW1⟩ : ∃ W1, W1 = w.drew.setCells g 2 inner := ⟨_, rfl⟩
  obtain ⟨cur1, hg1, hs1, hl1⟩ := setCells_row inner 2 w.drew cur hg (by rw [hil, hsz]; omega)
  rw [← hW1] at hcp1 hg1
  have hvb1 : W1.heap[vb]? = some (.cells #[.int .i64 x.f0, .string x.f1] 56 (0, 0)) := by rw [hW1, setCells_far _ _ _ hne]; exact hvb
  have hcp2 : ∀ ty dc, (Builtin.copy_ #[30, 30] ty #[.slice (some ⟨g, 0, none⟩) (n + 1) dc, .slice (some ⟨vb, 0, none⟩) 1 1]).run Tryz.prog W1 = .ok (goInt 1) (W1.setCells g 0 [.int .i64 x.f0, .string x.f1]) := fun ty dc =>
    run_copy_two W1 _ _ ty 56 g 0 (n + 1) dc ⟨vb, 0, none⟩ 1 1 1 _ Tryz.underlying30 hsz56 (by simp only [Nat.min_def]; split <;> omega) rfl
      (fun j u hj => by rw [Addr.add_lit, Nat.zero_add, blk_cell hvb1]; rw [← hj]; exact List.getElem?_toArray)
      (fun j hj => by rw [blk_cell hg1, Array.getElem?_eq_getElem (by rw [hs1, hsz]; have : j < 2 := hj; omega)]; rfl) (fun j hj => blk_frozen hg1 _) (by intro u hu; simp only [List.mem_cons, List.not_mem_nil, or_false] at hu; rcases hu with rfl | rfl <;> rfl)
  obtain ⟨cur2, hg2, hs2, hl2⟩ := setCells_row [.int .i64 x.f0, .string x.f1] 0 W1 cur1 hg1 (by rw [hs1, hsz]; show 0 + 2 ≤ _; omega)
  have hl2' : cur2.toList.take ((x :: xs).length * 2) = .int .i64 x.f0 :: .string x.f1 :: inner := by
    rw [hl2, hl1, List.length_cons, hn]
    exact ins_list _ _ _ _ _ n (by rw [Array.length_toList]; omega) hil
  have hbd : Below base w (W1.setCells g 0 [.int .i64 x.f0, .string x.f1]) := by
    rw [hW1]
    exact below_setCells (below_setCells (below_drew1 (Below.mono (Below.refl _ w) hbase)) hbg _ _) hbg _ _
  have hfin := R_of_block (xs := x :: xs) hbg hg2 (by rw [List.length_cons, hn]; exact hroom) hcap (by rw [hs2, hs1, hsz]) (reps_cons x hin) hl2'
  have mixed : Tryz.prog.follows .mixedOrders = true := by kernel_rfl
  have HF := Lib.hid hfin
  have HD := Lib.hid hbd
  have HW := Lib.hid hW1
  clear hW1 hfin hbd hl2' hl2 hg2 hs2 hl1 hg1 hs1 hvb1 hcell hsome hfz hc hin h1i hil hg hvb hsz
  go_enter Tryz.func26, Tryz.ntmps26
  go_wp2_with (simp only [hov])
  have hw1 : IntKind.i64.wrap 1 = 1 := by rw [IntKind.wrap_i64]; rfl
  have hc1 : ¬ cap = 1 := by omega
  have hc0 : ¬ cap = 0 := by omega
  have hnn : (1 : Int) ≤ (n : Int) + 1 := by omega
  have hnz : (0 : Int) ≤ (n : Int) + 1 := by omega
  go_region_law_o (refine step_copy_runI rfl _ _ 30 30 rfl (.slice (some ⟨g, 2, none⟩) n (cap - 1)) (.slice (some ⟨g, 0, none⟩) (n + 1) cap) (by simp [Act.eval, Act.put]) (by simp [Act.eval, Act.put]) (hcp1 _ _ _) ?_)
  go_wp2_with (at_builtin; refine wpList_copy_runI _ rfl _ _ 30 30 rfl _ _ rfl rfl (hcp2 _ _) ?_)
  go_ret
  exact ⟨_, rfl, by have h := HF.out; rw [List.length_cons, hn] at h; exact h, HD.out⟩
theorem ins_list2 (a b : Value) (L inner : List Value) (n : Nat) (hi : inner.length = n * 2) : (((L.take 0 ++ [a, b] ++ L.drop (0 + 2)).take 2 ++ inner ++ (L.take 0 ++ [a, b] ++ L.drop (0 + 2)).drop (2 + inner.length))).take ((n + 1) * 2) = a :: b :: inner := by
  rw [List.take_zero, List.nil_append, List.take_left' (show [a, b].length = 2 from rfl), List.take_left' (by rw [List.length_append, hi]; show 2 + n * 2 = _; omega)]
  rfl
set_option maxHeartbeats 4000000 in
set_option maxRecDepth 100000 in
/-- there is no room: a new row -/
theorem fins_grow (x : S56) (vb base g n cap : Nat) (cur : Array Value) (xs : List S56) (inner : List Value) (w : World) (hn : xs.length = n) (hn1 : 1 ≤ n) (hn2 : n ≤ 20) (hroom : cap < n + 1) (hle : n ≤ cap) (hsz : cur.size = cap * 2) (hg : w.heap[g]? = some (.cells cur 56 (0, 0))) (hbase : base ≤ w.heap.size)
    (hin : Reps (fun (x : S56) (cs : List Value) => cs = [.int .i64 x.f0, .string x.f1]) 2 xs inner) (hc : cur.toList.take (n * 2) = inner) (hvb : w.heap[vb]? = some (.cells #[.int .i64 x.f0, .string x.f1] 56 (0, 0))) :
    Calls Tryz.prog 26 #[.slice (some ⟨g, 0, none⟩) n cap, .int .i64 0, .slice (some ⟨vb, 0, none⟩) 1 1] w fun e w' => ∃ v', e = .returned v' ∧ Kd.R k56 56 w' base (fun _ => True) v' (x :: xs) ∧ Below base w w' := by
  have hil : inner.length = n * 2 := by rw [hin.1, hn]
  have h1i := inner_one hin
  have hcell : ∀ j u, inner[j]? = some u → w.cell? ⟨g, j, none⟩ = some u := fun j u hj => by
    rw [blk_cell hg, ← Array.getElem?_toList]
    rw [← hc, List.getElem?_take] at hj
    split at hj
    · exact hj
    · cases hj
  have hsz56 : (Tryz.prog.info? 56).map (·.size) = some 2 := by kernel_rfl
  obtain ⟨i0, hi0, hz0, hzs, hzb⟩ := info_parts info56
  have hgl : g < w.heap.size := blk_lt hg
  have hvl : vb < w.heap.size := blk_lt hvb
  have hold : (Builtin.firstCells i0.size 0 (.slice (some ⟨g, 0, none⟩) 0 cap)).run Tryz.prog w.drew = .ok ([] : List Value).toArray w.drew := run_firstCells_some w.drew i0.size 0 ⟨g, 0, none⟩ 0 cap [] (by simp) (by simp)
  have hrz : ∀ ty, (Builtin.append_ #[30, 3] ty #[.slice (some ⟨g, 0, none⟩) 0 cap, .int .i64 ((n : Int) + 1)]).run Tryz.prog w =
      .ok (.slice (some ⟨w.heap.size, 0, none⟩) (n + 1) (grownCap w (n + 1) cap 56)) (w.drew.alloc (.cells (([] : List Value).toArray ++ Builtin.zeroCells (Value.agg #[.int .i64 0, .string ⟨#[]⟩]).cells (n + 1) ++ Builtin.zeroCells (Value.agg #[.int .i64 0, .string ⟨#[]⟩]).cells (grownCap w (n + 1) cap 56 - (n + 1))) 56)) := fun ty => by
    have h := Lib.run_append_grow_zeros w 30 3 ty 56 i0 _ .i64 .i64 Tryz.underlying30 Tryz.underlying3 hi0 hz0 (some ⟨g, 0, none⟩) 0 cap [] hold (n + 1) (by omega) (by omega) (by omega) (by omega) (by rw [hzb]; omega) (by rw [hzb]; exact growslice_fits (by omega) (by omega))
    rw [Nat.zero_add] at h
    rw [show (n : Int) + 1 = ((n + 1 : Nat) : Int) by omega]
    exact h
  obtain ⟨G, hG⟩ : ∃ G, G = grownCap w (n + 1) cap 56 := ⟨_, rfl⟩
  rw [← hG] at hrz
  have hGn : n + 1 ≤ G := by rw [hG]; exact grownCap_ge w _ _ _
  have hGm : G ≤ maxLen := by rw [hG]; exact grownCap_le_maxLen w (n + 1) cap 56 (by unfold maxLen; omega)
  have hGm2 := hGm
  unfold maxLen at hGm2
  obtain ⟨ROW, hROW⟩ : ∃ ROW : Array Value, ROW = ([] : List Value).toArray ++ Builtin.zeroCells (Value.agg #[.int .i64 0, .string ⟨#[]⟩]).cells (n + 1) ++ Builtin.zeroCells (Value.agg #[.int .i64 0, .string ⟨#[]⟩]).cells (G - (n + 1)) := ⟨_, rfl⟩
  rw [← hROW] at hrz
  have hRs : ROW.size = G * 2 := by
    rw [hROW]
    simp [Builtin.zeroCells, Value.cells]
    omega
  obtain ⟨W1, hW1⟩ : ∃ W1, W1 = w.drew.alloc (.cells ROW 56) := ⟨_, rfl⟩
  rw [← hW1] at hrz
  have hN : W1.heap[w.heap.size]? = some (.cells ROW 56 (0, 0)) := by rw [hW1]; exact blk_new w.drew _
  have hgN : g ≠ w.heap.size := by omega
  have hvN : vb ≠ w.heap.size := by omega
  have hg1 : W1.heap[g]? = some (.cells cur 56 (0, 0)) := by rw [hW1]; exact blk_alloc (w := w.drew) hg _
  have hv1 : W1.heap[vb]? = some (.cells #[.int .i64 x.f0, .string x.f1] 56 (0, 0)) := by rw [hW1]; exact blk_alloc (w := w.drew) hvb _
  have hB1 : Below base w W1 := by rw [hW1]; exact (below_drew1 (Below.mono (Below.refl _ w) hbase)).alloc (by exact hbase) _
  clear hW1
  have hcpA : ∀ ty dc, (Builtin.copy_ #[30, 30] ty #[.slice (some ⟨w.heap.size, 0, none⟩) (n + 1) dc, .slice (some ⟨vb, 0, none⟩) 1 1]).run Tryz.prog W1 = .ok (goInt 1) (W1.setCells w.heap.size 0 [.int .i64 x.f0, .string x.f1]) := fun ty dc =>
    run_copy_two W1 _ _ ty 56 w.heap.size 0 (n + 1) dc ⟨vb, 0, none⟩ 1 1 1 _ Tryz.underlying30 hsz56 (by simp only [Nat.min_def]; split <;> omega) rfl
      (fun j u hj => by rw [Addr.add_lit, Nat.zero_add, blk_cell hv1]; rw [← hj]; exact List.getElem?_toArray)
      (fun j hj => by rw [blk_cell hN, Array.getElem?_eq_getElem (by rw [hRs]; have : j < 2 := hj; omega)]; rfl) (fun j hj => blk_frozen hN _) (by intro u hu; simp only [List.mem_cons, List.not_mem_nil, or_false] at hu; rcases hu with rfl | rfl <;> rfl)
  obtain ⟨W2, hW2⟩ : ∃ W2, W2 = W1.setCells w.heap.size 0 [.int .i64 x.f0, .string x.f1] := ⟨_, rfl⟩
  obtain ⟨cur1, hN1, hs1, hl1⟩ := setCells_row [.int .i64 x.f0, .string x.f1] 0 W1 ROW hN (by rw [hRs]; show 0 + 2 ≤ _; omega)
  rw [← hW2] at hcpA hN1
  have hg2 : W2.heap[g]? = some (.cells cur 56 (0, 0)) := by rw [hW2, setCells_far _ _ _ hgN]; exact hg1
  have hB2 : Below base w W2 := by rw [hW2]; exact below_setCells hB1 hbase _ _
  clear hW2
  have hcpB : ∀ ty dc sc, (Builtin.copy_ #[30, 30] ty #[.slice (some ⟨w.heap.size, 2, none⟩) n dc, .slice (some ⟨g, 0, none⟩) n sc]).run Tryz.prog W2.drew = .ok (goInt n) (W2.drew.setCells w.heap.size 2 inner) := fun ty dc sc =>
    run_copy_two W2.drew _ _ ty 56 w.heap.size 2 n dc ⟨g, 0, none⟩ n sc n inner Tryz.underlying30 hsz56 (by simp only [Nat.min_def]; split <;> omega) hil
      (fun j u hj => by
        rw [Addr.add_lit, Nat.zero_add]
        refine (blk_cell (w := W2.drew) hg2 j).trans ?_
        rw [← blk_cell hg]
        exact hcell j u hj)
      (fun j hj => by rw [blk_cell (w := W2.drew) hN1, Array.getElem?_eq_getElem (by rw [hs1, hRs]; omega)]; rfl) (fun j hj => blk_frozen (w := W2.drew) hN1 _) h1i
  obtain ⟨cur2, hN2, hs2, hl2⟩ := setCells_row inner 2 W2.drew cur1 hN1 (by rw [hil, hs1, hRs]; omega)
  have hl2' : cur2.toList.take ((x :: xs).length * 2) = .int .i64 x.f0 :: .string x.f1 :: inner := by
    rw [hl2, hl1, List.length_cons, hn]
    exact ins_list2 _ _ _ _ n hil
  have hbd : Below base w (W2.drew.setCells w.heap.size 2 inner) := below_setCells (below_drew1 hB2) hbase _ _
  have hfin := R_of_block (xs := x :: xs) hbase hN2 (by rw [List.length_cons, hn]; exact hGn) hGm (by rw [hs2, hs1, hRs]) (reps_cons x hin) hl2'
  have mixed : Tryz.prog.follows .mixedOrders = true := by kernel_rfl
  have HF := Lib.hid hfin
  have HD := Lib.hid hbd
  clear hfin hbd hl2' hl2 hs2 hl1 hs1 hcell hc hin h1i hil hg hvb hsz hold hROW hG hRs hN hg1 hv1 hN1 hg2 hN2 hB1 hB2 hz0 hzs hzb hi0 hsz56 hGm hgl hvl
  have hw1 : IntKind.i64.wrap 1 = 1 := by rw [IntKind.wrap_i64]; rfl
  have hc1 : ¬ G = 1 := by omega
  have hc0 : ¬ G = 0 := by omega
  have hp0 : ¬ cap = 0 := by omega
  have hnn : (1 : Int) ≤ (n : Int) + 1 := by omega
  have hnz : (0 : Int) ≤ (n : Int) + 1 := by omega
  have hn0 : (0 : Int) ≤ (n : Int) := by omega
  have hz3 : (cap : Int) < (n : Int) + 1 := by omega
  go_enter Tryz.func26, Tryz.ntmps26
  go_wp2_with (first
    | (at_builtin; refine Lib.wpList_append_run _ rfl _ _ _ _ rfl _ _ rfl rfl _ _ (hrz _) ?_)
    | (at_builtin; refine wpList_copy_runI _ rfl _ _ 30 30 rfl _ _ rfl rfl (hcpA _ _) ?_))
  go_region_law_o (refine step_copy_runI rfl _ _ 30 30 rfl (.slice (some ⟨w.heap.size, 2, none⟩) n (G - 1)) (.slice (some ⟨g, 0, none⟩) n cap) (by simp [Act.eval, Act.put]) (by simp [Act.eval, Act.put]) (hcpB _ _ _) ?_)
  go_wp2
  go_ret
  exact ⟨_, rfl, by have h := HF.out; rw [List.length_cons, hn] at h; exact h, HD.out⟩
theorem finsert (x : S56) (vb base : Nat) (v : Value) (xs : List S56) (w : World) (HR : Kd.R k56 56 w base (fun _ => True) v xs) (hvb : w.heap[vb]? = some (.cells #[.int .i64 x.f0, .string x.f1] 56 (0, 0))) (hvo : some vb ≠ v.ownBlock) (hbase : base ≤ w.heap.size) (hlen : xs.length ≤ 20) :
    Calls Tryz.prog 26 #[v, .int .i64 0, .slice (some ⟨vb, 0, none⟩) 1 1] w fun e w' => ∃ v', e = .returned v' ∧ Kd.R k56 56 w' base (fun _ => True) v' (x :: xs) ∧ Below base w w' := by
  by_cases h0 : xs = []
  · subst h0
    exact fins_nil x vb base v w HR hvb hvo hbase
  · have hp : 0 < xs.length := List.length_pos_iff.mpr h0
    obtain ⟨-, inner, ho, hr⟩ := HR
    rcases ho.2 with ⟨-, h⟩ | ⟨g, cap, cur, rfl, hbg, hg, hle, hcap, hsz, hc⟩
    · omega
    · have hin : Reps (fun (x : S56) (cs : List Value) => cs = [.int .i64 x.f0, .string x.f1]) 2 xs inner := hr.imp_ (fun x cs h => k56_openM h)
      have hne : vb ≠ g := fun e => hvo (by rw [e]; rfl)
      by_cases hroom : xs.length + 1 ≤ cap
      · exact fins_room x vb base g xs.length cap cur xs inner w rfl hp hlen hroom hcap hsz hg hbg hbase hin hc hvb hne
      · exact fins_grow x vb base g xs.length cap cur xs inner w rfl hp hlen (by omega) hle hsz hg hbase hin hc hvb
set_option maxHeartbeats 4000000 in
set_option maxRecDepth 100000 in
theorem iso_Put_w (mti : ByteArray) (A : Option Addr) (c : Nat) (xs : List S56) (n : Int) (v : ByteArray) (w : World) (hC : Kd.C k56 w A xs.length xs) (hc0 : xs.length ≤ c) (hlen : xs.length ≤ 19) (hgt : ∀ x ∈ xs, x.f0 > n) :
    Calls Tryz.prog 6 #[.agg #[.string mti, .slice A xs.length c], .int .i64 n, .string v] w fun e w' => ∃ v1_ : Value, e = .returned (.agg #[.string mti, v1_]) ∧ Kd.R k56 56 w' w.heap.size (fun _ => True) v1_ (⟨n, v⟩ :: xs) ∧ Below w.heap.size w w' := by
  have hu := Tryz.underlying32
  have hu5 := Tryz.underlying56
  have hb1 := blk_alloc (blk_alloc (blk_new w (.cells #[.string mti, .slice A xs.length c] 32 (0, 0))) (.cells #[.int .i64 n] 3 (0, 0))) (.cells #[.string ⟨#[]⟩, .slice none 0 0] 32 (0, 0))
  have hb2 := blk_alloc (blk_new (w.alloc (.cells #[.string mti, .slice A xs.length c] 32 (0, 0))) (.cells #[.int .i64 n] 3 (0, 0))) (.cells #[.string ⟨#[]⟩, .slice none 0 0] 32 (0, 0))
  have hb3 := blk_new ((w.alloc (.cells #[.string mti, .slice A xs.length c] 32 (0, 0))).alloc (.cells #[.int .i64 n] 3 (0, 0))) (.cells #[.string ⟨#[]⟩, .slice none 0 0] 32 (0, 0))
  have hBe := below_alloc (below_alloc (below_alloc (Below.refl w.heap.size w) (.cells #[.string mti, .slice A xs.length c] 32 (0, 0))) (.cells #[.int .i64 n] 3 (0, 0))) (.cells #[.string ⟨#[]⟩, .slice none 0 0] 32 (0, 0))
  have hz0 : (((w.alloc (.cells #[.string mti, .slice A xs.length c] 32 (0, 0))).alloc (.cells #[.int .i64 n] 3 (0, 0))).alloc (.cells #[.string ⟨#[]⟩, .slice none 0 0] 32 (0, 0))).heap.size = w.heap.size + 3 := by simp
  rw [show ((w.alloc (.cells #[.string mti, .slice A xs.length c] 32 (0, 0))).alloc (.cells #[.int .i64 n] 3 (0, 0))).heap.size = w.heap.size + 2 by simp] at hb3
  rw [show (w.alloc (.cells #[.string mti, .slice A xs.length c] 32 (0, 0))).heap.size = w.heap.size + 1 by simp] at hb2
  go_enter Tryz.func6, Tryz.ntmps6
  go_upto_region 1 with fail
  have hC0 := Kd.C_below hC hBe
  clear hC
  generalize ((w.alloc (.cells #[.string mti, .slice A xs.length c] 32 (0, 0))).alloc (.cells #[.int .i64 n] 3 (0, 0))).alloc (.cells #[.string ⟨#[]⟩, .slice none 0 0] 32 (0, 0)) = W0 at hb1 hb2 hb3 hBe hz0 hC0 ⊢
  have hcl := field_Clone.calls A c xs xs W0 hC0 hc0 (by unfold field_Clone.f; rw [if_pos (by omega)])
  rw [hz0] at hcl
  have HZ := Lib.hid hz0
  clear hz0
  have hc1 : W0.cell? ⟨w.heap.size, 1, none⟩ = some (.slice A xs.length c) := (blk_cell hb1 1).trans rfl
  go_upto_region 2 with (first
    | (go_at_call 22; refine hcl.mono ?_; rintro e w1 ⟨v1, rfl, hR1, hB1⟩; have HB1 := Lib.hid hB1; have HR1 := Lib.hid hR1; obtain ⟨A1, c1, rfl⟩ := Kd.R_slice hR1; obtain ⟨-, hn1, hC1⟩ := Kd.R_reads' hR1; have hT1 : w1.cell? ⟨w.heap.size + 1, 0, none⟩ = some (.int .i64 n) := (hB1.cell (p := ⟨w.heap.size + 1, 0, none⟩) (by show w.heap.size + 1 < w.heap.size + 3; omega)).trans ((blk_cell hb2 0).trans rfl); have hdel := fdel_none n (w.heap.size + 1) A1 c1 xs w1 hC1 hT1 (fun x hx => by have := hgt x hx; omega); clear hB1 hR1 hC1 hT1)
    | (go_at_call 21; refine hdel.mono ?_; rintro e w2 ⟨rfl, hB2⟩))
  have hR2 := Kd.R_below HR1.out hB2
  have hW2 : Below (w.heap.size + 3) W0 w2 := HB1.out.trans (hB2.mono (by have := HB1.out.size; have := HZ.out; omega))
  have hT2 : w2.cell? ⟨w.heap.size + 1, 0, none⟩ = some (.int .i64 n) := (hW2.cell (p := ⟨w.heap.size + 1, 0, none⟩) (by show w.heap.size + 1 < w.heap.size + 3; omega)).trans ((blk_cell hb2 0).trans rfl)
  obtain ⟨-, -, hC2⟩ := Kd.R_reads' hR2
  have hidx := fgt_idx n (w.heap.size + 1) A1 c1 xs w2 hC2 hT2 hgt
  have HW2 := Lib.hid hW2
  have HR2 := Lib.hid hR2
  clear hR2 hW2 hT2 hC2 hB2 hcl hdel hc1 HB1 HR1 hgt
  have H1 := Lib.hid hb1
  have H2 := Lib.hid hb2
  have H3 := Lib.hid hb3
  have HE := Lib.hid hBe
  clear hb1 hb2 hb3 hBe hC0
  have fin : ∀ w3 : World, Below w2.heap.size w2 w3 → Calls Tryz.prog 26 #[.slice A1 xs.length c1, .int .i64 0, .slice (some ⟨w3.heap.size, 0, none⟩) 1 1] (w3.alloc (.cells #[.int .i64 n, .string v] 56 (0, 0))) fun e w' => ∃ v', e = .returned v' ∧ Kd.R k56 56 w' (w.heap.size + 3) (fun _ => True) v' (⟨n, v⟩ :: xs) ∧ Below (w.heap.size + 3) W0 w' := fun w3 hb => by
    have hR3 := Kd.R_below HR2.out hb
    have hz3 : w.heap.size + 3 ≤ w3.heap.size := by have := hb.size; have := HW2.out.size; have := HZ.out; omega
    refine (finsert ⟨n, v⟩ w3.heap.size (w.heap.size + 3) _ xs _ (Kd.R_below hR3 ((Below.refl w3.heap.size w3).alloc (Nat.le_refl _) _)) (blk_new w3 _) (fun e => by have := Kd.R_lt hR3 _ e.symm; omega) (by simp; omega) (by omega)).mono ?_
    rintro e w' ⟨v', rfl, hR', hB'⟩
    exact ⟨v', rfl, hR', (HW2.out.trans (hb.mono (by have := HW2.out.size; have := HZ.out; omega))).trans (((Below.refl w3.heap.size w3).alloc (Nat.le_refl _) _ |>.mono hz3).trans hB')⟩
  have hin : ∀ w3 : World, Below w2.heap.size w2 w3 → w3.cell? ⟨w.heap.size + 1, 0, none⟩ = some (.int .i64 n) := fun w3 hb => by
    have hW3 := HW2.out.trans (hb.mono (by have := HW2.out.size; have := HZ.out; omega))
    exact (hW3.cell (p := ⟨w.heap.size + 1, 0, none⟩) (by show w.heap.size + 1 < w.heap.size + 3; omega)).trans ((blk_cell H2.out 0).trans rfl)
  have HFIN := Lib.hid fin
  have HIN := Lib.hid hin
  clear fin hin
  by_cases hx : xs = []
  · subst hx
    rw [if_pos rfl] at hidx
    go_upto_region 5 with (go_at_call 24; refine hidx.mono ?_; rintro e w3 ⟨rfl, hB3⟩; have hT3 := HIN.out w3 hB3; have hins := HFIN.out w3 hB3)
    go_upto_region 6 with (go_at_call 26; refine hins.mono ?_; rintro e w4 ⟨v4, rfl, hR4, hB4⟩; obtain ⟨A4, c4, rfl⟩ := Kd.R_slice hR4; have hd1 := (hB4.block (w.heap.size) (by omega)).trans H1.out; have hd3 := (hB4.block (w.heap.size + 2) (by omega)).trans H3.out; have hc1 : w4.cell? ⟨w.heap.size, 1, none⟩ = some (.slice A ([]).length c) := (blk_cell hd1 1).trans rfl; have hf1 := blk_frozen hd1 1)
    have hn1 := blk_put hd1 1 (.slice A4 (⟨n, v⟩ :: [] : List S56).length c4) rfl
    have hn3 := blk_far hd3 (p := ⟨w.heap.size, 1, none⟩) (by show w.heap.size + 2 ≠ w.heap.size; omega) (.slice A4 (⟨n, v⟩ :: [] : List S56).length c4)
    have hR5 := Kd.R_set hR4 hd1 (by decide) 1 (.slice A4 (⟨n, v⟩ :: [] : List S56).length c4)
    have hB5 := below_set (v := .slice A4 (⟨n, v⟩ :: [] : List S56).length c4) (j := 1) (HE.out.trans (hB4.mono (Nat.le_add_right _ 3))) (Nat.le_refl w.heap.size)
    clear hc1 hf1 hd1 hd3 hR4 hB4 hins hT3 hB3 hidx
    rw [List.length_cons] at hn1 hn3 hR5 hB5
    simp only [List.length_nil, Nat.zero_add] at hn1 hn3 hR5 hB5
    generalize w4.setCell ⟨w.heap.size, 1, none⟩ (.slice A4 (1) c4) = W5 at hn1 hn3 hR5 hB5 ⊢
    have e0 : W5.cell? ⟨w.heap.size, 0, none⟩ = some (.string mti) := (blk_cell hn1 0).trans rfl
    have e1 : W5.cell? ⟨w.heap.size, 1, none⟩ = some (.slice A4 (1) c4) := (blk_cell hn1 1).trans rfl
    have g0 : W5.cell? ⟨w.heap.size + 2, 0, none⟩ = some (.string ⟨#[]⟩) := (blk_cell hn3 0).trans rfl
    have g1 : W5.cell? ⟨w.heap.size + 2, 1, none⟩ = some (.slice none 0 0) := (blk_cell hn3 1).trans rfl
    have f0 := blk_frozen hn3 0
    have f1 := blk_frozen hn3 1
    have HN3 := Lib.hid hn3
    have HR5 := Lib.hid hR5
    have HB5 := Lib.hid hB5
    clear hn1 hn3 hR5 hB5
    go_wp2
    have hp1 := blk_put HN3.out 0 (.string mti) rfl
    have hp2 := blk_put hp1 1 (.slice A4 (1) c4) rfl
    have hR6 := Kd.R_set (Kd.R_set HR5.out HN3.out (by decide) 0 (.string mti)) hp1 (by decide) 1 (.slice A4 (1) c4)
    refine bodyPost_ret (results_cell_row rfl _ _ (w.heap.size + 2) 32 #[.string mti, .slice A4 (1) c4] (0, 0) _ rfl hp2 Tryz.underlying32 rfl (by kernel_rfl)) rfl ?_
    exact ⟨_, rfl, Kd.R_lower hR6 (by omega), below_set (below_set HB5.out (by omega)) (by omega)⟩
  · rw [if_neg hx] at hidx
    go_upto_region 5 with (go_at_call 24; refine hidx.mono ?_; rintro e w3 ⟨rfl, hB3⟩; have hT3 := HIN.out w3 hB3; have hins := HFIN.out w3 hB3)
    go_upto_region 6 with (go_at_call 26; refine hins.mono ?_; rintro e w4 ⟨v4, rfl, hR4, hB4⟩; obtain ⟨A4, c4, rfl⟩ := Kd.R_slice hR4; have hd1 := (hB4.block (w.heap.size) (by omega)).trans H1.out; have hd3 := (hB4.block (w.heap.size + 2) (by omega)).trans H3.out; have hc1 : w4.cell? ⟨w.heap.size, 1, none⟩ = some (.slice A (xs).length c) := (blk_cell hd1 1).trans rfl; have hf1 := blk_frozen hd1 1)
    have hn1 := blk_put hd1 1 (.slice A4 (⟨n, v⟩ :: xs : List S56).length c4) rfl
    have hn3 := blk_far hd3 (p := ⟨w.heap.size, 1, none⟩) (by show w.heap.size + 2 ≠ w.heap.size; omega) (.slice A4 (⟨n, v⟩ :: xs : List S56).length c4)
    have hR5 := Kd.R_set hR4 hd1 (by decide) 1 (.slice A4 (⟨n, v⟩ :: xs : List S56).length c4)
    have hB5 := below_set (v := .slice A4 (⟨n, v⟩ :: xs : List S56).length c4) (j := 1) (HE.out.trans (hB4.mono (Nat.le_add_right _ 3))) (Nat.le_refl w.heap.size)
    clear hc1 hf1 hd1 hd3 hR4 hB4 hins hT3 hB3 hidx
    rw [List.length_cons] at hn1 hn3 hR5 hB5
    generalize w4.setCell ⟨w.heap.size, 1, none⟩ (.slice A4 (xs.length + 1) c4) = W5 at hn1 hn3 hR5 hB5 ⊢
    have e0 : W5.cell? ⟨w.heap.size, 0, none⟩ = some (.string mti) := (blk_cell hn1 0).trans rfl
    have e1 : W5.cell? ⟨w.heap.size, 1, none⟩ = some (.slice A4 (xs.length + 1) c4) := (blk_cell hn1 1).trans rfl
    have g0 : W5.cell? ⟨w.heap.size + 2, 0, none⟩ = some (.string ⟨#[]⟩) := (blk_cell hn3 0).trans rfl
    have g1 : W5.cell? ⟨w.heap.size + 2, 1, none⟩ = some (.slice none 0 0) := (blk_cell hn3 1).trans rfl
    have f0 := blk_frozen hn3 0
    have f1 := blk_frozen hn3 1
    have HN3 := Lib.hid hn3
    have HR5 := Lib.hid hR5
    have HB5 := Lib.hid hB5
    clear hn1 hn3 hR5 hB5
    go_wp2
    have hp1 := blk_put HN3.out 0 (.string mti) rfl
    have hp2 := blk_put hp1 1 (.slice A4 (xs.length + 1) c4) rfl
    have hR6 := Kd.R_set (Kd.R_set HR5.out HN3.out (by decide) 0 (.string mti)) hp1 (by decide) 1 (.slice A4 (xs.length + 1) c4)
    refine bodyPost_ret (results_cell_row rfl _ _ (w.heap.size + 2) 32 #[.string mti, .slice A4 (xs.length + 1) c4] (0, 0) _ rfl hp2 Tryz.underlying32 rfl (by kernel_rfl)) rfl ?_
    exact ⟨_, rfl, Kd.R_lower hR6 (by omega), below_set (below_set HB5.out (by omega)) (by omega)⟩
def iso_Put.f (a0_0 : ByteArray) (l0_1 : List S56) (a1 : Int) (a2 : ByteArray) : Option (ByteArray × List S56) := if l0_1.length ≤ 19 ∧ l0_1.all (fun x => decide (x.f0 > a1)) = true then some (a0_0, ⟨a1, a2⟩ :: l0_1) else none
theorem iso_Put.calls (a0_0 : ByteArray) (A0_1 : Option Addr) (c0_1 : Nat) (l0_1 : List (S56)) (a1 : Int) (a2 : ByteArray) (r1 : ByteArray) (r2 : List (S56)) (w : World) (hr0_1 : Kd.C k56 w A0_1 l0_1.length l0_1) (hc0_1 : l0_1.length ≤ c0_1) (h : iso_Put.f a0_0 l0_1 a1 a2 = some (r1, r2)) :
    Calls Tryz.prog 6 #[.agg #[.string a0_0, .slice A0_1 l0_1.length c0_1], .int .i64 a1, .string a2] w fun e w' => ∃ v1_ : Value, e = .returned (.agg #[.string r1, v1_]) ∧ Kd.R k56 56 w' w.heap.size (fun _ => True) v1_ r2 ∧ Below w.heap.size w w' := by
  unfold iso_Put.f at h
  split at h
  case isFalse => cases h
  case isTrue hb =>
  have h1 := congrArg Prod.fst (Option.some.inj h)
  have h2 := congrArg Prod.snd (Option.some.inj h)
  simp only at h1 h2
  rw [← h1, ← h2]
  exact iso_Put_w a0_0 A0_1 c0_1 l0_1 a1 a2 w hr0_1 hc0_1 hb.1 (fun x hx => of_decide_eq_true (List.all_eq_true.mp hb.2 x hx))


/-! ### mti_May: function 53 -/
mutual
def mti_May.j0 : Nat → Int → Bool → Int → Bool → Bool → Bool → Option (Bool)
  | 0, _, _, _, _, _, _ => none
  | k + 1, x4, x5, x108000, x108001, x108002, x108003 => if x5 = true then (if x108002 = true then (some (!x108003)) else (some true)) else (if x4 = 6 then (mti_May.j1 k (x4 == 6) x108000 x108001 x108002 x108003) else (mti_May.j1 k (x4 == 8) x108000 x108001 x108002 x108003))
def mti_May.j1 : Nat → Bool → Int → Bool → Bool → Bool → Option (Bool)
  | 0, _, _, _, _, _ => none
  | k + 1, x10, x108000, x108001, x108002, x108003 => if x10 = true then (if x108001 = true then (some false) else (if x108002 = true then (some (!x108003)) else (some true))) else (some false)
end
def mti_May.f (k : Nat) (a0_0 : Int) (a0_1 : Bool) (a0_2 : Bool) (a0_3 : Bool) : Option (Bool) := if a0_0 = 1 then (mti_May.j0 k a0_0 (a0_0 == 1) a0_0 a0_1 a0_2 a0_3) else (if a0_0 = 2 then (mti_May.j0 k a0_0 (a0_0 == 2) a0_0 a0_1 a0_2 a0_3) else (if a0_0 = 4 then (mti_May.j0 k a0_0 (a0_0 == 4) a0_0 a0_1 a0_2 a0_3) else (mti_May.j0 k a0_0 (a0_0 == 5) a0_0 a0_1 a0_2 a0_3)))
theorem mti_May.mono_l : ∀ k, (∀ y0 y1 y2 y3 y4 y5, LeO (mti_May.j0 k y0 y1 y2 y3 y4 y5) (mti_May.j0 (k + 1) y0 y1 y2 y3 y4 y5)) ∧ (∀ y0 y1 y2 y3 y4, LeO (mti_May.j1 k y0 y1 y2 y3 y4) (mti_May.j1 (k + 1) y0 y1 y2 y3 y4))
  | 0 => ⟨fun _ _ _ _ _ _ r h => by simp [mti_May.j0] at h, fun _ _ _ _ _ r h => by simp [mti_May.j1] at h⟩
  | k + 1 => by
    obtain ⟨ih0, ih1⟩ := mti_May.mono_l k
    refine ⟨?_, ?_⟩
    · intro y0 y1 y2 y3 y4 y5
      unfold mti_May.j0
      repeat' first
      | (with_reducible exact ih0 _ _ _ _ _ _)
      | (with_reducible exact ih1 _ _ _ _ _)
      | (with_reducible exact LeO.refl _)
      | (with_reducible exact LeO.none _)
      | (with_reducible refine LeO.ite ?_ ?_)
      | (with_reducible refine LeO.bind ?_ (fun _ => ?_))
      | exact ih0 _ _ _ _ _ _
      | exact ih1 _ _ _ _ _
      | exact LeO.none _
      | refine LeO.ite ?_ ?_
      | refine LeO.bind ?_ (fun _ => ?_)
    · intro y0 y1 y2 y3 y4
      unfold mti_May.j1
      repeat' first
      | (with_reducible exact ih0 _ _ _ _ _ _)
      | (with_reducible exact ih1 _ _ _ _ _)
      | (with_reducible exact LeO.refl _)
      | (with_reducible exact LeO.none _)
      | (with_reducible refine LeO.ite ?_ ?_)
      | (with_reducible refine LeO.bind ?_ (fun _ => ?_))
      | exact ih0 _ _ _ _ _ _
      | exact ih1 _ _ _ _ _
      | exact LeO.none _
      | refine LeO.ite ?_ ?_
      | refine LeO.bind ?_ (fun _ => ?_)
theorem mti_May.mono : ∀ a0 a1 a2 a3 k, LeO (mti_May.f k a0 a1 a2 a3) (mti_May.f (k + 1) a0 a1 a2 a3) := by
  intro a0 a1 a2 a3 k
  obtain ⟨ih0, ih1⟩ := mti_May.mono_l k
  unfold mti_May.f
  repeat' first
      | (with_reducible exact ih0 _ _ _ _ _ _)
      | (with_reducible exact ih1 _ _ _ _ _)
      | (with_reducible exact LeO.refl _)
      | (with_reducible exact LeO.none _)
      | (with_reducible refine LeO.ite ?_ ?_)
      | (with_reducible refine LeO.bind ?_ (fun _ => ?_))
      | exact ih0 _ _ _ _ _ _
      | exact ih1 _ _ _ _ _
      | exact LeO.none _
      | refine LeO.ite ?_ ?_
      | refine LeO.bind ?_ (fun _ => ?_)
set_option maxHeartbeats 8000000 in
set_option maxRecDepth 100000 in
theorem mti_May.calls (k : Nat) (a0_0 : Int) (a0_1 : Bool) (a0_2 : Bool) (a0_3 : Bool) (r : Bool) (w : World) (h : mti_May.f k a0_0 a0_1 a0_2 a0_3 = some r) :
    Calls Tryz.prog 53 #[.agg #[.int .i64 a0_0, .bool a0_1, .bool a0_2, .bool a0_3]] w fun e w' => e = .returned (.bool r) ∧ Below w.heap.size w w' := by
  have hu62 := Tryz.underlying62
  have HB := Aside0.mk (Below.refl w.heap.size w)
  have H : (if a0_0 = 1 then (mti_May.j0 k a0_0 (a0_0 == 1) a0_0 a0_1 a0_2 a0_3) else (if a0_0 = 2 then (mti_May.j0 k a0_0 (a0_0 == 2) a0_0 a0_1 a0_2 a0_3) else (if a0_0 = 4 then (mti_May.j0 k a0_0 (a0_0 == 4) a0_0 a0_1 a0_2 a0_3) else (mti_May.j0 k a0_0 (a0_0 == 5) a0_0 a0_1 a0_2 a0_3)))) = some r := h
  clear h
  have HC2 := Aside0.mk H
  clear H
  go_enter Tryz.func53, Tryz.ntmps53
  go_upto_if 5 with (first | ((with_reducible refine gate_dst (N := 1) rfl ?_); refine box_event ?hg (N := 1) ?hd (cs := #[.int .i64 a0_0, .bool a0_1, .bool a0_2, .bool a0_3]) (t := 62) ?hr ?_; (case hd => rfl); (case hg => rfl); (case hr => first | (go_simp; done) | (go_simp; rfl)); intro gb107 hg w3 hbox hb; have n0_ := Aside0.mk (below_step (by repeat (first | (with_reducible first | exact HB.out | apply below_alloc | apply pw_below_drewN | apply below_drew1) | exact HB.out)) hb); have n1_ := Aside0.mk (hbox); have n2_ := Aside0.mk ((by rw [hg]; exact (below_size (by repeat (first | (with_reducible first | exact HB.out | apply below_alloc | apply pw_below_drewN | apply below_drew1) | exact HB.out))) : w.heap.size ≤ gb107)); have n3_ := Aside0.mk ((by rw [hg]; exact (below_size (by repeat (first | (with_reducible first | exact HB.out | apply below_alloc | apply pw_below_drewN | apply below_drew1) | exact HB.out))) : w.heap.size ≤ gb107)); clear HB; have HB := n0_; have BK107 := n1_; have GW107 := n2_; have GE107 := n3_; clear n0_ n1_ n2_ n3_; clear hb hbox hg; have hcz4_0 := blk_cell BK107.out; have hfz4_0 := blk_frozen BK107.out))
  (try simp only [Act.put, List.setIfInBounds_toArray, List.set_cons_zero, List.set_cons_succ])
  go_cut [5] (fun v5 wc => ∃ (kq : Nat) (x5_1 : Bool), v5 = .bool x5_1 ∧ Aside0 (mti_May.j0 kq a0_0 x5_1 a0_0 a0_1 a0_2 a0_3 = some r) ∧ Aside0 (kq ≤ k) ∧ Aside0 (wc.heap[gb107]? = some (.cells #[.int .i64 a0_0, .bool a0_1, .bool a0_2, .bool a0_3] 62 (0, 0))) ∧ Aside0 (Below w.heap.size w wc))
  case first =>
    have H := HC2.out
    clear HC2
    by_cases c5 : a0_0 = 1
    · rw [if_pos c5] at H
      have c5b0 : (a0_0 == 1) = true := beq_iff_eq.mpr c5
      have c5b1 : (a0_0 != 1) = false := bne_eq_false_iff_eq.mpr c5
      clear c5
      (first | rw [c5b0] | (simp only [i64_w, i32_w]; rw [c5b0]) | skip)
      have H' := Aside0.mk H
      clear H
      go_wp2
      go_meet
      case rel => exact ⟨_, ((a0_0 == 1)), (by first | rfl | (simp; done) | (simp [*]; done) | (simp [Pu.bne_nil, Pu.beq_nil]; done)), H', ⟨by first | omega | exact Nat.le_refl _⟩, ⟨by (with_reducible repeat (first | refine blk_drewN ?_ _ | refine blk_drew ?_ | refine blk_alloc ?_ _)); exact BK107.out⟩, ⟨by repeat (first | (with_reducible first | exact HB.out | apply below_alloc | apply pw_below_drewN | apply below_drew1 | refine below_set ?_ GE107.out) | exact HB.out)⟩⟩
    · rw [if_neg c5] at H
      have c5b0 : (a0_0 == 1) = false := beq_eq_false_iff_ne.mpr c5
      have c5b1 : (a0_0 != 1) = true := bne_iff_ne.mpr c5
      (first | rw [c5b0] | (simp only [i64_w, i32_w]; rw [c5b0]) | skip)
      by_cases c6 : a0_0 = 2
      · rw [if_pos c6] at H
        have c6b0 : (a0_0 == 2) = true := beq_iff_eq.mpr c6
        have c6b1 : (a0_0 != 2) = false := bne_eq_false_iff_eq.mpr c6
        clear c6
        have H' := Aside0.mk H
        clear H
        go_wp2
        go_meet
        case rel => exact ⟨_, ((a0_0 == 2)), (by first | rfl | (simp; done) | (simp [*]; done) | (simp [Pu.bne_nil, Pu.beq_nil]; done)), H', ⟨by first | omega | exact Nat.le_refl _⟩, ⟨by (with_reducible repeat (first | refine blk_drewN ?_ _ | refine blk_drew ?_ | refine blk_alloc ?_ _)); exact BK107.out⟩, ⟨by repeat (first | (with_reducible first | exact HB.out | apply below_alloc | apply pw_below_drewN | apply below_drew1 | refine below_set ?_ GE107.out) | exact HB.out)⟩⟩
      · rw [if_neg c6] at H
        have c6b0 : (a0_0 == 2) = false := beq_eq_false_iff_ne.mpr c6
        have c6b1 : (a0_0 != 2) = true := bne_iff_ne.mpr c6
        by_cases c7 : a0_0 = 4
        · rw [if_pos c7] at H
          have c7b0 : (a0_0 == 4) = true := beq_iff_eq.mpr c7
          have c7b1 : (a0_0 != 4) = false := bne_eq_false_iff_eq.mpr c7
          clear c7
          have H' := Aside0.mk H
          clear H
          go_wp2
          go_meet
          case rel => exact ⟨_, ((a0_0 == 4)), (by first | rfl | (simp; done) | (simp [*]; done) | (simp [Pu.bne_nil, Pu.beq_nil]; done)), H', ⟨by first | omega | exact Nat.le_refl _⟩, ⟨by (with_reducible repeat (first | refine blk_drewN ?_ _ | refine blk_drew ?_ | refine blk_alloc ?_ _)); exact BK107.out⟩, ⟨by repeat (first | (with_reducible first | exact HB.out | apply below_alloc | apply pw_below_drewN | apply below_drew1 | refine below_set ?_ GE107.out) | exact HB.out)⟩⟩
        · rw [if_neg c7] at H
          have c7b0 : (a0_0 == 4) = false := beq_eq_false_iff_ne.mpr c7
          have c7b1 : (a0_0 != 4) = true := bne_iff_ne.mpr c7
          have H' := Aside0.mk H
          clear H
          go_wp2
          go_meet
          case rel => exact ⟨_, ((a0_0 == 5)), (by first | rfl | (simp; done) | (simp [*]; done) | (simp [Pu.bne_nil, Pu.beq_nil]; done)), H', ⟨by first | omega | exact Nat.le_refl _⟩, ⟨by (with_reducible repeat (first | refine blk_drewN ?_ _ | refine blk_drew ?_ | refine blk_alloc ?_ _)); exact BK107.out⟩, ⟨by repeat (first | (with_reducible first | exact HB.out | apply below_alloc | apply pw_below_drewN | apply below_drew1 | refine below_set ?_ GE107.out) | exact HB.out)⟩⟩
  case rest =>
    clear HC2
    try clear p2
    try clear c5
    try clear c5b0
    try clear c5b1
    try clear c6
    try clear c6b0
    try clear c6b1
    try clear c7
    try clear c7b0
    try clear c7b1
    try clear hcz4_0
    try clear hfz4_0
    obtain ⟨kq, x5_1, rfl, HA, HJ1, BK107, HB⟩ := hcut
    cases kq with
    | zero => exact absurd HA.out (by simp [mti_May.j0])
    | succ kj1 =>
      have H := HA.out
      clear HA
      simp only [mti_May.j0] at H
      by_cases c8 : x5_1 = true
      · subst c8
        have H1 : (if a0_2 = true then (some (!a0_3)) else (some true)) = some r := by rw [if_pos rfl] at H; exact H
        clear H
        have H := H1
        clear H1
        by_cases c9 : a0_2 = true
        · subst c9
          have H1 : (some (!a0_3)) = some r := by rw [if_pos rfl] at H; exact H
          clear H
          have H := H1
          clear H1
          obtain rfl := Option.some.inj H
          have hcz10_0 := blk_cell BK107.out
          have hfz10_0 := blk_frozen BK107.out
          go_wp2
          go_ret
          exact ⟨by first | rfl | (simp [errW_none, errW_some] <;> rfl) | (simp [*, errW_none, errW_some] <;> rfl), by repeat (first | (with_reducible first | exact HB.out | apply below_alloc | apply pw_below_drewN | apply below_drew1 | refine below_set ?_ GE107.out) | exact HB.out)⟩
        · replace c9 := Bool.eq_false_iff.mpr c9
          subst c9
          have H1 : (some true) = some r := by rw [if_neg (show ¬ (false = true) by decide)] at H; exact H
          clear H
          have H := H1
          clear H1
          obtain rfl := Option.some.inj H
          have hcz11_0 := blk_cell BK107.out
          have hfz11_0 := blk_frozen BK107.out
          go_wp2
          go_ret
          exact ⟨by first | rfl | (simp [errW_none, errW_some] <;> rfl) | (simp [*, errW_none, errW_some] <;> rfl), by repeat (first | (with_reducible first | exact HB.out | apply below_alloc | apply pw_below_drewN | apply below_drew1 | refine below_set ?_ GE107.out) | exact HB.out)⟩
      · replace c8 := Bool.eq_false_iff.mpr c8
        subst c8
        have H1 : (if a0_0 = 6 then (mti_May.j1 kj1 (a0_0 == 6) a0_0 a0_1 a0_2 a0_3) else (mti_May.j1 kj1 (a0_0 == 8) a0_0 a0_1 a0_2 a0_3)) = some r := by rw [if_neg (show ¬ (false = true) by decide)] at H; exact H
        clear H
        have H := H1
        clear H1
        have HC12 := Aside0.mk H
        clear H
        go_upto_if 10 with (fail)
        go_cut [10] (fun v10 wc => ∃ (kq : Nat) (x10_11 : Bool), v10 = .bool x10_11 ∧ Aside0 (mti_May.j1 kq x10_11 a0_0 a0_1 a0_2 a0_3 = some r) ∧ Aside0 (kq ≤ kj1) ∧ Aside0 (wc.heap[gb107]? = some (.cells #[.int .i64 a0_0, .bool a0_1, .bool a0_2, .bool a0_3] 62 (0, 0))) ∧ Aside0 (Below w.heap.size w wc))
        case first =>
          have H := HC12.out
          clear HC12
          by_cases c13 : a0_0 = 6
          · rw [if_pos c13] at H
            have c13b0 : (a0_0 == 6) = true := beq_iff_eq.mpr c13
            have c13b1 : (a0_0 != 6) = false := bne_eq_false_iff_eq.mpr c13
            clear c13
            (first | rw [c13b0] | (simp only [i64_w, i32_w]; rw [c13b0]) | skip)
            have H' := Aside0.mk H
            clear H
            go_wp2
            go_meet
            case rel => exact ⟨_, ((a0_0 == 6)), (by first | rfl | (simp; done) | (simp [*]; done) | (simp [Pu.bne_nil, Pu.beq_nil]; done)), H', ⟨by have := HJ1.out; first | omega | exact Nat.le_refl _⟩, ⟨by (with_reducible repeat (first | refine blk_drewN ?_ _ | refine blk_drew ?_ | refine blk_alloc ?_ _)); exact BK107.out⟩, ⟨by repeat (first | (with_reducible first | exact HB.out | apply below_alloc | apply pw_below_drewN | apply below_drew1 | refine below_set ?_ GE107.out) | exact HB.out)⟩⟩
          · rw [if_neg c13] at H
            have c13b0 : (a0_0 == 6) = false := beq_eq_false_iff_ne.mpr c13
            have c13b1 : (a0_0 != 6) = true := bne_iff_ne.mpr c13
            (first | rw [c13b0] | (simp only [i64_w, i32_w]; rw [c13b0]) | skip)
            have H' := Aside0.mk H
            clear H
            go_wp2
            go_meet
            case rel => exact ⟨_, ((a0_0 == 8)), (by first | rfl | (simp; done) | (simp [*]; done) | (simp [Pu.bne_nil, Pu.beq_nil]; done)), H', ⟨by have := HJ1.out; first | omega | exact Nat.le_refl _⟩, ⟨by (with_reducible repeat (first | refine blk_drewN ?_ _ | refine blk_drew ?_ | refine blk_alloc ?_ _)); exact BK107.out⟩, ⟨by repeat (first | (with_reducible first | exact HB.out | apply below_alloc | apply pw_below_drewN | apply below_drew1 | refine below_set ?_ GE107.out) | exact HB.out)⟩⟩
        case rest =>
          clear HC12
          try clear c1
          try clear p2
          try clear c5
          try clear c5b0
          try clear c5b1
          try clear c6
          try clear c6b0
          try clear c6b1
          try clear c7
          try clear c7b0
          try clear c7b1
          try clear c8
          try clear c9
          try clear c13
          try clear c13b0
          try clear c13b1
          try clear hcz10_0
          try clear hcz11_0
          try clear hcz4_0
          try clear hfz10_0
          try clear hfz11_0
          try clear hfz4_0
          try clear p2
          obtain ⟨kq, x10_11, rfl, HA, HJ11, BK107, HB⟩ := hcut
          cases kq with
          | zero => exact absurd HA.out (by simp [mti_May.j1])
          | succ kj11 =>
            have H := HA.out
            clear HA
            simp only [mti_May.j1] at H
            by_cases c14 : x10_11 = true
            · subst c14
              have H1 : (if a0_1 = true then (some false) else (if a0_2 = true then (some (!a0_3)) else (some true))) = some r := by rw [if_pos rfl] at H; exact H
              clear H
              have H := H1
              clear H1
              by_cases c15 : a0_1 = true
              · subst c15
                have H1 : (some false) = some r := by rw [if_pos rfl] at H; exact H
                clear H
                have H := H1
                clear H1
                obtain rfl := Option.some.inj H
                have hcz16_0 := blk_cell BK107.out
                have hfz16_0 := blk_frozen BK107.out
                go_wp2
                go_ret
                exact ⟨by first | rfl | (simp [errW_none, errW_some] <;> rfl) | (simp [*, errW_none, errW_some] <;> rfl), by repeat (first | (with_reducible first | exact HB.out | apply below_alloc | apply pw_below_drewN | apply below_drew1 | refine below_set ?_ GE107.out) | exact HB.out)⟩
              · replace c15 := Bool.eq_false_iff.mpr c15
                subst c15
                have H1 : (if a0_2 = true then (some (!a0_3)) else (some true)) = some r := by rw [if_neg (show ¬ (false = true) by decide)] at H; exact H
                clear H
                have H := H1
                clear H1
                by_cases c17 : a0_2 = true
                · subst c17
                  have H1 : (some (!a0_3)) = some r := by rw [if_pos rfl] at H; exact H
                  clear H
                  have H := H1
                  clear H1
                  obtain rfl := Option.some.inj H
                  have hcz18_0 := blk_cell BK107.out
                  have hfz18_0 := blk_frozen BK107.out
                  go_wp2
                  go_ret
                  exact ⟨by first | rfl | (simp [errW_none, errW_some] <;> rfl) | (simp [*, errW_none, errW_some] <;> rfl), by repeat (first | (with_reducible first | exact HB.out | apply below_alloc | apply pw_below_drewN | apply below_drew1 | refine below_set ?_ GE107.out) | exact HB.out)⟩
                · replace c17 := Bool.eq_false_iff.mpr c17
                  subst c17
                  have H1 : (some true) = some r := by rw [if_neg (show ¬ (false = true) by decide)] at H; exact H
                  clear H
                  have H := H1
                  clear H1
                  obtain rfl := Option.some.inj H
                  have hcz19_0 := blk_cell BK107.out
                  have hfz19_0 := blk_frozen BK107.out
                  go_wp2
                  go_ret
                  exact ⟨by first | rfl | (simp [errW_none, errW_some] <;> rfl) | (simp [*, errW_none, errW_some] <;> rfl), by repeat (first | (with_reducible first | exact HB.out | apply below_alloc | apply pw_below_drewN | apply below_drew1 | refine below_set ?_ GE107.out) | exact HB.out)⟩
            · replace c14 := Bool.eq_false_iff.mpr c14
              subst c14
              have H1 : (some false) = some r := by rw [if_neg (show ¬ (false = true) by decide)] at H; exact H
              clear H
              have H := H1
              clear H1
              obtain rfl := Option.some.inj H
              go_wp2
              go_ret
              exact ⟨by first | rfl | (simp [errW_none, errW_some] <;> rfl) | (simp [*, errW_none, errW_some] <;> rfl), by repeat (first | (with_reducible first | exact HB.out | apply below_alloc | apply pw_below_drewN | apply below_drew1 | refine below_set ?_ GE107.out) | exact HB.out)⟩

end Go.Proofs.YtnelnmlhlmocdaaGreatDoor.XB
