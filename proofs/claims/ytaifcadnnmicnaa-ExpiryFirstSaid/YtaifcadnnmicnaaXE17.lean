-- Written by wip/xprint.py, a session's program: printed out of the translation, with hand-written functions. Lean checks it.
import Derived.Test.YtaifcadnnmicnaaXE0
import Derived.Test.YtaifcadnnmicnaaXE14
import Derived.Test.YtaifcadnnmicnaaXE15
import Derived.Test.YtaifcadnnmicnaaXE16
namespace Go.Proofs.Ytaifcadnnmicnaa.XE
open Go.RowKit Go.Proofs.YtaifcadnnmicnaaW.PrintWords Go.Proofs.YtaifcadnnmicnaaW.PrintLast Go.Proofs.YtaifcadnnmicnaaW.PrintMore
attribute [local go_sem] max2_int min2_int max_two min_two max_three min_three max_four min_four   -- for this text's walks alone
set_option linter.unusedVariables false
set_option linter.unusedSimpArgs false

/-! ### expiry_open: function 19 -/
theorem rd_get (l : List S49) (i : Nat) (hi : i < l.length) : rd_T49 l (i : Int) = l[i] := by
  unfold rd_T49; rw [Int.toNat_natCast, List.getD_eq_getElem?_getD, List.getElem?_eq_getElem hi]; rfl
instance : Inhabited S49 := ⟨z49⟩
theorem rd_g (l : List S49) (i : Nat) : rd_T49 l (i : Int) = Hp.g l i := by
  unfold rd_T49 Hp.g; rw [Int.toNat_natCast]; rfl
def cs3 (x : S49) : List Value := [.int .i64 x.f0, .string x.f1, .int .i64 x.f2]
def enc49 (x : S49) : Value := .agg #[.int .i64 x.f0, .string x.f1, .int .i64 x.f2]
theorem own3 {W : World} {base g n cap : Nat} {ys : List S49} (HR : Kd.R k49 49 W base (fun _ => True) (.slice (some ⟨g, 0, none⟩) n cap) ys) (j : Nat) (hj : j < n) :
    W.cell? ⟨g, j * 3, none⟩ = some (.int .i64 (rd_T49 ys j).f0) ∧ W.cell? ⟨g, j * 3 + 1, none⟩ = some (.string (rd_T49 ys j).f1) ∧ W.cell? ⟨g, j * 3 + 2, none⟩ = some (.int .i64 (rd_T49 ys j).f2) ∧ (∀ k, W.frozen? ⟨g, j * 3 + k, none⟩ = false) ∧
    ∀ x : S49, Kd.R k49 49 (W.setCells g (j * 3) [.int .i64 x.f0, .string x.f1, .int .i64 x.f2]) base (fun _ => True) (.slice (some ⟨g, 0, none⟩) n cap) (ys.set j x) ∧ W.grownBy (W.setCells g (j * 3) [.int .i64 x.f0, .string x.f1, .int .i64 x.f2]) (some g) := by
  obtain ⟨hn, hnc, -⟩ := Kd.R_reads' HR
  obtain ⟨c, hcl, hM, hcc, hf⟩ := Kd.R_elem HR z49 (j : Int) (by omega) (by omega)
  have hseg := fun (x : S49) => Kd.R_seg HR (j : Int) (by omega) (by omega) (seg := [.int .i64 x.f0, .string x.f1, .int .i64 x.f2]) (j := 0) (okp := fun _ => False) hcl hcc (by show 3 ≤ 3; omega) (x' := x) (by
    have e : c.length = 3 := hcl
    have : c.take 0 ++ [.int .i64 x.f0, .string x.f1, .int .i64 x.f2] ++ c.drop (0 + [Value.int .i64 x.f0, .string x.f1, .int .i64 x.f2].length) = [.int .i64 x.f0, .string x.f1, .int .i64 x.f2] := by
      rw [List.drop_eq_nil_of_le (by simp [e])]; simp
    rw [this]; exact k49_mkM _ _ _ _) (fun _ h => h.elim)
  have hc := k49_openM hM
  subst hc
  rw [Int.toNat_natCast] at hcc hf hseg
  exact ⟨hcc 0 _ rfl, hcc 1 _ rfl, hcc 2 _ rfl, hf, fun x => hseg x⟩
theorem gb_trans {w w1 w2 : World} {r : Option Nat} (h : w.grownBy w1 r) (k : w1.grownBy w2 r) : w.grownBy w2 r :=
  ⟨k.os.trans h.os, k.tape.trans h.tape, k.output.trans h.output, Nat.le_trans h.size k.size, fun i hi hr => (k.block i (Nat.lt_of_lt_of_le hi h.size) hr).trans (h.block i hi hr)⟩
theorem gb_below {w w1 : World} (h : Below w.heap.size w w1) (r : Option Nat) : w.grownBy w1 r := ⟨h.os, h.tape, h.output, h.size, fun i hi _ => h.block i hi⟩
set_option maxHeartbeats 4000000 in
theorem swap_w (g n cap i j base : Nat) (xs : List S49) (w : World) (HR0 : Kd.R k49 49 w base (fun _ => True) (.slice (some ⟨g, 0, none⟩) n cap) xs) (hi : i < n) (hj : j < n) (hij : i ≠ j) :
    Calls Try.prog 66 #[.slice (some ⟨g, 0, none⟩) n cap, .int .i64 i, .int .i64 j] w fun e w' => e = .returned (.tuple #[]) ∧ Kd.R k49 49 w' base (fun _ => True) (.slice (some ⟨g, 0, none⟩) n cap) (Hp.sw xs i j) ∧ w.grownBy w' (some g) := by
  obtain ⟨i0, i1, i2, fi, -⟩ := own3 HR0 i hi
  obtain ⟨j0, j1, j2, fj, -⟩ := own3 HR0 j hj
  have fi0 := fi 0
  have fi1 := fi 1
  have fi2 := fi 2
  have fj0 := fj 0
  have fj1 := fj 1
  have fj2 := fj 2
  rw [Nat.add_zero] at fi0 fj0
  have HR := Lib.hid HR0
  clear HR0 fi fj
  rw [rd_g] at i0 i1 i2 j0 j1 j2
  obtain ⟨x, hx⟩ : ∃ x, x = Hp.g xs i := ⟨_, rfl⟩
  obtain ⟨y, hy⟩ : ∃ y, y = Hp.g xs j := ⟨_, rfl⟩
  rw [← hx] at i0 i1 i2
  rw [← hy] at j0 j1 j2
  have HX := Lib.hid hx
  have HY := Lib.hid hy
  clear hx hy
  have hiz : (i : Int) < (n : Int) := by omega
  have hjz : (j : Int) < (n : Int) := by omega
  have hne1 : ¬ i * 3 = j * 3 := by omega
  have hne2 : ¬ j * 3 = i * 3 := by omega
  go_enter Try.func66, Try.ntmps66
  go_region
  go_end0
  obtain ⟨-, -, -, -, hs1⟩ := own3 HR.out i hi
  obtain ⟨hR1, hg1⟩ := hs1 y
  obtain ⟨-, -, -, -, hs2⟩ := own3 hR1 j hj
  obtain ⟨hR2, hg2⟩ := hs2 x
  refine ⟨rfl, ?_, ?_⟩
  · have h3 := Kd.R_below hR2 (below_drew (Below.refl _ _))
    unfold Hp.sw
    rw [← HX.out, ← HY.out]
    exact h3
  · exact gb_trans (gb_trans hg1 hg2) (gb_below (below_drew (Below.refl _ _)) _)
set_option maxHeartbeats 4000000 in
theorem swap_e (g n cap i base : Nat) (xs : List S49) (w : World) (HR0 : Kd.R k49 49 w base (fun _ => True) (.slice (some ⟨g, 0, none⟩) n cap) xs) (hi : i < n) :
    Calls Try.prog 66 #[.slice (some ⟨g, 0, none⟩) n cap, .int .i64 i, .int .i64 i] w fun e w' => e = .returned (.tuple #[]) ∧ Kd.R k49 49 w' base (fun _ => True) (.slice (some ⟨g, 0, none⟩) n cap) (Hp.sw xs i i) ∧ w.grownBy w' (some g) := by
  obtain ⟨i0, i1, i2, fi, -⟩ := own3 HR0 i hi
  have fi0 := fi 0
  have fi1 := fi 1
  have fi2 := fi 2
  rw [Nat.add_zero] at fi0
  have HR := Lib.hid HR0
  clear HR0 fi
  rw [rd_g] at i0 i1 i2
  obtain ⟨x, hx⟩ : ∃ x, x = Hp.g xs i := ⟨_, rfl⟩
  rw [← hx] at i0 i1 i2
  have HX := Lib.hid hx
  clear hx
  have hiz : (i : Int) < (n : Int) := by omega
  go_enter Try.func66, Try.ntmps66
  go_region
  go_end0
  obtain ⟨-, -, -, -, hs1⟩ := own3 HR.out i hi
  obtain ⟨hR1, hg1⟩ := hs1 x
  obtain ⟨-, -, -, -, hs2⟩ := own3 hR1 i hi
  obtain ⟨hR2, hg2⟩ := hs2 x
  refine ⟨rfl, ?_, ?_⟩
  · have h3 := Kd.R_below hR2 (below_drew (Below.refl _ _))
    unfold Hp.sw
    rw [← HX.out]
    exact h3
  · exact gb_trans (gb_trans hg1 hg2) (gb_below (below_drew (Below.refl _ _)) _)
theorem swap_any (g n cap i j base : Nat) (xs : List S49) (w : World) (HR0 : Kd.R k49 49 w base (fun _ => True) (.slice (some ⟨g, 0, none⟩) n cap) xs) (hi : i < n) (hj : j < n) :
    Calls Try.prog 66 #[.slice (some ⟨g, 0, none⟩) n cap, .int .i64 i, .int .i64 j] w fun e w' => e = .returned (.tuple #[]) ∧ Kd.R k49 49 w' base (fun _ => True) (.slice (some ⟨g, 0, none⟩) n cap) (Hp.sw xs i j) ∧ w.grownBy w' (some g) := by
  by_cases h : i = j
  · subst h; exact swap_e g n cap i base xs w HR0 hi
  · exact swap_w g n cap i j base xs w HR0 hi hj h
def ltS (a b : S49) : Bool := Ex.ltI (a.f0, a.f1, a.f2) (b.f0, b.f1, b.f2)
theorem cmp_int_p (a b : Int) : cmp_Compare_int.f a b = some (Pu.cmpI a b) := by
  unfold cmp_Compare_int.f cmp_isNaN_int.f Pu.cmpI
  simp only [Option.bind_some]
  by_cases h1 : a < b
  · simp [h1]
  · by_cases h2 : b < a
    · simp [h1, h2]
    · simp [h1, h2]
theorem or_p (a b c : Int) : cmp_Or_int.f 5 [a, b, c] = some (Ex.or3 a b c) := by
  have w1 : wrap64 1 = 1 := by unfold wrap64; omega
  have w2 : wrap64 2 = 2 := by unfold wrap64; omega
  have w3 : wrap64 3 = 3 := by unfold wrap64; omega
  unfold cmp_Or_int.f Ex.or3
  simp [cmp_Or_int.l0, rd, w1, w2, w3]
  by_cases h1 : a = 0
  · by_cases h2 : b = 0
    · by_cases h3 : c = 0
      · simp [h1, h2, h3]
      · simp [h1, h2, h3]
    · simp [h1, h2]
  · simp [h1]
theorem less_p (xs : List S49) (i j : Nat) (hi : i < xs.length) (hj : j < xs.length) : expiry_items_Less.f 5 xs i j = some (ltS (Hp.g xs i) (Hp.g xs j)) := by
  unfold expiry_items_Less.f
  rw [if_pos (by omega), if_pos (by omega), if_pos (by omega), if_pos (by omega), rd_g, rd_g]
  generalize Hp.g xs i = a
  generalize Hp.g xs j = b
  simp only [cmp_int_p, cmp_Compare_string.f, or_p, Option.bind_some]
  rfl
theorem method_row {P : Program} {t e : TypeId} {a : Addr} {name : String} {f : FuncId} {b : Bool} {W : World} {v : Value} {fuel : Nat}
    (hx : ((P.info? t).bind fun i => (i.methods.find? (·.name == name)).map fun m => (m.path, m.func)) = some (#[], some (f, b)))
    (hu : P.underlying t = some (.pointer e)) (hl : if b = true then v = .pointer (some a) else (loadVar e a).run P W = .ok v W) :
    (method (fuel + 1) t (.pointer (some a)) name).run P W = .ok (f, v) W ∧ (nilAhead (fuel + 1) t (.pointer (some a)) name).run P W = .ok (some false) W := by
  obtain ⟨i, hi, h⟩ := Option.bind_eq_some_iff.mp hx
  obtain ⟨m, hm, h⟩ := Option.map_eq_some_iff.mp h
  injection h with hp hf
  unfold method nilAhead
  rw [Sem.run_bind, Sem.run_bind, run_typeInfo W hi]
  simp only [Result.andThen_ok, hm, hp, hf, follow, followBlind, Sem.run_bind, Sem.run_pure, receiverAt, run_underlying hu, Array.isEmpty, List.size_toArray, List.length_nil, decide_true, if_true]
  cases b with
  | true =>
    rw [if_pos rfl] at hl
    subst hl
    simp only [Place.get, Sem.run_pure, Result.andThen_ok]
    exact ⟨trivial, trivial⟩
  | false =>
    rw [if_neg (by decide)] at hl
    have hs : (Builtin.ssaWrapNilChk_ #[t] t #[.pointer (some a), strVal "", strVal ((name.splitOn ".").getLastD name)]).run P W = .ok (.pointer (some a)) W := rfl
    simp only [Place.get, Sem.run_pure, Sem.run_bind, Result.andThen_ok, hs, asAddr, hl, run_underlying hu]
    exact ⟨trivial, trivial⟩
theorem load59 {W : World} {hp : Nat} {v : Value} (h : W.heap[hp]? = some (.cells #[v] 59 (0, 0))) : (loadVar 59 ⟨hp, 0, none⟩).run Try.prog W = .ok v W := by
  have hc : W.cell? ⟨hp, 0, none⟩ = some v := (blk_cell h 0).trans rfl
  have hu := Try.underlying59
  simp [loadVar, isAgg, hu, hc, go_sem]
theorem meth_val {W : World} {hp : Nat} {v : Value} (h : W.heap[hp]? = some (.cells #[v] 59 (0, 0))) (F : Nat) :
    ((method (F + 1) 46 (.pointer (some ⟨hp, 0, none⟩)) "Less").run Try.prog W = .ok (63, v) W ∧ (nilAhead (F + 1) 46 (.pointer (some ⟨hp, 0, none⟩)) "Less").run Try.prog W = .ok (some false) W) ∧
    ((method (F + 1) 46 (.pointer (some ⟨hp, 0, none⟩)) "Swap").run Try.prog W = .ok (66, v) W ∧ (nilAhead (F + 1) 46 (.pointer (some ⟨hp, 0, none⟩)) "Swap").run Try.prog W = .ok (some false) W) ∧
    ((method (F + 1) 46 (.pointer (some ⟨hp, 0, none⟩)) "Len").run Try.prog W = .ok (29, v) W ∧ (nilAhead (F + 1) 46 (.pointer (some ⟨hp, 0, none⟩)) "Len").run Try.prog W = .ok (some false) W) :=
  ⟨method_row (b := false) (e := 59) (by kernel_rfl) Try.underlying46 (by rw [if_neg (by decide)]; exact load59 h),
   method_row (b := false) (e := 59) (by kernel_rfl) Try.underlying46 (by rw [if_neg (by decide)]; exact load59 h),
   method_row (b := false) (e := 59) (by kernel_rfl) Try.underlying46 (by rw [if_neg (by decide)]; exact load59 h)⟩
theorem meth_ptr (W : World) (hp : Nat) (F : Nat) :
    ((method (F + 1) 46 (.pointer (some ⟨hp, 0, none⟩)) "Push").run Try.prog W = .ok (65, .pointer (some ⟨hp, 0, none⟩)) W ∧ (nilAhead (F + 1) 46 (.pointer (some ⟨hp, 0, none⟩)) "Push").run Try.prog W = .ok (some false) W) ∧
    ((method (F + 1) 46 (.pointer (some ⟨hp, 0, none⟩)) "Pop").run Try.prog W = .ok (64, .pointer (some ⟨hp, 0, none⟩)) W ∧ (nilAhead (F + 1) 46 (.pointer (some ⟨hp, 0, none⟩)) "Pop").run Try.prog W = .ok (some false) W) :=
  ⟨method_row (b := true) (e := 59) (by kernel_rfl) Try.underlying46 (by rw [if_pos rfl]),
   method_row (b := true) (e := 59) (by kernel_rfl) Try.underlying46 (by rw [if_pos rfl])⟩
structure HpS (w : World) (base hp g cap : Nat) (xs : List S49) : Prop where
  cell : w.heap[hp]? = some (.cells #[.slice (some ⟨g, 0, none⟩) xs.length cap] 59 (0, 0))
  row : Kd.R k49 49 w base (fun _ => True) (.slice (some ⟨g, 0, none⟩) xs.length cap) xs
theorem HpS.ne {w : World} {base hp g cap : Nat} {xs : List S49} (h : HpS w base hp g cap xs) : hp ≠ g := fun e => by
  obtain ⟨inner, ho⟩ := Kd.R_own h.row
  have := own_ne ho h.cell (by decide)
  exact this (by rw [e]; rfl)
theorem HpS.below {w w1 : World} {base hp g cap : Nat} {xs : List S49} (h : HpS w base hp g cap xs) (hb : Below w.heap.size w w1) : HpS w1 base hp g cap xs := ⟨blk_below h.cell hb, Kd.R_below h.row hb⟩
theorem gb_refl (w : World) (r : Option Nat) : w.grownBy w r := ⟨rfl, rfl, rfl, Nat.le_refl _, fun _ _ _ => rfl⟩
theorem less_w {w : World} {base hp g cap : Nat} {xs : List S49} (h : HpS w base hp g cap xs) (i j : Nat) (hi : i < xs.length) (hj : j < xs.length) :
    Calls Try.prog 63 #[.slice (some ⟨g, 0, none⟩) xs.length cap, .int .i64 i, .int .i64 j] w fun e w' => e = .returned (.bool (ltS (Hp.g xs i) (Hp.g xs j))) ∧ Below w.heap.size w w' := by
  obtain ⟨-, hc, hC⟩ := Kd.R_reads' h.row
  exact expiry_items_Less.calls 5 _ cap xs i j _ w hC hc (less_p xs i j hi hj)
theorem HpS.swap {w : World} {base hp g cap : Nat} {xs : List S49} (h : HpS w base hp g cap xs) (i j : Nat) (hi : i < xs.length) (hj : j < xs.length) :
    Calls Try.prog 66 #[.slice (some ⟨g, 0, none⟩) xs.length cap, .int .i64 i, .int .i64 j] w fun e w' => e = .returned (.tuple #[]) ∧ HpS w' base hp g cap (Hp.sw xs i j) ∧ w.grownBy w' (some g) := by
  refine (swap_any g xs.length cap i j base xs w h.row hi hj).mono ?_
  rintro e w' ⟨rfl, hR, hG⟩
  exact ⟨rfl, ⟨by rw [Hp.sw_length]; exact blk_grown h.cell hG (fun e => h.ne (Option.some.inj e)), by rw [Hp.sw_length]; exact hR⟩, hG⟩
set_option maxHeartbeats 4000000 in
theorem up_w (hp g cap base : Nat) (f j : Nat) (xs : List S49) (w : World) (hH : HpS w base hp g cap xs) (hj : j < xs.length) (hf : j < f) (hsm : xs.length ≤ 1000) :
    Calls Try.prog 42 #[.iface 46 (.pointer (some ⟨hp, 0, none⟩)), .int .i64 j] w fun e w' => e = .returned (.tuple #[]) ∧ HpS w' base hp g cap (Hp.up ltS f xs j) ∧ w.grownBy w' (some g) := by
  have HH := Lib.hid hH
  clear hH
  go_enter Try.func42, Try.ntmps42
  go_wp2
  go_loopg [1, 4] xs.length (fun gg s1 _ wr => ∃ (jj ff : Nat) (ys : List S49), jj < ys.length ∧ jj ≤ gg ∧ jj < ff ∧ s1 = .int .i64 jj ∧ Hid (ys.length = xs.length) ∧ Hid (HpS wr base hp g cap ys) ∧ Hid (w.grownBy wr (some g)) ∧ Hid (Hp.up ltS ff ys jj = Hp.up ltS f xs j))
  case atStart => exact ⟨j, f, xs, hj, by omega, hf, rfl, Lib.hid rfl, HH, Lib.hid (gb_refl _ _), Lib.hid rfl⟩
  case round =>
    obtain ⟨jj, ff, ys, hjl, hg, hff, rfl, hyl, HY, HG, HU⟩ := hrel
    have hj1000 : jj ≤ 1000 := by have := hyl.out; omega
    obtain ⟨ff, rfl⟩ : ∃ k, ff = k + 1 := ⟨ff - 1, by omega⟩
    rcases Nat.eq_zero_or_pos jj with rfl | hpos
    · have hq : ((0 : Nat) : Int) = 0 := rfl
      go_wp2
      go_end0
      refine ⟨rfl, ?_, HG.out⟩
      rw [← HU.out]
      unfold Hp.up
      rw [if_pos (.inl rfl)]
      exact HY.out
    · obtain ⟨p, hp0⟩ : ∃ p, p = (jj - 1) / 2 := ⟨_, rfl⟩
      have hq : ((jj : Int) - 1).tdiv 2 = (p : Int) := by
        rw [show (jj : Int) - 1 = ((jj - 1 : Nat) : Int) by omega, Int.tdiv_eq_ediv_of_nonneg (by omega), hp0]; omega
      have hqb : ((p : Int) == (jj : Int)) = false := by rw [beq_eq_false_iff_ne]; omega
      have hpl : p < ys.length := by omega
      have hpg : p < jj := by omega
      have HP := Lib.hid hp0
      clear hp0
      have mL : (method 198 46 (.pointer (some ⟨hp, 0, none⟩)) "Less").run Try.prog wr = _ := (meth_val HY.out.cell 197).1.1
      have hless := less_w HY.out jj p hjl hpl
      cases hlt : ltS (Hp.g ys jj) (Hp.g ys p) with
      | false =>
        rw [hlt] at hless
        have HL := Lib.hid hlt
        clear hlt
        go_wp2_with (go_at_call 63; refine hless.mono ?_; rintro e w1 ⟨rfl, hb1⟩; have HB1 := Lib.hid hb1; clear hb1)
        go_end0
        refine ⟨rfl, ?_, gb_trans HG.out (gb_below HB1.out _)⟩
        rw [← HU.out]
        unfold Hp.up
        rw [← HP.out, if_pos (.inr HL.out)]
        exact HY.out.below HB1.out
      | true =>
        rw [hlt] at hless
        have HL := Lib.hid hlt
        clear hlt
        go_wp2_with (first
          | (go_at_call 63; refine hless.mono ?_; rintro e w1 ⟨rfl, hb1⟩; have HB1 := Lib.hid hb1; have HY1 := Lib.hid (HY.out.below hb1); have mS : (method 198 46 (.pointer (some ⟨hp, 0, none⟩)) "Swap").run Try.prog w1 = _ := (meth_val HY1.out.cell 197).2.1.1; have hswap := HY1.out.swap p jj hpl hjl; clear hb1 hless mL)
          | (go_at_call 66; refine hswap.mono ?_; rintro e w2 ⟨rfl, hH2, hg2⟩; have HH2 := Lib.hid hH2; have HG2 := Lib.hid hg2; clear hH2 hg2))
        go_roundg p
        case measure => omega
        case rel =>
          refine ⟨p, ff, Hp.sw ys p jj, by rw [Hp.sw_length]; exact hpl, by omega, by omega, rfl, Lib.hid (by rw [Hp.sw_length]; exact hyl.out), HH2, Lib.hid (gb_trans HG.out (gb_trans (gb_below HB1.out _) HG2.out)), Lib.hid ?_⟩
          rw [← HU.out]
          conv => rhs; unfold Hp.up
          rw [if_neg (fun h => ?_), ← HP.out]
          rcases h with h | h
          · omega
          · rw [← HP.out, HL.out] at h; cases h
theorem pick_p (xs : List S49) (i n : Nat) : Hp.pick ltS xs i n = if 2 * i + 2 < n ∧ ltS (Hp.g xs (2 * i + 2)) (Hp.g xs (2 * i + 1)) = true then 2 * i + 2 else 2 * i + 1 := rfl
set_option maxHeartbeats 4000000 in
theorem down_w (hp g cap base : Nat) (f n : Nat) (xs : List S49) (w : World) (hH : HpS w base hp g cap xs) (hn : n ≤ xs.length) (hf : n ≤ f) (hsm : xs.length ≤ 1000) :
    Calls Try.prog 38 #[.iface 46 (.pointer (some ⟨hp, 0, none⟩)), .int .i64 0, .int .i64 n] w fun e w' => (∃ b, e = .returned (.bool b)) ∧ HpS w' base hp g cap (Hp.down ltS f xs 0 n) ∧ w.grownBy w' (some g) := by
  have HH := Lib.hid hH
  have hn1000 : n ≤ 1000 := by omega
  have HN := Lib.hid hn
  clear hH hn
  go_enter Try.func38, Try.ntmps38
  go_wp2
  go_loopg [7, 8, 9, 10] n (fun gg s7 _ _ _ wr => ∃ (ii ff : Nat) (ys : List S49), ii ≤ 1000 ∧ n - ii ≤ gg ∧ n ≤ ii + ff ∧ s7 = .int .i64 ii ∧ Hid (ys.length = xs.length) ∧ Hid (HpS wr base hp g cap ys) ∧ Hid (w.grownBy wr (some g)) ∧ Hid (Hp.down ltS ff ys ii n = Hp.down ltS f xs 0 n))
  case atStart => exact ⟨0, f, xs, by omega, by omega, by omega, rfl, Lib.hid rfl, HH, Lib.hid (gb_refl _ _), Lib.hid rfl⟩
  case round =>
    obtain ⟨ii, ff, ys, hi1000, hg, hff, rfl, hyl, HY, HG, HU⟩ := hrel
    by_cases hend : n ≤ 2 * ii + 1
    · have hge : (2 * (ii : Int) + 1) ≥ (n : Int) := by omega
      go_wp2
      go_ret
      refine ⟨⟨_, rfl⟩, ?_, HG.out⟩
      rw [← HU.out]
      cases ff with
      | zero => exact HY.out
      | succ ff =>
        unfold Hp.down
        rw [if_pos hend]
        exact HY.out
    · have hlt1 : ¬ (2 * (ii : Int) + 1) ≥ (n : Int) := by omega
      have hlt0 : ¬ (2 * (ii : Int) + 1) < 0 := by omega
      obtain ⟨ff, rfl⟩ : ∃ k, ff = k + 1 := ⟨ff - 1, by omega⟩
      have hnl : n ≤ ys.length := by have := hyl.out; have := HN.out; omega
      have HNL := Lib.hid hnl
      have mL0 : (method 198 46 (.pointer (some ⟨hp, 0, none⟩)) "Less").run Try.prog wr = _ := (meth_val HY.out.cell 197).1.1
      have hnl1 : 2 * ii + 1 < ys.length := by omega
      have hil : ii < ys.length := by omega
      have HL1 := Lib.hid hnl1
      have HIL := Lib.hid hil
      clear hnl hnl1 hil
      by_cases h2 : 2 * ii + 2 < n
      · have hlt2 : (2 * (ii : Int) + 1 + 1) < (n : Int) := by omega
        have hnl2 : 2 * ii + 2 < ys.length := by have := HNL.out; omega
        have HL2 := Lib.hid hnl2
        clear hnl2
        cases hf0 : ltS (Hp.g ys (2 * ii + 2)) (Hp.g ys (2 * ii + 1)) with
        | true =>
          have HF := Lib.hid hf0
          have HPK : Hid (Hp.pick ltS ys ii n = 2 * ii + 2) := Lib.hid (by rw [pick_p, if_pos ⟨h2, hf0⟩])
          clear hf0
          have hj : 2 * ii + 2 < ys.length := by have := HNL.out; omega
          have hjc : ((2 * ii + 2 : Nat) : Int) = 2 * (ii : Int) + 1 + 1 := by omega
          have HJ := Lib.hid hj
          have HJC := Lib.hid hjc
          clear hj hjc
          have hfirst := less_w HY.out (2 * ii + 2) (2 * ii + 1) HL2.out HL1.out
          rw [show ((2 * ii + 2 : Nat) : Int) = 2 * (ii : Int) + 1 + 1 by omega, show ((2 * ii + 1 : Nat) : Int) = 2 * (ii : Int) + 1 by omega, HF.out] at hfirst
          cases hlt : ltS (Hp.g ys (2 * ii + 2)) (Hp.g ys ii) with
          | false =>
            have HLT := Lib.hid hlt
            clear hlt
            go_wp2_with (first
              | (go_at_call 63; refine hfirst.mono ?_; rintro e w1 ⟨rfl, hb1⟩; have HB1 := Lib.hid hb1; have HY1 := Lib.hid (HY.out.below hb1); have mL : (method 198 46 (.pointer (some ⟨hp, 0, none⟩)) "Less").run Try.prog w1 = _ := (meth_val HY1.out.cell 197).1.1; have hless := less_w HY1.out (2 * ii + 2) ii HJ.out HIL.out; rw [HJC.out, HLT.out] at hless; clear hb1 hfirst mL0)
              | (go_at_call 63; refine hless.mono ?_; rintro e w2 ⟨rfl, hb2⟩; have HB2 := Lib.hid hb2; clear hb2))
            go_ret
            refine ⟨⟨_, rfl⟩, ?_, gb_trans (gb_trans HG.out (gb_below HB1.out _)) (gb_below HB2.out _)⟩
            rw [← HU.out]
            unfold Hp.down
            rw [if_neg hend, HPK.out, if_pos HLT.out]
            exact HY1.out.below HB2.out
          | true =>
            have HLT := Lib.hid hlt
            clear hlt
            go_wp2_with (first
              | (go_at_call 63; refine hfirst.mono ?_; rintro e w1 ⟨rfl, hb1⟩; have HB1 := Lib.hid hb1; have HY1 := Lib.hid (HY.out.below hb1); have mL : (method 198 46 (.pointer (some ⟨hp, 0, none⟩)) "Less").run Try.prog w1 = _ := (meth_val HY1.out.cell 197).1.1; have hless := less_w HY1.out (2 * ii + 2) ii HJ.out HIL.out; rw [HJC.out, HLT.out] at hless; clear hb1 hfirst mL0)
              | (go_at_call 63; refine hless.mono ?_; rintro e w2 ⟨rfl, hb2⟩; have HB2 := Lib.hid hb2; have HY2 := Lib.hid (HY1.out.below hb2); have mS : (method 198 46 (.pointer (some ⟨hp, 0, none⟩)) "Swap").run Try.prog w2 = _ := (meth_val HY2.out.cell 197).2.1.1; have hswap := HY2.out.swap ii (2 * ii + 2) HIL.out HJ.out; rw [HJC.out] at hswap; clear hb2 hless)
              | (go_at_call 66; refine hswap.mono ?_; rintro e w3 ⟨rfl, hH3, hg3⟩; have HH3 := Lib.hid hH3; have HG3 := Lib.hid hg3; clear hH3 hg3))
            go_roundg (n - (2 * ii + 2))
            case measure => omega
            case rel =>
              refine ⟨2 * ii + 2, ff, Hp.sw ys ii (2 * ii + 2), by omega, by omega, by omega, by rw [HJC.out], Lib.hid (by rw [Hp.sw_length]; exact hyl.out), HH3, Lib.hid (gb_trans (gb_trans HG.out (gb_below HB1.out _)) (gb_trans (gb_below HB2.out _) HG3.out)), Lib.hid ?_⟩
              rw [← HU.out]
              conv => rhs; unfold Hp.down
              rw [if_neg hend, HPK.out, if_neg (by rw [HLT.out]; decide)]
        | false =>
          have HF := Lib.hid hf0
          have HPK : Hid (Hp.pick ltS ys ii n = 2 * ii + 1) := Lib.hid (by rw [pick_p, if_neg (fun h => by rw [hf0] at h; cases h.2)])
          clear hf0
          have hj : 2 * ii + 1 < ys.length := by have := HNL.out; omega
          have hjc : ((2 * ii + 1 : Nat) : Int) = 2 * (ii : Int) + 1 := by omega
          have HJ := Lib.hid hj
          have HJC := Lib.hid hjc
          clear hj hjc
          have hfirst := less_w HY.out (2 * ii + 2) (2 * ii + 1) HL2.out HL1.out
          rw [show ((2 * ii + 2 : Nat) : Int) = 2 * (ii : Int) + 1 + 1 by omega, show ((2 * ii + 1 : Nat) : Int) = 2 * (ii : Int) + 1 by omega, HF.out] at hfirst
          cases hlt : ltS (Hp.g ys (2 * ii + 1)) (Hp.g ys ii) with
          | false =>
            have HLT := Lib.hid hlt
            clear hlt
            go_wp2_with (first
              | (go_at_call 63; refine hfirst.mono ?_; rintro e w1 ⟨rfl, hb1⟩; have HB1 := Lib.hid hb1; have HY1 := Lib.hid (HY.out.below hb1); have mL : (method 198 46 (.pointer (some ⟨hp, 0, none⟩)) "Less").run Try.prog w1 = _ := (meth_val HY1.out.cell 197).1.1; have hless := less_w HY1.out (2 * ii + 1) ii HJ.out HIL.out; rw [HJC.out, HLT.out] at hless; clear hb1 hfirst mL0)
              | (go_at_call 63; refine hless.mono ?_; rintro e w2 ⟨rfl, hb2⟩; have HB2 := Lib.hid hb2; clear hb2))
            go_ret
            refine ⟨⟨_, rfl⟩, ?_, gb_trans (gb_trans HG.out (gb_below HB1.out _)) (gb_below HB2.out _)⟩
            rw [← HU.out]
            unfold Hp.down
            rw [if_neg hend, HPK.out, if_pos HLT.out]
            exact HY1.out.below HB2.out
          | true =>
            have HLT := Lib.hid hlt
            clear hlt
            go_wp2_with (first
              | (go_at_call 63; refine hfirst.mono ?_; rintro e w1 ⟨rfl, hb1⟩; have HB1 := Lib.hid hb1; have HY1 := Lib.hid (HY.out.below hb1); have mL : (method 198 46 (.pointer (some ⟨hp, 0, none⟩)) "Less").run Try.prog w1 = _ := (meth_val HY1.out.cell 197).1.1; have hless := less_w HY1.out (2 * ii + 1) ii HJ.out HIL.out; rw [HJC.out, HLT.out] at hless; clear hb1 hfirst mL0)
              | (go_at_call 63; refine hless.mono ?_; rintro e w2 ⟨rfl, hb2⟩; have HB2 := Lib.hid hb2; have HY2 := Lib.hid (HY1.out.below hb2); have mS : (method 198 46 (.pointer (some ⟨hp, 0, none⟩)) "Swap").run Try.prog w2 = _ := (meth_val HY2.out.cell 197).2.1.1; have hswap := HY2.out.swap ii (2 * ii + 1) HIL.out HJ.out; rw [HJC.out] at hswap; clear hb2 hless)
              | (go_at_call 66; refine hswap.mono ?_; rintro e w3 ⟨rfl, hH3, hg3⟩; have HH3 := Lib.hid hH3; have HG3 := Lib.hid hg3; clear hH3 hg3))
            go_roundg (n - (2 * ii + 1))
            case measure => omega
            case rel =>
              refine ⟨2 * ii + 1, ff, Hp.sw ys ii (2 * ii + 1), by omega, by omega, by omega, by rw [HJC.out], Lib.hid (by rw [Hp.sw_length]; exact hyl.out), HH3, Lib.hid (gb_trans (gb_trans HG.out (gb_below HB1.out _)) (gb_trans (gb_below HB2.out _) HG3.out)), Lib.hid ?_⟩
              rw [← HU.out]
              conv => rhs; unfold Hp.down
              rw [if_neg hend, HPK.out, if_neg (by rw [HLT.out]; decide)]
      · have hlt2 : ¬ (2 * (ii : Int) + 1 + 1) < (n : Int) := by omega
        have HPK : Hid (Hp.pick ltS ys ii n = 2 * ii + 1) := Lib.hid (by rw [pick_p, if_neg (fun h => h2 h.1)])
        have hj : 2 * ii + 1 < ys.length := by have := HNL.out; omega
        have hjc : ((2 * ii + 1 : Nat) : Int) = 2 * (ii : Int) + 1 := by omega
        have hless := less_w HY.out (2 * ii + 1) ii hj HIL.out
        rw [hjc] at hless
        have HJ := Lib.hid hj
        have HJC := Lib.hid hjc
        clear hj hjc
        cases hlt : ltS (Hp.g ys (2 * ii + 1)) (Hp.g ys ii) with
        | false =>
          rw [hlt] at hless
          have HLT := Lib.hid hlt
          clear hlt
          go_wp2_with (go_at_call 63; refine hless.mono ?_; rintro e w2 ⟨rfl, hb2⟩; have HB2 := Lib.hid hb2; clear hb2)
          go_ret
          refine ⟨⟨_, rfl⟩, ?_, gb_trans (HG.out) (gb_below HB2.out _)⟩
          rw [← HU.out]
          unfold Hp.down
          rw [if_neg hend, HPK.out, if_pos HLT.out]
          exact HY.out.below HB2.out
        | true =>
          rw [hlt] at hless
          have HLT := Lib.hid hlt
          clear hlt
          go_wp2_with (first
            | (go_at_call 63; refine hless.mono ?_; rintro e w2 ⟨rfl, hb2⟩; have HB2 := Lib.hid hb2; have HY2 := Lib.hid (HY.out.below hb2); have mS : (method 198 46 (.pointer (some ⟨hp, 0, none⟩)) "Swap").run Try.prog w2 = _ := (meth_val HY2.out.cell 197).2.1.1; have hswap := HY2.out.swap ii (2 * ii + 1) HIL.out HJ.out; rw [HJC.out] at hswap; clear hb2 hless)
            | (go_at_call 66; refine hswap.mono ?_; rintro e w3 ⟨rfl, hH3, hg3⟩; have HH3 := Lib.hid hH3; have HG3 := Lib.hid hg3; clear hH3 hg3))
          go_roundg (n - (2 * ii + 1))
          case measure => omega
          case rel =>
            refine ⟨2 * ii + 1, ff, Hp.sw ys ii (2 * ii + 1), by omega, by omega, by omega, by rw [HJC.out], Lib.hid (by rw [Hp.sw_length]; exact hyl.out), HH3, Lib.hid (gb_trans (HG.out) (gb_trans (gb_below HB2.out _) HG3.out)), Lib.hid ?_⟩
            rw [← HU.out]
            conv => rhs; unfold Hp.down
            rw [if_neg hend, HPK.out, if_neg (by rw [HLT.out]; decide)]
/-- What a walk over a heap leaves as it was: all but the heap's own cell and one row. -/
structure HpF (w w' : World) (hp : Nat) (row : Option Nat) : Prop where
  os : w'.os = w.os
  tape : w'.tape = w.tape
  output : w'.output = w.output
  size : w.heap.size ≤ w'.heap.size
  block : ∀ j, j < w.heap.size → j ≠ hp → some j ≠ row → w'.heap[j]? = w.heap[j]?
theorem HpF.of_gb {w w' : World} {row : Option Nat} (h : w.grownBy w' row) (hp : Nat) : HpF w w' hp row := ⟨h.os, h.tape, h.output, h.size, fun j hj _ hr => h.block j hj hr⟩
theorem HpF.trans {w w1 w2 : World} {hp : Nat} {row row1 : Option Nat} (h : HpF w w1 hp row) (k : HpF w1 w2 hp row1) (hr : row1 = row ∨ ∃ b, row1 = some b ∧ w.heap.size ≤ b) : HpF w w2 hp row :=
  ⟨k.os.trans h.os, k.tape.trans h.tape, k.output.trans h.output, Nat.le_trans h.size k.size, fun j hj hn hrw => (k.block j (Nat.lt_of_lt_of_le hj h.size) hn (by
    rcases hr with rfl | ⟨b, rfl, hb⟩
    · exact hrw
    · intro e; have := Option.some.inj e; omega)).trans (h.block j hj hn hrw)⟩
theorem HpF.set (w : World) (hp i : Nat) (u : Value) (row : Option Nat) : HpF w (w.setCell ⟨hp, i, none⟩ u) hp row :=
  ⟨rfl, rfl, rfl, by rw [World.size_setCell]; exact Nat.le_refl _, fun j _ hn _ => Below.heap_setCell w ⟨hp, i, none⟩ u j hn⟩
theorem HpF.below {w w1 : World} {hp : Nat} {row : Option Nat} {B : Nat} (h : HpF w w1 hp row) (h1 : B ≤ hp) (h2 : ∀ k, row = some k → B ≤ k) (h3 : B ≤ w.heap.size) : Below B w w1 :=
  ⟨h.os, h.tape, h.output, h.size, fun j hj => h.block j (by omega) (by omega) (fun e => by have := h2 j e.symm; omega)⟩
theorem app_run {w : World} {base : Nat} {v : Value} {xs : List S49} (HR : Kd.R k49 49 w base (fun _ => True) v xs) (x : S49) (hb : base ≤ w.heap.size) (hl : xs.length ≤ 1000) :
    ∃ v1 w1, (Builtin.append_ #[59, 59] 59 #[v, .slice (some ⟨w.heap.size, 0, none⟩) 1 1]).run Try.prog (w.alloc (.cells #[.int .i64 x.f0, .string x.f1, .int .i64 x.f2] 49 (0, 0))).drew = .ok v1 w1 ∧ Kd.R k49 49 w1 base (fun _ => True) v1 (xs ++ [x]) ∧ w.grownBy w1 v.ownBlock ∧ (v1.ownBlock = v.ownBlock ∨ ∃ b, v1.ownBlock = some b ∧ w.heap.size ≤ b) := by
  obtain ⟨i0, hi, hzz⟩ := Option.map_eq_some_iff.1 (show (Try.prog.info? 49).map (fun i => (i.zero, i.size, i.bytes)) = some (some (.agg #[.int .i64 0, .string ⟨#[]⟩, .int .i64 0]), 3, 32) from rfl)
  simp only [Prod.mk.injEq] at hzz
  obtain ⟨hz0, hz1, hz2⟩ := hzz
  have hB : Below w.heap.size w (w.alloc (.cells #[.int .i64 x.f0, .string x.f1, .int .i64 x.f2] 49 (0, 0))).drew := below_drew ((Below.refl _ _).alloc (Nat.le_refl _) _)
  have HR' := HR
  obtain ⟨h0, inner, hown, hr⟩ := HR
  have hnew : ∀ j u, [Value.int .i64 x.f0, .string x.f1, .int .i64 x.f2][j]? = some u → (w.alloc (.cells #[.int .i64 x.f0, .string x.f1, .int .i64 x.f2] 49 (0, 0))).drew.cell? ((⟨w.heap.size, 0, none⟩ : Addr).add j) = some u := fun j u h => by
    rw [add_plain]
    exact (blk_cell (blk_drew (blk_new w _)) j).trans (by simpa using h)
  obtain ⟨v1, w1, hrun, h2, h3, -, h5⟩ := run_append_own_at (P := Try.prog) (w.alloc (.cells #[.int .i64 x.f0, .string x.f1, .int .i64 x.f2] 49 (0, 0))).drew base 59 59 49 i0 _ 3 32 Try.underlying59 hi hz0 hz1 hz2 rfl (by omega) v xs.length inner (pw_own_below hown hB) ⟨w.heap.size, 0, none⟩ 1 1 [.int .i64 x.f0, .string x.f1, .int .i64 x.f2] rfl hnew (by intro u hu; simp at hu; rcases hu with rfl | rfl | rfl <;> rfl) (by simp only [maxLen]; omega) (by omega) (by have := hB.size; omega)
  have hg : w.grownBy w1 v.ownBlock := gb_trans (gb_below hB _) h3
  have hat : v1.ownBlock = v.ownBlock ∨ ∃ b, v1.ownBlock = some b ∧ w.heap.size ≤ b := by
    rcases h5 with h | h
    · exact .inl h
    · exact .inr ⟨_, h, hB.size⟩
  exact ⟨v1, w1, hrun, Kd.R_appended (okp := fun _ => False) h0 hr (k49_mkM w base _ x) (fun _ h => h.elim) (fun _ _ => trivial) h2 hg hat, hg, hat⟩
theorem step_app {P : Program} {ops : Array Oper} {o : Oper} {a : Act} {w : World} {K : Act → World → Prop} {Q : Exit → Act → World → Prop} {E : Prop}
    (hg : o.guard = none) (s x : Operand) (t : TypeId) (hop : o.op = Op.call { callee := Callee.builtin Builtin.append, args := #[s, x], argTypes := #[t, t] })
    (v nv v1 : Value) (w1 : World) (hs : a.eval s = v) (hx : a.eval x = nv) (hrun : (Builtin.append_ #[t, t] o.type #[v, nv]).run P w = .ok v1 w1) (hK : K (a.put o.dst v1) w1) :
    if Region.wanted o (yielded ops a.tmps) = true then Oper.wp P o a w K Q else E := by
  have hw : Region.wanted o (yielded ops a.tmps) = true := by simp [Region.wanted, hg]
  rw [if_pos hw]
  unfold Oper.wp
  simp [execOp, hop, resolve, invoke, builtin, hs, hx, hrun, Result.andThen]
  exact hK
theorem ta_f (a b c : Value) (W : World) : (Instr.typeAssert (.iface 49 (.agg #[a, b, c])) 20 49 false).run Try.prog W = .ok (.agg #[a, b, c]) W := by kernel_rfl
theorem ta_t (a b c : Value) (W : World) : (Instr.typeAssert (.iface 49 (.agg #[a, b, c])) 20 49 true).run Try.prog W = .ok (.tuple #[.agg #[a, b, c], .bool true]) W := by kernel_rfl
set_option maxHeartbeats 4000000 in
theorem push_m (hp g cap base : Nat) (xs : List S49) (x : S49) (w : World) (hH : HpS w base hp g cap xs) (hb : base ≤ w.heap.size) (hl : xs.length ≤ 1000) :
    Calls Try.prog 65 #[.pointer (some ⟨hp, 0, none⟩), .iface 49 (.agg #[.int .i64 x.f0, .string x.f1, .int .i64 x.f2])] w fun e w' => e = .returned (.tuple #[]) ∧ ∃ g' cap', HpS w' base hp g' cap' (xs ++ [x]) ∧ (g' = g ∨ w.heap.size ≤ g') ∧ HpF w w' hp (some g) := by
  obtain ⟨v1, w1, hrun, hR1, hg1, hat⟩ := app_run hH.row x hb hl
  obtain ⟨g', cap', rfl⟩ : ∃ g' cap', v1 = .slice (some ⟨g', 0, none⟩) (xs.length + 1) cap' := by
    obtain ⟨inner, ho⟩ := Kd.R_own hR1
    rcases ho.2 with ⟨rfl, h0⟩ | ⟨g', cap', cur, rfl, _⟩
    · simp at h0
    · exact ⟨g', cap', by rw [List.length_append]; rfl⟩
  have HRUN := Lib.hid hrun
  clear hrun
  have hc : w.cell? ⟨hp, 0, none⟩ = some (.slice (some ⟨g, 0, none⟩) xs.length cap) := (blk_cell hH.cell 0).trans rfl
  have hf := blk_frozen hH.cell 0
  have hba := blk_alloc hH.cell (.cells #[.int .i64 x.f0, .string x.f1, .int .i64 x.f2] 49 (0, 0))
  have hca : (w.alloc (.cells #[.int .i64 x.f0, .string x.f1, .int .i64 x.f2] 49 (0, 0))).cell? ⟨hp, 0, none⟩ = some (.slice (some ⟨g, 0, none⟩) xs.length cap) := (blk_cell hba 0).trans rfl
  have hfa := blk_frozen hba 0
  clear hba
  have hb1 := blk_grown hH.cell hg1 (fun e => hH.ne (Option.some.inj e))
  have hc1 : w1.cell? ⟨hp, 0, none⟩ = some (.slice (some ⟨g, 0, none⟩) xs.length cap) := (blk_cell hb1 0).trans rfl
  have hf1 := blk_frozen hb1 0
  have HB1 := Lib.hid hb1
  have HR1 := Lib.hid hR1
  have HG1 := Lib.hid hg1
  have HAT := Lib.hid hat
  have HH := Lib.hid hH
  clear hb1 hR1 hg1 hat hH
  have hta := ta_f
  go_enter Try.func65, Try.ntmps65
  go_region_law (refine step_app rfl (.tmp 7) (.tmp 10) 59 rfl (.slice (some ⟨g, 0, none⟩) xs.length cap) (.slice (some ⟨w.heap.size, 0, none⟩) 1 1) (.slice (some ⟨g', 0, none⟩) (xs.length + 1) cap') w1 (by simp [Act.eval, Act.put]) (by simp [Act.eval, Act.put]) HRUN.out ?_)
  all_goals (
    go_end0
    have hb2 := blk_set HB1.out 0 (.slice (some ⟨g', 0, none⟩) (xs.length + 1) cap')
    have hR2 := Kd.R_set HR1.out HB1.out (by decide) 0 (.slice (some ⟨g', 0, none⟩) (xs.length + 1) cap')
    refine ⟨rfl, g', cap', ⟨?_, ?_⟩, ?_, ?_⟩
    · rw [List.length_append]; exact hb2
    · rw [List.length_append]; exact hR2
    · rcases HAT.out with h | ⟨b, h, hb3⟩
      · exact .inl (Option.some.inj h)
      · have e : g' = b := Option.some.inj h
        exact .inr (by omega)
    · exact (HpF.of_gb HG1.out hp).trans (HpF.set w1 hp 0 _ _) (.inl rfl))
theorem len_w (A : Option Addr) (n c : Nat) (w : World) : Calls Try.prog 29 #[.slice A n c] w fun e w' => e = .returned (.int .i64 n) ∧ w' = w := by
  go_enter Try.func29, Try.ntmps29
  go_wp2
  go_ret
  exact ⟨rfl, rfl⟩
set_option maxHeartbeats 4000000 in
theorem pop_m (hp g cap base : Nat) (xs : List S49) (w : World) (hH : HpS w base hp g cap xs) (hn : 0 < xs.length) (hl : xs.length ≤ 1000) :
    Calls Try.prog 64 #[.pointer (some ⟨hp, 0, none⟩)] w fun e w' => e = .returned (.iface 49 (.agg #[.int .i64 (Hp.g xs (xs.length - 1)).f0, .string (Hp.g xs (xs.length - 1)).f1, .int .i64 (Hp.g xs (xs.length - 1)).f2])) ∧ HpS w' base hp g cap (xs.take (xs.length - 1)) ∧ HpF w w' hp (some g) := by
  obtain ⟨m, hm⟩ : ∃ m, xs.length = m + 1 := ⟨xs.length - 1, by omega⟩
  obtain ⟨-, hcap, -⟩ := Kd.R_reads' hH.row
  obtain ⟨i0, i1, i2, -, -⟩ := own3 hH.row m (by omega)
  rw [rd_g] at i0 i1 i2
  have hc : w.cell? ⟨hp, 0, none⟩ = some (.slice (some ⟨g, 0, none⟩) (m + 1) cap) := (blk_cell hH.cell 0).trans (by rw [← hm]; rfl)
  have hHr := hH.row
  have hHc := hH.cell
  have HH := Lib.hid hH
  rw [hm] at hHc
  rw [show xs.length - 1 = m by omega]
  have HM := Lib.hid hm
  obtain ⟨x, hx⟩ : ∃ x, x = Hp.g xs m := ⟨_, rfl⟩
  rw [← hx] at i0 i1 i2 ⊢
  have HX := Lib.hid hx
  have hba := blk_alloc hHc (.cells #[.int .i64 x.f0, .string x.f1, .int .i64 x.f2] 49 (0, 0))
  have hca : (w.alloc (.cells #[.int .i64 x.f0, .string x.f1, .int .i64 x.f2] 49 (0, 0))).cell? ⟨hp, 0, none⟩ = some (.slice (some ⟨g, 0, none⟩) (m + 1) cap) := (blk_cell hba 0).trans rfl
  have hfa := blk_frozen hba 0
  have hne : hp ≠ w.heap.size := by have := blk_lt hHc; omega
  have HBA := Lib.hid hba
  have HR := Lib.hid hHr
  have hmc : m ≤ cap := by omega
  have hm1000 : m ≤ 1000 := by omega
  clear hba hHr hHc hH hm hx hn hl hcap
  go_enter Try.func64, Try.ntmps64
  go_wp2
  go_ret
  have hb2 := blk_set HBA.out 0 (.slice (some ⟨g, 0, none⟩) m cap)
  have hT := Kd.R_take HR.out (m := m) (by have := HM.out; omega)
  have hT2 := Kd.R_set (Kd.R_below hT (below_alloc (Below.refl _ _) (.cells #[.int .i64 x.f0, .string x.f1, .int .i64 x.f2] 49 (0, 0)))) HBA.out (by decide) 0 (.slice (some ⟨g, 0, none⟩) m cap)
  have hl : (xs.take m).length = m := by rw [List.length_take]; have := HM.out; omega
  refine ⟨rfl, ⟨by rw [hl]; exact hb2, by rw [hl]; exact hT2⟩, ?_⟩
  exact (HpF.of_gb (gb_below (below_alloc (Below.refl _ _) (.cells #[.int .i64 x.f0, .string x.f1, .int .i64 x.f2] 49 (0, 0))) _) hp).trans (HpF.set _ hp 0 _ _) (.inl rfl)
theorem HpF.refl (w : World) (hp : Nat) (row : Option Nat) : HpF w w hp row := ⟨rfl, rfl, rfl, Nat.le_refl _, fun _ _ _ _ => rfl⟩
set_option maxHeartbeats 4000000 in
theorem hpush_w (hp g cap base : Nat) (xs : List S49) (x : S49) (w : World) (hH : HpS w base hp g cap xs) (hb : base ≤ w.heap.size) (hl : xs.length ≤ 900) :
    Calls Try.prog 32 #[.iface 46 (.pointer (some ⟨hp, 0, none⟩)), .iface 49 (.agg #[.int .i64 x.f0, .string x.f1, .int .i64 x.f2])] w fun e w' => e = .returned (.tuple #[]) ∧ ∃ g' cap', HpS w' base hp g' cap' (Hp.push ltS xs x) ∧ (g' = g ∨ w.heap.size ≤ g') ∧ HpF w w' hp (some g) := by
  have mP : (method 198 46 (.pointer (some ⟨hp, 0, none⟩)) "Push").run Try.prog w = _ := (meth_ptr w hp 197).1.1
  have hpm := push_m hp g cap base xs x w hH hb (by omega)
  clear hH
  obtain ⟨n, hn⟩ : ∃ n, n = xs.length := ⟨_, rfl⟩
  have HN := Lib.hid hn
  have hn9 : n ≤ 900 := by omega
  clear hn hl
  go_enter Try.func32, Try.ntmps32
  go_wp2_with (first
    | (go_at_call 65; refine hpm.mono ?_; rintro e w1 ⟨rfl, g1, cap1, hH1, hg1, hF1⟩; have HH1 := Lib.hid hH1; have HG1 := Lib.hid hg1; have HF1 := Lib.hid hF1; have mN : (method 198 46 (.pointer (some ⟨hp, 0, none⟩)) "Len").run Try.prog w1 = .ok (29, .slice (some ⟨g1, 0, none⟩) (n + 1) cap1) w1 := by { have h := (meth_val HH1.out.cell 197).2.2.1; rw [List.length_append, ← HN.out] at h; exact h }; have hup := up_w hp g1 cap1 base (n + 1) n (xs ++ [x]) w1 HH1.out (by rw [List.length_append, ← HN.out]; exact Nat.lt_succ_self n) (by omega) (by rw [List.length_append, ← HN.out]; show n + 1 ≤ 1000; omega); clear hH1 hg1 hF1 hpm mP)
    | (go_at_call 29; refine (len_w _ _ _ _).mono ?_; rintro e w' ⟨rfl, rfl⟩)
    | (go_at_call 42; refine hup.mono ?_; rintro e w2 ⟨rfl, hH2, hg2⟩; have HH2 := Lib.hid hH2; have HG2 := Lib.hid hg2; clear hH2 hg2))
  go_end0
  refine ⟨rfl, g1, cap1, ?_, HG1.out, HF1.out.trans (HpF.of_gb HG2.out hp) ?_⟩
  · have h := HH2.out
    unfold Hp.push
    rw [← HN.out]
    exact h
  · rcases HG1.out with h | h
    · exact .inl (by rw [h])
    · exact .inr ⟨g1, rfl, h⟩
theorem pop_down (xs : List S49) (m : Nat) (hm : xs.length = m + 1) : Hp.down ltS m (Hp.sw xs 0 m) 0 m = Hp.pop ltS xs := by
  unfold Hp.pop
  rw [hm]; rfl
set_option maxHeartbeats 4000000 in
theorem hpop_w (hp g cap base : Nat) (xs : List S49) (w : World) (hH : HpS w base hp g cap xs) (hn : 0 < xs.length) (hl : xs.length ≤ 1000) :
    Calls Try.prog 30 #[.iface 46 (.pointer (some ⟨hp, 0, none⟩))] w fun e w' => e = .returned (.iface 49 (.agg #[.int .i64 (Hp.g xs 0).f0, .string (Hp.g xs 0).f1, .int .i64 (Hp.g xs 0).f2])) ∧ HpS w' base hp g cap (Hp.rest ltS xs) ∧ HpF w w' hp (some g) := by
  obtain ⟨m, hm⟩ : ∃ m, xs.length = m + 1 := ⟨xs.length - 1, by omega⟩
  have mN : (method 198 46 (.pointer (some ⟨hp, 0, none⟩)) "Len").run Try.prog w = .ok (29, .slice (some ⟨g, 0, none⟩) (m + 1) cap) w := by
    have h := (meth_val hH.cell 197).2.2.1; rw [hm] at h; exact h
  have mS : (method 198 46 (.pointer (some ⟨hp, 0, none⟩)) "Swap").run Try.prog w = .ok (66, .slice (some ⟨g, 0, none⟩) (m + 1) cap) w := by
    have h := (meth_val hH.cell 197).2.1.1; rw [hm] at h; exact h
  have hsw := hH.swap 0 m (by omega) (by omega)
  rw [hm] at hsw
  have hsw' : Calls Try.prog 66 #[.slice (some ⟨g, 0, none⟩) (m + 1) cap, .int .i64 0, .int .i64 m] w _ := hsw
  have hne : xs ≠ [] := fun e => by rw [e] at hn; exact absurd hn (Nat.lt_irrefl 0)
  obtain ⟨x, hx⟩ : ∃ x, x = Hp.g xs 0 := ⟨_, rfl⟩
  rw [← hx]
  have HX : Hid (Hp.g (Hp.pop ltS xs) ((Hp.pop ltS xs).length - 1) = x ∧ (Hp.pop ltS xs).take ((Hp.pop ltS xs).length - 1) = Hp.rest ltS xs) := Lib.hid (by
    rw [Hp.pop_length, Hp.pop_last hne, hx]; exact ⟨rfl, rfl⟩)
  have HM := Lib.hid hm
  have hm1 : m ≤ 999 := by omega
  have HH := Lib.hid hH
  clear hsw hm hn hl hH hne hx
  go_enter Try.func30, Try.ntmps30
  go_wp2_with (first
    | (go_at_call 29; refine (len_w _ _ _ _).mono ?_; rintro e w' ⟨rfl, rfl⟩)
    | (go_at_call 66; refine hsw'.mono ?_; rintro e w1 ⟨rfl, hH1, hg1⟩; have HG1 := Lib.hid hg1; have hl1 : (Hp.sw xs 0 m).length = m + 1 := by { rw [Hp.sw_length]; exact HM.out }; have hdn := down_w hp g cap base m m (Hp.sw xs 0 m) w1 hH1 (by rw [hl1]; exact Nat.le_succ m) (Nat.le_refl m) (by rw [hl1]; exact Nat.succ_le_of_lt (Nat.lt_of_le_of_lt hm1 (by decide))); rw [pop_down xs m HM.out] at hdn; clear hl1 hH1 hg1 hsw' mN mS)
    | (go_at_call 38; refine hdn.mono ?_; rintro e w2 ⟨⟨b, rfl⟩, hH2, hg2⟩; have HG2 := Lib.hid hg2; have hl2 : (Hp.pop ltS xs).length = m + 1 := by { rw [Hp.pop_length]; exact HM.out }; have hpo := pop_m hp g cap base (Hp.pop ltS xs) w2 hH2 (by rw [hl2]; exact Nat.succ_pos m) (by rw [hl2]; exact Nat.succ_le_of_lt (Nat.lt_of_le_of_lt hm1 (by decide))); have mP : (method 198 46 (.pointer (some ⟨hp, 0, none⟩)) "Pop").run Try.prog w2 = _ := (meth_ptr w2 hp 197).2.1; rw [HX.out.1, HX.out.2] at hpo; clear hl2 hH2 hg2 hdn)
    | (go_at_call 64; refine hpo.mono ?_; rintro e w3 ⟨rfl, hH3, hf3⟩; have HH3 := Lib.hid hH3; have HF3 := Lib.hid hf3; clear hH3 hf3 hpo))
  go_ret
  exact ⟨rfl, HH3.out, (HpF.of_gb (gb_trans HG1.out HG2.out) hp).trans HF3.out (.inl rfl)⟩
def hopen (h : S30) : Bool := Pu.hmay h.f0 h.f1 h.f2 h.f3 h.f4 h.f5 h.f6 && h.f6
def hitem (h : S30) (i : Nat) : S49 := ⟨h.f5, h.f0 ++ h.f1, (i : Int)⟩
def itemsTo (l : List S30) (k : Nat) : List S49 := ((List.range k).filter fun i : Nat => hopen (rd_T30 l (i : Int))).map fun i : Nat => hitem (rd_T30 l (i : Int)) i
theorem itemsTo_succ (l : List S30) (k : Nat) : itemsTo l (k + 1) = itemsTo l k ++ (if hopen (rd_T30 l (k : Int)) = true then [hitem (rd_T30 l (k : Int)) k] else []) := by
  unfold itemsTo
  rw [List.range_succ, List.filter_append, List.map_append]
  congr 1
  cases h : hopen (rd_T30 l (k : Int)) with
  | true => simp [h]
  | false => simp [h]
theorem build_snoc (ys : List S49) (y : S49) : Hp.build ltS (ys ++ [y]) = Hp.push ltS (Hp.build ltS ys) y := by
  unfold Hp.build; rw [List.foldl_append]; rfl
theorem build_len (ys : List S49) : (Hp.build ltS ys).length = ys.length := by
  have : ∀ (ys xs : List S49), (ys.foldl (Hp.push ltS) xs).length = xs.length + ys.length := by
    intro ys
    induction ys with
    | nil => intro xs; simp
    | cons y ys ih => intro xs; simp only [List.foldl_cons, ih, Hp.push_length, List.length_cons]; omega
  unfold Hp.build; rw [this]; simp
theorem itemsTo_len (l : List S30) (k : Nat) : (itemsTo l k).length ≤ k := by
  unfold itemsTo
  rw [List.length_map]
  exact Nat.le_trans (List.length_filter_le _ _) (by simp)
def okH (h : S30) : Bool := decide (h.f0.size ≤ 4096) && decide (h.f1.size ≤ 140737488351232)
set_option maxHeartbeats 4000000 in
theorem open_w (A0 : Option Addr) (c0 : Nat) (l : List S30) (w : World) (hr0 : Kd.C k30 w A0 l.length l) (hl : l.length ≤ 900) (hok : l.all okH = true) :
    Calls Try.prog 19 #[.slice A0 l.length c0] w fun e w' => ∃ hp g cap, e = .returned (.pointer (some ⟨hp, 0, none⟩)) ∧ w.heap.size ≤ hp ∧ HpS w' w.heap.size hp g cap (Hp.build ltS (itemsTo l l.length)) ∧ Below w.heap.size w w' := by
  have HR := Lib.hid hr0
  have HOK : Hid (∀ k, k < l.length → okH (rd_T30 l (k : Int)) = true) := Lib.hid fun k hk => by
    unfold rd_T30
    rw [Int.toNat_natCast, List.getD_eq_getElem?_getD, List.getElem?_eq_getElem hk]
    exact List.all_eq_true.mp hok _ (List.getElem_mem hk)
  obtain ⟨n, hn⟩ : ∃ n, n = l.length := ⟨_, rfl⟩
  rw [← hn] at hl ⊢
  have HN := Lib.hid hn
  clear hr0 hok hn
  go_enter Try.func19, Try.ntmps19
  go_upto_region 3 with fail
  have hS0 : HpS ((w.alloc (.cells #[] 49 (0, 0))).alloc (.cells #[.slice (some ⟨w.heap.size, 0, none⟩) 0 0] 59 (0, 0))) w.heap.size (w.heap.size + 1) w.heap.size 0 [] := by
    refine ⟨?_, ?_⟩
    · have h := blk_new (w.alloc (.cells #[] 49 (0, 0))) (.cells #[.slice (some ⟨w.heap.size, 0, none⟩) 0 0] 59 (0, 0))
      rw [show (w.alloc (.cells #[] 49 (0, 0))).heap.size = w.heap.size + 1 by simp [World.alloc, -World.alloc_eq]] at h
      exact h
    · exact Kd.R_below ⟨fun _ _ => trivial, [], World.ownsRow_made w #[] 0 (Nat.le_refl _) (Nat.zero_le _) rfl, Reps.none _ _⟩ (below_alloc (Below.refl _ _) _)
  have hB0 : Below w.heap.size w ((w.alloc (.cells #[] 49 (0, 0))).alloc (.cells #[.slice (some ⟨w.heap.size, 0, none⟩) 0 0] 59 (0, 0))) := below_alloc (below_alloc (Below.refl _ _) _) _
  generalize ((w.alloc (.cells #[] 49 (0, 0))).alloc (.cells #[.slice (some ⟨w.heap.size, 0, none⟩) 0 0] 59 (0, 0))) = W0 at *
  obtain ⟨hp, hhp⟩ : ∃ hp, hp = w.heap.size + 1 := ⟨_, rfl⟩
  rw [← hhp] at hS0 ⊢
  have HHP := Lib.hid hhp
  have HS0 := Lib.hid hS0
  have HB0 := Lib.hid hB0
  clear hhp hS0 hB0
  go_loopg [4, 5, 10] n (fun gg _ _ s10 wr => ∃ (kk g cap : Nat), kk ≤ n ∧ n - kk ≤ gg ∧ s10 = .int .i64 kk ∧ Hid (HpS wr w.heap.size hp g cap (Hp.build ltS (itemsTo l kk))) ∧ Hid (Below w.heap.size w wr))
  case atStart => exact ⟨0, _, _, Nat.zero_le _, by omega, rfl, HS0, HB0⟩
  case round =>
    obtain ⟨kk, g, cap, hkn, hg, rfl, HY, HB⟩ := hrel
    by_cases hlt : kk < n
    · have hltz : (kk : Int) < (n : Int) := by omega
      obtain ⟨ad, rfl, l0, l1, l2, l3, l4, l5, l6⟩ := at_T30 (Kd.C_below HR.out HB.out) (kk : Int) (by omega) (by rw [← HN.out]; exact hltz)
      have HO := Lib.hid (HOK.out kk (by rw [← HN.out]; exact hlt))
      have HSN := Lib.hid (itemsTo_succ l kk)
      rw [Int.toNat_natCast] at l0 l1 l2 l3 l4 l5 l6
      generalize rd_T30 l kk = x at l0 l1 l2 l3 l4 l5 l6 HO HSN
      have hmay : ∀ W, Calls Try.prog 31 #[.agg #[.string x.f0, .string x.f1, .string x.f2, .int .i64 x.f3, .int .i64 x.f4, .int .i64 x.f5, .bool x.f6]] W fun e w' => e = .returned (.bool (Pu.hmay x.f0 x.f1 x.f2 x.f3 x.f4 x.f5 x.f6)) ∧ Below W.heap.size W w' := fun W => hold_May.calls _ _ _ _ _ _ _ _ W (by
        unfold hold_May.f; rw [if_pos]; have := HO.out; unfold okH at this; rw [Bool.and_eq_true] at this; exact of_decide_eq_true this.1)
      have hAl := below_alloc (Below.refl wr.heap.size wr) (.cells #[.string x.f0, .string x.f1, .string x.f2, .int .i64 x.f3, .int .i64 x.f4, .int .i64 x.f5, .bool x.f6] 30 (0, 0))
      have hbx := blk_new wr (.cells #[.string x.f0, .string x.f1, .string x.f2, .int .i64 x.f3, .int .i64 x.f4, .int .i64 x.f5, .bool x.f6] 30 (0, 0))
      have HAl := Lib.hid hAl
      have HBX := Lib.hid hbx
      clear hAl hbx
      cases hm : Pu.hmay x.f0 x.f1 x.f2 x.f3 x.f4 x.f5 x.f6 with
      | false =>
        rw [hm] at hmay
        have HM := Lib.hid hm
        clear hm
        go_wp2_with (go_at_call 31; refine (hmay _).mono ?_; rintro e w1 ⟨rfl, hb1⟩; have HB1 := Lib.hid hb1; clear hb1)
        go_roundg (n - (kk + 1))
        case measure => omega
        case rel =>
          have hb2 := HAl.out.trans (HB1.out.mono HAl.out.size)
          refine ⟨kk + 1, g, cap, by omega, by omega, by simp, Lib.hid ?_, Lib.hid (HB.out.trans (hb2.mono HB.out.size))⟩
          rw [HSN.out, if_neg (by unfold hopen; rw [HM.out, Bool.false_and]; decide), List.append_nil]
          exact HY.out.below hb2
      | true =>
        rw [hm] at hmay
        have HM := Lib.hid hm
        have HM0 := HM
        clear hm
        cases hop : x.f6 with
        | false =>
          rw [hop] at hmay HBX HAl l6
          have HOP := Lib.hid hop
          clear hop
          go_wp2_with (go_at_call 31; refine (hmay _).mono ?_; rintro e w1 ⟨rfl, hb1⟩; have HB1 := Lib.hid hb1; have hbx1 := blk_below HBX.out hb1; have d6 : w1.cell? ⟨wr.heap.size, 6, none⟩ = some (.bool false) := (blk_cell hbx1 6).trans rfl; clear hb1 hbx1)
          go_roundg (n - (kk + 1))
          case measure => omega
          case rel =>
            have hb2 := HAl.out.trans (HB1.out.mono HAl.out.size)
            refine ⟨kk + 1, g, cap, by omega, by omega, by simp, Lib.hid ?_, Lib.hid (HB.out.trans (hb2.mono HB.out.size))⟩
            rw [HSN.out, if_neg (by unfold hopen; rw [HOP.out, Bool.and_false]; decide), List.append_nil]
            exact HY.out.below hb2
        | true =>
          rw [hop] at hmay HBX HAl l6
          have HOP := Lib.hid hop
          clear hop
          have hkey : ∀ W, Calls Try.prog 33 #[.agg #[.string x.f0, .string x.f1, .string x.f2, .int .i64 x.f3, .int .i64 x.f4, .int .i64 x.f5, .bool true]] W fun e w' => e = .returned (.string (x.f0 ++ x.f1)) ∧ Below W.heap.size W w' := fun W => hold_Key.calls _ _ _ _ _ _ _ _ W (by
            have ho := HO.out
            unfold okH at ho
            rw [Bool.and_eq_true] at ho
            have h0 := of_decide_eq_true ho.1
            have h1 := of_decide_eq_true ho.2
            unfold hold_Key.f hold_May.f
            have hm := HM.out
            rw [HOP.out] at hm
            rw [if_pos h0, hm, Option.bind_some, if_pos rfl, if_pos (by omega)])
          go_upto_region 6 with (go_at_call 31; refine (hmay _).mono ?_; rintro e w1 ⟨rfl, hb1⟩; have HB1 := Lib.hid hb1; have hbx1 := blk_below HBX.out hb1; have HBX1 := Lib.hid hbx1; have d0 : w1.cell? ⟨wr.heap.size, 0, none⟩ = some (.string x.f0) := (blk_cell hbx1 0).trans rfl; have d1 : w1.cell? ⟨wr.heap.size, 1, none⟩ = some (.string x.f1) := (blk_cell hbx1 1).trans rfl; have d2 : w1.cell? ⟨wr.heap.size, 2, none⟩ = some (.string x.f2) := (blk_cell hbx1 2).trans rfl; have d3 : w1.cell? ⟨wr.heap.size, 3, none⟩ = some (.int .i64 x.f3) := (blk_cell hbx1 3).trans rfl; have d4 : w1.cell? ⟨wr.heap.size, 4, none⟩ = some (.int .i64 x.f4) := (blk_cell hbx1 4).trans rfl; have d5 : w1.cell? ⟨wr.heap.size, 5, none⟩ = some (.int .i64 x.f5) := (blk_cell hbx1 5).trans rfl; have d6 : w1.cell? ⟨wr.heap.size, 6, none⟩ = some (.bool true) := (blk_cell hbx1 6).trans rfl; have HT1 := Lib.hid (HAl.out.trans (hb1.mono HAl.out.size)); clear hb1 hbx1)
          have hbl : (Hp.build ltS (itemsTo l kk)).length ≤ 900 := by rw [build_len]; have := itemsTo_len l kk; omega
          have HBL := Lib.hid hbl
          clear hbl
          go_region_with (first
            | (go_at_call 33; refine (hkey _).mono ?_; rintro e w2 ⟨rfl, hb2⟩; have hbx2 := blk_below (blk_drew HBX1.out) hb2; have e5 : w2.cell? ⟨wr.heap.size, 5, none⟩ = some (.int .i64 x.f5) := (blk_cell hbx2 5).trans rfl; have HT2 := Lib.hid ((below_drew HT1.out).trans (hb2.mono HT1.out.size)); have hpu := hpush_w hp g cap w.heap.size _ ⟨x.f5, x.f0 ++ x.f1, (kk : Int)⟩ w2 (HY.out.below HT2.out) (Nat.le_trans HB.out.size HT2.out.size) HBL.out; clear hb2 hbx2)
            | (go_at_call 32; refine hpu.mono ?_; rintro e w3 ⟨rfl, g3, cap3, hH3, hg3, hF3⟩; have HH3 := Lib.hid hH3; have HG3 := Lib.hid hg3; have HF3 := Lib.hid hF3; clear hH3 hg3 hF3 hpu))
          all_goals (
            go_wp2
            go_roundg (n - (kk + 1))
            case measure => omega
            case rel =>
              refine ⟨kk + 1, g3, cap3, by omega, by omega, by simp, Lib.hid ?_, Lib.hid ?_⟩
              · rw [HSN.out, if_pos (by have hm := HM0.out; rw [HOP.out] at hm; unfold hopen; rw [HOP.out, hm]; rfl), build_snoc]
                exact HH3.out
              · refine HB.out.trans ((HT2.out.mono HB.out.size).trans (HF3.out.below ?_ ?_ ?_))
                · have := HHP.out; omega
                · intro k hk
                  have := Kd.R_base HY.out.row g (by simp [Value.ownBlock])
                  have e := Option.some.inj hk
                  omega
                · exact Nat.le_trans HB.out.size HT2.out.size)
    · obtain rfl : kk = n := by omega
      have hge : ¬ (kk : Int) < (kk : Int) := by omega
      go_wp2
      go_ret
      have hph : w.heap.size ≤ hp := by have := HHP.out; omega
      first
        | exact ⟨hp, g, cap, rfl, hph, HY.out, HB.out⟩
        | exact ⟨hp, rfl, hph, ⟨g, cap, HY.out⟩, HB.out⟩


end Go.Proofs.Ytaifcadnnmicnaa.XE
