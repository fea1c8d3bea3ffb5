/- digit.Put, Get and Sign: what they answer, over the library's contracts (laid in YtnelnmlhlmocdaaGreatDoorSh). -/
import Derived.Test.YtnelnmlhlmocdaaGreatDoorSh
import Derived.Test.YtnelnmlhlmocdaaGreatDoorDg
import Derived.Lib.AppendIntMem
import Derived.WalkKit
import Derived.BigCall
import Derived.BigGuard
namespace Go.Proofs.YtnelnmlhlmocdaaGreatDoor.Fu
open Go.RowKit Go.Sort Go.Lib Go.Proofs.YtnelnmlhlmocdaaGreatDoorW.PrintWords
set_option linter.unusedVariables false
set_option linter.unusedSimpArgs false

theorem below_grow (w : World) (k : Nat) (os : Array Obj) : Below w.heap.size w (Go.Sort.grow (w.drewN k) os) := by
  refine ⟨rfl, rfl, rfl, ?_, ?_⟩
  · show w.heap.size ≤ (w.heap ++ os).size
    rw [Array.size_append]; omega
  · intro j hj
    show (w.heap ++ os)[j]? = w.heap[j]?
    rw [Array.getElem?_append_left hj]

theorem fin_pos0 (w : World) (o : Obj) (dk : Array UInt8) (k : Nat) : ∃ os, (putRow (fun (b : UInt8) => Value.int .u8 (b.toNat : Int)) (w.alloc o) w.heap.size 0 dk).drewN k = Go.Sort.grow (w.drewN k) os := by
  rw [alloc_eq_grow]
  obtain ⟨os', _, e⟩ := putRow_grow_new (fun (b : UInt8) => Value.int .u8 (b.toNat : Int)) w #[o] w.heap.size 0 dk (Nat.le_refl _)
  exact ⟨os', by rw [e]; rfl⟩

/-- what the library's table of powers holds -/
def Tab (w : World) : Prop := TabIs Tryz.prog w "internal/strconv.uint64pow10" .u64 pow10Tab

theorem tab_below {w w' : World} (h : Tab w) (hb : Below w.heap.size w w') : Tab w' := by
  unfold Tab TabIs World.var? at *
  cases hg : Tryz.prog.globalNamed "internal/strconv.uint64pow10" with
  | none => simp [hg] at h
  | some g =>
    simp only [hg, Option.bind_some] at h ⊢
    have hlt : g < w.heap.size := by
      rcases Nat.lt_or_ge g w.heap.size with h' | h'
      · exact h'
      · rw [Array.getElem?_eq_none h'] at h; simp at h
    rw [hb.block g hlt]
    exact h

set_option maxHeartbeats 6400000 in
set_option maxRecDepth 100000 in
theorem in_FormatUint (u : Nat) (hu64 : u < 18446744073709551616) (w : World) (htab : 100 ≤ u → Tab w) :
    Calls Tryz.prog 39 #[.int .u64 u, .int .i64 10] w fun e w' => e = .returned (.string ⟨(decDigits u).toArray⟩) ∧ Below w.heap.size w w' := by
  have mixed : Tryz.prog.follows .mixedOrders = true := by kernel_rfl
  have t0 := Tryz.underlying114
  have hT := Tryz.underlying114
  have hB := Tryz.underlying78
  by_cases hs : u < 100
  · go_enter Tryz.func39, Tryz.ntmps39
    go_wp2_with (go_at_call 68; refine (Tryz.internal_strconv_small u hs _).mono ?_; rintro e w' ⟨rfl, rfl⟩)
    go_ret
    exact ⟨rfl, Below.refl _ _⟩
  · have htab := htab (by omega)
    have hu1 : 1 ≤ u := by omega
    have hnd20 : nDigits u ≤ 20 := nDigits_le20 u hu64
    have hal : Tryz.prog.arrayLen 114 = 24 := by simp [Program.arrayLen, hT]
    have hsl1 : ∀ W, (Instr.sliceAt 114 (.pointer (some ⟨w.heap.size, 0, none⟩)) none (some (.int .i64 (nDigits u : Int))) none).run Tryz.prog W = .ok (.slice (some ⟨w.heap.size, 0, none⟩) (nDigits u) 24) W := fun W => by
      rw [run_sliceAt_array_h W 114 ⟨w.heap.size, 0, none⟩ (by simp [Program.arrayLen, Program.elem, hT]) .i64 (nDigits u : Int) (by omega) (by rw [hal]; omega)]
      go_simp
    have hH0 := holds_zero0 w 114 (nDigits u) (by omega)
    have hfmt := Tryz.internal_strconv_formatBase10 w.heap.size 0 24 u (Array.replicate (nDigits u) 0) (w.alloc (.cells zeros24 114)) hH0 (by rw [Array.size_replicate]; exact lt_pow_nDigits u) hu64 (by rw [Array.size_replicate]; omega)
    rw [Array.size_replicate] at hfmt
    have HH0 := Lib.hid hH0
    clear hH0 hal
    go_enter Tryz.func39, Tryz.ntmps39
    go_wp2_with (first
      | (go_at_call 69; refine (Tryz.internal_strconv_numDigits u hu1 hu64 _ (tabIs_alloc htab _)).mono ?_; rintro e w' ⟨rfl, rfl⟩))
    go_at_call 70
    refine hfmt.mono ?_
    rintro e w' ⟨rfl, k, v', dk, rfl, hF⟩
    have hcv : (convert 78 9 (.slice (some ⟨w.heap.size, 0, none⟩) (nDigits u) 24)).run Tryz.prog ((putRow (fun (b : UInt8) => Value.int .u8 (b.toNat : Int)) (w.alloc (.cells zeros24 114)) w.heap.size 0 dk).drewN k) = .ok (.string ⟨(decDigits u).toArray⟩) ((putRow (fun (b : UInt8) => Value.int .u8 (b.toNat : Int)) (w.alloc (.cells zeros24 114)) w.heap.size 0 dk).drewN k) := by
      have h := run_convert_bytes_back (P := Tryz.prog) ((putRow (fun (b : UInt8) => Value.int .u8 (b.toNat : Int)) (w.alloc (.cells zeros24 114)) w.heap.size 0 dk).drewN k) 78 9 5 ⟨w.heap.size, 0, none⟩ 24 (decDigits u) hB Tryz.underlying5 Tryz.underlying9 (fun j hj => by
        rw [row_is_numeral hF j hj, Lib.add_plain, World.cell?_drewN]
        exact cell?_putRow (fun (b : UInt8) => Value.int .u8 (b.toNat : Int)) _ w.heap.size 0 _ dk HH0.out (by rw [hF.size, Array.size_replicate]) j (by rw [hF.size]; rw [decDigits_length] at hj; exact hj))
      rw [decDigits_length] at h
      exact h
    go_wp2
    go_ret
    obtain ⟨os, eo⟩ := fin_pos0 w (.cells zeros24 114) dk k
    refine ⟨rfl, ?_⟩
    rw [eo]
    exact below_grow w k os

theorem ret2 {s t : ByteArray} {a b : Int} (h1 : s = t) (h2 : a = b) : Ending.returned (.tuple #[.string s, .int .i64 a]) = .returned (.tuple #[.string t, .int .i64 b]) := by rw [h1, h2]
theorem pub_FormatUint (u : Nat) (hu64 : u < 18446744073709551616) (w : World) (htab : 100 ≤ u → Tab w) :
    Calls Tryz.prog 16 #[.int .u64 u, .int .i64 10] w fun e w' => e = .returned (.string ⟨(decDigits u).toArray⟩) ∧ Below w.heap.size w w' := by
  go_enter Tryz.func16, Tryz.ntmps16
  go_wp2_with (go_at_call 39; refine (in_FormatUint u hu64 _ htab).mono ?_; rintro e w' ⟨rfl, hB⟩)
  go_ret
  exact ⟨rfl, hB⟩

theorem rep48 : ∀ c, repeatL [48] c = List.replicate c 48
  | 0 => rfl
  | c + 1 => by rw [repeatL, rep48 c]; rfl

set_option maxHeartbeats 6400000 in
set_option maxRecDepth 100000 in
theorem put_w (n : Nat) (hn : n < 18446744073709551616) (width : Int) (w : World) (htab : 100 ≤ n → Tab w) :
    Calls Tryz.prog 4 #[.int .u64 n, .int .i64 width] w fun e w' => e = .returned (.tuple #[.string (Dg.putS n width).1, .int .i64 (Dg.putS n width).2]) ∧ Below w.heap.size w w' := by
  by_cases c1 : width < 1
  · go_enter Tryz.func4, Tryz.ntmps4
    go_wp2
    go_ret2
    exact ⟨by unfold Dg.putS; rw [if_pos (Or.inl c1)]; rfl, Below.refl _ _⟩
  · by_cases c2 : 19 < width
    · go_enter Tryz.func4, Tryz.ntmps4
      go_wp2
      go_ret2
      exact ⟨by unfold Dg.putS; rw [if_pos (Or.inr c2)]; rfl, Below.refl _ _⟩
    · obtain ⟨m, rfl⟩ : ∃ m : Nat, width = m := ⟨width.toNat, by omega⟩
      have hsz : ((⟨(decDigits n).toArray⟩ : ByteArray).size) = nDigits n := by rw [← decDigits_length]; rfl
      by_cases c3 : nDigits n ≤ m
      · have hsub : (m : Int) - (nDigits n : Int) = ((m - nDigits n : Nat) : Int) := by omega
        have c3b : ¬ ((nDigits n : Int) > (m : Int)) := by omega
        have hnd := nDigits_pos n
        have hno : ¬ 9223372036854775807 < (repeatL [48] (m - nDigits n)).length + nDigits n := by rw [repeatL_length]; show ¬ _ < _ * 1 + _; omega
        have hend : (⟨(repeatL (⟨#[48]⟩ : ByteArray).data.toList (m - nDigits n)).toArray⟩ : ByteArray) ++ ⟨(decDigits n).toArray⟩ = Dg.ba (Dg.dgs m n) := by
          apply Pu.ba_ext
          rw [Pu.data_append, Dg.ba_data, ← Dg.dgs_pad m n c3]
          show repeatL [48] _ ++ decDigits n = _
          rw [rep48]
        go_enter Tryz.func4, Tryz.ntmps4
        go_wp2_with (first
          | (go_at_call 16; refine (pub_FormatUint n hn _ htab).mono ?_; rintro e w1 ⟨rfl, hB1⟩; simp only [hsz])
          | (go_at_call 17; refine (Tryz.strings_Repeat ⟨#[48]⟩ (m - nDigits n) _ (by omega) (by show 1 * _ ≤ _; omega)).mono ?_; rintro e w2 ⟨rfl, hB2⟩))
        go_ret2
        exact ⟨by unfold Dg.putS; rw [if_neg (by omega), Int.toNat_natCast, if_pos c3]; rfl, hB1.trans (hB2.mono hB1.size)⟩
      · have c3b : (nDigits n : Int) > (m : Int) := by omega
        go_enter Tryz.func4, Tryz.ntmps4
        go_wp2_with (go_at_call 16; refine (pub_FormatUint n hn _ htab).mono ?_; rintro e w1 ⟨rfl, hB1⟩; simp only [hsz])
        go_ret2
        exact ⟨by unfold Dg.putS; rw [if_neg (by omega), Int.toNat_natCast, if_neg c3]; rfl, hB1⟩
end Go.Proofs.YtnelnmlhlmocdaaGreatDoor.Fu
