/- spec.kinds, spec.pure, spec.read and spec.table: what they answer; what a walk needs of the library's tables (Env). -/
import Derived.Deep.RegionLaw
import Derived.Deep.RegionHeld3
import Derived.Shelf.Abstract
import Derived.Maps.OwnOps
import Derived.Maps.Views
import Derived.Lib.SliceRun
import Derived.Lib.Hide
import Derived.Lib.AtoiErrMem
import Derived.Outline
import Derived.Test.YtnelnmlhlmocdaaGreatDoorPu
import Derived.Test.YtnelnmlhlmocdaaGreatDoorSh
import Derived.Test.YtnelnmlhlmocdaaGreatDoorFu
namespace Go.Proofs.YtnelnmlhlmocdaaGreatDoor.As
open Go.RowKit Go.Proofs.YtnelnmlhlmocdaaGreatDoorW.PrintWords Go.Proofs.YtnelnmlhlmocdaaGreatDoorW.PrintLast Go.Proofs.YtnelnmlhlmocdaaGreatDoorW.PrintMore
attribute [local go_sem] max2_int min2_int max_two min_two max_three min_three max_four min_four   -- for this text's walks alone
set_option linter.unusedVariables false
set_option linter.unusedSimpArgs false
def kindsA : Array Value := #[.string ⟨#[]⟩, .nilFunc, .string ⟨#[110]⟩, .func (.func 101) #[] #[], .string ⟨#[97, 110]⟩, .func (.func 102) #[] #[], .string ⟨#[97, 110, 115]⟩, .func (.func 104) #[] #[], .string ⟨#[98]⟩, .func (.func 105) #[] #[]]
theorem kinds_w (w : World) : Calls Tryz.prog 85 #[] w fun e w' => e = .returned (.agg kindsA) ∧ Below w.heap.size w w' := by
  have hu := Tryz.underlying136
  have hu2 := Tryz.underlying135
  have hb := blk_new w (.cells #[.string ⟨#[]⟩, .nilFunc, .string ⟨#[]⟩, .nilFunc, .string ⟨#[]⟩, .nilFunc, .string ⟨#[]⟩, .nilFunc, .string ⟨#[]⟩, .nilFunc] 136 (0, 0))
  have HB := Lib.hid hb
  have hi : (Tryz.prog.info? 136).map (·.size) = some kindsA.size := by kernel_rfl
  have HI := Lib.hid hi
  have h1 : kindsA.all (·.oneCell') = true := by kernel_rfl
  have H1 := Lib.hid h1
  clear hb hi h1
  go_enter Tryz.func85, Tryz.ntmps85
  go_wp2_with (refine wpList_store_row rfl 136 (.tmp 0) (.tmp 6) rfl w.heap.size kindsA rfl rfl 136 _ HB.out HI.out rfl H1.out ?_)
  refine bodyPost_ret (results_cell_row rfl _ _ w.heap.size 136 kindsA (0, 0) _ rfl (setRow_heap _ _ _ _ _ _ HB.out) Tryz.underlying136 rfl HI.out) rfl ?_
  refine ⟨rfl, ?_⟩
  exact ⟨rfl, rfl, rfl, by simp [World.setRow], fun k hk => (setRow_other _ _ _ _ (by omega)).trans (Below.heap_alloc w _ k hk)⟩
theorem digit_ok (c : Int) (w : World) (h : 48 ≤ c ∧ c ≤ 57) : Calls Tryz.prog 101 #[.int .u8 c] w fun e w' => e = .returned (.bool true) ∧ Below w.heap.size w w' := by
  have h1 : c ≥ 48 := h.1
  have h2 : c ≤ 57 := h.2
  clear h
  go_enter Tryz.func101, Tryz.ntmps101
  go_wp2
  go_ret
  exact ⟨by simp <;> omega, Below.refl _ _⟩
theorem digit_no (c : Int) (w : World) (h : 65 ≤ c ∧ c ≤ 90) : Calls Tryz.prog 101 #[.int .u8 c] w fun e w' => e = .returned (.bool false) ∧ Below w.heap.size w w' := by
  have h1 : c ≥ 48 := by omega
  have h2 : ¬ c ≤ 57 := by omega
  clear h
  go_enter Tryz.func101, Tryz.ntmps101
  go_wp2
  go_ret
  exact ⟨by simp <;> omega, Below.refl _ _⟩
theorem or32_all : ((List.range 26).all fun d => decide (bits BinOp.or IntKind.u8 (65 + (d : Int)) 32 = 97 + (d : Int))) = true := by kernel_rfl
theorem or32 (c : Int) (h : 65 ≤ c ∧ c ≤ 90) : bits BinOp.or IntKind.u8 c 32 = c + 32 := by
  have h1 := List.all_eq_true.mp or32_all (c - 65).toNat (List.mem_range.mpr (by omega))
  have h2 := of_decide_eq_true h1
  rw [show (65 : Int) + ((c - 65).toNat : Int) = c by omega] at h2
  omega
theorem letter_ok (c : Int) (w : World) (h : 65 ≤ c ∧ c ≤ 90) : Calls Tryz.prog 103 #[.int .u8 c] w fun e w' => e = .returned (.bool true) ∧ Below w.heap.size w w' := by
  have ho := or32 c h
  have h1 : c + 32 ≥ 97 := by omega
  have h2 : c + 32 ≤ 122 := by omega
  clear h
  go_enter Tryz.func103, Tryz.ntmps103
  go_wp2
  go_ret
  exact ⟨by simp <;> omega, Below.refl _ _⟩
theorem an_ok (c : Int) (w : World) (h : (48 ≤ c ∧ c ≤ 57) ∨ (65 ≤ c ∧ c ≤ 90)) : Calls Tryz.prog 102 #[.int .u8 c] w fun e w' => e = .returned (.bool true) ∧ Below w.heap.size w w' := by
  rcases h with h | h
  · have h1 := fun W => digit_ok c W h
    clear h
    go_enter Tryz.func102, Tryz.ntmps102
    go_wp2_with (go_at_call 101; refine (h1 _).mono ?_; rintro e w1 ⟨rfl, hb1⟩; have HB1 := Lib.hid hb1; clear hb1)
    go_ret
    exact ⟨by first | rfl | simp, HB1.out⟩
  · have h1 := fun W => digit_no c W h
    have h2 := fun W => letter_ok c W h
    clear h
    go_enter Tryz.func102, Tryz.ntmps102
    go_wp2_with (first
      | (go_at_call 101; refine (h1 _).mono ?_; rintro e w1 ⟨rfl, hb1⟩; have HB1 := Lib.hid hb1; clear hb1)
      | (go_at_call 103; refine (h2 _).mono ?_; rintro e w2 ⟨rfl, hb2⟩; have HB2 := Lib.hid hb2; clear hb2))
    go_ret
    exact ⟨by first | rfl | simp, HB1.out.trans (HB2.out.mono HB1.out.size)⟩
theorem idx_k (k : Int) (fi : Nat) (nm : ByteArray) (h : (k = 1 ∧ fi = 101 ∧ nm = ⟨#[110]⟩) ∨ (k = 2 ∧ fi = 102 ∧ nm = ⟨#[97, 110]⟩)) (W : World) : (Instr.index 136 (.agg kindsA) (.int .i64 k)).run Tryz.prog W = .ok (.agg #[.string nm, .func (.func fi) #[] #[]]) W := by
  rcases h with ⟨rfl, rfl, rfl⟩ | ⟨rfl, rfl, rfl⟩
  · kernel_rfl
  · kernel_rfl
set_option maxHeartbeats 2000000 in
set_option maxRecDepth 100000 in
theorem pure_w (k v l : Int) (fi : Nat) (nm s : ByteArray) (hk : (k = 1 ∧ fi = 101 ∧ nm = ⟨#[110]⟩) ∨ (k = 2 ∧ fi = 102 ∧ nm = ⟨#[97, 110]⟩)) (hs : s.size ≤ 1000)
    (hch : ∀ (i : Nat) (h : i < s.size) (W : World), Calls Tryz.prog fi #[.int .u8 ((s[i]'h).toNat : Int)] W fun e w' => e = .returned (.bool true) ∧ Below W.heap.size W w') (w : World) :
    Calls Tryz.prog 57 #[.agg #[.int .i64 k, .int .i64 v, .int .i64 l], .string s] w fun e w' => e = .returned (.bool true) ∧ Below w.heap.size w w' := by
  have hix := idx_k k fi nm hk
  have HCH := Lib.hid hch
  have hb := blk_new w (.cells #[.int .i64 k, .int .i64 v, .int .i64 l] 104 (0, 0))
  have HB := Lib.hid hb
  have hkw := kinds_w
  have hfd : ∀ W, (Instr.field 135 (.agg #[.string nm, .func (.func fi) #[] #[]]) 1).run Tryz.prog W = .ok (.func (.func fi) #[] #[]) W := fun _ => by kernel_rfl
  have eg : ∀ args w, (callFunc fi args).run Tryz.prog w = .ok (.enter fi args) w := by
    rcases hk with ⟨-, rfl, -⟩ | ⟨-, rfl, -⟩
    · exact enters_of Tryz.func101 (by kernel_rfl) rfl
    · exact enters_of Tryz.func102 (by kernel_rfl) rfl
  clear hch hb hk
  go_enter Tryz.func57, Tryz.ntmps57
  go_upto_region 1 with fail
  have hW0 := below_alloc (Below.refl w.heap.size w) (.cells #[.int .i64 k, .int .i64 v, .int .i64 l] 104 (0, 0))
  have hc0 : (w.alloc (.cells #[.int .i64 k, .int .i64 v, .int .i64 l] 104 (0, 0))).cell? ⟨w.heap.size, 0, none⟩ = some (.int .i64 k) := (blk_cell HB.out 0).trans rfl
  have hB0 := HB.out
  generalize w.alloc (.cells #[.int .i64 k, .int .i64 v, .int .i64 l] 104 (0, 0)) = W0 at hW0 hc0 hB0 ⊢
  have HW0 := Lib.hid hW0
  have HB0 := Lib.hid hB0
  clear hW0 hB0
  go_cut [5] from 7 to 11 (fun v5 wc => v5 = .func (.func fi) #[] #[] ∧ Hid (Below w.heap.size w wc))
  case first =>
    go_region_held3 (fun w' => w'.cell? ⟨w.heap.size, 0, none⟩ = some (.int .i64 k)) (first | exact hc0 | exact hc1) (first | (go_at_call 85; refine (hkw _).mono ?_; rintro e w1 ⟨rfl, hb1⟩; have hb2 := (below_drew (Below.refl W0.heap.size W0)).trans hb1; have HB2 := Lib.hid hb2; have hc1 : w1.cell? ⟨w.heap.size, 0, none⟩ = some (.int .i64 k) := (blk_cell (blk_below HB0.out hb2) 0).trans rfl; clear hb1 hb2))
    all_goals (
      go_wp2
      go_meet
      exact ⟨rfl, Lib.hid (HW0.out.trans (HB2.out.mono HW0.out.size))⟩)
  case rest =>
    obtain ⟨rfl, HBc⟩ := hcut
    clear hc0 hix hkw
    go_upto_region 3 with fail
    go_loopg [6, 14] s.size (fun gg _ s14 wr => ∃ i : Nat, i ≤ s.size ∧ s.size - i ≤ gg ∧ s14 = .int .i64 i ∧ Hid (Below w.heap.size w wr))
    case atStart => exact ⟨0, Nat.zero_le _, by omega, rfl, HBc⟩
    case round =>
      obtain ⟨i, his, hg, rfl, HB1⟩ := hrel
      by_cases hlt : i < s.size
      · have hltz : (i : Int) < (s.size : Int) := by omega
        have hcall := HCH.out i hlt wr
        go_wp2
        refine hcall.mono ?_
        rintro e w1 ⟨rfl, hb1⟩
        have HB2 := Lib.hid hb1
        clear hb1 hcall
        go_wp2
        go_roundg (s.size - (i + 1))
        case measure => omega
        case rel => exact ⟨i + 1, by omega, by omega, by simp, Lib.hid (HB1.out.trans (HB2.out.mono HB1.out.size))⟩
      · obtain rfl : i = s.size := by omega
        have hge : ¬ (s.size : Int) < (s.size : Int) := by omega
        go_wp2
        go_ret
        exact ⟨rfl, HB1.out⟩
/-- A text of digits, of digits and great letters. -/
def digs (s : ByteArray) : Prop := ∀ (i : Nat) (h : i < s.size), 48 ≤ (s[i]'h).toNat ∧ (s[i]'h).toNat ≤ 57
def ans (s : ByteArray) : Prop := ∀ (i : Nat) (h : i < s.size), (48 ≤ (s[i]'h).toNat ∧ (s[i]'h).toNat ≤ 57) ∨ (65 ≤ (s[i]'h).toNat ∧ (s[i]'h).toNat ≤ 90)
def okK (k : Int) (s : ByteArray) : Prop := (k = 1 ∧ digs s) ∨ (k = 2 ∧ ans s)
theorem pure_ok (k v l : Int) (s : ByteArray) (h : okK k s) (hs : s.size ≤ 1000) (w : World) :
    Calls Tryz.prog 57 #[.agg #[.int .i64 k, .int .i64 v, .int .i64 l], .string s] w fun e w' => e = .returned (.bool true) ∧ Below w.heap.size w w' := by
  rcases h with ⟨rfl, h⟩ | ⟨rfl, h⟩
  · exact pure_w 1 v l 101 _ s (.inl ⟨rfl, rfl, rfl⟩) hs (fun i hi W => digit_ok _ W (by have := h i hi; omega)) w
  · exact pure_w 2 v l 102 _ s (.inr ⟨rfl, rfl, rfl⟩) hs (fun i hi W => an_ok _ W (by have := h i hi; omega)) w
/-! ### spec.read -/
def nmK (i : Nat) : ByteArray := match i with | 1 => ⟨#[110]⟩ | 2 => ⟨#[97, 110]⟩ | 3 => ⟨#[97, 110, 115]⟩ | 4 => ⟨#[98]⟩ | _ => ⟨#[]⟩
def fnK (i : Nat) : Value := match i with | 1 => .func (.func 101) #[] #[] | 2 => .func (.func 102) #[] #[] | 3 => .func (.func 104) #[] #[] | 4 => .func (.func 105) #[] #[] | _ => .nilFunc
theorem idx_nm (i : Nat) (h : i < 5) (W : World) : (Instr.index 136 (.agg kindsA) (.int .i64 (i : Int))).run Tryz.prog W = .ok (.agg #[.string (nmK i), fnK i]) W := by
  have h2 : i = 0 ∨ i = 1 ∨ i = 2 ∨ i = 3 ∨ i = 4 := by omega
  rcases h2 with rfl | rfl | rfl | rfl | rfl
  · show (Instr.index 136 (.agg kindsA) (.int .i64 0)).run Tryz.prog W = .ok (.agg #[.string ⟨#[]⟩, .nilFunc]) W; kernel_rfl
  · show (Instr.index 136 (.agg kindsA) (.int .i64 1)).run Tryz.prog W = .ok (.agg #[.string ⟨#[110]⟩, .func (.func 101) #[] #[]]) W; kernel_rfl
  · show (Instr.index 136 (.agg kindsA) (.int .i64 2)).run Tryz.prog W = .ok (.agg #[.string ⟨#[97, 110]⟩, .func (.func 102) #[] #[]]) W; kernel_rfl
  · show (Instr.index 136 (.agg kindsA) (.int .i64 3)).run Tryz.prog W = .ok (.agg #[.string ⟨#[97, 110, 115]⟩, .func (.func 104) #[] #[]]) W; kernel_rfl
  · show (Instr.index 136 (.agg kindsA) (.int .i64 4)).run Tryz.prog W = .ok (.agg #[.string ⟨#[98]⟩, .func (.func 105) #[] #[]]) W; kernel_rfl
theorem fn_one (i : Nat) : (fnK i).oneCell' = true := by
  unfold fnK; split <;> rfl
def kOf (nm : ByteArray) : Nat → Nat
  | 0 => 0
  | i + 1 => if nmK i = nm then i else kOf nm i
theorem tl_eq (a b : ByteArray) : (a.toList == b.toList) = decide (a = b) := by
  rw [Bool.eq_iff_iff, beq_iff_eq, decide_eq_true_iff, ByteArray.toList_eq, ByteArray.toList_eq]
  exact ⟨fun h => ByteArray.ext (Array.ext' h), fun h => by rw [h]⟩
def setS : ByteArray := ⟨#[46, 48, 49, 50, 51, 52, 53, 54, 55, 56, 57]⟩
set_option maxHeartbeats 4000000 in
set_option maxRecDepth 100000 in
theorem read_w (s nm : ByteArray) (dots n : Nat) (hs : s.size ≤ 18) (hnm : (⟨(Lib.trimRightS s.data.toList setS.data.toList).toArray⟩ : ByteArray) = nm) (hdots : Lib.countByte s.data.toList 46 = dots) (hle : nm.size + dots ≤ s.size)
    (hat : Lib.atoi (s.extract (nm.size + dots) s.size).data.toList = some (n : Int)) (w : World) :
    Calls Tryz.prog 100 #[.string s] w fun e w' => e = .returned (.agg #[.int .i64 (kOf nm 5 : Nat), .int .i64 dots, .int .i64 n]) ∧ Below w.heap.size w w' := by
  have h117 := fun W => Tryz.strings_TrimRight_laid s setS W (by omega) (by decide) (ascii_of_all (by decide))
  rw [hnm] at h117
  have h118 := fun W => Tryz.strings_Count_one s 46 W
  rw [hdots] at h118
  have hsz : (s.extract (nm.size + dots) s.size).size ≤ 18 := by rw [ByteArray.size_extract]; omega
  have h58 := fun W => Tryz.strconv_Atoi (s.extract (nm.size + dots) s.size) n hsz hat W
  clear hnm hdots hat hsz
  have hub : nm.size + dots < 18446744073709551616 := by omega
  have h85 := kinds_w
  have hi4 : (Tryz.prog.info? 104).map (·.size) = some 3 := by kernel_rfl
  have HI4 := Lib.hid hi4
  have hi5 : (Tryz.prog.info? 135).map (·.size) = some 2 := by kernel_rfl
  have HI5 := Lib.hid hi5
  clear hi4 hi5
  have hu4 := Tryz.underlying104
  have hu5 := Tryz.underlying135
  have hbA := blk_new w (.cells #[.int .i64 0, .int .i64 0, .int .i64 0] 104 (0, 0))
  have hBe := below_alloc (Below.refl w.heap.size w) (.cells #[.int .i64 0, .int .i64 0, .int .i64 0] 104 (0, 0))
  go_enter Tryz.func100, Tryz.ntmps100
  go_upto_region 1 with fail
  generalize w.alloc (.cells #[.int .i64 0, .int .i64 0, .int .i64 0] 104 (0, 0)) = W0 at hbA hBe ⊢
  go_upto_region 3 with (first
    | (go_at_call 117; refine (h117 _).mono ?_; rintro e w1 ⟨rfl, hb1⟩; have hbA1 := blk_below hbA hb1; have hBe1 := hBe.trans (hb1.mono hBe.size); clear hb1)
    | (go_at_call 118; refine (h118 _).mono ?_; rintro e w2 ⟨rfl, rfl⟩))
  clear hbA hBe
  go_upto_region 5 with (first
    | (go_at_call 58; refine (h58 _).mono ?_; rintro e w3 ⟨rfl, t5, rfl⟩)
    )
  have hb2 := Lib.bytesWorld_below w2 5 t5
  have hbA2 := blk_below hbA1 hb2
  have hBe2 := hBe1.trans (hb2.mono hBe1.size)
  clear hb2 hbA1 hBe1 h58 h117 h118
  generalize Lib.bytesWorld w2 5 t5 = W2 at hbA2 hBe2 ⊢
  have hAB : w.heap.size < W2.heap.size := blk_lt hbA2
  have hbA3 := blk_alloc hbA2 (.cells #[.int .i64 0, .int .i64 dots, .int .i64 n] 104 (0, 0))
  have hbB3 := blk_new W2 (.cells #[.int .i64 0, .int .i64 dots, .int .i64 n] 104 (0, 0))
  have hBe3 := below_alloc hBe2 (.cells #[.int .i64 0, .int .i64 dots, .int .i64 n] 104 (0, 0))
  clear hbA2 hBe2
  generalize hB1 : W2.heap.size = B1 at hbB3 hAB ⊢
  generalize W2.alloc (.cells #[.int .i64 0, .int .i64 dots, .int .i64 n] 104 (0, 0)) = W3 at hbA3 hbB3 hBe3 ⊢
  clear hB1
  clear W2
  go_upto_region 6 with (go_at_call 85; refine (h85 _).mono ?_; rintro e w4 ⟨rfl, hb4⟩)
  have hbA4 := blk_below hbA3 hb4
  have hbB4 := blk_below hbB3 hb4
  have hBe4 := hBe3.trans (hb4.mono hBe3.size)
  clear hbA3 hbB3 hBe3 hb4 h85
  have HA4 := Lib.hid hbA4
  have HB4 := Lib.hid hbB4
  have HE4 := Lib.hid hBe4
  clear hbA4 hbB4 hBe4
  go_loopg [28] 5 (fun gg s28 wr => ∃ i : Nat, i ≤ 5 ∧ 5 - i ≤ gg ∧ s28 = .int .i64 i ∧ Hid (Below w.heap.size w wr) ∧ Hid (wr.heap[w.heap.size]? = some (.cells #[.int .i64 0, .int .i64 0, .int .i64 0] 104 (0, 0))) ∧ Hid (wr.heap[B1]? = some (.cells #[.int .i64 (kOf nm i : Nat), .int .i64 dots, .int .i64 n] 104 (0, 0))))
  case atStart => exact ⟨0, Nat.zero_le _, by omega, rfl, HE4, HA4, HB4⟩
  case round =>
    obtain ⟨i, hi5, hg, rfl, HE, HA, HB⟩ := hrel
    have hltB := blk_lt HB.out
    by_cases hlt : i < 5
    · have hltz : (i : Int) < 5 := by omega
      have hix := idx_nm i hlt
      have h1c := fn_one i
      have hneB : wr.heap.size ≠ B1 := by omega
      have hbN := blk_new wr (.cells #[.string ⟨#[]⟩, .nilFunc] 135 (0, 0))
      have hsa : (wr.alloc (.cells #[.string ⟨#[]⟩, .nilFunc] 135 (0, 0))).heap.size = wr.heap.size + 1 := by simp
      have hEa := below_alloc HE.out (.cells #[.string ⟨#[]⟩, .nilFunc] 135 (0, 0))
      have hAa := blk_alloc HA.out (.cells #[.string ⟨#[]⟩, .nilFunc] 135 (0, 0))
      have hBa := blk_alloc HB.out (.cells #[.string ⟨#[]⟩, .nilFunc] 135 (0, 0))
      go_upto_region 8 with (refine Pu.x_store rfl (t := 135) (p := 9) (v := .tmp 31) rfl rfl (g := wr.heap.size) rfl rfl hbN rfl HI5.out (by simp only [List.all_cons, List.all_nil, h1c]; rfl) ?_; rintro wS hS hfS hsS ho1 ho2 ho3)
      have hES := Pu.below_stored hEa (by omega) hfS hsS ho1 ho2 ho3
      have hAS := (hfS _ (by omega)).trans hAa
      have hBS := (hfS _ (by omega)).trans hBa
      have hc1 : wS.cell? ⟨wr.heap.size, 0, none⟩ = some (.string (nmK i)) := (blk_cell hS 0).trans rfl
      have hc2 : wS.cell? ⟨B1, 0, none⟩ = some (.int .i64 (kOf nm i : Nat)) := (blk_cell hBS 0).trans rfl
      have hf2 : wS.frozen? ⟨B1, 0, none⟩ = false := blk_frozen hBS 0
      have HAS := Lib.hid hAS
      have HBS := Lib.hid hBS
      have HES := Lib.hid hES
      clear hS hfS hsS ho1 ho2 ho3 hES hAS hBS hbN hEa hAa hBa hsa HA HB HE
      by_cases hq : nmK i = nm
      · have hqb : ((nmK i).toList == nm.toList) = true := (tl_eq _ _).trans (decide_eq_true hq)
        go_wp2
        go_roundg (5 - (i + 1))
        case measure => omega
        case rel =>
          refine ⟨i + 1, by omega, by omega, by simp, Lib.hid (below_set HES.out (by omega)), Lib.hid (blk_far HAS.out (by show w.heap.size ≠ B1; omega) _), Lib.hid ?_⟩
          exact blk_put HBS.out 0 _ (by simp [kOf, hq])
      · have hqb : ((nmK i).toList == nm.toList) = false := (tl_eq _ _).trans (decide_eq_false hq)
        go_wp2
        go_roundg (5 - (i + 1))
        case measure => omega
        case rel => exact ⟨i + 1, by omega, by omega, by simp, HES, HAS, by simpa [kOf, hq] using HBS⟩
    · obtain rfl : i = 5 := by omega
      have hAA := HA.out
      go_wp2_with (first | (refine Pu.x_load rfl (t := 104) (p := 7) rfl (g := B1) rfl HB.out hu4 rfl HI4.out ?_) | (refine Pu.x_store rfl (t := 104) (p := 2) (v := .tmp 39) rfl rfl (g := w.heap.size) rfl rfl hAA rfl HI4.out rfl ?_; rintro wS hS hfS hsS ho1 ho2 ho3))
      refine bodyPost_ret (results_cell_row rfl _ _ w.heap.size 104 #[.int .i64 (kOf nm 5 : Nat), .int .i64 dots, .int .i64 n] (0, 0) _ rfl hS Tryz.underlying104 rfl HI4.out) rfl ?_
      exact ⟨rfl, Pu.below_stored HE.out (Nat.le_refl _) hfS hsS ho1 ho2 ho3⟩
/-! ### the table's words -/
noncomputable def opStr (o : Oper) : Option ByteArray :=
  match o.op with
  | .call c => match (c.args[0]? : Option Operand) with
    | some (Operand.const (Value.string s)) => some s
    | _ => none
  | _ => none
noncomputable def codeStr : Code → Option ByteArray
  | .region _ ops _ => ops.toList.findSome? opStr
  | .seq a b => match codeStr a with
    | some s => some s
    | none => codeStr b
  | .cond _ a b => match codeStr a with
    | some s => some s
    | none => codeStr b
  | .block _ b => codeStr b
  | .loop b => codeStr b
  | _ => none
noncomputable def rowsT : ByteArray := match Tryz.f84.body with
  | some b => (codeStr b).getD ⟨#[]⟩
  | none => ⟨#[]⟩
noncomputable def words : List (List UInt8) := Lib.fields rowsT.data.toList
theorem words_len : words.length = 108 := by kernel_rfl
theorem rows_ascii : rowsT.data.toList.all (fun b => decide (b.toNat < 128)) = true := by kernel_rfl
theorem rows_size : rowsT.size = 599 := by kernel_rfl
noncomputable def wd (i : Nat) : List UInt8 := words.getD i []
noncomputable def lo (m : Nat) : List UInt8 := (Lib.cut (wd (2 * m)) [45]).1
noncomputable def hiW (m : Nat) : List UInt8 := (Lib.cut (wd (2 * m)) [45]).2.1
noncomputable def at_ (l : List UInt8) : Nat := ((Lib.atoi l).getD 0).toNat
noncomputable def nmW (m : Nat) : ByteArray := ⟨(Lib.trimRightS (wd (2 * m + 1)) setS.data.toList).toArray⟩
noncomputable def dtW (m : Nat) : Nat := (Lib.countByte (wd (2 * m + 1)) 46)
noncomputable def dgW (m : Nat) : List UInt8 := (wd (2 * m + 1)).drop ((nmW m).size + dtW m)
noncomputable def chkW (m : Nat) : Bool :=
  decide ((lo m).length ≤ 18) && decide ((hiW m).length ≤ 18) && (Lib.atoi (lo m) == some (at_ (lo m) : Int)) && (Lib.atoi (hiW m) == some (at_ (hiW m) : Int)) && decide (at_ (hiW m) ≤ 128) && decide (at_ (lo m) ≤ at_ (hiW m) + 1)
    && decide ((wd (2 * m)).length ≤ 1000) && decide ((wd (2 * m + 1)).length ≤ 18) && decide ((nmW m).size + dtW m ≤ (wd (2 * m + 1)).length) && (Lib.atoi (dgW m) == some (at_ (dgW m) : Int))
theorem chk_all : (List.range 54).all chkW = true := by kernel_rfl
theorem chk_at (m : Nat) (hm : m < 54) : (lo m).length ≤ 18 ∧ (hiW m).length ≤ 18 ∧ Lib.atoi (lo m) = some (at_ (lo m) : Int) ∧ Lib.atoi (hiW m) = some (at_ (hiW m) : Int) ∧ at_ (hiW m) ≤ 128 ∧ at_ (lo m) ≤ at_ (hiW m) + 1
    ∧ (wd (2 * m)).length ≤ 1000 ∧ (wd (2 * m + 1)).length ≤ 18 ∧ (nmW m).size + dtW m ≤ (wd (2 * m + 1)).length ∧ Lib.atoi (dgW m) = some (at_ (dgW m) : Int) := by
  have h := List.all_eq_true.mp chk_all m (List.mem_range.mpr hm)
  unfold chkW at h
  simp only [Bool.and_eq_true, decide_eq_true_eq, beq_iff_eq] at h
  obtain ⟨⟨⟨⟨⟨⟨⟨⟨⟨h1, h2⟩, h3⟩, h4⟩, h5⟩, h6⟩, h7⟩, h8⟩, h9⟩, h10⟩ := h
  exact ⟨h1, h2, h3, h4, h5, h6, h7, h8, h9, h10⟩
/-- what the table has of field n behind m pairs -/
noncomputable def spW (m : Nat) : Nat × Nat × Nat := (kOf (nmW m) 5, dtW m, at_ (dgW m))
noncomputable def fM : Nat → Nat → Nat × Nat × Nat
  | 0, _ => (0, 0, 0)
  | m + 1, n => if at_ (lo m) ≤ n ∧ n ≤ at_ (hiW m) then spW m else fM m n
/-- a block of 129 triples -/
def Tb (W : World) (g : Nat) (f : Nat → Nat × Nat × Nat) : Prop := ∃ cur : Array Value, W.heap[g]? = some (.cells cur 131 (0, 0)) ∧ cur.size = 387 ∧ ∀ n, n < 129 →
  cur[n * 3]? = some (.int .i64 ((f n).1 : Nat)) ∧ cur[n * 3 + 1]? = some (.int .i64 ((f n).2.1 : Nat)) ∧ cur[n * 3 + 2]? = some (.int .i64 ((f n).2.2 : Nat))
theorem Tb.put {W : World} {g : Nat} {f : Nat → Nat × Nat × Nat} (h : Tb W g f) (n : Nat) (hn : n < 129) (a b c : Nat) :
    Tb (((W.setCell ⟨g, n * 3, none⟩ (.int .i64 a)).setCell ⟨g, n * 3 + 1, none⟩ (.int .i64 b)).setCell ⟨g, n * 3 + 2, none⟩ (.int .i64 c)) g (fun k => if k = n then (a, b, c) else f k) := by
  obtain ⟨cur, hb, hs, hc⟩ := h
  refine ⟨_, blk_set (blk_set (blk_set hb _ _) _ _) _ _, by simp [hs], ?_⟩
  intro k hk
  obtain ⟨h1, h2, h3⟩ := hc k hk
  simp only [Array.getElem?_setIfInBounds, Array.size_setIfInBounds, hs]
  by_cases e : k = n
  · subst e
    have e1 : ¬ k * 3 + 2 = k * 3 := by omega
    have e2 : ¬ k * 3 + 1 = k * 3 := by omega
    have e3 : ¬ k * 3 + 2 = k * 3 + 1 := by omega
    have b1 : k * 3 < 387 := by omega
    have b2 : k * 3 + 1 < 387 := by omega
    have b3 : k * 3 + 2 < 387 := by omega
    simp [e1, e2, e3, b1, b2, b3]
  · have e1 : ¬ n * 3 = k * 3 := by omega
    have e2 : ¬ n * 3 = k * 3 + 1 := by omega
    have e3 : ¬ n * 3 = k * 3 + 2 := by omega
    have e4 : ¬ n * 3 + 1 = k * 3 := by omega
    have e5 : ¬ n * 3 + 1 = k * 3 + 1 := by omega
    have e6 : ¬ n * 3 + 1 = k * 3 + 2 := by omega
    have e7 : ¬ n * 3 + 2 = k * 3 := by omega
    have e8 : ¬ n * 3 + 2 = k * 3 + 1 := by omega
    have e9 : ¬ n * 3 + 2 = k * 3 + 2 := by omega
    simp only [e1, e2, e3, e4, e5, e6, e7, e8, e9, if_false, h1, h2, h3, e, and_self]
theorem Tb.below {W W' : World} {g : Nat} {f : Nat → Nat × Nat × Nat} (h : Tb W g f) (hb : Below W.heap.size W W') : Tb W' g f := by
  obtain ⟨cur, h1, h2, h3⟩ := h
  exact ⟨cur, blk_below h1 hb, h2, h3⟩
theorem Tb.lt {W : World} {g : Nat} {f : Nat → Nat × Nat × Nat} (h : Tb W g f) : g < W.heap.size := by
  obtain ⟨cur, h1, -⟩ := h; exact blk_lt h1
theorem Tb.cells {W : World} {g : Nat} {f : Nat → Nat × Nat × Nat} (h : Tb W g f) (n : Nat) (hn : n < 129) :
    W.cell? ⟨g, n * 3, none⟩ = some (.int .i64 ((f n).1 : Nat)) ∧ W.cell? ⟨g, n * 3 + 1, none⟩ = some (.int .i64 ((f n).2.1 : Nat)) ∧ W.cell? ⟨g, n * 3 + 2, none⟩ = some (.int .i64 ((f n).2.2 : Nat)) ∧ ∀ j, W.frozen? ⟨g, j, none⟩ = false := by
  obtain ⟨cur, h1, h2, h3⟩ := h
  obtain ⟨c1, c2, c3⟩ := h3 n hn
  exact ⟨(blk_cell h1 _).trans c1, (blk_cell h1 _).trans c2, (blk_cell h1 _).trans c3, fun j => blk_frozen h1 j⟩
theorem Tb.ext {W : World} {g : Nat} {f f' : Nat → Nat × Nat × Nat} (h : Tb W g f) (he : ∀ n, n < 129 → f n = f' n) : Tb W g f' := by
  obtain ⟨cur, h1, h2, h3⟩ := h
  exact ⟨cur, h1, h2, fun n hn => by rw [← he n hn]; exact h3 n hn⟩
/-- what a walk needs of the library's tables -/
structure Env (w : World) : Prop where
  tab : Fu.Tab w
  sp : Lib.TabIs Tryz.prog w "strings.asciiSpace" .u8 Lib.asciiSpaceTab
  mx : ∃ m, w.cell? ⟨1, 0, none⟩ = some (.int .i64 m)
theorem sp_below {w w' : World} (h : Lib.TabIs Tryz.prog w "strings.asciiSpace" .u8 Lib.asciiSpaceTab) (hb : Below w.heap.size w w') : Lib.TabIs Tryz.prog w' "strings.asciiSpace" .u8 Lib.asciiSpaceTab := by
  unfold Lib.TabIs World.var? at *
  cases hg : Tryz.prog.globalNamed "strings.asciiSpace" with
  | none => simp [hg] at h
  | some g =>
    simp only [hg, Option.bind_some] at h ⊢
    have hlt : g < w.heap.size := by
      rcases Nat.lt_or_ge g w.heap.size with h' | h'
      · exact h'
      · rw [Array.getElem?_eq_none h'] at h; simp at h
    rw [hb.block g hlt]
    exact h
theorem Env.below {w w' : World} (h : Env w) (hb : Below w.heap.size w w') : Env w' :=
  ⟨Fu.tab_below h.tab hb, sp_below h.sp hb, by obtain ⟨m, hm⟩ := h.mx; exact ⟨m, pw_cell_below hb hm⟩⟩
/-! ### spec.table -/
theorem wd_get (i : Nat) (hi : i < 108) : (words.map fun l => Value.string ⟨l.toArray⟩).toArray[i]? = some (.string ⟨(wd i).toArray⟩) := by
  rw [List.getElem?_toArray, List.getElem?_map]
  have h : i < words.length := by rw [words_len]; exact hi
  rw [List.getElem?_eq_getElem h]
  simp [wd, List.getD_eq_getElem?_getD, List.getElem?_eq_getElem h]
theorem read_m (m : Nat) (hm : m < 54) (w : World) :
    Calls Tryz.prog 100 #[.string ⟨(wd (2 * m + 1)).toArray⟩] w fun e w' => e = .returned (.agg #[.int .i64 ((spW m).1 : Nat), .int .i64 ((spW m).2.1 : Nat), .int .i64 ((spW m).2.2 : Nat)]) ∧ Below w.heap.size w w' := by
  obtain ⟨-, -, -, -, -, -, -, h8, h9, h10⟩ := chk_at m hm
  refine read_w ⟨(wd (2 * m + 1)).toArray⟩ (nmW m) (dtW m) (at_ (dgW m)) h8 rfl rfl h9 ?_ w
  have e : ((⟨(wd (2 * m + 1)).toArray⟩ : ByteArray).extract ((nmW m).size + dtW m) (⟨(wd (2 * m + 1)).toArray⟩ : ByteArray).size).data.toList = dgW m := by
    rw [Lib.extract_data]
    show List.take ((wd (2 * m + 1)).length - _) (List.drop _ _) = dgW m
    unfold dgW
    rw [List.take_of_length_le (by simp)]
  rw [e]; exact h10
theorem cut_m (m : Nat) (hm : m < 54) (w : World) (he : Env w) :
    Calls Tryz.prog 99 #[.string ⟨(wd (2 * m)).toArray⟩, .string ⟨#[45]⟩] w fun e w' => e = .returned (.tuple #[.string ⟨(lo m).toArray⟩, .string ⟨(hiW m).toArray⟩, .bool (Lib.cut (wd (2 * m)) [45]).2.2]) ∧ Below w.heap.size w w' := by
  obtain ⟨-, -, -, -, -, -, h7, -⟩ := chk_at m hm
  obtain ⟨mx, hmx⟩ := he.mx
  refine (Tryz.strings_Cut ⟨(wd (2 * m)).toArray⟩ ⟨#[45]⟩ mx w (by show (wd (2 * m)).length < _; omega) hmx).mono ?_
  rintro e w1 ⟨rfl, n, rfl⟩
  exact ⟨rfl, rfl, rfl, rfl, Nat.le_refl _, fun _ _ => rfl⟩
theorem atoi_m (l : List UInt8) (n : Nat) (hl : l.length ≤ 18) (h : Lib.atoi l = some (n : Int)) (w : World) :
    Calls Tryz.prog 58 #[.string ⟨l.toArray⟩] w fun e w' => e = .returned (.tuple #[.int .i64 n, .nilIface]) ∧ Below w.heap.size w w' := by
  refine (Tryz.strconv_Atoi ⟨l.toArray⟩ n hl (by exact h) w).mono ?_
  rintro e w1 ⟨rfl, t, rfl⟩
  exact ⟨rfl, Lib.bytesWorld_below _ _ _⟩
theorem zero131 : Tryz.zeroCells131 = Array.replicate 387 (.int .i64 0) := by kernel_rfl
theorem Tb.zero {W : World} {g : Nat} (h : W.heap[g]? = some (.cells Tryz.zeroCells131 131 (0, 0))) : Tb W g (fM 0) := by
  refine ⟨_, h, by rw [zero131]; simp, fun n hn => ?_⟩
  have b1 : n * 3 < 387 := by omega
  have b2 : n * 3 + 1 < 387 := by omega
  have b3 : n * 3 + 2 < 387 := by omega
  rw [zero131]
  simp [fM, Array.getElem?_replicate, b1, b2, b3]
theorem tb_one {f : Nat → Nat × Nat × Nat} (cur : Array Value) (hs : cur.size = 387) (hc : ∀ n, n < 129 → cur[n * 3]? = some (.int .i64 ((f n).1 : Nat)) ∧ cur[n * 3 + 1]? = some (.int .i64 ((f n).2.1 : Nat)) ∧ cur[n * 3 + 2]? = some (.int .i64 ((f n).2.2 : Nat))) :
    cur.toList.all (fun q => q.oneCell') = true := by
  rw [List.all_eq_true]
  intro v hv
  obtain ⟨i, hi, rfl⟩ := List.mem_iff_getElem.mp hv
  rw [Array.length_toList, hs] at hi
  obtain ⟨h1, h2, h3⟩ := hc (i / 3) (by omega)
  have e : i = i / 3 * 3 ∨ i = i / 3 * 3 + 1 ∨ i = i / 3 * 3 + 2 := by omega
  have hg : cur[i]? = some (cur.toList[i]'(by rw [Array.length_toList, hs]; exact hi)) := by
    rw [Array.getElem_toList, Array.getElem?_eq_getElem]
  rcases e with e | e | e
  · rw [← e, hg] at h1; rw [Option.some.inj h1]; rfl
  · rw [← e, hg] at h2; rw [Option.some.inj h2]; rfl
  · rw [← e, hg] at h3; rw [Option.some.inj h3]; rfl
theorem fields_w (s : ByteArray) (hs : s = rowsT) (W : World) (he : Env W) :
    Calls Tryz.prog 98 #[.string s] W fun e w' => e = .returned (.slice (some ⟨W.heap.size, 0, none⟩) 108 108) ∧ w' = W.alloc (.cells (words.map fun l => Value.string ⟨l.toArray⟩).toArray 9) := by
  subst hs
  have h := Tryz.strings_Fields_laid rowsT W (by rw [rows_size]; decide) (ascii_of_all rows_ascii) he.sp
  have e : (Lib.fields rowsT.data.toList).length = 108 := words_len
  rw [e] at h
  exact h
set_option maxHeartbeats 4000000 in
set_option maxRecDepth 100000 in
theorem table_w (w : World) (he : Env w) :
    Calls Tryz.prog 84 #[] w fun e w' => (∃ cur : Array Value, e = .returned (.agg cur) ∧ cur.size = 387 ∧ ∀ n, n < 129 →
      cur[n * 3]? = some (.int .i64 ((fM 54 n).1 : Nat)) ∧ cur[n * 3 + 1]? = some (.int .i64 ((fM 54 n).2.1 : Nat)) ∧ cur[n * 3 + 2]? = some (.int .i64 ((fM 54 n).2.2 : Nat))) ∧ Below w.heap.size w w' := by
  go_enter Tryz.func84, Tryz.ntmps84
  go_upto_region 2 with fail
  have hbA := blk_alloc (blk_new w (.cells Tryz.zeroCells131 131 (0, 0))) (.cells Tryz.zeroCells131 131 (0, 0))
  have hbT := Tb.zero (blk_new (w.alloc (.cells Tryz.zeroCells131 131 (0, 0))) (.cells Tryz.zeroCells131 131 (0, 0)))
  have hBe := below_alloc (below_alloc (Below.refl w.heap.size w) (.cells Tryz.zeroCells131 131 (0, 0))) (.cells Tryz.zeroCells131 131 (0, 0))
  rw [show (w.alloc (.cells Tryz.zeroCells131 131 (0, 0))).heap.size = w.heap.size + 1 by simp] at hbT
  generalize (w.alloc (.cells Tryz.zeroCells131 131 (0, 0))).alloc (.cells Tryz.zeroCells131 131 (0, 0)) = WA at hbA hbT hBe ⊢
  have heA := he.below hBe
  have hfw := fun s hs => fields_w s hs WA heA
  go_upto_region 4 with (go_at_call 98; refine (hfw _ (by kernel_rfl)).mono ?_; rintro e w1 ⟨rfl, rfl⟩)
  have hbF := blk_new WA (.cells (words.map fun l => Value.string ⟨l.toArray⟩).toArray 9 (0, 0))
  have hb1 := Below.heap_alloc
  have hBe1 := below_alloc hBe (.cells (words.map fun l => Value.string ⟨l.toArray⟩).toArray 9 (0, 0))
  have hBx := below_alloc (Below.refl WA.heap.size WA) (.cells (words.map fun l => Value.string ⟨l.toArray⟩).toArray 9 (0, 0))
  have hbA1 := blk_below hbA hBx
  have hbT1 := hbT.below hBx
  have heF := heA.below hBx
  have hTF : w.heap.size + 1 < WA.heap.size := hbT.lt
  clear hb1 hBx hbA hbT heA hBe hfw
  generalize hF : WA.heap.size = F at hbF hTF ⊢
  generalize WA.alloc (.cells (words.map fun l => Value.string ⟨l.toArray⟩).toArray 9 (0, 0)) = WB at hbF hBe1 hbA1 hbT1 heF ⊢
  clear hF
  clear WA
  have HT := Lib.hid hbT1
  have HA := Lib.hid hbA1
  have HF := Lib.hid hbF
  have HE := Lib.hid hBe1
  have HV := Lib.hid he
  clear hbT1 hbA1 hbF hBe1 heF he
  go_loopg [3] 54 (fun gg s3 wr => ∃ m : Nat, m ≤ 54 ∧ 54 - m ≤ gg ∧ s3 = .int .i64 (2 * m : Nat) ∧ Hid (Below w.heap.size w wr) ∧ Hid (wr.heap[w.heap.size]? = some (.cells Tryz.zeroCells131 131 (0, 0))) ∧ Hid (wr.heap[F]? = some (.cells (words.map fun l => Value.string ⟨l.toArray⟩).toArray 9 (0, 0))) ∧ Hid (Tb wr (w.heap.size + 1) (fM m)))
  case atStart => exact ⟨0, Nat.zero_le _, by omega, rfl, HE, HA, HF, HT⟩
  case round =>
    clear HT HA HF HE
    obtain ⟨m, hm54, hg, rfl, HE, HA, HF, HT⟩ := hrel
    by_cases hlt : m < 54
    · have hltz : ((2 * m : Nat) : Int) + 1 < 108 := by omega
      have hi0 : ((2 * m : Nat) : Int) < 108 := by omega
      have hcw : wr.cell? ⟨F, 2 * m, none⟩ = some (.string ⟨(wd (2 * m)).toArray⟩) := (blk_cell HF.out _).trans (wd_get _ (by omega))
      obtain ⟨hl1, hl2, ha1, ha2, hh5, hh6, -⟩ := chk_at m hlt
      have hcut := cut_m m hlt wr (HV.out.below HE.out)
      have hat1 := fun W => atoi_m (lo m) _ hl1 ha1 W
      have hat2 := fun W => atoi_m (hiW m) _ hl2 ha2 W
      clear hl1 hl2 ha1 ha2
      go_upto_region 7 with (go_at_call 99; refine hcut.mono ?_; rintro e w2 ⟨rfl, hb2⟩)
      have hE2 := HE.out.trans (hb2.mono HE.out.size)
      have hA2 := blk_below HA.out hb2
      have hF2 := blk_below HF.out hb2
      have hT2 := HT.out.below hb2
      clear HE HA HF HT hb2 hcut hcw
      go_upto_region 8 with (go_at_call 58; refine (hat1 _).mono ?_; rintro e w3 ⟨rfl, hb3⟩)
      have hE3 := hE2.trans (hb3.mono hE2.size)
      have hA3 := blk_below hA2 hb3
      have hF3 := blk_below hF2 hb3
      have hT3 := hT2.below hb3
      clear hE2 hA2 hF2 hT2 hb3 hat1
      go_upto_region 9 with (go_at_call 58; refine (hat2 _).mono ?_; rintro e w4 ⟨rfl, hb4⟩)
      have hE4 := hE3.trans (hb4.mono hE3.size)
      have hA4 := blk_below hA3 hb4
      have hF4 := blk_below hF3 hb4
      have hT4 := hT3.below hb4
      clear hE3 hA3 hF3 hT3 hb4 hat2
      have HE := Lib.hid hE4
      have HA := Lib.hid hA4
      have HF := Lib.hid hF4
      have HT := Lib.hid hT4
      clear hE4 hA4 hF4 hT4
      have hrd := read_m m hlt
      have hcw : (words.map fun l => Value.string ⟨l.toArray⟩).toArray[2 * m + 1]? = some (.string ⟨(wd (2 * m + 1)).toArray⟩) := wd_get _ (by omega)
      have HCW := Lib.hid hcw
      clear hcw
      go_upto_region 10 with fail
      go_loopg [11] 130 (fun gg s11 wr => ∃ q : Nat, at_ (lo m) ≤ q ∧ q ≤ at_ (hiW m) + 1 ∧ at_ (hiW m) + 1 - q ≤ gg ∧ s11 = .int .i64 (q : Nat) ∧ Hid (Below w.heap.size w wr) ∧ Hid (wr.heap[w.heap.size]? = some (.cells Tryz.zeroCells131 131 (0, 0))) ∧ Hid (wr.heap[F]? = some (.cells (words.map fun l => Value.string ⟨l.toArray⟩).toArray 9 (0, 0))) ∧ Hid (Tb wr (w.heap.size + 1) (fun n => if at_ (lo m) ≤ n ∧ n < q then spW m else fM m n)))
      case atStart => exact ⟨at_ (lo m), Nat.le_refl _, hh6, by omega, rfl, HE, HA, HF, Lib.hid (HT.out.ext fun n _ => (if_neg (by omega)).symm)⟩
      case round =>
        clear HE HA HF HT
        obtain ⟨q, hq1, hq2, hgq, rfl, HE, HA, HF, HT⟩ := hrel
        by_cases hlq : q ≤ at_ (hiW m)
        · have hqz : (q : Int) ≤ (at_ (hiW m) : Int) := by omega
          have hq0 : (0 : Int) ≤ q := by omega
          have hq129 : (q : Int) < 129 := by omega
          have hcw : wr.cell? ⟨F, 2 * m + 1, none⟩ = some (.string ⟨(wd (2 * m + 1)).toArray⟩) := (blk_cell HF.out _).trans HCW.out
          go_upto_region 11 with (go_at_call 100; refine (hrd _).mono ?_; rintro e w5 ⟨rfl, hb5⟩; have hT5 := HT.out.below hb5; obtain ⟨hc1, hc2, hc3, hfz⟩ := hT5.cells q (by omega))
          have hT6 := hT5.put q (by omega) (spW m).1 (spW m).2.1 (spW m).2.2
          have hE5 := HE.out.trans (hb5.mono HE.out.size)
          have hE6 := below_set (v := .int .i64 ((spW m).2.2 : Nat)) (j := q * 3 + 2) (below_set (v := .int .i64 ((spW m).2.1 : Nat)) (j := q * 3 + 1) (below_set (v := .int .i64 ((spW m).1 : Nat)) (j := q * 3) hE5 (show w.heap.size ≤ w.heap.size + 1 by omega)) (show w.heap.size ≤ w.heap.size + 1 by omega)) (show w.heap.size ≤ w.heap.size + 1 by omega)
          have hA5 := blk_below HA.out hb5
          have hF5 := blk_below HF.out hb5
          have hA6 := blk_far (blk_far (blk_far hA5 (p := ⟨w.heap.size + 1, q * 3, none⟩) (by show w.heap.size ≠ w.heap.size + 1; omega) (.int .i64 ((spW m).1 : Nat))) (p := ⟨w.heap.size + 1, q * 3 + 1, none⟩) (by show w.heap.size ≠ w.heap.size + 1; omega) (.int .i64 ((spW m).2.1 : Nat))) (p := ⟨w.heap.size + 1, q * 3 + 2, none⟩) (by show w.heap.size ≠ w.heap.size + 1; omega) (.int .i64 ((spW m).2.2 : Nat))
          have hF6 := blk_far (blk_far (blk_far hF5 (p := ⟨w.heap.size + 1, q * 3, none⟩) (by show F ≠ w.heap.size + 1; omega) (.int .i64 ((spW m).1 : Nat))) (p := ⟨w.heap.size + 1, q * 3 + 1, none⟩) (by show F ≠ w.heap.size + 1; omega) (.int .i64 ((spW m).2.1 : Nat))) (p := ⟨w.heap.size + 1, q * 3 + 2, none⟩) (by show F ≠ w.heap.size + 1; omega) (.int .i64 ((spW m).2.2 : Nat))
          clear hE5 hA5 hF5 hT5 hc1 hc2 hc3 hfz hb5 hcw
          generalize ((w5.setCell ⟨w.heap.size + 1, q * 3, none⟩ (.int .i64 ((spW m).1 : Nat))).setCell ⟨w.heap.size + 1, q * 3 + 1, none⟩ (.int .i64 ((spW m).2.1 : Nat))).setCell ⟨w.heap.size + 1, q * 3 + 2, none⟩ (.int .i64 ((spW m).2.2 : Nat)) = W6 at hT6 hE6 hA6 hF6 ⊢
          go_wp2
          go_roundg (at_ (hiW m) + 1 - (q + 1))
          case measure => omega
          case rel =>
            refine ⟨q + 1, by omega, by omega, by omega, by simp, Lib.hid hE6, Lib.hid hA6, Lib.hid hF6, Lib.hid (hT6.ext fun n _ => ?_)⟩
            by_cases e : n = q
            · rw [if_pos e, if_pos (by omega)]
            · rw [if_neg e]
              by_cases e2 : at_ (lo m) ≤ n ∧ n < q
              · rw [if_pos e2, if_pos (by omega)]
              · rw [if_neg e2, if_neg (by omega)]
        · have hqz : ¬ (q : Int) ≤ (at_ (hiW m) : Int) := by omega
          go_wp2
          go_roundg (54 - (m + 1))
          case measure => omega
          case rel =>
            refine ⟨m + 1, by omega, by omega, by simp <;> omega, HE, HA, HF, Lib.hid (HT.out.ext fun n _ => ?_)⟩
            show _ = (if at_ (lo m) ≤ n ∧ n ≤ at_ (hiW m) then spW m else fM m n)
            by_cases e2 : at_ (lo m) ≤ n ∧ n < q
            · rw [if_pos e2, if_pos (by omega)]
            · rw [if_neg e2, if_neg (by omega)]
    · obtain rfl : m = 54 := by omega
      have hltz : ¬ ((2 * 54 : Nat) : Int) + 1 < 108 := by omega
      have hi1 : (Tryz.prog.info? 131).map (·.size) = some 387 := by kernel_rfl
      obtain ⟨cur, hbT, hsz, hcc⟩ := HT.out
      have hall : cur.toList.all (fun q => q.oneCell') = true := tb_one cur hsz hcc
      rw [← hsz] at hi1
      have HI1 := Lib.hid hi1
      have hbA := HA.out
      have hsA : cur.size = Tryz.zeroCells131.size := by rw [hsz, zero131]; simp
      have hu := Tryz.underlying131
      clear hi1
      go_wp2_with (first | (refine Pu.x_load rfl (t := 131) (p := 1) rfl (g := w.heap.size + 1) rfl hbT hu rfl HI1.out ?_) | (refine Pu.x_store rfl (t := 131) (p := 0) (v := .tmp 53) rfl rfl (g := w.heap.size) rfl rfl hbA hsA HI1.out hall ?_; rintro wS hS hfS hsS ho1 ho2 ho3))
      refine bodyPost_ret (results_cell_row rfl _ _ w.heap.size 131 cur (0, 0) _ rfl hS hu rfl HI1.out) rfl ?_
      exact ⟨⟨cur, rfl, hsz, hcc⟩, Pu.below_stored HE.out (Nat.le_refl _) hfS hsS ho1 ho2 ho3⟩
/-! ### the table, written out -/
def tabL : List (Nat × Nat × Nat) := [(0, 0, 0), (0, 0, 0), (1, 2, 19), (1, 0, 6), (1, 0, 12), (1, 0, 12), (1, 0, 12), (1, 0, 10), (1, 0, 8), (1, 0, 8), (1, 0, 8), (1, 0, 6), (1, 0, 6), (1, 0, 4), (1, 0, 4), (1, 0, 4), (1, 0, 4), (1, 0, 4), (1, 0, 4), (1, 0, 3), (1, 0, 3), (1, 0, 3), (1, 0, 3), (1, 0, 3), (1, 0, 3), (1, 0, 2), (1, 0, 2), (1, 0, 1), (2, 0, 9), (2, 0, 9), (2, 0, 9), (2, 0, 9), (1, 2, 11), (1, 2, 11), (2, 2, 28), (3, 2, 37), (3, 3, 104), (2, 0, 12), (2, 0, 6), (2, 0, 2), (2, 0, 3), (3, 0, 8), (3, 0, 15), (3, 0, 40), (3, 2, 25), (3, 2, 76), (3, 3, 999), (3, 3, 999), (3, 3, 999), (2, 0, 3), (2, 0, 3), (2, 0, 3), (4, 0, 8), (1, 0, 16), (2, 3, 120), (3, 3, 999), (3, 3, 999), (3, 3, 999), (3, 3, 999), (3, 3, 999), (3, 3, 999), (3, 3, 999), (3, 3, 999), (3, 3, 999), (4, 0, 8), (0, 0, 0), (1, 0, 1), (1, 0, 2), (1, 0, 3), (1, 0, 3), (1, 0, 3), (1, 0, 4), (1, 0, 4), (1, 0, 6), (1, 0, 10), (1, 0, 10), (1, 0, 10), (1, 0, 10), (1, 0, 10), (1, 0, 10), (1, 0, 10), (1, 0, 10), (1, 0, 12), (1, 0, 12), (1, 0, 12), (1, 0, 12), (1, 0, 16), (1, 0, 16), (1, 0, 16), (1, 0, 16), (1, 0, 42), (2, 0, 1), (2, 0, 2), (2, 0, 5), (2, 0, 7), (2, 0, 42), (4, 0, 8), (2, 0, 17), (3, 0, 25), (1, 2, 11), (1, 2, 11), (3, 2, 17), (3, 2, 28), (3, 2, 28), (3, 3, 100), (3, 3, 999), (3, 3, 999), (3, 3, 999), (3, 3, 999), (3, 3, 999), (3, 3, 999), (3, 3, 999), (3, 3, 999), (3, 3, 999), (3, 3, 999), (3, 3, 999), (3, 3, 999), (3, 3, 999), (3, 3, 999), (3, 3, 999), (3, 3, 999), (3, 3, 999), (3, 3, 999), (3, 3, 999), (3, 3, 999), (3, 3, 999), (3, 3, 999), (3, 3, 999), (4, 0, 8)]
def sp (n : Nat) : Nat × Nat × Nat := tabL.getD n (0, 0, 0)
theorem sp_all : (List.range 129).all (fun n => decide (fM 54 n = sp n)) = true := by kernel_rfl
theorem sp_eq (n : Nat) (h : n < 129) : fM 54 n = sp n := of_decide_eq_true (List.all_eq_true.mp sp_all n (List.mem_range.mpr h))
theorem ext3 (cur : Array Value) (n : Nat) (a b c : Value) (h1 : cur[n * 3]? = some a) (h2 : cur[n * 3 + 1]? = some b) (h3 : cur[n * 3 + 2]? = some c) : cur.extract (n * 3) (n * 3 + 3) = #[a, b, c] := by
  have hz : n * 3 + 2 < cur.size := by
    rcases Nat.lt_or_ge (n * 3 + 2) cur.size with h | h
    · exact h
    · rw [Array.getElem?_eq_none h] at h3; cases h3
  apply Array.ext_getElem?
  intro i
  rw [Array.getElem?_extract]
  match i with
  | 0 => rw [if_pos (by omega)]; exact h1
  | 1 => rw [if_pos (by omega)]; exact h2
  | 2 => rw [if_pos (by omega)]; exact h3
  | i + 3 => rw [if_neg (by omega)]; rfl
theorem idx_tab (cur : Array Value) (n : Nat) (hn : n < 129) (a b c : Value) (h1 : cur[n * 3]? = some a) (h2 : cur[n * 3 + 1]? = some b) (h3 : cur[n * 3 + 2]? = some c) (W : World) :
    (Instr.index 131 (.agg cur) (.int .i64 (n : Int))).run Tryz.prog W = .ok (.agg #[a, b, c]) W := by
  have hu := Tryz.underlying131
  have hz : (sizeOf 104).run Tryz.prog W = .ok 3 W := by kernel_rfl
  have ha : (isAgg 104).run Tryz.prog W = .ok true W := by kernel_rfl
  have e := ext3 cur n a b c h1 h2 h3
  unfold Instr.index part
  have hn2 : (n : Int) < 129 := by omega
  simp [asIntOf, run_underlying hu, hz, ha, hn2, e, Sem.run]
  intro hx; omega
theorem blk_put3 {w : World} {g : Nat} {t : TypeId} {a b c : Value} (h : w.heap[g]? = some (.cells #[a, b, c] t (0, 0))) (v0 v1 v2 : Value) :
    (((w.setCell ⟨g, 0, none⟩ v0).setCell ⟨g, 1, none⟩ v1).setCell ⟨g, 2, none⟩ v2).heap[g]? = some (.cells #[v0, v1, v2] t (0, 0)) := by
  refine blk_put (cs := #[v0, v1, c]) ?_ 2 _ rfl
  refine blk_put (cs := #[v0, b, c]) ?_ 1 _ rfl
  exact blk_put h 0 _ rfl
theorem below_put3 {B : Nat} {a w : World} (h : Below B a w) {g : Nat} (hg : B ≤ g) (v0 v1 v2 : Value) :
    Below B a (((w.setCell ⟨g, 0, none⟩ v0).setCell ⟨g, 1, none⟩ v1).setCell ⟨g, 2, none⟩ v2) :=
  ((h.setCell hg _).setCell hg _).setCell hg _
set_option maxHeartbeats 2000000 in
set_option maxRecDepth 100000 in
theorem of_w (n : Nat) (hn : n ≤ 128) (hk : (sp n).1 ≠ 0) (w : World) (he : Env w) :
    Calls Tryz.prog 56 #[.int .i64 (n : Int)] w fun e w' => e = .returned (.tuple #[.agg #[.int .i64 ((sp n).1 : Nat), .int .i64 ((sp n).2.1 : Nat), .int .i64 ((sp n).2.2 : Nat)], .int .i64 0]) ∧ Below w.heap.size w w' := by
  have hu := Tryz.underlying104
  have h1 : ¬ (n : Int) > 128 := by omega
  have hbA := blk_new w (.cells #[.int .i64 0, .int .i64 0, .int .i64 0] 104 (0, 0))
  have hBe := below_alloc (Below.refl w.heap.size w) (.cells #[.int .i64 0, .int .i64 0, .int .i64 0] 104 (0, 0))
  have htw := table_w
  have HE := Lib.hid he
  have hk2 : ¬ (((sp n).1 : Nat) : Int) = 0 := by omega
  have HSP := Lib.hid (sp_eq n (by omega))
  obtain ⟨q, hq⟩ : ∃ q, q = sp n := ⟨_, rfl⟩
  rw [← hq] at hk2 ⊢
  have HQ := Lib.hid hq
  clear hk he hq
  go_enter Tryz.func56, Tryz.ntmps56
  go_upto_region 3 with fail
  generalize w.alloc (.cells #[.int .i64 0, .int .i64 0, .int .i64 0] 104 (0, 0)) = W0 at hbA hBe ⊢
  have heA := HE.out.below hBe
  go_upto_region 4 with (first
    | (go_at_call 84; refine (htw _ heA).mono ?_; rintro e w1 ⟨⟨cur, rfl, hsz, hcc⟩, hb1⟩; obtain ⟨c1, c2, c3⟩ := hcc n (by omega); rw [HSP.out, ← HQ.out] at c1 c2 c3; have hix := idx_tab cur n (by omega) _ _ _ c1 c2 c3))
  have hbA1 := blk_below hbA hb1
  have hAl : w.heap.size < w1.heap.size := blk_lt hbA1
  have hbA2 := blk_alloc hbA1 (.cells #[.int .i64 (q.1 : Nat), .int .i64 (q.2.1 : Nat), .int .i64 (q.2.2 : Nat)] 104 (0, 0))
  have hbN := blk_new w1 (.cells #[.int .i64 (q.1 : Nat), .int .i64 (q.2.1 : Nat), .int .i64 (q.2.2 : Nat)] 104 (0, 0))
  have hBe2 := below_alloc (hBe.trans (hb1.mono hBe.size)) (.cells #[.int .i64 (q.1 : Nat), .int .i64 (q.2.1 : Nat), .int .i64 (q.2.2 : Nat)] 104 (0, 0))
  have H2 := Lib.hid hBe2
  have HA := Lib.hid hbA2
  clear hbA hbA1 hBe hBe2 hb1 hcc hsz hix heA htw c1 c2 c3
  generalize w1.alloc (.cells #[.int .i64 (q.1 : Nat), .int .i64 (q.2.1 : Nat), .int .i64 (q.2.2 : Nat)] 104 (0, 0)) = W2 at hbA2 hbN H2 HA ⊢
  generalize w1.heap.size = B1 at hbN hAl ⊢
  have hc0 : W2.cell? ⟨B1, 0, none⟩ = some (.int .i64 (q.1 : Nat)) := (blk_cell hbN 0).trans rfl
  have hc1 : W2.cell? ⟨B1, 1, none⟩ = some (.int .i64 (q.2.1 : Nat)) := (blk_cell hbN 1).trans rfl
  have hc2 : W2.cell? ⟨B1, 2, none⟩ = some (.int .i64 (q.2.2 : Nat)) := (blk_cell hbN 2).trans rfl
  have hd0 : W2.cell? ⟨w.heap.size, 0, none⟩ = some (.int .i64 0) := (blk_cell hbA2 0).trans rfl
  have hd1 : W2.cell? ⟨w.heap.size, 1, none⟩ = some (.int .i64 0) := (blk_cell hbA2 1).trans rfl
  have hd2 : W2.cell? ⟨w.heap.size, 2, none⟩ = some (.int .i64 0) := (blk_cell hbA2 2).trans rfl
  have hf0 := blk_frozen hbA2 0
  have hf1 := blk_frozen hbA2 1
  have hf2 := blk_frozen hbA2 2
  clear hbA2 hbN
  go_wp2
  refine bodyPost_ret (results_ct rfl _ _ w.heap.size 104 #[.int .i64 (q.1 : Nat), .int .i64 (q.2.1 : Nat), .int .i64 (q.2.2 : Nat)] (0, 0) _ rfl (blk_put3 HA.out _ _ _) Tryz.underlying104 rfl (by kernel_rfl)) rfl ?_
  exact ⟨rfl, below_put3 H2.out (Nat.le_refl _) _ _ _⟩
/-! ### which texts are of a kind -/
def digsB (s : ByteArray) : Bool := s.data.toList.all fun c => decide (48 ≤ c.toNat) && decide (c.toNat ≤ 57)
def ansB (s : ByteArray) : Bool := s.data.toList.all fun c => (decide (48 ≤ c.toNat) && decide (c.toNat ≤ 57)) || (decide (65 ≤ c.toNat) && decide (c.toNat ≤ 90))
def okB (k : Int) (s : ByteArray) : Bool := (decide (k = 1) && digsB s) || (decide (k = 2) && ansB s)
theorem okB_iff (k : Int) (s : ByteArray) (h : okB k s = true) : okK k s := by
  unfold okB at h
  rw [Bool.or_eq_true, Bool.and_eq_true, Bool.and_eq_true, decide_eq_true_iff, decide_eq_true_iff] at h
  rcases h with ⟨h1, h2⟩ | ⟨h1, h2⟩
  · refine .inl ⟨h1, fun i hi => ?_⟩
    have := List.all_eq_true.mp h2 _ (List.getElem_mem (l := s.data.toList) (n := i) (by simpa using hi))
    rw [Bool.and_eq_true, decide_eq_true_iff, decide_eq_true_iff] at this
    exact this
  · refine .inr ⟨h1, fun i hi => ?_⟩
    have := List.all_eq_true.mp h2 _ (List.getElem_mem (l := s.data.toList) (n := i) (by simpa using hi))
    rw [Bool.or_eq_true, Bool.and_eq_true, Bool.and_eq_true, decide_eq_true_iff, decide_eq_true_iff, decide_eq_true_iff, decide_eq_true_iff] at this
    exact this
end Go.Proofs.YtnelnmlhlmocdaaGreatDoor.As
