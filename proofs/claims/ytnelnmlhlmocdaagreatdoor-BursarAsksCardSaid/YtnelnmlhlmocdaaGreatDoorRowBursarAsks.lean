/- BursarAsks, for every input: the tied card. Its row: the printed function answers true (XB.asks_pure), and the Go code comes to what the printed function says. -/
import Derived.Test.YtnelnmlhlmocdaaGreatDoorRows
import Derived.Test.YtnelnmlhlmocdaaGreatDoorTie
import Derived.Test.YtnelnmlhlmocdaaGreatDoorCards
import Derived.SevenTiedAt
import Derived.Test.YtnelnmlhlmocdaaGreatDoorAk
import Derived.Test.YtnelnmlhlmocdaaGreatDoorOp
import Derived.WalkKit
import Derived.ProofKit
import Derived.OpenShut
import Derived.ShutString
import Derived.ChangeOld
import Derived.Below
import Derived.SizedLaws
import Derived.LaidMore
import Derived.MakeChecks
import Derived.Lib.LaidTab
import Derived.Stop.LaidErr
import Derived.Stop.Joined
import Derived.LaidOnce
import Derived.Lay
import Derived.Shelf.Vars
namespace Go.Proofs.YtnelnmlhlmocdaaGreatDoor.bursarAsks
open Go.ChangeShapes Go.WideShapes Go.ChangeAt Go.RowKit
open Go.ChangeMaps (open_string shut_string)
set_option linter.unusedVariables false
theorem own : ownKnob Tryz.prog.godebug = none := by kernel_rfl
theorem laidOut : laidOutB Tryz.prog = true := by kernel_rfl
theorem leaf25_0 : Op.leafAt Tryz.prog 6 25 0 = some (.int .u64) := by kernel_rfl
theorem leaf25_1 : Op.leafAt Tryz.prog 6 25 1 = some (.int .u64) := by kernel_rfl
theorem leaf25_2 : Op.leafAt Tryz.prog 6 25 2 = some (.int .u32) := by kernel_rfl
theorem leaf25_3 : Op.leafAt Tryz.prog 6 25 3 = some (.int .u32) := by kernel_rfl
theorem leaf25_4 : Op.leafAt Tryz.prog 6 25 4 = some .str := by kernel_rfl
theorem leaf25_5 : Op.leafAt Tryz.prog 6 25 5 = some (.int .u64) := by kernel_rfl
theorem cells25 : Tryz.prog.cellsOf 25 = 6 := by kernel_rfl
set_option maxRecDepth 100000 in
theorem open25 {H : Type} {enc : TypeId × Value → H} {w : World} {base b0 : Nat} {r : Reach} {spare : Nat → Bool} {held : Bool} {v : Value} {d : DataW H} {p : List MemPlace} (hv : Value.okWide Tryz.prog w r b0 25 v) (h : DataW.Trod enc Tryz.prog w base spare held 25 v d p) :
    ∃ x0 x1 x2 x3 x4 x5, v = .agg #[.int .u64 x0, .int .u64 x1, .int .u32 x2, .int .u32 x3, .string x4, .int .u64 x5] ∧ (Lit.int .u64 x0).wf = true ∧ (Lit.int .u64 x1).wf = true ∧ (Lit.int .u32 x2).wf = true ∧ (Lit.int .u32 x3).wf = true ∧ (Lit.int .u64 x5).wf = true := by
  obtain ⟨cs, rfl, hsz⟩ := okWide_struct Tryz.underlying25 hv
  rw [cells25] at hsz
  obtain ⟨fuel, hf⟩ := h
  have hf' : DataW.trod enc Tryz.prog w base spare held fuel 25 cs.toList = some (d, p) := by simpa [Value.cells] using hf
  clear hf hv
  obtain ⟨x0, h0, g0⟩ := Op.int_at (Op.leaf_of_trod 6 25 0 _ _ _ _ leaf25_0 hf')
  obtain ⟨x1, h1, g1⟩ := Op.int_at (Op.leaf_of_trod 6 25 1 _ _ _ _ leaf25_1 hf')
  obtain ⟨x2, h2, g2⟩ := Op.int_at (Op.leaf_of_trod 6 25 2 _ _ _ _ leaf25_2 hf')
  obtain ⟨x3, h3, g3⟩ := Op.int_at (Op.leaf_of_trod 6 25 3 _ _ _ _ leaf25_3 hf')
  obtain ⟨x4, h4, _⟩ := Op.str_at (Op.leaf_of_trod 6 25 4 _ _ _ _ leaf25_4 hf')
  obtain ⟨x5, h5, g5⟩ := Op.int_at (Op.leaf_of_trod 6 25 5 _ _ _ _ leaf25_5 hf')
  have hl : cs.toList.length = 6 := by rw [Array.length_toList]; exact hsz
  refine ⟨x0, x1, x2, x3, x4, x5, congrArg Value.agg (Array.toList_inj.mp ?_), g0, g1, g2, g3, g5⟩
  show cs.toList.drop 0 = _
  rw [Op.drop_get h0]
  rw [Op.drop_get h1]
  rw [Op.drop_get h2]
  rw [Op.drop_get h3]
  rw [Op.drop_get h4]
  rw [Op.drop_get h5]
  rw [List.drop_eq_nil_of_le (by omega)]
set_option maxRecDepth 100000 in
/-- What the tables and the library's own number hold, out of the row's list and the world's shape. -/
theorem env_of {W : World} (hL : laidMetH Tryz.prog Rows.bursarAsksRow.laid W) (hsh : W.ShapedOpen Tryz.prog) : As.Env W := by
  have hL2 := hL
  rw [MakeChecks.laidMetH_plain _ _ _ (by kernel_rfl)] at hL2
  have hp : laidMet Tryz.prog (("internal/strconv.uint64pow10", Rows.laid_internal_strconv_uint64pow10) :: [("unicode/utf8.acceptRanges", Rows.laid_unicode_utf8_acceptRanges), ("strconv.ErrRange", Rows.laid_strconv_ErrRange), ("strconv.ErrSyntax", Rows.laid_strconv_ErrSyntax), ("unicode.White_Space", Rows.laid_unicode_White_Space), ("strings.asciiSpace", Rows.laid_strings_asciiSpace), ("unicode/utf8.first", Rows.laid_unicode_utf8_first)]) W := laidMet.tail (laidMet.tail hL2)
  have hs : laidMet Tryz.prog (("strings.asciiSpace", Rows.laid_strings_asciiSpace) :: [("unicode/utf8.first", Rows.laid_unicode_utf8_first)]) W := laidMet.tail (laidMet.tail (laidMet.tail (laidMet.tail (laidMet.tail hp))))
  rw [show Rows.laid_internal_strconv_uint64pow10 = Lib.tabData .u64 Lib.pow10Tab by kernel_rfl] at hp
  rw [show Rows.laid_strings_asciiSpace = Lib.tabData .u8 Lib.asciiSpaceTab by kernel_rfl] at hs
  have htab : Fu.Tab W := Lib.tabIs_of_head (g := 0) (by kernel_rfl) (by kernel_rfl) Tryz.underlying144 Tryz.underlying22 (by kernel_rfl) (by kernel_rfl) hp
  have hsp : Lib.TabIs Tryz.prog W "strings.asciiSpace" .u8 Lib.asciiSpaceTab := Lib.tabIs_of_head (g := 2) (by kernel_rfl) (by kernel_rfl) Tryz.underlying162 Tryz.underlying5 (by kernel_rfl) (by kernel_rfl) hs
  obtain ⟨m, hm⟩ := cell_of_shapedOpen_int (P := Tryz.prog) (g := 1) (t := 3) (zero := #[.int .i64 0]) (k := .i64) hsh (of_decide_eq_true (by kernel_rfl)) (by kernel_rfl) rfl (by kernel_rfl) (by kernel_rfl) Tryz.underlying3
  exact ⟨htab, hsp, m, hm⟩
set_option maxRecDepth 100000 in
theorem wit_shaped (os : Os) : ((World.laidAll Tryz.prog os Rows.bursarAsksRow.laid).forCall (fun _ _ => 0) ⟨#[], #[.agg #[.int .u64 0, .int .u64 0, .int .u32 0, .int .u32 0, .string ByteArray.empty, .int .u64 0]], []⟩).Shaped Tryz.prog := World.shaped_of_ZipB (by kernel_rfl) (by kernel_rfl)
set_option maxRecDepth 100000 in
theorem wit_met (os : Os) : laidMetH Tryz.prog Rows.bursarAsksRow.laid ((World.laidAll Tryz.prog os Rows.bursarAsksRow.laid).forCall (fun _ _ => 0) ⟨#[], #[.agg #[.int .u64 0, .int .u64 0, .int .u32 0, .int .u32 0, .string ByteArray.empty, .int .u64 0]], []⟩).memory := by
  rw [MakeChecks.laidMetH_plain _ _ _ (by kernel_rfl)]
  exact laidMet_laidAll _ (by kernel_rfl) (by kernel_rfl)
set_option maxRecDepth 100000 in
theorem lifted (os : Os) (started : os.Started) (H : Type) (enc : TypeId × Value → H) :
    ReturnsInHanded {} Tryz.checked os 3 .any (fun w args => (Rows.bursarAsksSpec.pre enc Tryz.prog Tryz.f3 [] false w args ∧ laidMetH Tryz.prog Rows.bursarAsksRow.laid w) ∧ sizedMet enc Tryz.prog Tryz.f3 (OpenSpec.ofChange Rows.bursarAsksSpec) false w args)
      (Rows.bursarAsksSpec.post enc Tryz.prog Tryz.f3 false true false false) := by
  refine returnsInHanded_of_calls own started (by kernel_rfl)
    (ChangeSpec.witness_shaped (enc := enc) (C := Tryz.checked) (os := os) (X := fun w _ => laidMetH Tryz.prog Rows.bursarAsksRow.laid w) false (World.laidAll Tryz.prog os Rows.bursarAsksRow.laid) #[.agg #[.int .u64 0, .int .u64 0, .int .u32 0, .int .u32 0, .string ByteArray.empty, .int .u64 0]] 8 (World.laidAll_os _ _ _) (wit_shaped os) (by kernel_rfl) (by kernel_rfl) (by kernel_rfl) (wit_met os)) ?_
  intro w0 tape i _ hsh _ hok hpre _
  obtain ⟨_, _, _, fn', hfn', _, _, _, _, hval0⟩ := hok
  have hfe : fn' = Tryz.f3 := Option.some.inj (hfn'.symm.trans Tryz.func3)
  subst hfe
  obtain ⟨⟨⟨ds, gs, before, hw, _⟩, hx⟩, _⟩ := hpre
  have hW0 := DataW.Whole.of_heap (w' := w0.forCall tape i) (by rfl) hw
  have hL : laidMetH Tryz.prog Rows.bursarAsksRow.laid (w0.forCall tape i) := laidMetH.of_heap (by rfl) hx
  have he : As.Env (w0.forCall tape i) := env_of hL hsh
  refine Calls.mono (R := fun e W' => ∃ v, e = .returned v ∧ Rows.bursarAsksSpec.post enc Tryz.prog Tryz.f3 false true false false (w0.forCall tape i) i.args v W') ?_ (fun e W' ⟨v, he, hp⟩ => by subst he; exact ChangeSpec.post_blind hp)
  generalize w0.forCall tape i = W at *
  generalize i.args = args at *
  clear hfn' hx hw hL hsh
  have hW := hW0
  have hval : ∀ (j : Nat) t v, Tryz.f3.params[j]? = some t → args[j]? = some v → Value.okWide Tryz.prog W .any w0.heap.size t v := hval0
  have hW' := hW
  obtain ⟨p, q, hA0, hV, rfl, hfz, hnd⟩ := hW
  have hA : DataW.TrodAll enc Tryz.prog W 0 (fun _ => true) true Tryz.f3.params.toList args.toList ds p := hA0
  rw [Tryz.params3] at hA hval
  obtain ⟨v0, vs0, d0, ds0, p0, q0, hargs, rfl, rfl, h0, r0⟩ := trodAll_cons hA
  obtain ⟨rfl, rfl, rfl⟩ := trodAll_nil r0
  obtain rfl : args = #[v0] := by cases args; simp_all
  obtain ⟨rfl, rfl⟩ := trodVars_none hV
  have k0 := h0
  have lt0 : ∀ x ∈ p0, x.block < W.heap.size := by obtain ⟨m, hm⟩ := k0; exact DataW.trod_lt m _ _ _ hm
  obtain ⟨a0_0, a0_1, a0_2, a0_3, a0_4, a0_5, hv0, g0_0, g0_1, g0_2, g0_3, g0_5⟩ := open25 (hval 0 25 v0 rfl rfl) h0
  subst hv0
  clear hA0 hval0
  refine (XB.bursartop_BursarAsks.calls 1 a0_0 a0_1 a0_2 a0_3 a0_4 a0_5 true W (XB.asks_pure a0_0 a0_1 a0_2 a0_3 a0_4 a0_5 g0_0 g0_1 g0_2 g0_3 g0_5) he).mono fun e W' ⟨he, bel0⟩ => ?_
  have bel : Below W.heap.size W W' := bel0
  subst he
  exact ⟨_, rfl, _, _, _, [], _, [], hW', trodAll_mk1 (shut_bool Tryz.underlying4 _), (trodAll_cons_mk (Below.trod laidOut (by kernel_rfl) (of_decide_eq_true (by kernel_rfl)) k0 bel lt0) trodAll_mk0), rfl, bel.frame _, fun h => by cases h⟩
theorem over : Rows.bursarAsksRow.holds Tryz.pinned (OpenSpec.ofChange Rows.bursarAsksSpec) :=
  OpenClaim.holds_of_wide 3 Tryz.f3 rfl rfl rfl rfl rfl rfl rfl ⟨rfl, rfl, rfl, rfl, rfl⟩ rfl rfl rfl rfl rfl (by kernel_rfl) Tryz.func3 (by kernel_rfl)
    (of_decide_eq_true (by kernel_rfl)) (by unfold Func.isWrapper; first | (rw [if_pos (by decide +kernel)]; kernel_rfl) | (rw [if_neg (by decide +kernel)]; exact ⟨rfl, rfl⟩))
    (fun os started H enc _ => lifted os started H enc)
theorem proved : Rows.BursarAsksSaid := over
end Go.Proofs.YtnelnmlhlmocdaaGreatDoor.bursarAsks
namespace Go.Proofs.YtnelnmlhlmocdaaGreatDoor
open Go
theorem bursarAsks_holds : Rows.BursarAsksCardSaid :=
  Claim7.holds_tied_plain_at .later [] [.data, .data, .data, .data, .sentinel, .sentinel, .listed, .data, .pinned] true (true, "31f46ca7c249928639b8c2814b4f1ff1299ad879e4525fcfdd46184b434df011") true
    bursarAsks.over (fun _ h => by cases h) (by kernel_rfl) (fun _ h => by cases h) bursarAsks_row_tie rfl ⟨rfl, rfl⟩ (by kernel_rfl) rfl
    (fun f fn hf hfn => by
      obtain rfl : f = 3 := Option.some.inj ((show Tryz.prog.funcNamed "bursar/bursartop.BursarAsks" = some 3 by kernel_rfl).symm.trans hf) |>.symm
      obtain rfl : fn = Tryz.f3 := (Option.some.inj (Tryz.func3.symm.trans hfn)).symm
      exact ⟨by kernel_rfl, fun j t ht => by
        rw [Tryz.params3] at ht
        have hm : t ∈ [25] := by simpa using Array.mem_of_getElem? ht
        have hall : ([25].all fun u => !Tryz.prog.wantsStandIn u) = true := by kernel_rfl
        exact (show Tryz.prog.wantsStandIn t = false by simpa using List.all_eq_true.1 hall t hm)⟩)
    (by kernel_rfl)
end Go.Proofs.YtnelnmlhlmocdaaGreatDoor
