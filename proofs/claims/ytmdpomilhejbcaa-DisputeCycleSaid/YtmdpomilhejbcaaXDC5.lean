-- Written by wip/xprint.py, a session's program: printed out of the translation, with hand-written functions. Lean checks it.
import Derived.Test.YtmdpomilhejbcaaXDC0
import Derived.Test.YtmdpomilhejbcaaXDC3
import Derived.Test.YtmdpomilhejbcaaXDC4
namespace Go.Proofs.Ytmdpomilhejbcaa.XDC
open Go.RowKit Go.Proofs.YtmdpomilhejbcaaW.PrintWords Go.Proofs.YtmdpomilhejbcaaW.PrintLast Go.Proofs.YtmdpomilhejbcaaW.PrintMore
attribute [local go_sem] max2_int min2_int max_two min_two max_three min_three max_four min_four   -- for this text's walks alone
set_option linter.unusedVariables false
set_option linter.unusedSimpArgs false

/-! ### hold_May_p: function 16 -/
def hold_May_p.j0 : Nat → Bool → ByteArray → ByteArray → ByteArray → Int → Int → Int → Bool → Option (Bool)
  | 0, _, _, _, _, _, _, _, _ => none
  | k + 1, x30, x109000, x109001, x109002, x109003, x109004, x109005, x109006 => if x30 = true then (some false) else (if x109004 ≥ 0 then (if x109004 ≤ x109003 then (if x109006 = true then (some (decide (x109004 < x109003))) else (some true)) else (some false)) else (some false))
def hold_May_p.f (k : Nat) (a0_0 : ByteArray) (a0_1 : ByteArray) (a0_2 : ByteArray) (a0_3 : Int) (a0_4 : Int) (a0_5 : Int) (a0_6 : Bool) : Option (Bool) := (hold_Ref.f a0_0).bind fun t111 => (if t111 = true then ((chart_May.f 1 a0_2).bind fun t112 => (if t112 = true then ((chart_May.f 2 a0_1).bind fun t113 => (if t113 = true then ((hold_until.f a0_5).bind fun t114 => (hold_May_p.j0 k (!t114) a0_0 a0_1 a0_2 a0_3 a0_4 a0_5 a0_6)) else (hold_May_p.j0 k true a0_0 a0_1 a0_2 a0_3 a0_4 a0_5 a0_6))) else (hold_May_p.j0 k true a0_0 a0_1 a0_2 a0_3 a0_4 a0_5 a0_6))) else (hold_May_p.j0 k true a0_0 a0_1 a0_2 a0_3 a0_4 a0_5 a0_6))
theorem hold_May_p.mono_l : ∀ k, (∀ y0 y1 y2 y3 y4 y5 y6 y7, LeO (hold_May_p.j0 k y0 y1 y2 y3 y4 y5 y6 y7) (hold_May_p.j0 (k + 1) y0 y1 y2 y3 y4 y5 y6 y7))
  | 0 => fun _ _ _ _ _ _ _ _ r h => by simp [hold_May_p.j0] at h
  | k + 1 => by
    have ih0 := hold_May_p.mono_l k
    · intro y0 y1 y2 y3 y4 y5 y6 y7
      unfold hold_May_p.j0
      repeat' first
      | (with_reducible exact ih0 _ _ _ _ _ _ _ _)
      | (with_reducible exact LeO.refl _)
      | (with_reducible exact LeO.none _)
      | (with_reducible refine LeO.ite ?_ ?_)
      | (with_reducible refine LeO.bind ?_ (fun _ => ?_))
      | exact ih0 _ _ _ _ _ _ _ _
      | exact LeO.none _
      | refine LeO.ite ?_ ?_
      | refine LeO.bind ?_ (fun _ => ?_)
theorem hold_May_p.mono : ∀ a0 a1 a2 a3 a4 a5 a6 k, LeO (hold_May_p.f k a0 a1 a2 a3 a4 a5 a6) (hold_May_p.f (k + 1) a0 a1 a2 a3 a4 a5 a6) := by
  intro a0 a1 a2 a3 a4 a5 a6 k
  have ih0 := hold_May_p.mono_l k
  unfold hold_May_p.f
  repeat' first
      | (with_reducible exact ih0 _ _ _ _ _ _ _ _)
      | (with_reducible exact LeO.refl _)
      | (with_reducible exact LeO.none _)
      | (with_reducible refine LeO.ite ?_ ?_)
      | (with_reducible refine LeO.bind ?_ (fun _ => ?_))
      | exact ih0 _ _ _ _ _ _ _ _
      | exact LeO.none _
      | refine LeO.ite ?_ ?_
      | refine LeO.bind ?_ (fun _ => ?_)
def hold_May_p.T1 : Bool × List (List Nat × List Nat) := (true, [([], []), ([0], [0]), ([1], [1]), ([], []), ([3], [3]), ([4], [4]), ([], []), ([], []), ([6, 2, 0, 1, 2, 6, 7], [2, 6]), ([7, 5, 8, 0, 1, 2, 3, 4, 5, 6, 7, 8], [5, 7])])
def hold_May_p.B1 : List Nat := [0, 1, 3, 0, 8, 24, 0, 0, 199, 511]
theorem hold_May_p.tab1 : rtab .any (opsOf Try.f16 1) = hold_May_p.T1 := by kernel_rfl
theorem hold_May_p.bits1 : waitsOk hold_May_p.T1.2 hold_May_p.B1 = true := by kernel_rfl
set_option maxHeartbeats 8000000 in
set_option maxRecDepth 100000 in
theorem hold_May_p.calls (k : Nat) (a0_0 : ByteArray) (a0_1 : ByteArray) (a0_2 : ByteArray) (a0_3 : Int) (a0_4 : Int) (a0_5 : Int) (a0_6 : Bool) (r : Bool) (w : World) (h : hold_May_p.f k a0_0 a0_1 a0_2 a0_3 a0_4 a0_5 a0_6 = some r) :
    Calls Try.prog 16 #[.agg #[.string a0_0, .string a0_1, .string a0_2, .int .i64 a0_3, .int .i64 a0_4, .int .i64 a0_5, .bool a0_6]] w fun e w' => e = .returned (.bool r) ∧ Below w.heap.size w w' := by
  have hu25 := Try.underlying25
  have hu67 := Try.underlying67
  have HO := Aside0.mk (Ow.Own.nil w)
  have hmf : ∀ (fn : Fn) (first cap : Array Value) (w : World), (Instr.makeFunc fn first cap).run Try.prog w = .ok (.func fn first cap) w := fun _ _ _ _ => rfl
  have H : ((hold_Ref.f a0_0).bind fun t111 => (if t111 = true then ((chart_May.f 1 a0_2).bind fun t112 => (if t112 = true then ((chart_May.f 2 a0_1).bind fun t113 => (if t113 = true then ((hold_until.f a0_5).bind fun t114 => (hold_May_p.j0 k (!t114) a0_0 a0_1 a0_2 a0_3 a0_4 a0_5 a0_6)) else (hold_May_p.j0 k true a0_0 a0_1 a0_2 a0_3 a0_4 a0_5 a0_6))) else (hold_May_p.j0 k true a0_0 a0_1 a0_2 a0_3 a0_4 a0_5 a0_6))) else (hold_May_p.j0 k true a0_0 a0_1 a0_2 a0_3 a0_4 a0_5 a0_6))) = some r := h
  clear h
  have HC2 := Aside0.mk H
  clear H
  obtain ⟨Q0, hQ0_⟩ : ∃ q_ : Array Value, q_ = (#[.string a0_0, .string a0_1, .string a0_2, .int .i64 a0_3, .int .i64 a0_4, .int .i64 a0_5, .bool a0_6] : Array Value) := ⟨_, rfl⟩
  try rw [← hQ0_]
  have hQ0 := Aside0.mk hQ0_; have hq := Aside0.mk hQ0_; clear hQ0_
  go_enter Try.func16, Try.ntmps16
  try go_wp2_with (first | ((with_reducible refine gate_dst (N := 1) rfl ?_); refine Ow.box rfl (N := 1) rfl (cs := Q0) (t := 25) HO.out (by first | (go_simp; done) | (go_simp; rfl)) ?_; clear HO; intro gb108 w3 HO; simp only [List.cons_append, List.nil_append] at HO) | ((with_reducible refine Ow.gate_build rfl ?_); (try (refine gate_guard (by rfl) ?_; dsimp only)); refine' Ow.tbuild Ot.bd rfl rfl rfl ?hf_ ?_; (case hf_ => repeat (any_goals (first | exact Ow.Fills.nil | (refine' Ow.Fills.c ?hv_ rfl ?hz_ ?_; (case hv_ => first | exact Ow.ev_tmp rfl | rfl); (case hz_ => first | (refine ⟨?_, ?_⟩ <;> (first | ((try simp only [hq.1]) <;> rfl) | fail)) | fail)))))) | ((with_reducible refine Ow.gate_load rfl ?_); (try (refine gate_guard (by rfl) ?_; dsimp only)); (first | refine Ow.l1 Ot.ty HO.out rfl rfl rfl rfl (by first | ((try simp only [hq.1]) <;> rfl) | fail) ?_ | refine Ow.l0 Ot.ty HO.out rfl rfl rfl rfl (by first | ((try simp only [hq.1]) <;> rfl) | fail) ?_ | refine Ow.lp Ot.ty HO.out rfl rfl rfl rfl (by first | ((try simp only [hq.1]) <;> rfl) | fail) ?_)) | ((with_reducible refine gate_store rfl ?_); (try (refine gate_guard (by rfl) ?_; dsimp only)); (first | refine Ow.s0 Ot.ty HO.out rfl rfl rfl rfl rfl (by first | exact Ow.ev_tmp rfl | rfl) (by first | (refine ⟨?_, ?_, ?_⟩ <;> (first | ((try simp only [hq.1]) <;> rfl) | fail)) | fail) ?_ | refine Ow.sp Ot.ty HO.out rfl rfl rfl rfl rfl (by first | exact Ow.ev_tmp rfl | rfl) (by first | (refine ⟨?_, ?_, ?_⟩ <;> (first | ((try simp only [hq.1]) <;> rfl) | fail)) | fail) ?_); clear HO; intro wz_ HO; simp only [List.set_cons_zero, List.set_cons_succ] at HO))
  refine Ow.ostart (n := 10) (ds := []) (Ow.B 10 0) HO.out (by kernel_rfl) rfl (by kernel_rfl) ?_
  intro hHeld; replace HO := Aside0.mk hHeld; refine with_tabW hold_May_p.tab1 hold_May_p.bits1 (fun HT_ HW_ => ?_)
  refine' Ow.pu (i := 0) (N := some 5) (Ow.B 10 1) HT_.out ?hv_ ?ha_ ?_; (case hv_ => intro w'; go_simp; with_reducible rfl); (case ha_ => simp only [Ow.Sl, i64_w, i32_w]; rfl)
  refine' Ow.pu (i := 3) (N := some 8) (Ow.B 10 9) HT_.out ?hv_ ?ha_ ?_; (case hv_ => intro w'; go_simp; with_reducible rfl); (case ha_ => simp only [Ow.Sl, i64_w, i32_w]; rfl)
  refine take_ (i := 1) (N := some 6) (v := ?_) (a' := ?_) (Ow.B 10 11) rfl rfl (take_ofW HT_.out HW_.out (by kernel_rfl)) (fun _ _ _ h => h) (Or.inl ⟨by rfl, ?_⟩) hHeld ?_ ?_
  rotate_left
  · intro w' s_
    first | refine Ow.r1 Ot.ty s_ rfl rfl rfl (by first | ((try simp only [hq.1]) <;> rfl) | fail) | (refine' Ow.r0 Ot.ty s_ rfl rfl rfl ?h; (case h => first | ((try simp only [hq.1]) <;> rfl) | fail)) | (refine' Ow.rp Ot.ty s_ rfl rfl rfl ?h; (case h => first | ((try simp only [hq.1]) <;> rfl) | fail)) | (go_simp; with_reducible rfl)
  rotate_left
  · simp only [Act.put, List.setIfInBounds_toArray, List.set_cons_zero, List.set_cons_succ, i64_w, i32_w]
    rfl
  refine' Ow.pu (i := 2) (N := some 7) (Ow.B 10 15) HT_.out ?hv_ ?ha_ ?_; (case hv_ => intro w'; go_simp; with_reducible rfl); (case ha_ => simp only [Ow.Sl, i64_w, i32_w]; rfl)
  refine take_ (i := 4) (N := some 9) (v := ?_) (a' := ?_) (Ow.B 10 31) rfl rfl (take_ofW HT_.out HW_.out (by kernel_rfl)) (fun _ _ _ h => h) (Or.inl ⟨by rfl, ?_⟩) hHeld ?_ ?_
  rotate_left
  · intro w' s_
    first | refine Ow.r1 Ot.ty s_ rfl rfl rfl (by first | ((try simp only [hq.1]) <;> rfl) | fail) | (refine' Ow.r0 Ot.ty s_ rfl rfl rfl ?h; (case h => first | ((try simp only [hq.1]) <;> rfl) | fail)) | (refine' Ow.rp Ot.ty s_ rfl rfl rfl ?h; (case h => first | ((try simp only [hq.1]) <;> rfl) | fail)) | (go_simp; with_reducible rfl)
  rotate_left
  · simp only [Act.put, List.setIfInBounds_toArray, List.set_cons_zero, List.set_cons_succ, i64_w, i32_w]
    rfl
  refine' Ow.pu (i := 5) (N := some 10) (Ow.B 10 63) HT_.out ?hv_ ?ha_ ?_; (case hv_ => intro w'; go_simp; with_reducible rfl); (case ha_ => simp only [Ow.Sl, i64_w, i32_w]; rfl)
  refine join_ (σ := Nat × Nat) 2 (Ow.B 10 255) (fun s_ => [(3, .pointer (some ⟨s_.1, 0, none⟩)), (4, .pointer (some ⟨s_.2, 0, none⟩))]) (fun s_ w' => Ow.Own w w' [(gb108, Q0, 25), (s_.1, #[.int .i64 0, .string (⟨#[]⟩ : ByteArray)], 67), (s_.2, #[.int .i64 0, .string (⟨#[]⟩ : ByteArray)], 67)]) ?_ ?_
  rotate_left
  · intro hCont
    refine two_ (i := 6) (j := 7) (Ni := some 3) (Nj := some 4) (Ow.B 10 127) (Ow.B 10 191) rfl rfl rfl rfl (two_of HT_.out (by kernel_rfl)) (by decide) (by decide) (fun K hK => ?_) (fun K hK => ?_)
    · skip
      refine box_step ?hg (N := 3) ?hd (cs := #[.int .i64 0, .string (⟨#[]⟩ : ByteArray)]) (t := 67) ?hr ?_; (case hd => rfl); (case hg => rfl); (case hr => first | (go_simp; done) | (go_simp; rfl))
      intro gb109 hg w5 hbox hb
      replace HO := Aside0.mk (Ow.Own.add HO.out hg hbox hb)
      clear hb hbox hg
      simp only [List.cons_append, List.nil_append] at HO
      refine hK.out _ _ (by have h_ := Ow.Own.pick [0] HO.out (by decide); first | exact h_ | exact Ow.Own.cong h_ (by first | ((try simp only [hq.1]) <;> rfl) | fail)) (fun hHeld => ?_)
      clear hK K
      refine norm_ (a' := ?_) ?_ ?_
      rotate_left
      · show Act.put _ (some 3) _ = _
        simp only [Act.put, List.setIfInBounds_toArray, List.set_cons_zero, List.set_cons_succ, i64_w, i32_w]
        rfl
      refine one_ (i := 7) (N := some 4) (Ow.B 10 255) rfl rfl (one_of HT_.out (by kernel_rfl)) (by decide) (fun K hK => ?_)
      refine box_step ?hg (N := 4) ?hd (cs := #[.int .i64 0, .string (⟨#[]⟩ : ByteArray)]) (t := 67) ?hr ?_; (case hd => rfl); (case hg => rfl); (case hr => first | (go_simp; done) | (go_simp; rfl))
      intro gb110 hg w6 hbox hb
      replace HO := Aside0.mk (Ow.Own.add HO.out hg hbox hb)
      clear hb hbox hg
      simp only [List.cons_append, List.nil_append] at HO
      refine hK.out _ _ (by have h_ := Ow.Own.pick [0] HO.out (by decide); first | exact h_ | exact Ow.Own.cong h_ (by first | ((try simp only [hq.1]) <;> rfl) | fail)) (fun hHeld => ?_)
      clear hK K
      refine norm_ (a' := ?_) ?_ ?_
      rotate_left
      · show Act.put _ (some 4) _ = _
        simp only [Act.put, List.setIfInBounds_toArray, List.set_cons_zero, List.set_cons_succ, i64_w, i32_w]
        rfl
      exact norm_ (by simp only [putAll, Act.put, List.setIfInBounds_toArray, List.set_cons_zero, List.set_cons_succ]) (hCont (gb109, gb110) _ (Ow.Own.cong (Ow.Own.pick [0, 1, 2] HO.out (by decide)) (by first | ((try simp only [hq.1]) <;> rfl) | fail)))
    · skip
      refine box_step ?hg (N := 4) ?hd (cs := #[.int .i64 0, .string (⟨#[]⟩ : ByteArray)]) (t := 67) ?hr ?_; (case hd => rfl); (case hg => rfl); (case hr => first | (go_simp; done) | (go_simp; rfl))
      intro gb110 hg w5 hbox hb
      replace HO := Aside0.mk (Ow.Own.add HO.out hg hbox hb)
      clear hb hbox hg
      simp only [List.cons_append, List.nil_append] at HO
      refine hK.out _ _ (by have h_ := Ow.Own.pick [0] HO.out (by decide); first | exact h_ | exact Ow.Own.cong h_ (by first | ((try simp only [hq.1]) <;> rfl) | fail)) (fun hHeld => ?_)
      clear hK K
      refine norm_ (a' := ?_) ?_ ?_
      rotate_left
      · show Act.put _ (some 4) _ = _
        simp only [Act.put, List.setIfInBounds_toArray, List.set_cons_zero, List.set_cons_succ, i64_w, i32_w]
        rfl
      refine one_ (i := 6) (N := some 3) (Ow.B 10 255) rfl rfl (one_of HT_.out (by kernel_rfl)) (by decide) (fun K hK => ?_)
      refine box_step ?hg (N := 3) ?hd (cs := #[.int .i64 0, .string (⟨#[]⟩ : ByteArray)]) (t := 67) ?hr ?_; (case hd => rfl); (case hg => rfl); (case hr => first | (go_simp; done) | (go_simp; rfl))
      intro gb109 hg w6 hbox hb
      replace HO := Aside0.mk (Ow.Own.add HO.out hg hbox hb)
      clear hb hbox hg
      simp only [List.cons_append, List.nil_append] at HO
      refine hK.out _ _ (by have h_ := Ow.Own.pick [0] HO.out (by decide); first | exact h_ | exact Ow.Own.cong h_ (by first | ((try simp only [hq.1]) <;> rfl) | fail)) (fun hHeld => ?_)
      clear hK K
      refine norm_ (a' := ?_) ?_ ?_
      rotate_left
      · show Act.put _ (some 3) _ = _
        simp only [Act.put, List.setIfInBounds_toArray, List.set_cons_zero, List.set_cons_succ, i64_w, i32_w]
        rfl
      exact norm_ (by simp only [putAll, Act.put, List.setIfInBounds_toArray, List.set_cons_zero, List.set_cons_succ]) (hCont (gb109, gb110) _ (Ow.Own.cong (Ow.Own.pick [0, 2, 1] HO.out (by decide)) (by first | ((try simp only [hq.1]) <;> rfl) | fail)))
  rintro ⟨gb109, gb110⟩ w7 HO7_
  clear HO
  have HO := Aside0.mk HO7_
  clear HO7_
  have hHeld := Ow.Own.pick [0] HO.out (by decide)
  refine norm_ (a' := ?_) ?_ ?_
  rotate_left
  · simp only [putAll, Act.put, List.setIfInBounds_toArray, List.set_cons_zero, List.set_cons_succ]
    rfl
  refine one_ (i := 8) (N := none) (Ow.B 10 511) rfl rfl (one_of HT_.out (by kernel_rfl)) (by decide) (fun K hK => ?_)
  refine Ow.oskip Ot.ty HO.out (by rfl) rfl rfl rfl rfl (by with_reducible first | exact Ow.at0 | exact Ow.at1 | exact Ow.at2) (by first | exact Ow.ev_tmp rfl | rfl) (by first | ((try simp only [hq.1]) <;> rfl) | fail) (by first | ((try simp only [hq.1]) <;> rfl) | fail) (by first | ((try simp only [hq.1]) <;> rfl) | fail) ?_
  clear HO; intro wz_ HO; simp only [List.set_cons_zero, List.set_cons_succ] at HO
  refine hK.out _ _ (by have h_ := Ow.Own.pick [0] HO.out (by decide); first | exact h_ | exact Ow.Own.cong h_ (by first | ((try simp only [hq.1]) <;> rfl) | fail)) (fun hHeld => ?_)
  clear hK K
  refine one_ (i := 9) (N := none) (Ow.B 10 1023) rfl rfl (one_of HT_.out (by kernel_rfl)) (by decide) (fun K hK => ?_)
  refine Ow.oskip Ot.ty HO.out (by rfl) rfl rfl rfl rfl (by with_reducible first | exact Ow.at0 | exact Ow.at1 | exact Ow.at2) (by first | exact Ow.ev_tmp rfl | rfl) (by first | ((try simp only [hq.1]) <;> rfl) | fail) (by first | ((try simp only [hq.1]) <;> rfl) | fail) (by first | ((try simp only [hq.1]) <;> rfl) | fail) ?_
  clear HO; intro wz_ HO; simp only [List.set_cons_zero, List.set_cons_succ] at HO
  refine hK.out _ _ (by have h_ := Ow.Own.pick [0] HO.out (by decide); first | exact h_ | exact Ow.Own.cong h_ (by first | ((try simp only [hq.1]) <;> rfl) | fail)) (fun hHeld => ?_)
  clear hK K
  refine done_ (done_of HT_.out (by kernel_rfl)) ?_
  go_upto_region 2 with (first | ((with_reducible refine Ow.gate_build rfl ?_); (try (refine gate_guard (by rfl) ?_; dsimp only)); refine' Ow.tbuild Ot.bd rfl rfl rfl ?hf_ ?_; (case hf_ => repeat (any_goals (first | exact Ow.Fills.nil | (refine' Ow.Fills.c ?hv_ rfl ?hz_ ?_; (case hv_ => first | exact Ow.ev_tmp rfl | rfl); (case hz_ => first | (refine ⟨?_, ?_⟩ <;> (first | ((try simp only [hq.1]) <;> rfl) | fail)) | fail)))))) | ((with_reducible refine Ow.gate_load rfl ?_); (try (refine gate_guard (by rfl) ?_; dsimp only)); (first | refine Ow.l1 Ot.ty HO.out rfl rfl rfl rfl (by first | ((try simp only [hq.1]) <;> rfl) | fail) ?_ | refine Ow.l0 Ot.ty HO.out rfl rfl rfl rfl (by first | ((try simp only [hq.1]) <;> rfl) | fail) ?_ | refine Ow.lp Ot.ty HO.out rfl rfl rfl rfl (by first | ((try simp only [hq.1]) <;> rfl) | fail) ?_)) | ((with_reducible refine gate_store rfl ?_); (try (refine gate_guard (by rfl) ?_; dsimp only)); (first | refine Ow.s0 Ot.ty HO.out rfl rfl rfl rfl rfl (by first | exact Ow.ev_tmp rfl | rfl) (by first | (refine ⟨?_, ?_, ?_⟩ <;> (first | ((try simp only [hq.1]) <;> rfl) | fail)) | fail) ?_ | refine Ow.sp Ot.ty HO.out rfl rfl rfl rfl rfl (by first | exact Ow.ev_tmp rfl | rfl) (by first | (refine ⟨?_, ?_, ?_⟩ <;> (first | ((try simp only [hq.1]) <;> rfl) | fail)) | fail) ?_); clear HO; intro wz_ HO; simp only [List.set_cons_zero, List.set_cons_succ] at HO))
  (try simp only [Act.put, List.setIfInBounds_toArray, List.set_cons_zero, List.set_cons_succ])
  go_cut [30] (fun v30 wc => ∃ (kq : Nat) (x30_1 : Bool), v30 = .bool x30_1 ∧ Aside0 (hold_May_p.j0 kq x30_1 a0_0 a0_1 a0_2 a0_3 a0_4 a0_5 a0_6 = some r) ∧ Aside0 (kq ≤ k) ∧ Aside0 (Ow.Own w wc [(gb108, Q0, 25), (gb109, #[.int .i64 1, .string a0_2], 67), (gb110, #[.int .i64 2, .string a0_1], 67)]))
  case first =>
    have H := HC2.out
    clear HC2
    replace H := Option.bind_eq_some_iff.mp H
    obtain ⟨t111, A120, H⟩ := H
    replace H : (if t111 = true then ((chart_May.f 1 a0_2).bind fun t112 => (if t112 = true then ((chart_May.f 2 a0_1).bind fun t113 => (if t113 = true then ((hold_until.f a0_5).bind fun t114 => (hold_May_p.j0 k (!t114) a0_0 a0_1 a0_2 a0_3 a0_4 a0_5 a0_6)) else (hold_May_p.j0 k true a0_0 a0_1 a0_2 a0_3 a0_4 a0_5 a0_6))) else (hold_May_p.j0 k true a0_0 a0_1 a0_2 a0_3 a0_4 a0_5 a0_6))) else (hold_May_p.j0 k true a0_0 a0_1 a0_2 a0_3 a0_4 a0_5 a0_6)) = some r := H
    have A12 := Aside0.mk A120
    clear A120
    by_cases c13 : t111 = true
    · subst c13
      have H1 : ((chart_May.f 1 a0_2).bind fun t112 => (if t112 = true then ((chart_May.f 2 a0_1).bind fun t113 => (if t113 = true then ((hold_until.f a0_5).bind fun t114 => (hold_May_p.j0 k (!t114) a0_0 a0_1 a0_2 a0_3 a0_4 a0_5 a0_6)) else (hold_May_p.j0 k true a0_0 a0_1 a0_2 a0_3 a0_4 a0_5 a0_6))) else (hold_May_p.j0 k true a0_0 a0_1 a0_2 a0_3 a0_4 a0_5 a0_6))) = some r := by rw [if_pos rfl] at H; exact H
      clear H
      have H := H1
      clear H1
      replace H := Option.bind_eq_some_iff.mp H
      obtain ⟨t112, A140, H⟩ := H
      replace H : (if t112 = true then ((chart_May.f 2 a0_1).bind fun t113 => (if t113 = true then ((hold_until.f a0_5).bind fun t114 => (hold_May_p.j0 k (!t114) a0_0 a0_1 a0_2 a0_3 a0_4 a0_5 a0_6)) else (hold_May_p.j0 k true a0_0 a0_1 a0_2 a0_3 a0_4 a0_5 a0_6))) else (hold_May_p.j0 k true a0_0 a0_1 a0_2 a0_3 a0_4 a0_5 a0_6)) = some r := H
      have A14 := Aside0.mk A140
      clear A140
      by_cases c15 : t112 = true
      · subst c15
        have H1 : ((chart_May.f 2 a0_1).bind fun t113 => (if t113 = true then ((hold_until.f a0_5).bind fun t114 => (hold_May_p.j0 k (!t114) a0_0 a0_1 a0_2 a0_3 a0_4 a0_5 a0_6)) else (hold_May_p.j0 k true a0_0 a0_1 a0_2 a0_3 a0_4 a0_5 a0_6))) = some r := by rw [if_pos rfl] at H; exact H
        clear H
        have H := H1
        clear H1
        replace H := Option.bind_eq_some_iff.mp H
        obtain ⟨t113, A160, H⟩ := H
        replace H : (if t113 = true then ((hold_until.f a0_5).bind fun t114 => (hold_May_p.j0 k (!t114) a0_0 a0_1 a0_2 a0_3 a0_4 a0_5 a0_6)) else (hold_May_p.j0 k true a0_0 a0_1 a0_2 a0_3 a0_4 a0_5 a0_6)) = some r := H
        have A16 := Aside0.mk A160
        clear A160
        by_cases c17 : t113 = true
        · subst c17
          have H1 : ((hold_until.f a0_5).bind fun t114 => (hold_May_p.j0 k (!t114) a0_0 a0_1 a0_2 a0_3 a0_4 a0_5 a0_6)) = some r := by rw [if_pos rfl] at H; exact H
          clear H
          have H := H1
          clear H1
          replace H := Option.bind_eq_some_iff.mp H
          obtain ⟨t114, A180, H⟩ := H
          replace H : (hold_May_p.j0 k (!t114) a0_0 a0_1 a0_2 a0_3 a0_4 a0_5 a0_6) = some r := H
          have A18 := Aside0.mk A180
          clear A180
          have H' := Aside0.mk H
          clear H
          go_wp2_with (first | ((with_reducible refine gate_callee (f := 27) rfl ?_); refine goesL_ (some 13) rfl rfl Try.func27 (by kernel_rfl) rfl #[.string a0_0] rfl (by (try simp only [List.map_toArray, List.map_cons, List.map_nil]); first | done | rfl | (simp only [hq.1]; done) | (simp only [hq.1]; rfl)) ?_; refine Calls.mono (calls_of_args (by first | ((try simp only [hq.1]) <;> rfl) | fail) (hold_Ref.calls a0_0 true _ A12.out)) ?_; rintro e w' ⟨he_, ⟨nd, rfl⟩⟩; subst he_; refine ⟨_, rfl, ?_⟩; replace HO := Aside0.mk (Ow.Own.drewN HO.out nd); (try simp only [World.drewN_drewN] at HO)) | (go_at_call 26; refine Calls.mono (calls_of_args (by first | ((try simp only [hq.1]) <;> rfl) | fail) (chart_May.calls 1 a0_2 true _ A14.out)) ?_; rintro e w24 ⟨he_, hb⟩; subst he_; replace HO := Aside0.mk (Ow.Own.call HO.out hb); clear hb) | (go_at_call 26; refine Calls.mono (calls_of_args (by first | ((try simp only [hq.1]) <;> rfl) | fail) (chart_May.calls 2 a0_1 true _ A16.out)) ?_; rintro e w26 ⟨he_, hb⟩; subst he_; replace HO := Aside0.mk (Ow.Own.call HO.out hb); clear hb) | (go_at_call 29; refine Calls.mono (calls_of_args (by first | ((try simp only [hq.1]) <;> rfl) | fail) (hold_until.calls a0_5 t114 _ A18.out)) ?_; rintro e w' ⟨he_, ⟨nd, rfl⟩⟩; subst he_; replace HO := Aside0.mk (Ow.Own.drewN HO.out nd); (try simp only [World.drewN_drewN] at HO)) | ((with_reducible refine Ow.gate_build rfl ?_); (try (refine gate_guard (by rfl) ?_; dsimp only)); refine' Ow.tbuild Ot.bd rfl rfl rfl ?hf_ ?_; (case hf_ => repeat (any_goals (first | exact Ow.Fills.nil | (refine' Ow.Fills.c ?hv_ rfl ?hz_ ?_; (case hv_ => first | exact Ow.ev_tmp rfl | rfl); (case hz_ => first | (refine ⟨?_, ?_⟩ <;> (first | ((try simp only [hq.1]) <;> rfl) | fail)) | fail)))))) | ((with_reducible refine Ow.gate_load rfl ?_); (try (refine gate_guard (by rfl) ?_; dsimp only)); (first | refine Ow.l1 Ot.ty HO.out rfl rfl rfl rfl (by first | ((try simp only [hq.1]) <;> rfl) | fail) ?_ | refine Ow.l0 Ot.ty HO.out rfl rfl rfl rfl (by first | ((try simp only [hq.1]) <;> rfl) | fail) ?_ | refine Ow.lp Ot.ty HO.out rfl rfl rfl rfl (by first | ((try simp only [hq.1]) <;> rfl) | fail) ?_)) | ((with_reducible refine gate_store rfl ?_); (try (refine gate_guard (by rfl) ?_; dsimp only)); (first | refine Ow.s0 Ot.ty HO.out rfl rfl rfl rfl rfl (by first | exact Ow.ev_tmp rfl | rfl) (by first | (refine ⟨?_, ?_, ?_⟩ <;> (first | ((try simp only [hq.1]) <;> rfl) | fail)) | fail) ?_ | refine Ow.sp Ot.ty HO.out rfl rfl rfl rfl rfl (by first | exact Ow.ev_tmp rfl | rfl) (by first | (refine ⟨?_, ?_, ?_⟩ <;> (first | ((try simp only [hq.1]) <;> rfl) | fail)) | fail) ?_); clear HO; intro wz_ HO; simp only [List.set_cons_zero, List.set_cons_succ] at HO))
          go_meet
          case rel => exact ⟨_, (!t114), (by first | rfl | (simp; done) | (simp [*]; done) | (simp [Pu.bne_nil, Pu.beq_nil]; done)), H', ⟨by first | omega | exact Nat.le_refl _⟩, ⟨Ow.Own.cong (by first | exact HO.out | (have h_ := HO.out; simp only [World.drewN_drewN] at h_; exact h_)) (by first | ((try simp only [hq.1]) <;> rfl) | fail)⟩⟩
        · replace c17 := Bool.eq_false_iff.mpr c17
          subst c17
          have H1 : (hold_May_p.j0 k true a0_0 a0_1 a0_2 a0_3 a0_4 a0_5 a0_6) = some r := by rw [if_neg (show ¬ (false = true) by decide)] at H; exact H
          clear H
          have H := H1
          clear H1
          have H' := Aside0.mk H
          clear H
          go_wp2_with (first | ((with_reducible refine gate_callee (f := 27) rfl ?_); refine goesL_ (some 13) rfl rfl Try.func27 (by kernel_rfl) rfl #[.string a0_0] rfl (by (try simp only [List.map_toArray, List.map_cons, List.map_nil]); first | done | rfl | (simp only [hq.1]; done) | (simp only [hq.1]; rfl)) ?_; refine Calls.mono (calls_of_args (by first | ((try simp only [hq.1]) <;> rfl) | fail) (hold_Ref.calls a0_0 true _ A12.out)) ?_; rintro e w' ⟨he_, ⟨nd, rfl⟩⟩; subst he_; refine ⟨_, rfl, ?_⟩; replace HO := Aside0.mk (Ow.Own.drewN HO.out nd); (try simp only [World.drewN_drewN] at HO)) | (go_at_call 26; refine Calls.mono (calls_of_args (by first | ((try simp only [hq.1]) <;> rfl) | fail) (chart_May.calls 1 a0_2 true _ A14.out)) ?_; rintro e w33 ⟨he_, hb⟩; subst he_; replace HO := Aside0.mk (Ow.Own.call HO.out hb); clear hb) | (go_at_call 26; refine Calls.mono (calls_of_args (by first | ((try simp only [hq.1]) <;> rfl) | fail) (chart_May.calls 2 a0_1 false _ A16.out)) ?_; rintro e w35 ⟨he_, hb⟩; subst he_; replace HO := Aside0.mk (Ow.Own.call HO.out hb); clear hb) | ((with_reducible refine Ow.gate_build rfl ?_); (try (refine gate_guard (by rfl) ?_; dsimp only)); refine' Ow.tbuild Ot.bd rfl rfl rfl ?hf_ ?_; (case hf_ => repeat (any_goals (first | exact Ow.Fills.nil | (refine' Ow.Fills.c ?hv_ rfl ?hz_ ?_; (case hv_ => first | exact Ow.ev_tmp rfl | rfl); (case hz_ => first | (refine ⟨?_, ?_⟩ <;> (first | ((try simp only [hq.1]) <;> rfl) | fail)) | fail)))))) | ((with_reducible refine Ow.gate_load rfl ?_); (try (refine gate_guard (by rfl) ?_; dsimp only)); (first | refine Ow.l1 Ot.ty HO.out rfl rfl rfl rfl (by first | ((try simp only [hq.1]) <;> rfl) | fail) ?_ | refine Ow.l0 Ot.ty HO.out rfl rfl rfl rfl (by first | ((try simp only [hq.1]) <;> rfl) | fail) ?_ | refine Ow.lp Ot.ty HO.out rfl rfl rfl rfl (by first | ((try simp only [hq.1]) <;> rfl) | fail) ?_)) | ((with_reducible refine gate_store rfl ?_); (try (refine gate_guard (by rfl) ?_; dsimp only)); (first | refine Ow.s0 Ot.ty HO.out rfl rfl rfl rfl rfl (by first | exact Ow.ev_tmp rfl | rfl) (by first | (refine ⟨?_, ?_, ?_⟩ <;> (first | ((try simp only [hq.1]) <;> rfl) | fail)) | fail) ?_ | refine Ow.sp Ot.ty HO.out rfl rfl rfl rfl rfl (by first | exact Ow.ev_tmp rfl | rfl) (by first | (refine ⟨?_, ?_, ?_⟩ <;> (first | ((try simp only [hq.1]) <;> rfl) | fail)) | fail) ?_); clear HO; intro wz_ HO; simp only [List.set_cons_zero, List.set_cons_succ] at HO))
          go_meet
          case rel => exact ⟨_, (true), (by first | rfl | (simp; done) | (simp [*]; done) | (simp [Pu.bne_nil, Pu.beq_nil]; done)), H', ⟨by first | omega | exact Nat.le_refl _⟩, ⟨Ow.Own.cong (by first | exact HO.out | (have h_ := HO.out; simp only [World.drewN_drewN] at h_; exact h_)) (by first | ((try simp only [hq.1]) <;> rfl) | fail)⟩⟩
      · replace c15 := Bool.eq_false_iff.mpr c15
        subst c15
        have H1 : (hold_May_p.j0 k true a0_0 a0_1 a0_2 a0_3 a0_4 a0_5 a0_6) = some r := by rw [if_neg (show ¬ (false = true) by decide)] at H; exact H
        clear H
        have H := H1
        clear H1
        have H' := Aside0.mk H
        clear H
        go_wp2_with (first | ((with_reducible refine gate_callee (f := 27) rfl ?_); refine goesL_ (some 13) rfl rfl Try.func27 (by kernel_rfl) rfl #[.string a0_0] rfl (by (try simp only [List.map_toArray, List.map_cons, List.map_nil]); first | done | rfl | (simp only [hq.1]; done) | (simp only [hq.1]; rfl)) ?_; refine Calls.mono (calls_of_args (by first | ((try simp only [hq.1]) <;> rfl) | fail) (hold_Ref.calls a0_0 true _ A12.out)) ?_; rintro e w' ⟨he_, ⟨nd, rfl⟩⟩; subst he_; refine ⟨_, rfl, ?_⟩; replace HO := Aside0.mk (Ow.Own.drewN HO.out nd); (try simp only [World.drewN_drewN] at HO)) | (go_at_call 26; refine Calls.mono (calls_of_args (by first | ((try simp only [hq.1]) <;> rfl) | fail) (chart_May.calls 1 a0_2 false _ A14.out)) ?_; rintro e w41 ⟨he_, hb⟩; subst he_; replace HO := Aside0.mk (Ow.Own.call HO.out hb); clear hb) | ((with_reducible refine Ow.gate_build rfl ?_); (try (refine gate_guard (by rfl) ?_; dsimp only)); refine' Ow.tbuild Ot.bd rfl rfl rfl ?hf_ ?_; (case hf_ => repeat (any_goals (first | exact Ow.Fills.nil | (refine' Ow.Fills.c ?hv_ rfl ?hz_ ?_; (case hv_ => first | exact Ow.ev_tmp rfl | rfl); (case hz_ => first | (refine ⟨?_, ?_⟩ <;> (first | ((try simp only [hq.1]) <;> rfl) | fail)) | fail)))))) | ((with_reducible refine Ow.gate_load rfl ?_); (try (refine gate_guard (by rfl) ?_; dsimp only)); (first | refine Ow.l1 Ot.ty HO.out rfl rfl rfl rfl (by first | ((try simp only [hq.1]) <;> rfl) | fail) ?_ | refine Ow.l0 Ot.ty HO.out rfl rfl rfl rfl (by first | ((try simp only [hq.1]) <;> rfl) | fail) ?_ | refine Ow.lp Ot.ty HO.out rfl rfl rfl rfl (by first | ((try simp only [hq.1]) <;> rfl) | fail) ?_)) | ((with_reducible refine gate_store rfl ?_); (try (refine gate_guard (by rfl) ?_; dsimp only)); (first | refine Ow.s0 Ot.ty HO.out rfl rfl rfl rfl rfl (by first | exact Ow.ev_tmp rfl | rfl) (by first | (refine ⟨?_, ?_, ?_⟩ <;> (first | ((try simp only [hq.1]) <;> rfl) | fail)) | fail) ?_ | refine Ow.sp Ot.ty HO.out rfl rfl rfl rfl rfl (by first | exact Ow.ev_tmp rfl | rfl) (by first | (refine ⟨?_, ?_, ?_⟩ <;> (first | ((try simp only [hq.1]) <;> rfl) | fail)) | fail) ?_); clear HO; intro wz_ HO; simp only [List.set_cons_zero, List.set_cons_succ] at HO))
        go_meet
        case rel => exact ⟨_, (true), (by first | rfl | (simp; done) | (simp [*]; done) | (simp [Pu.bne_nil, Pu.beq_nil]; done)), H', ⟨by first | omega | exact Nat.le_refl _⟩, ⟨Ow.Own.cong (by first | exact HO.out | (have h_ := HO.out; simp only [World.drewN_drewN] at h_; exact h_)) (by first | ((try simp only [hq.1]) <;> rfl) | fail)⟩⟩
    · replace c13 := Bool.eq_false_iff.mpr c13
      subst c13
      have H1 : (hold_May_p.j0 k true a0_0 a0_1 a0_2 a0_3 a0_4 a0_5 a0_6) = some r := by rw [if_neg (show ¬ (false = true) by decide)] at H; exact H
      clear H
      have H := H1
      clear H1
      have H' := Aside0.mk H
      clear H
      go_wp2_with (first | ((with_reducible refine gate_callee (f := 27) rfl ?_); refine goesL_ (some 13) rfl rfl Try.func27 (by kernel_rfl) rfl #[.string a0_0] rfl (by (try simp only [List.map_toArray, List.map_cons, List.map_nil]); first | done | rfl | (simp only [hq.1]; done) | (simp only [hq.1]; rfl)) ?_; refine Calls.mono (calls_of_args (by first | ((try simp only [hq.1]) <;> rfl) | fail) (hold_Ref.calls a0_0 false _ A12.out)) ?_; rintro e w' ⟨he_, ⟨nd, rfl⟩⟩; subst he_; refine ⟨_, rfl, ?_⟩; replace HO := Aside0.mk (Ow.Own.drewN HO.out nd); (try simp only [World.drewN_drewN] at HO)) | ((with_reducible refine Ow.gate_build rfl ?_); (try (refine gate_guard (by rfl) ?_; dsimp only)); refine' Ow.tbuild Ot.bd rfl rfl rfl ?hf_ ?_; (case hf_ => repeat (any_goals (first | exact Ow.Fills.nil | (refine' Ow.Fills.c ?hv_ rfl ?hz_ ?_; (case hv_ => first | exact Ow.ev_tmp rfl | rfl); (case hz_ => first | (refine ⟨?_, ?_⟩ <;> (first | ((try simp only [hq.1]) <;> rfl) | fail)) | fail)))))) | ((with_reducible refine Ow.gate_load rfl ?_); (try (refine gate_guard (by rfl) ?_; dsimp only)); (first | refine Ow.l1 Ot.ty HO.out rfl rfl rfl rfl (by first | ((try simp only [hq.1]) <;> rfl) | fail) ?_ | refine Ow.l0 Ot.ty HO.out rfl rfl rfl rfl (by first | ((try simp only [hq.1]) <;> rfl) | fail) ?_ | refine Ow.lp Ot.ty HO.out rfl rfl rfl rfl (by first | ((try simp only [hq.1]) <;> rfl) | fail) ?_)) | ((with_reducible refine gate_store rfl ?_); (try (refine gate_guard (by rfl) ?_; dsimp only)); (first | refine Ow.s0 Ot.ty HO.out rfl rfl rfl rfl rfl (by first | exact Ow.ev_tmp rfl | rfl) (by first | (refine ⟨?_, ?_, ?_⟩ <;> (first | ((try simp only [hq.1]) <;> rfl) | fail)) | fail) ?_ | refine Ow.sp Ot.ty HO.out rfl rfl rfl rfl rfl (by first | exact Ow.ev_tmp rfl | rfl) (by first | (refine ⟨?_, ?_, ?_⟩ <;> (first | ((try simp only [hq.1]) <;> rfl) | fail)) | fail) ?_); clear HO; intro wz_ HO; simp only [List.set_cons_zero, List.set_cons_succ] at HO))
      go_meet
      case rel => exact ⟨_, (true), (by first | rfl | (simp; done) | (simp [*]; done) | (simp [Pu.bne_nil, Pu.beq_nil]; done)), H', ⟨by first | omega | exact Nat.le_refl _⟩, ⟨Ow.Own.cong (by first | exact HO.out | (have h_ := HO.out; simp only [World.drewN_drewN] at h_; exact h_)) (by first | ((try simp only [hq.1]) <;> rfl) | fail)⟩⟩
  case rest =>
    clear HC2
    try clear c1
    try clear c2
    try clear p2
    try clear c3
    try clear c4
    try clear c13
    try clear c15
    try clear c16
    try clear c17
    try clear c19
    try clear c20
    try clear c22
    try clear c27
    try clear c28
    try clear c29
    try clear c31
    try clear c36
    try clear c37
    try clear c39
    try clear c42
    try clear c43
    try clear hcz21_0
    try clear hcz23_0
    try clear hcz25_0
    try clear hcz27_0
    try clear hcz30_0
    try clear hcz32_0
    try clear hcz34_0
    try clear hcz38_0
    try clear hcz40_0
    try clear hcz44_0
    try clear hfz21_0
    try clear hfz23_0
    try clear hfz25_0
    try clear hfz27_0
    try clear hfz30_0
    try clear hfz32_0
    try clear hfz34_0
    try clear hfz38_0
    try clear hfz40_0
    try clear hfz44_0
    clear HO
    obtain ⟨kq, x30_1, rfl, HA, HJ1, HO⟩ := hcut
    cases kq with
    | zero => exact absurd HA.out (by simp [hold_May_p.j0])
    | succ kj1 =>
      have H := HA.out
      clear HA
      simp only [hold_May_p.j0] at H
      by_cases c45 : x30_1 = true
      · subst c45
        have H1 : (some false) = some r := by rw [if_pos rfl] at H; exact H
        clear H
        have H := H1
        clear H1
        obtain rfl := Option.some.inj H
        go_wp2_with (first | ((with_reducible refine Ow.gate_build rfl ?_); (try (refine gate_guard (by rfl) ?_; dsimp only)); refine' Ow.tbuild Ot.bd rfl rfl rfl ?hf_ ?_; (case hf_ => repeat (any_goals (first | exact Ow.Fills.nil | (refine' Ow.Fills.c ?hv_ rfl ?hz_ ?_; (case hv_ => first | exact Ow.ev_tmp rfl | rfl); (case hz_ => first | (refine ⟨?_, ?_⟩ <;> (first | ((try simp only [hq.1]) <;> rfl) | fail)) | fail)))))) | ((with_reducible refine Ow.gate_load rfl ?_); (try (refine gate_guard (by rfl) ?_; dsimp only)); (first | refine Ow.l1 Ot.ty HO.out rfl rfl rfl rfl (by first | ((try simp only [hq.1]) <;> rfl) | fail) ?_ | refine Ow.l0 Ot.ty HO.out rfl rfl rfl rfl (by first | ((try simp only [hq.1]) <;> rfl) | fail) ?_ | refine Ow.lp Ot.ty HO.out rfl rfl rfl rfl (by first | ((try simp only [hq.1]) <;> rfl) | fail) ?_)) | ((with_reducible refine gate_store rfl ?_); (try (refine gate_guard (by rfl) ?_; dsimp only)); (first | refine Ow.s0 Ot.ty HO.out rfl rfl rfl rfl rfl (by first | exact Ow.ev_tmp rfl | rfl) (by first | (refine ⟨?_, ?_, ?_⟩ <;> (first | ((try simp only [hq.1]) <;> rfl) | fail)) | fail) ?_ | refine Ow.sp Ot.ty HO.out rfl rfl rfl rfl rfl (by first | exact Ow.ev_tmp rfl | rfl) (by first | (refine ⟨?_, ?_, ?_⟩ <;> (first | ((try simp only [hq.1]) <;> rfl) | fail)) | fail) ?_); clear HO; intro wz_ HO; simp only [List.set_cons_zero, List.set_cons_succ] at HO))
        all_goals go_ret
        all_goals exact ⟨by first | rfl | (simp only [hq.1]; done) | (simp only [hq.1]; rfl) | (simp [errW_none, errW_some] <;> rfl) | (simp [*, errW_none, errW_some] <;> rfl), Ow.Own.below HO.out⟩
      · replace c45 := Bool.eq_false_iff.mpr c45
        subst c45
        have H1 : (if a0_4 ≥ 0 then (if a0_4 ≤ a0_3 then (if a0_6 = true then (some (decide (a0_4 < a0_3))) else (some true)) else (some false)) else (some false)) = some r := by rw [if_neg (show ¬ (false = true) by decide)] at H; exact H
        clear H
        have H := H1
        clear H1
        by_cases c46 : a0_4 ≥ 0
        · rw [if_pos c46] at H
          have c46b0 : decide (0 ≤ a0_4) = true := decide_eq_true c46
          clear c46
          by_cases c47 : a0_4 ≤ a0_3
          · rw [if_pos c47] at H
            have c47b0 : decide (a0_4 ≤ a0_3) = true := decide_eq_true c47
            clear c47
            by_cases c48 : a0_6 = true
            · subst c48
              have H1 : (some (decide (a0_4 < a0_3))) = some r := by rw [if_pos rfl] at H; exact H
              clear H
              have H := H1
              clear H1
              obtain rfl := Option.some.inj H
              go_wp2_with (first | ((with_reducible refine Ow.gate_build rfl ?_); (try (refine gate_guard (by rfl) ?_; dsimp only)); refine' Ow.tbuild Ot.bd rfl rfl rfl ?hf_ ?_; (case hf_ => repeat (any_goals (first | exact Ow.Fills.nil | (refine' Ow.Fills.c ?hv_ rfl ?hz_ ?_; (case hv_ => first | exact Ow.ev_tmp rfl | rfl); (case hz_ => first | (refine ⟨?_, ?_⟩ <;> (first | ((try simp only [hq.1]) <;> rfl) | fail)) | fail)))))) | ((with_reducible refine Ow.gate_load rfl ?_); (try (refine gate_guard (by rfl) ?_; dsimp only)); (first | refine Ow.l1 Ot.ty HO.out rfl rfl rfl rfl (by first | ((try simp only [hq.1]) <;> rfl) | fail) ?_ | refine Ow.l0 Ot.ty HO.out rfl rfl rfl rfl (by first | ((try simp only [hq.1]) <;> rfl) | fail) ?_ | refine Ow.lp Ot.ty HO.out rfl rfl rfl rfl (by first | ((try simp only [hq.1]) <;> rfl) | fail) ?_)) | ((with_reducible refine gate_store rfl ?_); (try (refine gate_guard (by rfl) ?_; dsimp only)); (first | refine Ow.s0 Ot.ty HO.out rfl rfl rfl rfl rfl (by first | exact Ow.ev_tmp rfl | rfl) (by first | (refine ⟨?_, ?_, ?_⟩ <;> (first | ((try simp only [hq.1]) <;> rfl) | fail)) | fail) ?_ | refine Ow.sp Ot.ty HO.out rfl rfl rfl rfl rfl (by first | exact Ow.ev_tmp rfl | rfl) (by first | (refine ⟨?_, ?_, ?_⟩ <;> (first | ((try simp only [hq.1]) <;> rfl) | fail)) | fail) ?_); clear HO; intro wz_ HO; simp only [List.set_cons_zero, List.set_cons_succ] at HO))
              all_goals go_ret
              all_goals exact ⟨by first | rfl | (simp only [hq.1]; done) | (simp only [hq.1]; rfl) | (simp [errW_none, errW_some] <;> rfl) | (simp [*, errW_none, errW_some] <;> rfl), Ow.Own.below HO.out⟩
            · replace c48 := Bool.eq_false_iff.mpr c48
              subst c48
              have H1 : (some true) = some r := by rw [if_neg (show ¬ (false = true) by decide)] at H; exact H
              clear H
              have H := H1
              clear H1
              obtain rfl := Option.some.inj H
              go_wp2_with (first | ((with_reducible refine Ow.gate_build rfl ?_); (try (refine gate_guard (by rfl) ?_; dsimp only)); refine' Ow.tbuild Ot.bd rfl rfl rfl ?hf_ ?_; (case hf_ => repeat (any_goals (first | exact Ow.Fills.nil | (refine' Ow.Fills.c ?hv_ rfl ?hz_ ?_; (case hv_ => first | exact Ow.ev_tmp rfl | rfl); (case hz_ => first | (refine ⟨?_, ?_⟩ <;> (first | ((try simp only [hq.1]) <;> rfl) | fail)) | fail)))))) | ((with_reducible refine Ow.gate_load rfl ?_); (try (refine gate_guard (by rfl) ?_; dsimp only)); (first | refine Ow.l1 Ot.ty HO.out rfl rfl rfl rfl (by first | ((try simp only [hq.1]) <;> rfl) | fail) ?_ | refine Ow.l0 Ot.ty HO.out rfl rfl rfl rfl (by first | ((try simp only [hq.1]) <;> rfl) | fail) ?_ | refine Ow.lp Ot.ty HO.out rfl rfl rfl rfl (by first | ((try simp only [hq.1]) <;> rfl) | fail) ?_)) | ((with_reducible refine gate_store rfl ?_); (try (refine gate_guard (by rfl) ?_; dsimp only)); (first | refine Ow.s0 Ot.ty HO.out rfl rfl rfl rfl rfl (by first | exact Ow.ev_tmp rfl | rfl) (by first | (refine ⟨?_, ?_, ?_⟩ <;> (first | ((try simp only [hq.1]) <;> rfl) | fail)) | fail) ?_ | refine Ow.sp Ot.ty HO.out rfl rfl rfl rfl rfl (by first | exact Ow.ev_tmp rfl | rfl) (by first | (refine ⟨?_, ?_, ?_⟩ <;> (first | ((try simp only [hq.1]) <;> rfl) | fail)) | fail) ?_); clear HO; intro wz_ HO; simp only [List.set_cons_zero, List.set_cons_succ] at HO))
              all_goals go_ret
              all_goals exact ⟨by first | rfl | (simp only [hq.1]; done) | (simp only [hq.1]; rfl) | (simp [errW_none, errW_some] <;> rfl) | (simp [*, errW_none, errW_some] <;> rfl), Ow.Own.below HO.out⟩
          · rw [if_neg c47] at H
            have c47b0 : decide (a0_4 ≤ a0_3) = false := decide_eq_false c47
            clear c47
            obtain rfl := Option.some.inj H
            go_wp2_with (first | ((with_reducible refine Ow.gate_build rfl ?_); (try (refine gate_guard (by rfl) ?_; dsimp only)); refine' Ow.tbuild Ot.bd rfl rfl rfl ?hf_ ?_; (case hf_ => repeat (any_goals (first | exact Ow.Fills.nil | (refine' Ow.Fills.c ?hv_ rfl ?hz_ ?_; (case hv_ => first | exact Ow.ev_tmp rfl | rfl); (case hz_ => first | (refine ⟨?_, ?_⟩ <;> (first | ((try simp only [hq.1]) <;> rfl) | fail)) | fail)))))) | ((with_reducible refine Ow.gate_load rfl ?_); (try (refine gate_guard (by rfl) ?_; dsimp only)); (first | refine Ow.l1 Ot.ty HO.out rfl rfl rfl rfl (by first | ((try simp only [hq.1]) <;> rfl) | fail) ?_ | refine Ow.l0 Ot.ty HO.out rfl rfl rfl rfl (by first | ((try simp only [hq.1]) <;> rfl) | fail) ?_ | refine Ow.lp Ot.ty HO.out rfl rfl rfl rfl (by first | ((try simp only [hq.1]) <;> rfl) | fail) ?_)) | ((with_reducible refine gate_store rfl ?_); (try (refine gate_guard (by rfl) ?_; dsimp only)); (first | refine Ow.s0 Ot.ty HO.out rfl rfl rfl rfl rfl (by first | exact Ow.ev_tmp rfl | rfl) (by first | (refine ⟨?_, ?_, ?_⟩ <;> (first | ((try simp only [hq.1]) <;> rfl) | fail)) | fail) ?_ | refine Ow.sp Ot.ty HO.out rfl rfl rfl rfl rfl (by first | exact Ow.ev_tmp rfl | rfl) (by first | (refine ⟨?_, ?_, ?_⟩ <;> (first | ((try simp only [hq.1]) <;> rfl) | fail)) | fail) ?_); clear HO; intro wz_ HO; simp only [List.set_cons_zero, List.set_cons_succ] at HO))
            all_goals go_ret
            all_goals exact ⟨by first | rfl | (simp only [hq.1]; done) | (simp only [hq.1]; rfl) | (simp [errW_none, errW_some] <;> rfl) | (simp [*, errW_none, errW_some] <;> rfl), Ow.Own.below HO.out⟩
        · rw [if_neg c46] at H
          have c46b0 : decide (0 ≤ a0_4) = false := decide_eq_false c46
          clear c46
          obtain rfl := Option.some.inj H
          go_wp2_with (first | ((with_reducible refine Ow.gate_build rfl ?_); (try (refine gate_guard (by rfl) ?_; dsimp only)); refine' Ow.tbuild Ot.bd rfl rfl rfl ?hf_ ?_; (case hf_ => repeat (any_goals (first | exact Ow.Fills.nil | (refine' Ow.Fills.c ?hv_ rfl ?hz_ ?_; (case hv_ => first | exact Ow.ev_tmp rfl | rfl); (case hz_ => first | (refine ⟨?_, ?_⟩ <;> (first | ((try simp only [hq.1]) <;> rfl) | fail)) | fail)))))) | ((with_reducible refine Ow.gate_load rfl ?_); (try (refine gate_guard (by rfl) ?_; dsimp only)); (first | refine Ow.l1 Ot.ty HO.out rfl rfl rfl rfl (by first | ((try simp only [hq.1]) <;> rfl) | fail) ?_ | refine Ow.l0 Ot.ty HO.out rfl rfl rfl rfl (by first | ((try simp only [hq.1]) <;> rfl) | fail) ?_ | refine Ow.lp Ot.ty HO.out rfl rfl rfl rfl (by first | ((try simp only [hq.1]) <;> rfl) | fail) ?_)) | ((with_reducible refine gate_store rfl ?_); (try (refine gate_guard (by rfl) ?_; dsimp only)); (first | refine Ow.s0 Ot.ty HO.out rfl rfl rfl rfl rfl (by first | exact Ow.ev_tmp rfl | rfl) (by first | (refine ⟨?_, ?_, ?_⟩ <;> (first | ((try simp only [hq.1]) <;> rfl) | fail)) | fail) ?_ | refine Ow.sp Ot.ty HO.out rfl rfl rfl rfl rfl (by first | exact Ow.ev_tmp rfl | rfl) (by first | (refine ⟨?_, ?_, ?_⟩ <;> (first | ((try simp only [hq.1]) <;> rfl) | fail)) | fail) ?_); clear HO; intro wz_ HO; simp only [List.set_cons_zero, List.set_cons_succ] at HO))
          all_goals go_ret
          all_goals exact ⟨by first | rfl | (simp only [hq.1]; done) | (simp only [hq.1]; rfl) | (simp [errW_none, errW_some] <;> rfl) | (simp [*, errW_none, errW_some] <;> rfl), Ow.Own.below HO.out⟩

end Go.Proofs.Ytmdpomilhejbcaa.XDC
