-- Written by wip/xprint.py, a session's program: printed out of the translation, with hand-written functions. Lean checks it.
import Derived.Test.YtmdpomilhejbcaaXAE0
import Derived.Test.YtmdpomilhejbcaaXAE3
import Derived.Test.YtmdpomilhejbcaaXAE4
import Derived.Test.YtmdpomilhejbcaaXAE6
namespace Go.Proofs.Ytmdpomilhejbcaa.XAE
open Go.RowKit Go.Proofs.YtmdpomilhejbcaaW.PrintWords Go.Proofs.YtmdpomilhejbcaaW.PrintLast Go.Proofs.YtmdpomilhejbcaaW.PrintMore
attribute [local go_sem] max2_int min2_int max_two min_two max_three min_three max_four min_four   -- for this text's walks alone
set_option linter.unusedVariables false
set_option linter.unusedSimpArgs false

/-! ### auth_May: function 11 -/
def auth_May.j0 : Nat → Bool → ByteArray → ByteArray → ByteArray → Int → ByteArray → ByteArray → ByteArray → ByteArray → ByteArray → Int → Int → ByteArray → Bool → Int → ByteArray → ByteArray → ByteArray → Int → Int → Int → Bool → Bool → Int → Int → Bool → Option (Bool)
  | 0, _, _, _, _, _, _, _, _, _, _, _, _, _, _, _, _, _, _, _, _, _, _, _, _, _, _ => none
  | k + 1, x43, x114000, x114001, x114002, x114003, x114004, x114005, x114006, x114007, x114008, x114009, x114010, x114011, x114012, x114013, x114014, x114015, x114016, x114017, x114018, x114019, x114020, x114021, x114022, x114023, x114024 => if x43 = true then (some false) else (if x114021 = true then ((hold_May.f x114014 x114015 x114016 x114017 x114018 x114019 x114020).bind fun t119 => (if t119 = true then (if x114014.toList = x114007.toList then (some (x114015.toList == x114006.toList)) else (some false)) else (some false))) else (some true))
def auth_May.f (k : Nat) (a0_0 : ByteArray) (a0_1 : ByteArray) (a0_2 : ByteArray) (a0_3 : Int) (a0_4 : ByteArray) (a0_5 : ByteArray) (a0_6 : ByteArray) (a0_7 : ByteArray) (a0_8 : ByteArray) (a0_9 : Int) (a0_10 : Int) (a0_11 : ByteArray) (a0_12 : Bool) (a0_13 : Int) (a0_14 : ByteArray) (a0_15 : ByteArray) (a0_16 : ByteArray) (a0_17 : Int) (a0_18 : Int) (a0_19 : Int) (a0_20 : Bool) (a0_21 : Bool) (a0_22 : Int) (a0_23 : Int) (a0_24 : Bool) : Option (Bool) := (chart_May.f 1 a0_1).bind fun t116 => (if t116 = true then ((chart_May.f 2 a0_6).bind fun t117 => (if t117 = true then ((hold_Ref.f a0_7).bind fun t118 => (if t118 = true then (if a0_3 < 1 then (auth_May.j0 k true a0_0 a0_1 a0_2 a0_3 a0_4 a0_5 a0_6 a0_7 a0_8 a0_9 a0_10 a0_11 a0_12 a0_13 a0_14 a0_15 a0_16 a0_17 a0_18 a0_19 a0_20 a0_21 a0_22 a0_23 a0_24) else (if a0_22 < 0 then (auth_May.j0 k true a0_0 a0_1 a0_2 a0_3 a0_4 a0_5 a0_6 a0_7 a0_8 a0_9 a0_10 a0_11 a0_12 a0_13 a0_14 a0_15 a0_16 a0_17 a0_18 a0_19 a0_20 a0_21 a0_22 a0_23 a0_24) else (auth_May.j0 k (decide (a0_22 > 2147483547)) a0_0 a0_1 a0_2 a0_3 a0_4 a0_5 a0_6 a0_7 a0_8 a0_9 a0_10 a0_11 a0_12 a0_13 a0_14 a0_15 a0_16 a0_17 a0_18 a0_19 a0_20 a0_21 a0_22 a0_23 a0_24))) else (auth_May.j0 k true a0_0 a0_1 a0_2 a0_3 a0_4 a0_5 a0_6 a0_7 a0_8 a0_9 a0_10 a0_11 a0_12 a0_13 a0_14 a0_15 a0_16 a0_17 a0_18 a0_19 a0_20 a0_21 a0_22 a0_23 a0_24))) else (auth_May.j0 k true a0_0 a0_1 a0_2 a0_3 a0_4 a0_5 a0_6 a0_7 a0_8 a0_9 a0_10 a0_11 a0_12 a0_13 a0_14 a0_15 a0_16 a0_17 a0_18 a0_19 a0_20 a0_21 a0_22 a0_23 a0_24))) else (auth_May.j0 k true a0_0 a0_1 a0_2 a0_3 a0_4 a0_5 a0_6 a0_7 a0_8 a0_9 a0_10 a0_11 a0_12 a0_13 a0_14 a0_15 a0_16 a0_17 a0_18 a0_19 a0_20 a0_21 a0_22 a0_23 a0_24))
theorem auth_May.mono_l : ∀ k, (∀ y0 y1 y2 y3 y4 y5 y6 y7 y8 y9 y10 y11 y12 y13 y14 y15 y16 y17 y18 y19 y20 y21 y22 y23 y24 y25, LeO (auth_May.j0 k y0 y1 y2 y3 y4 y5 y6 y7 y8 y9 y10 y11 y12 y13 y14 y15 y16 y17 y18 y19 y20 y21 y22 y23 y24 y25) (auth_May.j0 (k + 1) y0 y1 y2 y3 y4 y5 y6 y7 y8 y9 y10 y11 y12 y13 y14 y15 y16 y17 y18 y19 y20 y21 y22 y23 y24 y25))
  | 0 => fun _ _ _ _ _ _ _ _ _ _ _ _ _ _ _ _ _ _ _ _ _ _ _ _ _ _ r h => by simp [auth_May.j0] at h
  | k + 1 => by
    have ih0 := auth_May.mono_l k
    · intro y0 y1 y2 y3 y4 y5 y6 y7 y8 y9 y10 y11 y12 y13 y14 y15 y16 y17 y18 y19 y20 y21 y22 y23 y24 y25
      unfold auth_May.j0
      repeat' first
      | (with_reducible exact ih0 _ _ _ _ _ _ _ _ _ _ _ _ _ _ _ _ _ _ _ _ _ _ _ _ _ _)
      | (with_reducible exact LeO.refl _)
      | (with_reducible exact LeO.none _)
      | (with_reducible refine LeO.ite ?_ ?_)
      | (with_reducible refine LeO.bind ?_ (fun _ => ?_))
      | exact ih0 _ _ _ _ _ _ _ _ _ _ _ _ _ _ _ _ _ _ _ _ _ _ _ _ _ _
      | exact LeO.none _
      | refine LeO.ite ?_ ?_
      | refine LeO.bind ?_ (fun _ => ?_)
theorem auth_May.mono : ∀ a0 a1 a2 a3 a4 a5 a6 a7 a8 a9 a10 a11 a12 a13 a14 a15 a16 a17 a18 a19 a20 a21 a22 a23 a24 k, LeO (auth_May.f k a0 a1 a2 a3 a4 a5 a6 a7 a8 a9 a10 a11 a12 a13 a14 a15 a16 a17 a18 a19 a20 a21 a22 a23 a24) (auth_May.f (k + 1) a0 a1 a2 a3 a4 a5 a6 a7 a8 a9 a10 a11 a12 a13 a14 a15 a16 a17 a18 a19 a20 a21 a22 a23 a24) := by
  intro a0 a1 a2 a3 a4 a5 a6 a7 a8 a9 a10 a11 a12 a13 a14 a15 a16 a17 a18 a19 a20 a21 a22 a23 a24 k
  have ih0 := auth_May.mono_l k
  unfold auth_May.f
  repeat' first
      | (with_reducible exact ih0 _ _ _ _ _ _ _ _ _ _ _ _ _ _ _ _ _ _ _ _ _ _ _ _ _ _)
      | (with_reducible exact LeO.refl _)
      | (with_reducible exact LeO.none _)
      | (with_reducible refine LeO.ite ?_ ?_)
      | (with_reducible refine LeO.bind ?_ (fun _ => ?_))
      | exact ih0 _ _ _ _ _ _ _ _ _ _ _ _ _ _ _ _ _ _ _ _ _ _ _ _ _ _
      | exact LeO.none _
      | refine LeO.ite ?_ ?_
      | refine LeO.bind ?_ (fun _ => ?_)
def auth_May.T1 : Bool × List (List Nat × List Nat) := (true, [([], []), ([0], [0]), ([1], [1]), ([2], [2]), ([], []), ([4], [4]), ([5], [5]), ([6], [6]), ([], []), ([], []), ([8, 3, 0, 1, 2, 3, 8, 9], [3, 8]), ([9, 7, 10, 0, 1, 2, 3, 4, 5, 6, 7, 8, 9, 10], [7, 9])])
def auth_May.B1 : List Nat := [0, 1, 3, 7, 0, 16, 48, 112, 0, 0, 783, 2047]
theorem auth_May.tab1 : rtab .any (opsOf Try.f11 1) = auth_May.T1 := by kernel_rfl
theorem auth_May.bits1 : waitsOk auth_May.T1.2 auth_May.B1 = true := by kernel_rfl
set_option maxHeartbeats 8000000 in
set_option maxRecDepth 100000 in
theorem auth_May.calls (k : Nat) (a0_0 : ByteArray) (a0_1 : ByteArray) (a0_2 : ByteArray) (a0_3 : Int) (a0_4 : ByteArray) (a0_5 : ByteArray) (a0_6 : ByteArray) (a0_7 : ByteArray) (a0_8 : ByteArray) (a0_9 : Int) (a0_10 : Int) (a0_11 : ByteArray) (a0_12 : Bool) (a0_13 : Int) (a0_14 : ByteArray) (a0_15 : ByteArray) (a0_16 : ByteArray) (a0_17 : Int) (a0_18 : Int) (a0_19 : Int) (a0_20 : Bool) (a0_21 : Bool) (a0_22 : Int) (a0_23 : Int) (a0_24 : Bool) (r : Bool) (w : World) (h : auth_May.f k a0_0 a0_1 a0_2 a0_3 a0_4 a0_5 a0_6 a0_7 a0_8 a0_9 a0_10 a0_11 a0_12 a0_13 a0_14 a0_15 a0_16 a0_17 a0_18 a0_19 a0_20 a0_21 a0_22 a0_23 a0_24 = some r) :
    Calls Try.prog 11 #[.agg #[.string a0_0, .string a0_1, .string a0_2, .int .i64 a0_3, .string a0_4, .string a0_5, .string a0_6, .string a0_7, .string a0_8, .int .i64 a0_9, .int .i64 a0_10, .string a0_11, .bool a0_12, .int .i64 a0_13, .string a0_14, .string a0_15, .string a0_16, .int .i64 a0_17, .int .i64 a0_18, .int .i64 a0_19, .bool a0_20, .bool a0_21, .int .i64 a0_22, .int .i64 a0_23, .bool a0_24]] w fun e w' => e = .returned (.bool r) ∧ Below w.heap.size w w' := by
  have hu27 := Try.underlying27
  have hu67 := Try.underlying67
  have hu25 := Try.underlying25
  have HO := Aside0.mk (Ow.Own.nil w)
  have hmf : ∀ (fn : Fn) (first cap : Array Value) (w : World), (Instr.makeFunc fn first cap).run Try.prog w = .ok (.func fn first cap) w := fun _ _ _ _ => rfl
  have H : ((chart_May.f 1 a0_1).bind fun t116 => (if t116 = true then ((chart_May.f 2 a0_6).bind fun t117 => (if t117 = true then ((hold_Ref.f a0_7).bind fun t118 => (if t118 = true then (if a0_3 < 1 then (auth_May.j0 k true a0_0 a0_1 a0_2 a0_3 a0_4 a0_5 a0_6 a0_7 a0_8 a0_9 a0_10 a0_11 a0_12 a0_13 a0_14 a0_15 a0_16 a0_17 a0_18 a0_19 a0_20 a0_21 a0_22 a0_23 a0_24) else (if a0_22 < 0 then (auth_May.j0 k true a0_0 a0_1 a0_2 a0_3 a0_4 a0_5 a0_6 a0_7 a0_8 a0_9 a0_10 a0_11 a0_12 a0_13 a0_14 a0_15 a0_16 a0_17 a0_18 a0_19 a0_20 a0_21 a0_22 a0_23 a0_24) else (auth_May.j0 k (decide (a0_22 > 2147483547)) a0_0 a0_1 a0_2 a0_3 a0_4 a0_5 a0_6 a0_7 a0_8 a0_9 a0_10 a0_11 a0_12 a0_13 a0_14 a0_15 a0_16 a0_17 a0_18 a0_19 a0_20 a0_21 a0_22 a0_23 a0_24))) else (auth_May.j0 k true a0_0 a0_1 a0_2 a0_3 a0_4 a0_5 a0_6 a0_7 a0_8 a0_9 a0_10 a0_11 a0_12 a0_13 a0_14 a0_15 a0_16 a0_17 a0_18 a0_19 a0_20 a0_21 a0_22 a0_23 a0_24))) else (auth_May.j0 k true a0_0 a0_1 a0_2 a0_3 a0_4 a0_5 a0_6 a0_7 a0_8 a0_9 a0_10 a0_11 a0_12 a0_13 a0_14 a0_15 a0_16 a0_17 a0_18 a0_19 a0_20 a0_21 a0_22 a0_23 a0_24))) else (auth_May.j0 k true a0_0 a0_1 a0_2 a0_3 a0_4 a0_5 a0_6 a0_7 a0_8 a0_9 a0_10 a0_11 a0_12 a0_13 a0_14 a0_15 a0_16 a0_17 a0_18 a0_19 a0_20 a0_21 a0_22 a0_23 a0_24))) = some r := h
  clear h
  have HC2 := Aside0.mk H
  clear H
  obtain ⟨Q0, hQ0_⟩ : ∃ q_ : Array Value, q_ = (#[.string a0_0, .string a0_1, .string a0_2, .int .i64 a0_3, .string a0_4, .string a0_5, .string a0_6, .string a0_7, .string a0_8, .int .i64 a0_9, .int .i64 a0_10, .string a0_11, .bool a0_12, .int .i64 a0_13, .string a0_14, .string a0_15, .string a0_16, .int .i64 a0_17, .int .i64 a0_18, .int .i64 a0_19, .bool a0_20, .bool a0_21, .int .i64 a0_22, .int .i64 a0_23, .bool a0_24] : Array Value) := ⟨_, rfl⟩
  try rw [← hQ0_]
  have hQ0 := Aside0.mk hQ0_; have hq := Aside0.mk hQ0_; clear hQ0_
  go_enter Try.func11, Try.ntmps11
  try go_wp2_with (first | ((with_reducible refine gate_dst (N := 1) rfl ?_); refine Ow.box rfl (N := 1) rfl (cs := Q0) (t := 27) HO.out (by first | (go_simp; done) | (go_simp; rfl)) ?_; clear HO; intro gb113 w3 HO; simp only [List.cons_append, List.nil_append] at HO) | ((with_reducible refine Ow.gate_build rfl ?_); (try (refine gate_guard (by rfl) ?_; dsimp only)); refine' Ow.tbuild Ot.bd rfl rfl rfl ?hf_ ?_; (case hf_ => repeat (any_goals (first | exact Ow.Fills.nil | (refine' Ow.Fills.c ?hv_ rfl ?hz_ ?_; (case hv_ => first | exact Ow.ev_tmp rfl | rfl); (case hz_ => first | (refine ⟨?_, ?_⟩ <;> (first | ((try simp only [hq.1]) <;> rfl) | fail)) | fail)))))) | ((with_reducible refine Ow.gate_load rfl ?_); (try (refine gate_guard (by rfl) ?_; dsimp only)); (first | refine Ow.l1 Ot.ty HO.out rfl rfl rfl rfl (by first | ((try simp only [hq.1]) <;> rfl) | fail) ?_ | refine Ow.l0 Ot.ty HO.out rfl rfl rfl rfl (by first | ((try simp only [hq.1]) <;> rfl) | fail) ?_ | refine Ow.lp Ot.ty HO.out rfl rfl rfl rfl (by first | ((try simp only [hq.1]) <;> rfl) | fail) ?_)) | ((with_reducible refine gate_store rfl ?_); (try (refine gate_guard (by rfl) ?_; dsimp only)); (first | refine Ow.s0 Ot.ty HO.out rfl rfl rfl rfl rfl (by first | exact Ow.ev_tmp rfl | rfl) (by first | (refine ⟨?_, ?_, ?_⟩ <;> (first | ((try simp only [hq.1]) <;> rfl) | fail)) | fail) ?_ | refine Ow.sp Ot.ty HO.out rfl rfl rfl rfl rfl (by first | exact Ow.ev_tmp rfl | rfl) (by first | (refine ⟨?_, ?_, ?_⟩ <;> (first | ((try simp only [hq.1]) <;> rfl) | fail)) | fail) ?_); clear HO; intro wz_ HO; simp only [List.set_cons_zero, List.set_cons_succ] at HO))
  refine Ow.ostart (n := 12) (ds := []) (Ow.B 12 0) HO.out (by kernel_rfl) rfl (by kernel_rfl) ?_
  intro hHeld; replace HO := Aside0.mk hHeld; refine with_tabW auth_May.tab1 auth_May.bits1 (fun HT_ HW_ => ?_)
  refine' Ow.pu (i := 0) (N := some 5) (Ow.B 12 1) HT_.out ?hv_ ?ha_ ?_; (case hv_ => intro w'; go_simp; with_reducible rfl); (case ha_ => simp only [Ow.Sl, i64_w, i32_w]; rfl)
  refine' Ow.pu (i := 1) (N := some 6) (Ow.B 12 3) HT_.out ?hv_ ?ha_ ?_; (case hv_ => intro w'; go_simp; with_reducible rfl); (case ha_ => simp only [Ow.Sl, i64_w, i32_w]; rfl)
  refine' Ow.pu (i := 4) (N := some 9) (Ow.B 12 19) HT_.out ?hv_ ?ha_ ?_; (case hv_ => intro w'; go_simp; with_reducible rfl); (case ha_ => simp only [Ow.Sl, i64_w, i32_w]; rfl)
  refine' Ow.pu (i := 5) (N := some 10) (Ow.B 12 51) HT_.out ?hv_ ?ha_ ?_; (case hv_ => intro w'; go_simp; with_reducible rfl); (case ha_ => simp only [Ow.Sl, i64_w, i32_w]; rfl)
  refine take_ (i := 2) (N := some 7) (v := ?_) (a' := ?_) (Ow.B 12 55) rfl rfl (take_ofW HT_.out HW_.out (by kernel_rfl)) (fun _ _ _ h => h) (Or.inl ⟨by rfl, ?_⟩) hHeld ?_ ?_
  rotate_left
  · intro w' s_
    first | refine Ow.r1 Ot.ty s_ rfl rfl rfl (by first | ((try simp only [hq.1]) <;> rfl) | fail) | (refine' Ow.r0 Ot.ty s_ rfl rfl rfl ?h; (case h => first | ((try simp only [hq.1]) <;> rfl) | fail)) | (refine' Ow.rp Ot.ty s_ rfl rfl rfl ?h; (case h => first | ((try simp only [hq.1]) <;> rfl) | fail)) | (go_simp; with_reducible rfl)
  rotate_left
  · simp only [Act.put, List.setIfInBounds_toArray, List.set_cons_zero, List.set_cons_succ, i64_w, i32_w]
    rfl
  refine' Ow.pu (i := 3) (N := some 8) (Ow.B 12 63) HT_.out ?hv_ ?ha_ ?_; (case hv_ => intro w'; go_simp; with_reducible rfl); (case ha_ => simp only [Ow.Sl, i64_w, i32_w]; rfl)
  refine take_ (i := 6) (N := some 11) (v := ?_) (a' := ?_) (Ow.B 12 127) rfl rfl (take_ofW HT_.out HW_.out (by kernel_rfl)) (fun _ _ _ h => h) (Or.inl ⟨by rfl, ?_⟩) hHeld ?_ ?_
  rotate_left
  · intro w' s_
    first | refine Ow.r1 Ot.ty s_ rfl rfl rfl (by first | ((try simp only [hq.1]) <;> rfl) | fail) | (refine' Ow.r0 Ot.ty s_ rfl rfl rfl ?h; (case h => first | ((try simp only [hq.1]) <;> rfl) | fail)) | (refine' Ow.rp Ot.ty s_ rfl rfl rfl ?h; (case h => first | ((try simp only [hq.1]) <;> rfl) | fail)) | (go_simp; with_reducible rfl)
  rotate_left
  · simp only [Act.put, List.setIfInBounds_toArray, List.set_cons_zero, List.set_cons_succ, i64_w, i32_w]
    rfl
  refine' Ow.pu (i := 7) (N := some 12) (Ow.B 12 255) HT_.out ?hv_ ?ha_ ?_; (case hv_ => intro w'; go_simp; with_reducible rfl); (case ha_ => simp only [Ow.Sl, i64_w, i32_w]; rfl)
  refine join_ (σ := Nat × Nat) 2 (Ow.B 12 1023) (fun s_ => [(3, .pointer (some ⟨s_.1, 0, none⟩)), (4, .pointer (some ⟨s_.2, 0, none⟩))]) (fun s_ w' => Ow.Own w w' [(gb113, Q0, 27), (s_.1, #[.int .i64 0, .string (⟨#[]⟩ : ByteArray)], 67), (s_.2, #[.int .i64 0, .string (⟨#[]⟩ : ByteArray)], 67)]) ?_ ?_
  rotate_left
  · intro hCont
    refine two_ (i := 8) (j := 9) (Ni := some 3) (Nj := some 4) (Ow.B 12 511) (Ow.B 12 767) rfl rfl rfl rfl (two_of HT_.out (by kernel_rfl)) (by decide) (by decide) (fun K hK => ?_) (fun K hK => ?_)
    · skip
      refine box_step ?hg (N := 3) ?hd (cs := #[.int .i64 0, .string (⟨#[]⟩ : ByteArray)]) (t := 67) ?hr ?_; (case hd => rfl); (case hg => rfl); (case hr => first | (go_simp; done) | (go_simp; rfl))
      intro gb114 hg w5 hbox hb
      replace HO := Aside0.mk (Ow.Own.add HO.out hg hbox hb)
      clear hb hbox hg
      simp only [List.cons_append, List.nil_append] at HO
      refine hK.out _ _ (by have h_ := Ow.Own.pick [0] HO.out (by decide); first | exact h_ | exact Ow.Own.cong h_ (by first | ((try simp only [hq.1]) <;> rfl) | fail)) (fun hHeld => ?_)
      clear hK K
      refine norm_ (a' := ?_) ?_ ?_
      rotate_left
      · show Act.put _ (some 3) _ = _
        simp only [Act.put, List.setIfInBounds_toArray, List.set_cons_zero, List.set_cons_succ, i64_w, i32_w]
        rfl
      refine one_ (i := 9) (N := some 4) (Ow.B 12 1023) rfl rfl (one_of HT_.out (by kernel_rfl)) (by decide) (fun K hK => ?_)
      refine box_step ?hg (N := 4) ?hd (cs := #[.int .i64 0, .string (⟨#[]⟩ : ByteArray)]) (t := 67) ?hr ?_; (case hd => rfl); (case hg => rfl); (case hr => first | (go_simp; done) | (go_simp; rfl))
      intro gb115 hg w6 hbox hb
      replace HO := Aside0.mk (Ow.Own.add HO.out hg hbox hb)
      clear hb hbox hg
      simp only [List.cons_append, List.nil_append] at HO
      refine hK.out _ _ (by have h_ := Ow.Own.pick [0] HO.out (by decide); first | exact h_ | exact Ow.Own.cong h_ (by first | ((try simp only [hq.1]) <;> rfl) | fail)) (fun hHeld => ?_)
      clear hK K
      refine norm_ (a' := ?_) ?_ ?_
      rotate_left
      · show Act.put _ (some 4) _ = _
        simp only [Act.put, List.setIfInBounds_toArray, List.set_cons_zero, List.set_cons_succ, i64_w, i32_w]
        rfl
      exact norm_ (by simp only [putAll, Act.put, List.setIfInBounds_toArray, List.set_cons_zero, List.set_cons_succ]) (hCont (gb114, gb115) _ (Ow.Own.cong (Ow.Own.pick [0, 1, 2] HO.out (by decide)) (by first | ((try simp only [hq.1]) <;> rfl) | fail)))
    · skip
      refine box_step ?hg (N := 4) ?hd (cs := #[.int .i64 0, .string (⟨#[]⟩ : ByteArray)]) (t := 67) ?hr ?_; (case hd => rfl); (case hg => rfl); (case hr => first | (go_simp; done) | (go_simp; rfl))
      intro gb115 hg w5 hbox hb
      replace HO := Aside0.mk (Ow.Own.add HO.out hg hbox hb)
      clear hb hbox hg
      simp only [List.cons_append, List.nil_append] at HO
      refine hK.out _ _ (by have h_ := Ow.Own.pick [0] HO.out (by decide); first | exact h_ | exact Ow.Own.cong h_ (by first | ((try simp only [hq.1]) <;> rfl) | fail)) (fun hHeld => ?_)
      clear hK K
      refine norm_ (a' := ?_) ?_ ?_
      rotate_left
      · show Act.put _ (some 4) _ = _
        simp only [Act.put, List.setIfInBounds_toArray, List.set_cons_zero, List.set_cons_succ, i64_w, i32_w]
        rfl
      refine one_ (i := 8) (N := some 3) (Ow.B 12 1023) rfl rfl (one_of HT_.out (by kernel_rfl)) (by decide) (fun K hK => ?_)
      refine box_step ?hg (N := 3) ?hd (cs := #[.int .i64 0, .string (⟨#[]⟩ : ByteArray)]) (t := 67) ?hr ?_; (case hd => rfl); (case hg => rfl); (case hr => first | (go_simp; done) | (go_simp; rfl))
      intro gb114 hg w6 hbox hb
      replace HO := Aside0.mk (Ow.Own.add HO.out hg hbox hb)
      clear hb hbox hg
      simp only [List.cons_append, List.nil_append] at HO
      refine hK.out _ _ (by have h_ := Ow.Own.pick [0] HO.out (by decide); first | exact h_ | exact Ow.Own.cong h_ (by first | ((try simp only [hq.1]) <;> rfl) | fail)) (fun hHeld => ?_)
      clear hK K
      refine norm_ (a' := ?_) ?_ ?_
      rotate_left
      · show Act.put _ (some 3) _ = _
        simp only [Act.put, List.setIfInBounds_toArray, List.set_cons_zero, List.set_cons_succ, i64_w, i32_w]
        rfl
      exact norm_ (by simp only [putAll, Act.put, List.setIfInBounds_toArray, List.set_cons_zero, List.set_cons_succ]) (hCont (gb114, gb115) _ (Ow.Own.cong (Ow.Own.pick [0, 2, 1] HO.out (by decide)) (by first | ((try simp only [hq.1]) <;> rfl) | fail)))
  rintro ⟨gb114, gb115⟩ w7 HO7_
  clear HO
  have HO := Aside0.mk HO7_
  clear HO7_
  have hHeld := Ow.Own.pick [0] HO.out (by decide)
  refine norm_ (a' := ?_) ?_ ?_
  rotate_left
  · simp only [putAll, Act.put, List.setIfInBounds_toArray, List.set_cons_zero, List.set_cons_succ]
    rfl
  refine one_ (i := 10) (N := none) (Ow.B 12 2047) rfl rfl (one_of HT_.out (by kernel_rfl)) (by decide) (fun K hK => ?_)
  refine Ow.oskip Ot.ty HO.out (by rfl) rfl rfl rfl rfl (by with_reducible first | exact Ow.at0 | exact Ow.at1 | exact Ow.at2) (by first | exact Ow.ev_tmp rfl | rfl) (by first | ((try simp only [hq.1]) <;> rfl) | fail) (by first | ((try simp only [hq.1]) <;> rfl) | fail) (by first | ((try simp only [hq.1]) <;> rfl) | fail) ?_
  clear HO; intro wz_ HO; simp only [List.set_cons_zero, List.set_cons_succ] at HO
  refine hK.out _ _ (by have h_ := Ow.Own.pick [0] HO.out (by decide); first | exact h_ | exact Ow.Own.cong h_ (by first | ((try simp only [hq.1]) <;> rfl) | fail)) (fun hHeld => ?_)
  clear hK K
  refine one_ (i := 11) (N := none) (Ow.B 12 4095) rfl rfl (one_of HT_.out (by kernel_rfl)) (by decide) (fun K hK => ?_)
  refine Ow.oskip Ot.ty HO.out (by rfl) rfl rfl rfl rfl (by with_reducible first | exact Ow.at0 | exact Ow.at1 | exact Ow.at2) (by first | exact Ow.ev_tmp rfl | rfl) (by first | ((try simp only [hq.1]) <;> rfl) | fail) (by first | ((try simp only [hq.1]) <;> rfl) | fail) (by first | ((try simp only [hq.1]) <;> rfl) | fail) ?_
  clear HO; intro wz_ HO; simp only [List.set_cons_zero, List.set_cons_succ] at HO
  refine hK.out _ _ (by have h_ := Ow.Own.pick [0] HO.out (by decide); first | exact h_ | exact Ow.Own.cong h_ (by first | ((try simp only [hq.1]) <;> rfl) | fail)) (fun hHeld => ?_)
  clear hK K
  refine done_ (done_of HT_.out (by kernel_rfl)) ?_
  go_upto_region 2 with (first | ((with_reducible refine Ow.gate_build rfl ?_); (try (refine gate_guard (by rfl) ?_; dsimp only)); refine' Ow.tbuild Ot.bd rfl rfl rfl ?hf_ ?_; (case hf_ => repeat (any_goals (first | exact Ow.Fills.nil | (refine' Ow.Fills.c ?hv_ rfl ?hz_ ?_; (case hv_ => first | exact Ow.ev_tmp rfl | rfl); (case hz_ => first | (refine ⟨?_, ?_⟩ <;> (first | ((try simp only [hq.1]) <;> rfl) | fail)) | fail)))))) | ((with_reducible refine Ow.gate_load rfl ?_); (try (refine gate_guard (by rfl) ?_; dsimp only)); (first | refine Ow.l1 Ot.ty HO.out rfl rfl rfl rfl (by first | ((try simp only [hq.1]) <;> rfl) | fail) ?_ | refine Ow.l0 Ot.ty HO.out rfl rfl rfl rfl (by first | ((try simp only [hq.1]) <;> rfl) | fail) ?_ | refine Ow.lp Ot.ty HO.out rfl rfl rfl rfl (by first | ((try simp only [hq.1]) <;> rfl) | fail) ?_)) | ((with_reducible refine gate_store rfl ?_); (try (refine gate_guard (by rfl) ?_; dsimp only)); (first | refine Ow.s0 Ot.ty HO.out rfl rfl rfl rfl rfl (by first | exact Ow.ev_tmp rfl | rfl) (by first | (refine ⟨?_, ?_, ?_⟩ <;> (first | ((try simp only [hq.1]) <;> rfl) | fail)) | fail) ?_ | refine Ow.sp Ot.ty HO.out rfl rfl rfl rfl rfl (by first | exact Ow.ev_tmp rfl | rfl) (by first | (refine ⟨?_, ?_, ?_⟩ <;> (first | ((try simp only [hq.1]) <;> rfl) | fail)) | fail) ?_); clear HO; intro wz_ HO; simp only [List.set_cons_zero, List.set_cons_succ] at HO))
  (try simp only [Act.put, List.setIfInBounds_toArray, List.set_cons_zero, List.set_cons_succ])
  go_cut [43] (fun v43 wc => ∃ (kq : Nat) (x43_1 : Bool), v43 = .bool x43_1 ∧ Aside0 (auth_May.j0 kq x43_1 a0_0 a0_1 a0_2 a0_3 a0_4 a0_5 a0_6 a0_7 a0_8 a0_9 a0_10 a0_11 a0_12 a0_13 a0_14 a0_15 a0_16 a0_17 a0_18 a0_19 a0_20 a0_21 a0_22 a0_23 a0_24 = some r) ∧ Aside0 (kq ≤ k) ∧ Aside0 (Ow.Own w wc [(gb113, Q0, 27), (gb114, #[.int .i64 1, .string a0_1], 67), (gb115, #[.int .i64 2, .string a0_6], 67)]))
  case first =>
    have H := HC2.out
    clear HC2
    replace H := Option.bind_eq_some_iff.mp H
    obtain ⟨t116, A120, H⟩ := H
    replace H : (if t116 = true then ((chart_May.f 2 a0_6).bind fun t117 => (if t117 = true then ((hold_Ref.f a0_7).bind fun t118 => (if t118 = true then (if a0_3 < 1 then (auth_May.j0 k true a0_0 a0_1 a0_2 a0_3 a0_4 a0_5 a0_6 a0_7 a0_8 a0_9 a0_10 a0_11 a0_12 a0_13 a0_14 a0_15 a0_16 a0_17 a0_18 a0_19 a0_20 a0_21 a0_22 a0_23 a0_24) else (if a0_22 < 0 then (auth_May.j0 k true a0_0 a0_1 a0_2 a0_3 a0_4 a0_5 a0_6 a0_7 a0_8 a0_9 a0_10 a0_11 a0_12 a0_13 a0_14 a0_15 a0_16 a0_17 a0_18 a0_19 a0_20 a0_21 a0_22 a0_23 a0_24) else (auth_May.j0 k (decide (a0_22 > 2147483547)) a0_0 a0_1 a0_2 a0_3 a0_4 a0_5 a0_6 a0_7 a0_8 a0_9 a0_10 a0_11 a0_12 a0_13 a0_14 a0_15 a0_16 a0_17 a0_18 a0_19 a0_20 a0_21 a0_22 a0_23 a0_24))) else (auth_May.j0 k true a0_0 a0_1 a0_2 a0_3 a0_4 a0_5 a0_6 a0_7 a0_8 a0_9 a0_10 a0_11 a0_12 a0_13 a0_14 a0_15 a0_16 a0_17 a0_18 a0_19 a0_20 a0_21 a0_22 a0_23 a0_24))) else (auth_May.j0 k true a0_0 a0_1 a0_2 a0_3 a0_4 a0_5 a0_6 a0_7 a0_8 a0_9 a0_10 a0_11 a0_12 a0_13 a0_14 a0_15 a0_16 a0_17 a0_18 a0_19 a0_20 a0_21 a0_22 a0_23 a0_24))) else (auth_May.j0 k true a0_0 a0_1 a0_2 a0_3 a0_4 a0_5 a0_6 a0_7 a0_8 a0_9 a0_10 a0_11 a0_12 a0_13 a0_14 a0_15 a0_16 a0_17 a0_18 a0_19 a0_20 a0_21 a0_22 a0_23 a0_24)) = some r := H
    have A12 := Aside0.mk A120
    clear A120
    by_cases c13 : t116 = true
    · subst c13
      have H1 : ((chart_May.f 2 a0_6).bind fun t117 => (if t117 = true then ((hold_Ref.f a0_7).bind fun t118 => (if t118 = true then (if a0_3 < 1 then (auth_May.j0 k true a0_0 a0_1 a0_2 a0_3 a0_4 a0_5 a0_6 a0_7 a0_8 a0_9 a0_10 a0_11 a0_12 a0_13 a0_14 a0_15 a0_16 a0_17 a0_18 a0_19 a0_20 a0_21 a0_22 a0_23 a0_24) else (if a0_22 < 0 then (auth_May.j0 k true a0_0 a0_1 a0_2 a0_3 a0_4 a0_5 a0_6 a0_7 a0_8 a0_9 a0_10 a0_11 a0_12 a0_13 a0_14 a0_15 a0_16 a0_17 a0_18 a0_19 a0_20 a0_21 a0_22 a0_23 a0_24) else (auth_May.j0 k (decide (a0_22 > 2147483547)) a0_0 a0_1 a0_2 a0_3 a0_4 a0_5 a0_6 a0_7 a0_8 a0_9 a0_10 a0_11 a0_12 a0_13 a0_14 a0_15 a0_16 a0_17 a0_18 a0_19 a0_20 a0_21 a0_22 a0_23 a0_24))) else (auth_May.j0 k true a0_0 a0_1 a0_2 a0_3 a0_4 a0_5 a0_6 a0_7 a0_8 a0_9 a0_10 a0_11 a0_12 a0_13 a0_14 a0_15 a0_16 a0_17 a0_18 a0_19 a0_20 a0_21 a0_22 a0_23 a0_24))) else (auth_May.j0 k true a0_0 a0_1 a0_2 a0_3 a0_4 a0_5 a0_6 a0_7 a0_8 a0_9 a0_10 a0_11 a0_12 a0_13 a0_14 a0_15 a0_16 a0_17 a0_18 a0_19 a0_20 a0_21 a0_22 a0_23 a0_24))) = some r := by rw [if_pos rfl] at H; exact H
      clear H
      have H := H1
      clear H1
      replace H := Option.bind_eq_some_iff.mp H
      obtain ⟨t117, A140, H⟩ := H
      replace H : (if t117 = true then ((hold_Ref.f a0_7).bind fun t118 => (if t118 = true then (if a0_3 < 1 then (auth_May.j0 k true a0_0 a0_1 a0_2 a0_3 a0_4 a0_5 a0_6 a0_7 a0_8 a0_9 a0_10 a0_11 a0_12 a0_13 a0_14 a0_15 a0_16 a0_17 a0_18 a0_19 a0_20 a0_21 a0_22 a0_23 a0_24) else (if a0_22 < 0 then (auth_May.j0 k true a0_0 a0_1 a0_2 a0_3 a0_4 a0_5 a0_6 a0_7 a0_8 a0_9 a0_10 a0_11 a0_12 a0_13 a0_14 a0_15 a0_16 a0_17 a0_18 a0_19 a0_20 a0_21 a0_22 a0_23 a0_24) else (auth_May.j0 k (decide (a0_22 > 2147483547)) a0_0 a0_1 a0_2 a0_3 a0_4 a0_5 a0_6 a0_7 a0_8 a0_9 a0_10 a0_11 a0_12 a0_13 a0_14 a0_15 a0_16 a0_17 a0_18 a0_19 a0_20 a0_21 a0_22 a0_23 a0_24))) else (auth_May.j0 k true a0_0 a0_1 a0_2 a0_3 a0_4 a0_5 a0_6 a0_7 a0_8 a0_9 a0_10 a0_11 a0_12 a0_13 a0_14 a0_15 a0_16 a0_17 a0_18 a0_19 a0_20 a0_21 a0_22 a0_23 a0_24))) else (auth_May.j0 k true a0_0 a0_1 a0_2 a0_3 a0_4 a0_5 a0_6 a0_7 a0_8 a0_9 a0_10 a0_11 a0_12 a0_13 a0_14 a0_15 a0_16 a0_17 a0_18 a0_19 a0_20 a0_21 a0_22 a0_23 a0_24)) = some r := H
      have A14 := Aside0.mk A140
      clear A140
      by_cases c15 : t117 = true
      · subst c15
        have H1 : ((hold_Ref.f a0_7).bind fun t118 => (if t118 = true then (if a0_3 < 1 then (auth_May.j0 k true a0_0 a0_1 a0_2 a0_3 a0_4 a0_5 a0_6 a0_7 a0_8 a0_9 a0_10 a0_11 a0_12 a0_13 a0_14 a0_15 a0_16 a0_17 a0_18 a0_19 a0_20 a0_21 a0_22 a0_23 a0_24) else (if a0_22 < 0 then (auth_May.j0 k true a0_0 a0_1 a0_2 a0_3 a0_4 a0_5 a0_6 a0_7 a0_8 a0_9 a0_10 a0_11 a0_12 a0_13 a0_14 a0_15 a0_16 a0_17 a0_18 a0_19 a0_20 a0_21 a0_22 a0_23 a0_24) else (auth_May.j0 k (decide (a0_22 > 2147483547)) a0_0 a0_1 a0_2 a0_3 a0_4 a0_5 a0_6 a0_7 a0_8 a0_9 a0_10 a0_11 a0_12 a0_13 a0_14 a0_15 a0_16 a0_17 a0_18 a0_19 a0_20 a0_21 a0_22 a0_23 a0_24))) else (auth_May.j0 k true a0_0 a0_1 a0_2 a0_3 a0_4 a0_5 a0_6 a0_7 a0_8 a0_9 a0_10 a0_11 a0_12 a0_13 a0_14 a0_15 a0_16 a0_17 a0_18 a0_19 a0_20 a0_21 a0_22 a0_23 a0_24))) = some r := by rw [if_pos rfl] at H; exact H
        clear H
        have H := H1
        clear H1
        replace H := Option.bind_eq_some_iff.mp H
        obtain ⟨t118, A160, H⟩ := H
        replace H : (if t118 = true then (if a0_3 < 1 then (auth_May.j0 k true a0_0 a0_1 a0_2 a0_3 a0_4 a0_5 a0_6 a0_7 a0_8 a0_9 a0_10 a0_11 a0_12 a0_13 a0_14 a0_15 a0_16 a0_17 a0_18 a0_19 a0_20 a0_21 a0_22 a0_23 a0_24) else (if a0_22 < 0 then (auth_May.j0 k true a0_0 a0_1 a0_2 a0_3 a0_4 a0_5 a0_6 a0_7 a0_8 a0_9 a0_10 a0_11 a0_12 a0_13 a0_14 a0_15 a0_16 a0_17 a0_18 a0_19 a0_20 a0_21 a0_22 a0_23 a0_24) else (auth_May.j0 k (decide (a0_22 > 2147483547)) a0_0 a0_1 a0_2 a0_3 a0_4 a0_5 a0_6 a0_7 a0_8 a0_9 a0_10 a0_11 a0_12 a0_13 a0_14 a0_15 a0_16 a0_17 a0_18 a0_19 a0_20 a0_21 a0_22 a0_23 a0_24))) else (auth_May.j0 k true a0_0 a0_1 a0_2 a0_3 a0_4 a0_5 a0_6 a0_7 a0_8 a0_9 a0_10 a0_11 a0_12 a0_13 a0_14 a0_15 a0_16 a0_17 a0_18 a0_19 a0_20 a0_21 a0_22 a0_23 a0_24)) = some r := H
        have A16 := Aside0.mk A160
        clear A160
        by_cases c17 : t118 = true
        · subst c17
          have H1 : (if a0_3 < 1 then (auth_May.j0 k true a0_0 a0_1 a0_2 a0_3 a0_4 a0_5 a0_6 a0_7 a0_8 a0_9 a0_10 a0_11 a0_12 a0_13 a0_14 a0_15 a0_16 a0_17 a0_18 a0_19 a0_20 a0_21 a0_22 a0_23 a0_24) else (if a0_22 < 0 then (auth_May.j0 k true a0_0 a0_1 a0_2 a0_3 a0_4 a0_5 a0_6 a0_7 a0_8 a0_9 a0_10 a0_11 a0_12 a0_13 a0_14 a0_15 a0_16 a0_17 a0_18 a0_19 a0_20 a0_21 a0_22 a0_23 a0_24) else (auth_May.j0 k (decide (a0_22 > 2147483547)) a0_0 a0_1 a0_2 a0_3 a0_4 a0_5 a0_6 a0_7 a0_8 a0_9 a0_10 a0_11 a0_12 a0_13 a0_14 a0_15 a0_16 a0_17 a0_18 a0_19 a0_20 a0_21 a0_22 a0_23 a0_24))) = some r := by rw [if_pos rfl] at H; exact H
          clear H
          have H := H1
          clear H1
          by_cases c18 : a0_3 < 1
          · rw [if_pos c18] at H
            have c18b0 : decide (a0_3 < 1) = true := decide_eq_true c18
            clear c18
            (first | rw [c18b0] | (simp only [i64_w, i32_w]; rw [c18b0]) | skip)
            have H' := Aside0.mk H
            clear H
            go_wp2_with (first | ((with_reducible refine gate_callee (f := 26) rfl ?_); refine goesL_ (some 14) rfl rfl Try.func26 (by kernel_rfl) rfl #[.agg #[.int .i64 1, .string a0_1]] rfl (by (try simp only [List.map_toArray, List.map_cons, List.map_nil]); first | done | rfl | (simp only [hq.1]; done) | (simp only [hq.1]; rfl)) ?_; refine Calls.mono (calls_of_args (by first | ((try simp only [hq.1]) <;> rfl) | fail) (chart_May.calls 1 a0_1 true _ A12.out)) ?_; rintro e w22 ⟨he_, hb⟩; subst he_; refine ⟨_, rfl, ?_⟩; replace HO := Aside0.mk (Ow.Own.call HO.out hb); clear hb) | (go_at_call 26; refine Calls.mono (calls_of_args (by first | ((try simp only [hq.1]) <;> rfl) | fail) (chart_May.calls 2 a0_6 true _ A14.out)) ?_; rintro e w25 ⟨he_, hb⟩; subst he_; replace HO := Aside0.mk (Ow.Own.call HO.out hb); clear hb) | (go_at_call 27; refine Calls.mono (calls_of_args (by first | ((try simp only [hq.1]) <;> rfl) | fail) (hold_Ref.calls a0_7 true _ A16.out)) ?_; rintro e w' ⟨he_, ⟨nd, rfl⟩⟩; subst he_; replace HO := Aside0.mk (Ow.Own.drewN HO.out nd); (try simp only [World.drewN_drewN] at HO)) | ((with_reducible refine Ow.gate_build rfl ?_); (try (refine gate_guard (by rfl) ?_; dsimp only)); refine' Ow.tbuild Ot.bd rfl rfl rfl ?hf_ ?_; (case hf_ => repeat (any_goals (first | exact Ow.Fills.nil | (refine' Ow.Fills.c ?hv_ rfl ?hz_ ?_; (case hv_ => first | exact Ow.ev_tmp rfl | rfl); (case hz_ => first | (refine ⟨?_, ?_⟩ <;> (first | ((try simp only [hq.1]) <;> rfl) | fail)) | fail)))))) | ((with_reducible refine Ow.gate_load rfl ?_); (try (refine gate_guard (by rfl) ?_; dsimp only)); (first | refine Ow.l1 Ot.ty HO.out rfl rfl rfl rfl (by first | ((try simp only [hq.1]) <;> rfl) | fail) ?_ | refine Ow.l0 Ot.ty HO.out rfl rfl rfl rfl (by first | ((try simp only [hq.1]) <;> rfl) | fail) ?_ | refine Ow.lp Ot.ty HO.out rfl rfl rfl rfl (by first | ((try simp only [hq.1]) <;> rfl) | fail) ?_)) | ((with_reducible refine gate_store rfl ?_); (try (refine gate_guard (by rfl) ?_; dsimp only)); (first | refine Ow.s0 Ot.ty HO.out rfl rfl rfl rfl rfl (by first | exact Ow.ev_tmp rfl | rfl) (by first | (refine ⟨?_, ?_, ?_⟩ <;> (first | ((try simp only [hq.1]) <;> rfl) | fail)) | fail) ?_ | refine Ow.sp Ot.ty HO.out rfl rfl rfl rfl rfl (by first | exact Ow.ev_tmp rfl | rfl) (by first | (refine ⟨?_, ?_, ?_⟩ <;> (first | ((try simp only [hq.1]) <;> rfl) | fail)) | fail) ?_); clear HO; intro wz_ HO; simp only [List.set_cons_zero, List.set_cons_succ] at HO))
            go_meet
            case rel => exact ⟨_, (true), (by first | rfl | (simp; done) | (simp [*]; done) | (simp [Pu.bne_nil, Pu.beq_nil]; done)), H', ⟨by first | omega | exact Nat.le_refl _⟩, ⟨Ow.Own.cong (by first | exact HO.out | (have h_ := HO.out; simp only [World.drewN_drewN] at h_; exact h_)) (by first | ((try simp only [hq.1]) <;> rfl) | fail)⟩⟩
          · rw [if_neg c18] at H
            have c18b0 : decide (a0_3 < 1) = false := decide_eq_false c18
            clear c18
            (first | rw [c18b0] | (simp only [i64_w, i32_w]; rw [c18b0]) | skip)
            by_cases c27 : a0_22 < 0
            · rw [if_pos c27] at H
              have c27b0 : decide (a0_22 < 0) = true := decide_eq_true c27
              clear c27
              have H' := Aside0.mk H
              clear H
              go_wp2_with (first | ((with_reducible refine gate_callee (f := 26) rfl ?_); refine goesL_ (some 14) rfl rfl Try.func26 (by kernel_rfl) rfl #[.agg #[.int .i64 1, .string a0_1]] rfl (by (try simp only [List.map_toArray, List.map_cons, List.map_nil]); first | done | rfl | (simp only [hq.1]; done) | (simp only [hq.1]; rfl)) ?_; refine Calls.mono (calls_of_args (by first | ((try simp only [hq.1]) <;> rfl) | fail) (chart_May.calls 1 a0_1 true _ A12.out)) ?_; rintro e w31 ⟨he_, hb⟩; subst he_; refine ⟨_, rfl, ?_⟩; replace HO := Aside0.mk (Ow.Own.call HO.out hb); clear hb) | (go_at_call 26; refine Calls.mono (calls_of_args (by first | ((try simp only [hq.1]) <;> rfl) | fail) (chart_May.calls 2 a0_6 true _ A14.out)) ?_; rintro e w34 ⟨he_, hb⟩; subst he_; replace HO := Aside0.mk (Ow.Own.call HO.out hb); clear hb) | (go_at_call 27; refine Calls.mono (calls_of_args (by first | ((try simp only [hq.1]) <;> rfl) | fail) (hold_Ref.calls a0_7 true _ A16.out)) ?_; rintro e w' ⟨he_, ⟨nd, rfl⟩⟩; subst he_; replace HO := Aside0.mk (Ow.Own.drewN HO.out nd); (try simp only [World.drewN_drewN] at HO)) | ((with_reducible refine Ow.gate_build rfl ?_); (try (refine gate_guard (by rfl) ?_; dsimp only)); refine' Ow.tbuild Ot.bd rfl rfl rfl ?hf_ ?_; (case hf_ => repeat (any_goals (first | exact Ow.Fills.nil | (refine' Ow.Fills.c ?hv_ rfl ?hz_ ?_; (case hv_ => first | exact Ow.ev_tmp rfl | rfl); (case hz_ => first | (refine ⟨?_, ?_⟩ <;> (first | ((try simp only [hq.1]) <;> rfl) | fail)) | fail)))))) | ((with_reducible refine Ow.gate_load rfl ?_); (try (refine gate_guard (by rfl) ?_; dsimp only)); (first | refine Ow.l1 Ot.ty HO.out rfl rfl rfl rfl (by first | ((try simp only [hq.1]) <;> rfl) | fail) ?_ | refine Ow.l0 Ot.ty HO.out rfl rfl rfl rfl (by first | ((try simp only [hq.1]) <;> rfl) | fail) ?_ | refine Ow.lp Ot.ty HO.out rfl rfl rfl rfl (by first | ((try simp only [hq.1]) <;> rfl) | fail) ?_)) | ((with_reducible refine gate_store rfl ?_); (try (refine gate_guard (by rfl) ?_; dsimp only)); (first | refine Ow.s0 Ot.ty HO.out rfl rfl rfl rfl rfl (by first | exact Ow.ev_tmp rfl | rfl) (by first | (refine ⟨?_, ?_, ?_⟩ <;> (first | ((try simp only [hq.1]) <;> rfl) | fail)) | fail) ?_ | refine Ow.sp Ot.ty HO.out rfl rfl rfl rfl rfl (by first | exact Ow.ev_tmp rfl | rfl) (by first | (refine ⟨?_, ?_, ?_⟩ <;> (first | ((try simp only [hq.1]) <;> rfl) | fail)) | fail) ?_); clear HO; intro wz_ HO; simp only [List.set_cons_zero, List.set_cons_succ] at HO))
              go_meet
              case rel => exact ⟨_, (true), (by first | rfl | (simp; done) | (simp [*]; done) | (simp [Pu.bne_nil, Pu.beq_nil]; done)), H', ⟨by first | omega | exact Nat.le_refl _⟩, ⟨Ow.Own.cong (by first | exact HO.out | (have h_ := HO.out; simp only [World.drewN_drewN] at h_; exact h_)) (by first | ((try simp only [hq.1]) <;> rfl) | fail)⟩⟩
            · rw [if_neg c27] at H
              have c27b0 : decide (a0_22 < 0) = false := decide_eq_false c27
              clear c27
              have H' := Aside0.mk H
              clear H
              go_wp2_with (first | ((with_reducible refine gate_callee (f := 26) rfl ?_); refine goesL_ (some 14) rfl rfl Try.func26 (by kernel_rfl) rfl #[.agg #[.int .i64 1, .string a0_1]] rfl (by (try simp only [List.map_toArray, List.map_cons, List.map_nil]); first | done | rfl | (simp only [hq.1]; done) | (simp only [hq.1]; rfl)) ?_; refine Calls.mono (calls_of_args (by first | ((try simp only [hq.1]) <;> rfl) | fail) (chart_May.calls 1 a0_1 true _ A12.out)) ?_; rintro e w39 ⟨he_, hb⟩; subst he_; refine ⟨_, rfl, ?_⟩; replace HO := Aside0.mk (Ow.Own.call HO.out hb); clear hb) | (go_at_call 26; refine Calls.mono (calls_of_args (by first | ((try simp only [hq.1]) <;> rfl) | fail) (chart_May.calls 2 a0_6 true _ A14.out)) ?_; rintro e w42 ⟨he_, hb⟩; subst he_; replace HO := Aside0.mk (Ow.Own.call HO.out hb); clear hb) | (go_at_call 27; refine Calls.mono (calls_of_args (by first | ((try simp only [hq.1]) <;> rfl) | fail) (hold_Ref.calls a0_7 true _ A16.out)) ?_; rintro e w' ⟨he_, ⟨nd, rfl⟩⟩; subst he_; replace HO := Aside0.mk (Ow.Own.drewN HO.out nd); (try simp only [World.drewN_drewN] at HO)) | ((with_reducible refine Ow.gate_build rfl ?_); (try (refine gate_guard (by rfl) ?_; dsimp only)); refine' Ow.tbuild Ot.bd rfl rfl rfl ?hf_ ?_; (case hf_ => repeat (any_goals (first | exact Ow.Fills.nil | (refine' Ow.Fills.c ?hv_ rfl ?hz_ ?_; (case hv_ => first | exact Ow.ev_tmp rfl | rfl); (case hz_ => first | (refine ⟨?_, ?_⟩ <;> (first | ((try simp only [hq.1]) <;> rfl) | fail)) | fail)))))) | ((with_reducible refine Ow.gate_load rfl ?_); (try (refine gate_guard (by rfl) ?_; dsimp only)); (first | refine Ow.l1 Ot.ty HO.out rfl rfl rfl rfl (by first | ((try simp only [hq.1]) <;> rfl) | fail) ?_ | refine Ow.l0 Ot.ty HO.out rfl rfl rfl rfl (by first | ((try simp only [hq.1]) <;> rfl) | fail) ?_ | refine Ow.lp Ot.ty HO.out rfl rfl rfl rfl (by first | ((try simp only [hq.1]) <;> rfl) | fail) ?_)) | ((with_reducible refine gate_store rfl ?_); (try (refine gate_guard (by rfl) ?_; dsimp only)); (first | refine Ow.s0 Ot.ty HO.out rfl rfl rfl rfl rfl (by first | exact Ow.ev_tmp rfl | rfl) (by first | (refine ⟨?_, ?_, ?_⟩ <;> (first | ((try simp only [hq.1]) <;> rfl) | fail)) | fail) ?_ | refine Ow.sp Ot.ty HO.out rfl rfl rfl rfl rfl (by first | exact Ow.ev_tmp rfl | rfl) (by first | (refine ⟨?_, ?_, ?_⟩ <;> (first | ((try simp only [hq.1]) <;> rfl) | fail)) | fail) ?_); clear HO; intro wz_ HO; simp only [List.set_cons_zero, List.set_cons_succ] at HO))
              go_meet
              case rel => exact ⟨_, (decide (a0_22 > 2147483547)), (by first | rfl | (simp; done) | (simp [*]; done) | (simp [Pu.bne_nil, Pu.beq_nil]; done)), H', ⟨by first | omega | exact Nat.le_refl _⟩, ⟨Ow.Own.cong (by first | exact HO.out | (have h_ := HO.out; simp only [World.drewN_drewN] at h_; exact h_)) (by first | ((try simp only [hq.1]) <;> rfl) | fail)⟩⟩
        · replace c17 := Bool.eq_false_iff.mpr c17
          subst c17
          have H1 : (auth_May.j0 k true a0_0 a0_1 a0_2 a0_3 a0_4 a0_5 a0_6 a0_7 a0_8 a0_9 a0_10 a0_11 a0_12 a0_13 a0_14 a0_15 a0_16 a0_17 a0_18 a0_19 a0_20 a0_21 a0_22 a0_23 a0_24) = some r := by rw [if_neg (show ¬ (false = true) by decide)] at H; exact H
          clear H
          have H := H1
          clear H1
          have H' := Aside0.mk H
          clear H
          go_wp2_with (first | ((with_reducible refine gate_callee (f := 26) rfl ?_); refine goesL_ (some 14) rfl rfl Try.func26 (by kernel_rfl) rfl #[.agg #[.int .i64 1, .string a0_1]] rfl (by (try simp only [List.map_toArray, List.map_cons, List.map_nil]); first | done | rfl | (simp only [hq.1]; done) | (simp only [hq.1]; rfl)) ?_; refine Calls.mono (calls_of_args (by first | ((try simp only [hq.1]) <;> rfl) | fail) (chart_May.calls 1 a0_1 true _ A12.out)) ?_; rintro e w47 ⟨he_, hb⟩; subst he_; refine ⟨_, rfl, ?_⟩; replace HO := Aside0.mk (Ow.Own.call HO.out hb); clear hb) | (go_at_call 26; refine Calls.mono (calls_of_args (by first | ((try simp only [hq.1]) <;> rfl) | fail) (chart_May.calls 2 a0_6 true _ A14.out)) ?_; rintro e w50 ⟨he_, hb⟩; subst he_; replace HO := Aside0.mk (Ow.Own.call HO.out hb); clear hb) | (go_at_call 27; refine Calls.mono (calls_of_args (by first | ((try simp only [hq.1]) <;> rfl) | fail) (hold_Ref.calls a0_7 false _ A16.out)) ?_; rintro e w' ⟨he_, ⟨nd, rfl⟩⟩; subst he_; replace HO := Aside0.mk (Ow.Own.drewN HO.out nd); (try simp only [World.drewN_drewN] at HO)) | ((with_reducible refine Ow.gate_build rfl ?_); (try (refine gate_guard (by rfl) ?_; dsimp only)); refine' Ow.tbuild Ot.bd rfl rfl rfl ?hf_ ?_; (case hf_ => repeat (any_goals (first | exact Ow.Fills.nil | (refine' Ow.Fills.c ?hv_ rfl ?hz_ ?_; (case hv_ => first | exact Ow.ev_tmp rfl | rfl); (case hz_ => first | (refine ⟨?_, ?_⟩ <;> (first | ((try simp only [hq.1]) <;> rfl) | fail)) | fail)))))) | ((with_reducible refine Ow.gate_load rfl ?_); (try (refine gate_guard (by rfl) ?_; dsimp only)); (first | refine Ow.l1 Ot.ty HO.out rfl rfl rfl rfl (by first | ((try simp only [hq.1]) <;> rfl) | fail) ?_ | refine Ow.l0 Ot.ty HO.out rfl rfl rfl rfl (by first | ((try simp only [hq.1]) <;> rfl) | fail) ?_ | refine Ow.lp Ot.ty HO.out rfl rfl rfl rfl (by first | ((try simp only [hq.1]) <;> rfl) | fail) ?_)) | ((with_reducible refine gate_store rfl ?_); (try (refine gate_guard (by rfl) ?_; dsimp only)); (first | refine Ow.s0 Ot.ty HO.out rfl rfl rfl rfl rfl (by first | exact Ow.ev_tmp rfl | rfl) (by first | (refine ⟨?_, ?_, ?_⟩ <;> (first | ((try simp only [hq.1]) <;> rfl) | fail)) | fail) ?_ | refine Ow.sp Ot.ty HO.out rfl rfl rfl rfl rfl (by first | exact Ow.ev_tmp rfl | rfl) (by first | (refine ⟨?_, ?_, ?_⟩ <;> (first | ((try simp only [hq.1]) <;> rfl) | fail)) | fail) ?_); clear HO; intro wz_ HO; simp only [List.set_cons_zero, List.set_cons_succ] at HO))
          go_meet
          case rel => exact ⟨_, (true), (by first | rfl | (simp; done) | (simp [*]; done) | (simp [Pu.bne_nil, Pu.beq_nil]; done)), H', ⟨by first | omega | exact Nat.le_refl _⟩, ⟨Ow.Own.cong (by first | exact HO.out | (have h_ := HO.out; simp only [World.drewN_drewN] at h_; exact h_)) (by first | ((try simp only [hq.1]) <;> rfl) | fail)⟩⟩
      · replace c15 := Bool.eq_false_iff.mpr c15
        subst c15
        have H1 : (auth_May.j0 k true a0_0 a0_1 a0_2 a0_3 a0_4 a0_5 a0_6 a0_7 a0_8 a0_9 a0_10 a0_11 a0_12 a0_13 a0_14 a0_15 a0_16 a0_17 a0_18 a0_19 a0_20 a0_21 a0_22 a0_23 a0_24) = some r := by rw [if_neg (show ¬ (false = true) by decide)] at H; exact H
        clear H
        have H := H1
        clear H1
        have H' := Aside0.mk H
        clear H
        go_wp2_with (first | ((with_reducible refine gate_callee (f := 26) rfl ?_); refine goesL_ (some 14) rfl rfl Try.func26 (by kernel_rfl) rfl #[.agg #[.int .i64 1, .string a0_1]] rfl (by (try simp only [List.map_toArray, List.map_cons, List.map_nil]); first | done | rfl | (simp only [hq.1]; done) | (simp only [hq.1]; rfl)) ?_; refine Calls.mono (calls_of_args (by first | ((try simp only [hq.1]) <;> rfl) | fail) (chart_May.calls 1 a0_1 true _ A12.out)) ?_; rintro e w55 ⟨he_, hb⟩; subst he_; refine ⟨_, rfl, ?_⟩; replace HO := Aside0.mk (Ow.Own.call HO.out hb); clear hb) | (go_at_call 26; refine Calls.mono (calls_of_args (by first | ((try simp only [hq.1]) <;> rfl) | fail) (chart_May.calls 2 a0_6 false _ A14.out)) ?_; rintro e w58 ⟨he_, hb⟩; subst he_; replace HO := Aside0.mk (Ow.Own.call HO.out hb); clear hb) | ((with_reducible refine Ow.gate_build rfl ?_); (try (refine gate_guard (by rfl) ?_; dsimp only)); refine' Ow.tbuild Ot.bd rfl rfl rfl ?hf_ ?_; (case hf_ => repeat (any_goals (first | exact Ow.Fills.nil | (refine' Ow.Fills.c ?hv_ rfl ?hz_ ?_; (case hv_ => first | exact Ow.ev_tmp rfl | rfl); (case hz_ => first | (refine ⟨?_, ?_⟩ <;> (first | ((try simp only [hq.1]) <;> rfl) | fail)) | fail)))))) | ((with_reducible refine Ow.gate_load rfl ?_); (try (refine gate_guard (by rfl) ?_; dsimp only)); (first | refine Ow.l1 Ot.ty HO.out rfl rfl rfl rfl (by first | ((try simp only [hq.1]) <;> rfl) | fail) ?_ | refine Ow.l0 Ot.ty HO.out rfl rfl rfl rfl (by first | ((try simp only [hq.1]) <;> rfl) | fail) ?_ | refine Ow.lp Ot.ty HO.out rfl rfl rfl rfl (by first | ((try simp only [hq.1]) <;> rfl) | fail) ?_)) | ((with_reducible refine gate_store rfl ?_); (try (refine gate_guard (by rfl) ?_; dsimp only)); (first | refine Ow.s0 Ot.ty HO.out rfl rfl rfl rfl rfl (by first | exact Ow.ev_tmp rfl | rfl) (by first | (refine ⟨?_, ?_, ?_⟩ <;> (first | ((try simp only [hq.1]) <;> rfl) | fail)) | fail) ?_ | refine Ow.sp Ot.ty HO.out rfl rfl rfl rfl rfl (by first | exact Ow.ev_tmp rfl | rfl) (by first | (refine ⟨?_, ?_, ?_⟩ <;> (first | ((try simp only [hq.1]) <;> rfl) | fail)) | fail) ?_); clear HO; intro wz_ HO; simp only [List.set_cons_zero, List.set_cons_succ] at HO))
        go_meet
        case rel => exact ⟨_, (true), (by first | rfl | (simp; done) | (simp [*]; done) | (simp [Pu.bne_nil, Pu.beq_nil]; done)), H', ⟨by first | omega | exact Nat.le_refl _⟩, ⟨Ow.Own.cong (by first | exact HO.out | (have h_ := HO.out; simp only [World.drewN_drewN] at h_; exact h_)) (by first | ((try simp only [hq.1]) <;> rfl) | fail)⟩⟩
    · replace c13 := Bool.eq_false_iff.mpr c13
      subst c13
      have H1 : (auth_May.j0 k true a0_0 a0_1 a0_2 a0_3 a0_4 a0_5 a0_6 a0_7 a0_8 a0_9 a0_10 a0_11 a0_12 a0_13 a0_14 a0_15 a0_16 a0_17 a0_18 a0_19 a0_20 a0_21 a0_22 a0_23 a0_24) = some r := by rw [if_neg (show ¬ (false = true) by decide)] at H; exact H
      clear H
      have H := H1
      clear H1
      have H' := Aside0.mk H
      clear H
      go_wp2_with (first | ((with_reducible refine gate_callee (f := 26) rfl ?_); refine goesL_ (some 14) rfl rfl Try.func26 (by kernel_rfl) rfl #[.agg #[.int .i64 1, .string a0_1]] rfl (by (try simp only [List.map_toArray, List.map_cons, List.map_nil]); first | done | rfl | (simp only [hq.1]; done) | (simp only [hq.1]; rfl)) ?_; refine Calls.mono (calls_of_args (by first | ((try simp only [hq.1]) <;> rfl) | fail) (chart_May.calls 1 a0_1 false _ A12.out)) ?_; rintro e w62 ⟨he_, hb⟩; subst he_; refine ⟨_, rfl, ?_⟩; replace HO := Aside0.mk (Ow.Own.call HO.out hb); clear hb) | ((with_reducible refine Ow.gate_build rfl ?_); (try (refine gate_guard (by rfl) ?_; dsimp only)); refine' Ow.tbuild Ot.bd rfl rfl rfl ?hf_ ?_; (case hf_ => repeat (any_goals (first | exact Ow.Fills.nil | (refine' Ow.Fills.c ?hv_ rfl ?hz_ ?_; (case hv_ => first | exact Ow.ev_tmp rfl | rfl); (case hz_ => first | (refine ⟨?_, ?_⟩ <;> (first | ((try simp only [hq.1]) <;> rfl) | fail)) | fail)))))) | ((with_reducible refine Ow.gate_load rfl ?_); (try (refine gate_guard (by rfl) ?_; dsimp only)); (first | refine Ow.l1 Ot.ty HO.out rfl rfl rfl rfl (by first | ((try simp only [hq.1]) <;> rfl) | fail) ?_ | refine Ow.l0 Ot.ty HO.out rfl rfl rfl rfl (by first | ((try simp only [hq.1]) <;> rfl) | fail) ?_ | refine Ow.lp Ot.ty HO.out rfl rfl rfl rfl (by first | ((try simp only [hq.1]) <;> rfl) | fail) ?_)) | ((with_reducible refine gate_store rfl ?_); (try (refine gate_guard (by rfl) ?_; dsimp only)); (first | refine Ow.s0 Ot.ty HO.out rfl rfl rfl rfl rfl (by first | exact Ow.ev_tmp rfl | rfl) (by first | (refine ⟨?_, ?_, ?_⟩ <;> (first | ((try simp only [hq.1]) <;> rfl) | fail)) | fail) ?_ | refine Ow.sp Ot.ty HO.out rfl rfl rfl rfl rfl (by first | exact Ow.ev_tmp rfl | rfl) (by first | (refine ⟨?_, ?_, ?_⟩ <;> (first | ((try simp only [hq.1]) <;> rfl) | fail)) | fail) ?_); clear HO; intro wz_ HO; simp only [List.set_cons_zero, List.set_cons_succ] at HO))
      go_meet
      case rel => exact ⟨_, (true), (by first | rfl | (simp; done) | (simp [*]; done) | (simp [Pu.bne_nil, Pu.beq_nil]; done)), H', ⟨by first | omega | exact Nat.le_refl _⟩, ⟨Ow.Own.cong (by first | exact HO.out | (have h_ := HO.out; simp only [World.drewN_drewN] at h_; exact h_)) (by first | ((try simp only [hq.1]) <;> rfl) | fail)⟩⟩
  case rest =>
    clear HC2
    try clear c1
    try clear c2
    try clear p2
    try clear c3
    try clear c4
    try clear c5
    try clear c6
    try clear c11
    try clear c13
    try clear c15
    try clear c17
    try clear c18
    try clear c18b0
    try clear c19
    try clear c20
    try clear c23
    try clear c26
    try clear c27
    try clear c27b0
    try clear c28
    try clear c29
    try clear c32
    try clear c36
    try clear c37
    try clear c40
    try clear c44
    try clear c45
    try clear c48
    try clear c52
    try clear c53
    try clear c56
    try clear c59
    try clear c60
    try clear hcz21_0
    try clear hcz24_0
    try clear hcz26_0
    try clear hcz30_0
    try clear hcz33_0
    try clear hcz35_0
    try clear hcz38_0
    try clear hcz41_0
    try clear hcz43_0
    try clear hcz46_0
    try clear hcz49_0
    try clear hcz51_0
    try clear hcz54_0
    try clear hcz57_0
    try clear hcz61_0
    try clear hfz21_0
    try clear hfz24_0
    try clear hfz26_0
    try clear hfz30_0
    try clear hfz33_0
    try clear hfz35_0
    try clear hfz38_0
    try clear hfz41_0
    try clear hfz43_0
    try clear hfz46_0
    try clear hfz49_0
    try clear hfz51_0
    try clear hfz54_0
    try clear hfz57_0
    try clear hfz61_0
    clear HO
    obtain ⟨kq, x43_1, rfl, HA, HJ1, HO⟩ := hcut
    cases kq with
    | zero => exact absurd HA.out (by simp [auth_May.j0])
    | succ kj1 =>
      have H := HA.out
      clear HA
      simp only [auth_May.j0] at H
      by_cases c63 : x43_1 = true
      · subst c63
        have H1 : (some false) = some r := by rw [if_pos rfl] at H; exact H
        clear H
        have H := H1
        clear H1
        obtain rfl := Option.some.inj H
        go_wp2_with (first | ((with_reducible refine Ow.gate_build rfl ?_); (try (refine gate_guard (by rfl) ?_; dsimp only)); refine' Ow.tbuild Ot.bd rfl rfl rfl ?hf_ ?_; (case hf_ => repeat (any_goals (first | exact Ow.Fills.nil | (refine' Ow.Fills.c ?hv_ rfl ?hz_ ?_; (case hv_ => first | exact Ow.ev_tmp rfl | rfl); (case hz_ => first | (refine ⟨?_, ?_⟩ <;> (first | ((try simp only [hq.1]) <;> rfl) | fail)) | fail)))))) | ((with_reducible refine Ow.gate_load rfl ?_); (try (refine gate_guard (by rfl) ?_; dsimp only)); (first | refine Ow.l1 Ot.ty HO.out rfl rfl rfl rfl (by first | ((try simp only [hq.1]) <;> rfl) | fail) ?_ | refine Ow.l0 Ot.ty HO.out rfl rfl rfl rfl (by first | ((try simp only [hq.1]) <;> rfl) | fail) ?_ | refine Ow.lp Ot.ty HO.out rfl rfl rfl rfl (by first | ((try simp only [hq.1]) <;> rfl) | fail) ?_)) | ((with_reducible refine gate_store rfl ?_); (try (refine gate_guard (by rfl) ?_; dsimp only)); (first | refine Ow.s0 Ot.ty HO.out rfl rfl rfl rfl rfl (by first | exact Ow.ev_tmp rfl | rfl) (by first | (refine ⟨?_, ?_, ?_⟩ <;> (first | ((try simp only [hq.1]) <;> rfl) | fail)) | fail) ?_ | refine Ow.sp Ot.ty HO.out rfl rfl rfl rfl rfl (by first | exact Ow.ev_tmp rfl | rfl) (by first | (refine ⟨?_, ?_, ?_⟩ <;> (first | ((try simp only [hq.1]) <;> rfl) | fail)) | fail) ?_); clear HO; intro wz_ HO; simp only [List.set_cons_zero, List.set_cons_succ] at HO))
        all_goals go_ret
        all_goals exact ⟨by first | rfl | (simp only [hq.1]; done) | (simp only [hq.1]; rfl) | (simp [errW_none, errW_some] <;> rfl) | (simp [*, errW_none, errW_some] <;> rfl), Ow.Own.below HO.out⟩
      · replace c63 := Bool.eq_false_iff.mpr c63
        subst c63
        have H1 : (if a0_21 = true then ((hold_May.f a0_14 a0_15 a0_16 a0_17 a0_18 a0_19 a0_20).bind fun t119 => (if t119 = true then (if a0_14.toList = a0_7.toList then (some (a0_15.toList == a0_6.toList)) else (some false)) else (some false))) else (some true)) = some r := by rw [if_neg (show ¬ (false = true) by decide)] at H; exact H
        clear H
        have H := H1
        clear H1
        by_cases c64 : a0_21 = true
        · subst c64
          have H1 : ((hold_May.f a0_14 a0_15 a0_16 a0_17 a0_18 a0_19 a0_20).bind fun t119 => (if t119 = true then (if a0_14.toList = a0_7.toList then (some (a0_15.toList == a0_6.toList)) else (some false)) else (some false))) = some r := by rw [if_pos rfl] at H; exact H
          clear H
          have H := H1
          clear H1
          replace H := Option.bind_eq_some_iff.mp H
          obtain ⟨t119, A650, H⟩ := H
          replace H : (if t119 = true then (if a0_14.toList = a0_7.toList then (some (a0_15.toList == a0_6.toList)) else (some false)) else (some false)) = some r := H
          have A65 := Aside0.mk A650
          clear A650
          by_cases c66 : t119 = true
          · subst c66
            have H1 : (if a0_14.toList = a0_7.toList then (some (a0_15.toList == a0_6.toList)) else (some false)) = some r := by rw [if_pos rfl] at H; exact H
            clear H
            have H := H1
            clear H1
            by_cases c67 : a0_14.toList = a0_7.toList
            · rw [if_pos c67] at H
              have c67b0 : (a0_14.toList == a0_7.toList) = true := beq_iff_eq.mpr c67
              have c67b1 : (a0_14.toList != a0_7.toList) = false := bne_eq_false_iff_eq.mpr c67
              clear c67
              obtain rfl := Option.some.inj H
              go_wp2_with (first | (go_at_call 16; refine Calls.mono (calls_of_args (by first | ((try simp only [hq.1]) <;> rfl) | fail) (hold_May.calls a0_14 a0_15 a0_16 a0_17 a0_18 a0_19 a0_20 true _ A65.out)) ?_; rintro e w71 ⟨he_, hb⟩; subst he_; replace HO := Aside0.mk (Ow.Own.call HO.out hb); clear hb) | ((with_reducible refine Ow.gate_build rfl ?_); (try (refine gate_guard (by rfl) ?_; dsimp only)); refine' Ow.tbuild Ot.bd rfl rfl rfl ?hf_ ?_; (case hf_ => repeat (any_goals (first | exact Ow.Fills.nil | (refine' Ow.Fills.c ?hv_ rfl ?hz_ ?_; (case hv_ => first | exact Ow.ev_tmp rfl | rfl); (case hz_ => first | (refine ⟨?_, ?_⟩ <;> (first | ((try simp only [hq.1]) <;> rfl) | fail)) | fail)))))) | ((with_reducible refine Ow.gate_load rfl ?_); (try (refine gate_guard (by rfl) ?_; dsimp only)); (first | refine Ow.l1 Ot.ty HO.out rfl rfl rfl rfl (by first | ((try simp only [hq.1]) <;> rfl) | fail) ?_ | refine Ow.l0 Ot.ty HO.out rfl rfl rfl rfl (by first | ((try simp only [hq.1]) <;> rfl) | fail) ?_ | refine Ow.lp Ot.ty HO.out rfl rfl rfl rfl (by first | ((try simp only [hq.1]) <;> rfl) | fail) ?_)) | ((with_reducible refine gate_store rfl ?_); (try (refine gate_guard (by rfl) ?_; dsimp only)); (first | refine Ow.s0 Ot.ty HO.out rfl rfl rfl rfl rfl (by first | exact Ow.ev_tmp rfl | rfl) (by first | (refine ⟨?_, ?_, ?_⟩ <;> (first | ((try simp only [hq.1]) <;> rfl) | fail)) | fail) ?_ | refine Ow.sp Ot.ty HO.out rfl rfl rfl rfl rfl (by first | exact Ow.ev_tmp rfl | rfl) (by first | (refine ⟨?_, ?_, ?_⟩ <;> (first | ((try simp only [hq.1]) <;> rfl) | fail)) | fail) ?_); clear HO; intro wz_ HO; simp only [List.set_cons_zero, List.set_cons_succ] at HO))
              all_goals go_ret
              all_goals exact ⟨by first | rfl | (simp only [hq.1]; done) | (simp only [hq.1]; rfl) | (simp [errW_none, errW_some] <;> rfl) | (simp [*, errW_none, errW_some] <;> rfl), Ow.Own.below HO.out⟩
            · rw [if_neg c67] at H
              have c67b0 : (a0_14.toList == a0_7.toList) = false := beq_eq_false_iff_ne.mpr c67
              have c67b1 : (a0_14.toList != a0_7.toList) = true := bne_iff_ne.mpr c67
              obtain rfl := Option.some.inj H
              go_wp2_with (first | (go_at_call 16; refine Calls.mono (calls_of_args (by first | ((try simp only [hq.1]) <;> rfl) | fail) (hold_May.calls a0_14 a0_15 a0_16 a0_17 a0_18 a0_19 a0_20 true _ A65.out)) ?_; rintro e w76 ⟨he_, hb⟩; subst he_; replace HO := Aside0.mk (Ow.Own.call HO.out hb); clear hb) | ((with_reducible refine Ow.gate_build rfl ?_); (try (refine gate_guard (by rfl) ?_; dsimp only)); refine' Ow.tbuild Ot.bd rfl rfl rfl ?hf_ ?_; (case hf_ => repeat (any_goals (first | exact Ow.Fills.nil | (refine' Ow.Fills.c ?hv_ rfl ?hz_ ?_; (case hv_ => first | exact Ow.ev_tmp rfl | rfl); (case hz_ => first | (refine ⟨?_, ?_⟩ <;> (first | ((try simp only [hq.1]) <;> rfl) | fail)) | fail)))))) | ((with_reducible refine Ow.gate_load rfl ?_); (try (refine gate_guard (by rfl) ?_; dsimp only)); (first | refine Ow.l1 Ot.ty HO.out rfl rfl rfl rfl (by first | ((try simp only [hq.1]) <;> rfl) | fail) ?_ | refine Ow.l0 Ot.ty HO.out rfl rfl rfl rfl (by first | ((try simp only [hq.1]) <;> rfl) | fail) ?_ | refine Ow.lp Ot.ty HO.out rfl rfl rfl rfl (by first | ((try simp only [hq.1]) <;> rfl) | fail) ?_)) | ((with_reducible refine gate_store rfl ?_); (try (refine gate_guard (by rfl) ?_; dsimp only)); (first | refine Ow.s0 Ot.ty HO.out rfl rfl rfl rfl rfl (by first | exact Ow.ev_tmp rfl | rfl) (by first | (refine ⟨?_, ?_, ?_⟩ <;> (first | ((try simp only [hq.1]) <;> rfl) | fail)) | fail) ?_ | refine Ow.sp Ot.ty HO.out rfl rfl rfl rfl rfl (by first | exact Ow.ev_tmp rfl | rfl) (by first | (refine ⟨?_, ?_, ?_⟩ <;> (first | ((try simp only [hq.1]) <;> rfl) | fail)) | fail) ?_); clear HO; intro wz_ HO; simp only [List.set_cons_zero, List.set_cons_succ] at HO))
              all_goals go_ret
              all_goals exact ⟨by first | rfl | (simp only [hq.1]; done) | (simp only [hq.1]; rfl) | (simp [errW_none, errW_some] <;> rfl) | (simp [*, errW_none, errW_some] <;> rfl), Ow.Own.below HO.out⟩
          · replace c66 := Bool.eq_false_iff.mpr c66
            subst c66
            have H1 : (some false) = some r := by rw [if_neg (show ¬ (false = true) by decide)] at H; exact H
            clear H
            have H := H1
            clear H1
            obtain rfl := Option.some.inj H
            go_wp2_with (first | (go_at_call 16; refine Calls.mono (calls_of_args (by first | ((try simp only [hq.1]) <;> rfl) | fail) (hold_May.calls a0_14 a0_15 a0_16 a0_17 a0_18 a0_19 a0_20 false _ A65.out)) ?_; rintro e w81 ⟨he_, hb⟩; subst he_; replace HO := Aside0.mk (Ow.Own.call HO.out hb); clear hb) | ((with_reducible refine Ow.gate_build rfl ?_); (try (refine gate_guard (by rfl) ?_; dsimp only)); refine' Ow.tbuild Ot.bd rfl rfl rfl ?hf_ ?_; (case hf_ => repeat (any_goals (first | exact Ow.Fills.nil | (refine' Ow.Fills.c ?hv_ rfl ?hz_ ?_; (case hv_ => first | exact Ow.ev_tmp rfl | rfl); (case hz_ => first | (refine ⟨?_, ?_⟩ <;> (first | ((try simp only [hq.1]) <;> rfl) | fail)) | fail)))))) | ((with_reducible refine Ow.gate_load rfl ?_); (try (refine gate_guard (by rfl) ?_; dsimp only)); (first | refine Ow.l1 Ot.ty HO.out rfl rfl rfl rfl (by first | ((try simp only [hq.1]) <;> rfl) | fail) ?_ | refine Ow.l0 Ot.ty HO.out rfl rfl rfl rfl (by first | ((try simp only [hq.1]) <;> rfl) | fail) ?_ | refine Ow.lp Ot.ty HO.out rfl rfl rfl rfl (by first | ((try simp only [hq.1]) <;> rfl) | fail) ?_)) | ((with_reducible refine gate_store rfl ?_); (try (refine gate_guard (by rfl) ?_; dsimp only)); (first | refine Ow.s0 Ot.ty HO.out rfl rfl rfl rfl rfl (by first | exact Ow.ev_tmp rfl | rfl) (by first | (refine ⟨?_, ?_, ?_⟩ <;> (first | ((try simp only [hq.1]) <;> rfl) | fail)) | fail) ?_ | refine Ow.sp Ot.ty HO.out rfl rfl rfl rfl rfl (by first | exact Ow.ev_tmp rfl | rfl) (by first | (refine ⟨?_, ?_, ?_⟩ <;> (first | ((try simp only [hq.1]) <;> rfl) | fail)) | fail) ?_); clear HO; intro wz_ HO; simp only [List.set_cons_zero, List.set_cons_succ] at HO))
            all_goals go_ret
            all_goals exact ⟨by first | rfl | (simp only [hq.1]; done) | (simp only [hq.1]; rfl) | (simp [errW_none, errW_some] <;> rfl) | (simp [*, errW_none, errW_some] <;> rfl), Ow.Own.below HO.out⟩
        · replace c64 := Bool.eq_false_iff.mpr c64
          subst c64
          have H1 : (some true) = some r := by rw [if_neg (show ¬ (false = true) by decide)] at H; exact H
          clear H
          have H := H1
          clear H1
          obtain rfl := Option.some.inj H
          go_wp2_with (first | ((with_reducible refine Ow.gate_build rfl ?_); (try (refine gate_guard (by rfl) ?_; dsimp only)); refine' Ow.tbuild Ot.bd rfl rfl rfl ?hf_ ?_; (case hf_ => repeat (any_goals (first | exact Ow.Fills.nil | (refine' Ow.Fills.c ?hv_ rfl ?hz_ ?_; (case hv_ => first | exact Ow.ev_tmp rfl | rfl); (case hz_ => first | (refine ⟨?_, ?_⟩ <;> (first | ((try simp only [hq.1]) <;> rfl) | fail)) | fail)))))) | ((with_reducible refine Ow.gate_load rfl ?_); (try (refine gate_guard (by rfl) ?_; dsimp only)); (first | refine Ow.l1 Ot.ty HO.out rfl rfl rfl rfl (by first | ((try simp only [hq.1]) <;> rfl) | fail) ?_ | refine Ow.l0 Ot.ty HO.out rfl rfl rfl rfl (by first | ((try simp only [hq.1]) <;> rfl) | fail) ?_ | refine Ow.lp Ot.ty HO.out rfl rfl rfl rfl (by first | ((try simp only [hq.1]) <;> rfl) | fail) ?_)) | ((with_reducible refine gate_store rfl ?_); (try (refine gate_guard (by rfl) ?_; dsimp only)); (first | refine Ow.s0 Ot.ty HO.out rfl rfl rfl rfl rfl (by first | exact Ow.ev_tmp rfl | rfl) (by first | (refine ⟨?_, ?_, ?_⟩ <;> (first | ((try simp only [hq.1]) <;> rfl) | fail)) | fail) ?_ | refine Ow.sp Ot.ty HO.out rfl rfl rfl rfl rfl (by first | exact Ow.ev_tmp rfl | rfl) (by first | (refine ⟨?_, ?_, ?_⟩ <;> (first | ((try simp only [hq.1]) <;> rfl) | fail)) | fail) ?_); clear HO; intro wz_ HO; simp only [List.set_cons_zero, List.set_cons_succ] at HO))
          all_goals go_ret
          all_goals exact ⟨by first | rfl | (simp only [hq.1]; done) | (simp only [hq.1]; rfl) | (simp [errW_none, errW_some] <;> rfl) | (simp [*, errW_none, errW_some] <;> rfl), Ow.Own.below HO.out⟩

end Go.Proofs.Ytmdpomilhejbcaa.XAE
