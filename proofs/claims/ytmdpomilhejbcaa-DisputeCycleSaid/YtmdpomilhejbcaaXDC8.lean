-- Written by wip/xprint.py, a session's program: printed out of the translation, with hand-written functions. Lean checks it.
import Derived.Test.YtmdpomilhejbcaaXDC0
namespace Go.Proofs.Ytmdpomilhejbcaa.XDC
open Go.RowKit Go.Proofs.YtmdpomilhejbcaaW.PrintWords Go.Proofs.YtmdpomilhejbcaaW.PrintLast Go.Proofs.YtmdpomilhejbcaaW.PrintMore
attribute [local go_sem] max2_int min2_int max_two min_two max_three min_three max_four min_four   -- for this text's walks alone
set_option linter.unusedVariables false
set_option linter.unusedSimpArgs false

/-! ### dispute_wrong: function 21 -/
mutual
def dispute_wrong.j0 : Nat → Bool → Bool → ByteArray → ByteArray → ByteArray → Int → ByteArray → ByteArray → ByteArray → ByteArray → ByteArray → Int → Int → ByteArray → Bool → Int → ByteArray → ByteArray → ByteArray → Int → Int → Int → Bool → Bool → Int → Int → Bool → ByteArray → ByteArray → ByteArray → Int → Int → Int → ByteArray → Int → Int → Option (ByteArray)
  | 0, _, _, _, _, _, _, _, _, _, _, _, _, _, _, _, _, _, _, _, _, _, _, _, _, _, _, _, _, _, _, _, _, _, _, _, _ => none
  | k + 1, x2, x9, x128000, x128001, x128002, x128003, x128004, x128005, x128006, x128007, x128008, x128009, x128010, x128011, x128012, x128013, x128014, x128015, x128016, x128017, x128018, x128019, x128020, x128021, x128022, x128023, x128024, x129000, x129001, x129002, x129003, x129004, x129005, x130000, x130001, x130002 => if x9 = true then (some (⟨#[50, 53]⟩ : ByteArray)) else (if x130001 = 0 then (dispute_wrong.j1 k x2 x2 x128000 x128001 x128002 x128003 x128004 x128005 x128006 x128007 x128008 x128009 x128010 x128011 x128012 x128013 x128014 x128015 x128016 x128017 x128018 x128019 x128020 x128021 x128022 x128023 x128024 x129000 x129001 x129002 x129003 x129004 x129005 x130000 x130001 x130002) else (dispute_wrong.j1 k x2 false x128000 x128001 x128002 x128003 x128004 x128005 x128006 x128007 x128008 x128009 x128010 x128011 x128012 x128013 x128014 x128015 x128016 x128017 x128018 x128019 x128020 x128021 x128022 x128023 x128024 x129000 x129001 x129002 x129003 x129004 x129005 x130000 x130001 x130002))
def dispute_wrong.j1 : Nat → Bool → Bool → ByteArray → ByteArray → ByteArray → Int → ByteArray → ByteArray → ByteArray → ByteArray → ByteArray → Int → Int → ByteArray → Bool → Int → ByteArray → ByteArray → ByteArray → Int → Int → Int → Bool → Bool → Int → Int → Bool → ByteArray → ByteArray → ByteArray → Int → Int → Int → ByteArray → Int → Int → Option (ByteArray)
  | 0, _, _, _, _, _, _, _, _, _, _, _, _, _, _, _, _, _, _, _, _, _, _, _, _, _, _, _, _, _, _, _, _, _, _, _, _ => none
  | k + 1, x2, x18, x128000, x128001, x128002, x128003, x128004, x128005, x128006, x128007, x128008, x128009, x128010, x128011, x128012, x128013, x128014, x128015, x128016, x128017, x128018, x128019, x128020, x128021, x128022, x128023, x128024, x129000, x129001, x129002, x129003, x129004, x129005, x130000, x130001, x130002 => if x18 = true then (some (⟨#[57, 52]⟩ : ByteArray)) else (if x130001 = 0 then (dispute_wrong.j2 k x2 (decide (x128003 > (mn x128018 9999999999999))) x128000 x128001 x128002 x128003 x128004 x128005 x128006 x128007 x128008 x128009 x128010 x128011 x128012 x128013 x128014 x128015 x128016 x128017 x128018 x128019 x128020 x128021 x128022 x128023 x128024 x129000 x129001 x129002 x129003 x129004 x129005 x130000 x130001 x130002) else (dispute_wrong.j2 k x2 false x128000 x128001 x128002 x128003 x128004 x128005 x128006 x128007 x128008 x128009 x128010 x128011 x128012 x128013 x128014 x128015 x128016 x128017 x128018 x128019 x128020 x128021 x128022 x128023 x128024 x129000 x129001 x129002 x129003 x129004 x129005 x130000 x130001 x130002))
def dispute_wrong.j2 : Nat → Bool → Bool → ByteArray → ByteArray → ByteArray → Int → ByteArray → ByteArray → ByteArray → ByteArray → ByteArray → Int → Int → ByteArray → Bool → Int → ByteArray → ByteArray → ByteArray → Int → Int → Int → Bool → Bool → Int → Int → Bool → ByteArray → ByteArray → ByteArray → Int → Int → Int → ByteArray → Int → Int → Option (ByteArray)
  | 0, _, _, _, _, _, _, _, _, _, _, _, _, _, _, _, _, _, _, _, _, _, _, _, _, _, _, _, _, _, _, _, _, _, _, _, _ => none
  | k + 1, x2, x25, x128000, x128001, x128002, x128003, x128004, x128005, x128006, x128007, x128008, x128009, x128010, x128011, x128012, x128013, x128014, x128015, x128016, x128017, x128018, x128019, x128020, x128021, x128022, x128023, x128024, x129000, x129001, x129002, x129003, x129004, x129005, x130000, x130001, x130002 => if x25 = true then (some (⟨#[54, 49]⟩ : ByteArray)) else (if x130001 = 0 then (some (⟨#[]⟩ : ByteArray)) else (if x2 = true then (if x129003 = x130001 then (if x128022 > x129005 then (some (⟨#[53, 52]⟩ : ByteArray)) else (if x128003 = x129004 then (some (⟨#[]⟩ : ByteArray)) else (some (⟨#[54, 49]⟩ : ByteArray)))) else (some (⟨#[49, 50]⟩ : ByteArray))) else (some (⟨#[50, 53]⟩ : ByteArray))))
end
def dispute_wrong.f (k : Nat) (a0_0 : ByteArray) (a0_1 : ByteArray) (a0_2 : ByteArray) (a0_3 : Int) (a0_4 : ByteArray) (a0_5 : ByteArray) (a0_6 : ByteArray) (a0_7 : ByteArray) (a0_8 : ByteArray) (a0_9 : Int) (a0_10 : Int) (a0_11 : ByteArray) (a0_12 : Bool) (a0_13 : Int) (a0_14 : ByteArray) (a0_15 : ByteArray) (a0_16 : ByteArray) (a0_17 : Int) (a0_18 : Int) (a0_19 : Int) (a0_20 : Bool) (a0_21 : Bool) (a0_22 : Int) (a0_23 : Int) (a0_24 : Bool) (a1_0 : ByteArray) (a1_1 : ByteArray) (a1_2 : ByteArray) (a1_3 : Int) (a1_4 : Int) (a1_5 : Int) (a2 : Bool) (a3_0 : ByteArray) (a3_1 : Int) (a3_2 : Int) : Option (ByteArray) := if a3_1 = 0 then (dispute_wrong.j0 k a2 (!a0_21) a0_0 a0_1 a0_2 a0_3 a0_4 a0_5 a0_6 a0_7 a0_8 a0_9 a0_10 a0_11 a0_12 a0_13 a0_14 a0_15 a0_16 a0_17 a0_18 a0_19 a0_20 a0_21 a0_22 a0_23 a0_24 a1_0 a1_1 a1_2 a1_3 a1_4 a1_5 a3_0 a3_1 a3_2) else (dispute_wrong.j0 k a2 false a0_0 a0_1 a0_2 a0_3 a0_4 a0_5 a0_6 a0_7 a0_8 a0_9 a0_10 a0_11 a0_12 a0_13 a0_14 a0_15 a0_16 a0_17 a0_18 a0_19 a0_20 a0_21 a0_22 a0_23 a0_24 a1_0 a1_1 a1_2 a1_3 a1_4 a1_5 a3_0 a3_1 a3_2)
theorem dispute_wrong.mono_l : ∀ k, (∀ y0 y1 y2 y3 y4 y5 y6 y7 y8 y9 y10 y11 y12 y13 y14 y15 y16 y17 y18 y19 y20 y21 y22 y23 y24 y25 y26 y27 y28 y29 y30 y31 y32 y33 y34 y35, LeO (dispute_wrong.j0 k y0 y1 y2 y3 y4 y5 y6 y7 y8 y9 y10 y11 y12 y13 y14 y15 y16 y17 y18 y19 y20 y21 y22 y23 y24 y25 y26 y27 y28 y29 y30 y31 y32 y33 y34 y35) (dispute_wrong.j0 (k + 1) y0 y1 y2 y3 y4 y5 y6 y7 y8 y9 y10 y11 y12 y13 y14 y15 y16 y17 y18 y19 y20 y21 y22 y23 y24 y25 y26 y27 y28 y29 y30 y31 y32 y33 y34 y35)) ∧ (∀ y0 y1 y2 y3 y4 y5 y6 y7 y8 y9 y10 y11 y12 y13 y14 y15 y16 y17 y18 y19 y20 y21 y22 y23 y24 y25 y26 y27 y28 y29 y30 y31 y32 y33 y34 y35, LeO (dispute_wrong.j1 k y0 y1 y2 y3 y4 y5 y6 y7 y8 y9 y10 y11 y12 y13 y14 y15 y16 y17 y18 y19 y20 y21 y22 y23 y24 y25 y26 y27 y28 y29 y30 y31 y32 y33 y34 y35) (dispute_wrong.j1 (k + 1) y0 y1 y2 y3 y4 y5 y6 y7 y8 y9 y10 y11 y12 y13 y14 y15 y16 y17 y18 y19 y20 y21 y22 y23 y24 y25 y26 y27 y28 y29 y30 y31 y32 y33 y34 y35)) ∧ (∀ y0 y1 y2 y3 y4 y5 y6 y7 y8 y9 y10 y11 y12 y13 y14 y15 y16 y17 y18 y19 y20 y21 y22 y23 y24 y25 y26 y27 y28 y29 y30 y31 y32 y33 y34 y35, LeO (dispute_wrong.j2 k y0 y1 y2 y3 y4 y5 y6 y7 y8 y9 y10 y11 y12 y13 y14 y15 y16 y17 y18 y19 y20 y21 y22 y23 y24 y25 y26 y27 y28 y29 y30 y31 y32 y33 y34 y35) (dispute_wrong.j2 (k + 1) y0 y1 y2 y3 y4 y5 y6 y7 y8 y9 y10 y11 y12 y13 y14 y15 y16 y17 y18 y19 y20 y21 y22 y23 y24 y25 y26 y27 y28 y29 y30 y31 y32 y33 y34 y35))
  | 0 => ⟨fun _ _ _ _ _ _ _ _ _ _ _ _ _ _ _ _ _ _ _ _ _ _ _ _ _ _ _ _ _ _ _ _ _ _ _ _ r h => by simp [dispute_wrong.j0] at h, fun _ _ _ _ _ _ _ _ _ _ _ _ _ _ _ _ _ _ _ _ _ _ _ _ _ _ _ _ _ _ _ _ _ _ _ _ r h => by simp [dispute_wrong.j1] at h, fun _ _ _ _ _ _ _ _ _ _ _ _ _ _ _ _ _ _ _ _ _ _ _ _ _ _ _ _ _ _ _ _ _ _ _ _ r h => by simp [dispute_wrong.j2] at h⟩
  | k + 1 => by
    obtain ⟨ih0, ih1, ih2⟩ := dispute_wrong.mono_l k
    refine ⟨?_, ?_, ?_⟩
    all_goals
      intros
      first
      | unfold dispute_wrong.j0
      | unfold dispute_wrong.j1
      | unfold dispute_wrong.j2
      repeat' first
      | (with_reducible exact ih0 _ _ _ _ _ _ _ _ _ _ _ _ _ _ _ _ _ _ _ _ _ _ _ _ _ _ _ _ _ _ _ _ _ _ _ _)
      | (with_reducible exact ih1 _ _ _ _ _ _ _ _ _ _ _ _ _ _ _ _ _ _ _ _ _ _ _ _ _ _ _ _ _ _ _ _ _ _ _ _)
      | (with_reducible exact ih2 _ _ _ _ _ _ _ _ _ _ _ _ _ _ _ _ _ _ _ _ _ _ _ _ _ _ _ _ _ _ _ _ _ _ _ _)
      | (with_reducible exact LeO.refl _)
      | (with_reducible exact LeO.none _)
      | (with_reducible refine LeO.ite ?_ ?_)
      | (with_reducible refine LeO.bind ?_ (fun _ => ?_))
      | exact ih0 _ _ _ _ _ _ _ _ _ _ _ _ _ _ _ _ _ _ _ _ _ _ _ _ _ _ _ _ _ _ _ _ _ _ _ _
      | exact ih1 _ _ _ _ _ _ _ _ _ _ _ _ _ _ _ _ _ _ _ _ _ _ _ _ _ _ _ _ _ _ _ _ _ _ _ _
      | exact ih2 _ _ _ _ _ _ _ _ _ _ _ _ _ _ _ _ _ _ _ _ _ _ _ _ _ _ _ _ _ _ _ _ _ _ _ _
      | exact LeO.none _
      | refine LeO.ite ?_ ?_
      | refine LeO.bind ?_ (fun _ => ?_)
theorem dispute_wrong.mono : ∀ a0 a1 a2 a3 a4 a5 a6 a7 a8 a9 a10 a11 a12 a13 a14 a15 a16 a17 a18 a19 a20 a21 a22 a23 a24 a25 a26 a27 a28 a29 a30 a31 a32 a33 a34 k, LeO (dispute_wrong.f k a0 a1 a2 a3 a4 a5 a6 a7 a8 a9 a10 a11 a12 a13 a14 a15 a16 a17 a18 a19 a20 a21 a22 a23 a24 a25 a26 a27 a28 a29 a30 a31 a32 a33 a34) (dispute_wrong.f (k + 1) a0 a1 a2 a3 a4 a5 a6 a7 a8 a9 a10 a11 a12 a13 a14 a15 a16 a17 a18 a19 a20 a21 a22 a23 a24 a25 a26 a27 a28 a29 a30 a31 a32 a33 a34) := by
  intro a0 a1 a2 a3 a4 a5 a6 a7 a8 a9 a10 a11 a12 a13 a14 a15 a16 a17 a18 a19 a20 a21 a22 a23 a24 a25 a26 a27 a28 a29 a30 a31 a32 a33 a34 k
  obtain ⟨ih0, ih1, ih2⟩ := dispute_wrong.mono_l k
  unfold dispute_wrong.f
  repeat' first
      | (with_reducible exact ih0 _ _ _ _ _ _ _ _ _ _ _ _ _ _ _ _ _ _ _ _ _ _ _ _ _ _ _ _ _ _ _ _ _ _ _ _)
      | (with_reducible exact ih1 _ _ _ _ _ _ _ _ _ _ _ _ _ _ _ _ _ _ _ _ _ _ _ _ _ _ _ _ _ _ _ _ _ _ _ _)
      | (with_reducible exact ih2 _ _ _ _ _ _ _ _ _ _ _ _ _ _ _ _ _ _ _ _ _ _ _ _ _ _ _ _ _ _ _ _ _ _ _ _)
      | (with_reducible exact LeO.refl _)
      | (with_reducible exact LeO.none _)
      | (with_reducible refine LeO.ite ?_ ?_)
      | (with_reducible refine LeO.bind ?_ (fun _ => ?_))
      | exact ih0 _ _ _ _ _ _ _ _ _ _ _ _ _ _ _ _ _ _ _ _ _ _ _ _ _ _ _ _ _ _ _ _ _ _ _ _
      | exact ih1 _ _ _ _ _ _ _ _ _ _ _ _ _ _ _ _ _ _ _ _ _ _ _ _ _ _ _ _ _ _ _ _ _ _ _ _
      | exact ih2 _ _ _ _ _ _ _ _ _ _ _ _ _ _ _ _ _ _ _ _ _ _ _ _ _ _ _ _ _ _ _ _ _ _ _ _
      | exact LeO.none _
      | refine LeO.ite ?_ ?_
      | refine LeO.bind ?_ (fun _ => ?_)
set_option maxHeartbeats 8000000 in
set_option maxRecDepth 100000 in
theorem dispute_wrong.calls (k : Nat) (a0_0 : ByteArray) (a0_1 : ByteArray) (a0_2 : ByteArray) (a0_3 : Int) (a0_4 : ByteArray) (a0_5 : ByteArray) (a0_6 : ByteArray) (a0_7 : ByteArray) (a0_8 : ByteArray) (a0_9 : Int) (a0_10 : Int) (a0_11 : ByteArray) (a0_12 : Bool) (a0_13 : Int) (a0_14 : ByteArray) (a0_15 : ByteArray) (a0_16 : ByteArray) (a0_17 : Int) (a0_18 : Int) (a0_19 : Int) (a0_20 : Bool) (a0_21 : Bool) (a0_22 : Int) (a0_23 : Int) (a0_24 : Bool) (a1_0 : ByteArray) (a1_1 : ByteArray) (a1_2 : ByteArray) (a1_3 : Int) (a1_4 : Int) (a1_5 : Int) (a2 : Bool) (a3_0 : ByteArray) (a3_1 : Int) (a3_2 : Int) (r : ByteArray) (w : World) (h : dispute_wrong.f k a0_0 a0_1 a0_2 a0_3 a0_4 a0_5 a0_6 a0_7 a0_8 a0_9 a0_10 a0_11 a0_12 a0_13 a0_14 a0_15 a0_16 a0_17 a0_18 a0_19 a0_20 a0_21 a0_22 a0_23 a0_24 a1_0 a1_1 a1_2 a1_3 a1_4 a1_5 a2 a3_0 a3_1 a3_2 = some r) :
    Calls Try.prog 21 #[.agg #[.string a0_0, .string a0_1, .string a0_2, .int .i64 a0_3, .string a0_4, .string a0_5, .string a0_6, .string a0_7, .string a0_8, .int .i64 a0_9, .int .i64 a0_10, .string a0_11, .bool a0_12, .int .i64 a0_13, .string a0_14, .string a0_15, .string a0_16, .int .i64 a0_17, .int .i64 a0_18, .int .i64 a0_19, .bool a0_20, .bool a0_21, .int .i64 a0_22, .int .i64 a0_23, .bool a0_24], .agg #[.string a1_0, .string a1_1, .string a1_2, .int .i64 a1_3, .int .i64 a1_4, .int .i64 a1_5], .bool a2, .agg #[.string a3_0, .int .i64 a3_1, .int .i64 a3_2]] w fun e w' => e = .returned (.string r) ∧ Below w.heap.size w w' := by
  have hu27 := Try.underlying27
  have hu33 := Try.underlying33
  have hu54 := Try.underlying54
  have HO := Aside0.mk (Ow.Own.nil w)
  have hmf : ∀ (fn : Fn) (first cap : Array Value) (w : World), (Instr.makeFunc fn first cap).run Try.prog w = .ok (.func fn first cap) w := fun _ _ _ _ => rfl
  have H : (if a3_1 = 0 then (dispute_wrong.j0 k a2 (!a0_21) a0_0 a0_1 a0_2 a0_3 a0_4 a0_5 a0_6 a0_7 a0_8 a0_9 a0_10 a0_11 a0_12 a0_13 a0_14 a0_15 a0_16 a0_17 a0_18 a0_19 a0_20 a0_21 a0_22 a0_23 a0_24 a1_0 a1_1 a1_2 a1_3 a1_4 a1_5 a3_0 a3_1 a3_2) else (dispute_wrong.j0 k a2 false a0_0 a0_1 a0_2 a0_3 a0_4 a0_5 a0_6 a0_7 a0_8 a0_9 a0_10 a0_11 a0_12 a0_13 a0_14 a0_15 a0_16 a0_17 a0_18 a0_19 a0_20 a0_21 a0_22 a0_23 a0_24 a1_0 a1_1 a1_2 a1_3 a1_4 a1_5 a3_0 a3_1 a3_2)) = some r := h
  clear h
  have HC5 := Aside0.mk H
  clear H
  obtain ⟨Q0, hQ0_⟩ : ∃ q_ : Array Value, q_ = (#[.string a0_0, .string a0_1, .string a0_2, .int .i64 a0_3, .string a0_4, .string a0_5, .string a0_6, .string a0_7, .string a0_8, .int .i64 a0_9, .int .i64 a0_10, .string a0_11, .bool a0_12, .int .i64 a0_13, .string a0_14, .string a0_15, .string a0_16, .int .i64 a0_17, .int .i64 a0_18, .int .i64 a0_19, .bool a0_20, .bool a0_21, .int .i64 a0_22, .int .i64 a0_23, .bool a0_24] : Array Value) := ⟨_, rfl⟩
  try rw [← hQ0_]
  have hQ0 := Aside0.mk hQ0_; have hq := Aside0.mk hQ0_; clear hQ0_
  obtain ⟨Q1, hQ1_⟩ : ∃ q_ : Array Value, q_ = (#[.string a1_0, .string a1_1, .string a1_2, .int .i64 a1_3, .int .i64 a1_4, .int .i64 a1_5] : Array Value) := ⟨_, rfl⟩
  try rw [← hQ1_]
  have hQ1 := Aside0.mk hQ1_; replace hq := Aside0.mk (And.intro hQ1_ hq.1); clear hQ1_
  go_enter Try.func21, Try.ntmps21
  go_upto_region 1 with (first | ((with_reducible refine gate_dst (N := 4) rfl ?_); (try (refine gate_guard (by rfl) ?_; dsimp only)); refine Ow.box rfl (N := 4) rfl (cs := Q0) (t := 27) HO.out (by first | (go_simp; done) | (go_simp; rfl)) ?_; clear HO; intro gb127 w6 HO; simp only [List.cons_append, List.nil_append] at HO) | ((with_reducible refine gate_dst (N := 5) rfl ?_); (try (refine gate_guard (by rfl) ?_; dsimp only)); refine Ow.box rfl (N := 5) rfl (cs := Q1) (t := 33) HO.out (by first | (go_simp; done) | (go_simp; rfl)) ?_; clear HO; intro gb128 w7 HO; simp only [List.cons_append, List.nil_append] at HO) | ((with_reducible refine gate_dst (N := 7) rfl ?_); (try (refine gate_guard (by rfl) ?_; dsimp only)); refine Ow.box rfl (N := 7) rfl (cs := #[.string a3_0, .int .i64 a3_1, .int .i64 a3_2]) (t := 54) HO.out (by first | (go_simp; done) | (go_simp; rfl)) ?_; clear HO; intro gb129 w8 HO; simp only [List.cons_append, List.nil_append] at HO) | ((with_reducible refine Ow.gate_load rfl ?_); (try (refine gate_guard (by rfl) ?_; dsimp only)); (first | refine Ow.l1 Ot.ty HO.out rfl rfl rfl rfl (by first | ((try simp only [hq.1]) <;> rfl) | fail) ?_)))
  (try simp only [Act.put, List.setIfInBounds_toArray, List.set_cons_zero, List.set_cons_succ])
  (try simp only [Act.put, List.setIfInBounds_toArray, List.set_cons_zero, List.set_cons_succ])
  go_cut [9] (fun v9 wc => ∃ (kq : Nat) (x9_4 : Bool), v9 = .bool x9_4 ∧ Aside0 (dispute_wrong.j0 kq a2 x9_4 a0_0 a0_1 a0_2 a0_3 a0_4 a0_5 a0_6 a0_7 a0_8 a0_9 a0_10 a0_11 a0_12 a0_13 a0_14 a0_15 a0_16 a0_17 a0_18 a0_19 a0_20 a0_21 a0_22 a0_23 a0_24 a1_0 a1_1 a1_2 a1_3 a1_4 a1_5 a3_0 a3_1 a3_2 = some r) ∧ Aside0 (kq ≤ k) ∧ Aside0 (Ow.Own w wc [(gb127, Q0, 27), (gb128, Q1, 33), (gb129, #[.string a3_0, .int .i64 a3_1, .int .i64 a3_2], 54)]))
  case first =>
    have H := HC5.out
    clear HC5
    by_cases c9 : a3_1 = 0
    · rw [if_pos c9] at H
      have c9b0 : (a3_1 == 0) = true := beq_iff_eq.mpr c9
      have c9b1 : (a3_1 != 0) = false := bne_eq_false_iff_eq.mpr c9
      clear c9
      (first | rw [c9b0] | (simp only [i64_w, i32_w]; rw [c9b0]) | skip)
      have H' := Aside0.mk H
      clear H
      go_wp2_with (first | ((with_reducible refine Ow.gate_load rfl ?_); (try (refine gate_guard (by rfl) ?_; dsimp only)); (first | refine Ow.l1 Ot.ty HO.out rfl rfl rfl rfl (by first | ((try simp only [hq.1]) <;> rfl) | fail) ?_)))
      go_meet
      case rel => exact ⟨_, (!a0_21), (by first | rfl | (simp; done) | (simp [*]; done) | (simp [Pu.bne_nil, Pu.beq_nil]; done)), H', ⟨by first | omega | exact Nat.le_refl _⟩, ⟨Ow.Own.cong (by first | exact HO.out | (have h_ := HO.out; simp only [World.drewN_drewN] at h_; exact h_)) (by first | ((try simp only [hq.1]) <;> rfl) | fail)⟩⟩
    · rw [if_neg c9] at H
      have c9b0 : (a3_1 == 0) = false := beq_eq_false_iff_ne.mpr c9
      have c9b1 : (a3_1 != 0) = true := bne_iff_ne.mpr c9
      (first | rw [c9b0] | (simp only [i64_w, i32_w]; rw [c9b0]) | skip)
      have H' := Aside0.mk H
      clear H
      go_wp2_with (first | ((with_reducible refine Ow.gate_load rfl ?_); (try (refine gate_guard (by rfl) ?_; dsimp only)); (first | refine Ow.l1 Ot.ty HO.out rfl rfl rfl rfl (by first | ((try simp only [hq.1]) <;> rfl) | fail) ?_)))
      go_meet
      case rel => exact ⟨_, (false), (by first | rfl | (simp; done) | (simp [*]; done) | (simp [Pu.bne_nil, Pu.beq_nil]; done)), H', ⟨by first | omega | exact Nat.le_refl _⟩, ⟨Ow.Own.cong (by first | exact HO.out | (have h_ := HO.out; simp only [World.drewN_drewN] at h_; exact h_)) (by first | ((try simp only [hq.1]) <;> rfl) | fail)⟩⟩
  case rest =>
    clear HC5
    try clear c1
    try clear c2
    try clear p2
    try clear c9
    try clear c9b0
    try clear c9b1
    try clear c10
    try clear c11
    try clear c13
    try clear c15
    try clear c16
    try clear hcz12_0
    try clear hcz14_0
    try clear hcz17_0
    try clear hfz12_0
    try clear hfz14_0
    try clear hfz17_0
    clear HO
    obtain ⟨kq, x9_4, rfl, HA, HJ4, HO⟩ := hcut
    cases kq with
    | zero => exact absurd HA.out (by simp [dispute_wrong.j0])
    | succ kj4 =>
      have H := HA.out
      clear HA
      simp only [dispute_wrong.j0] at H
      by_cases c18 : x9_4 = true
      · subst c18
        have H1 : (some (⟨#[50, 53]⟩ : ByteArray)) = some r := by rw [if_pos rfl] at H; exact H
        clear H
        have H := H1
        clear H1
        obtain rfl := Option.some.inj H
        go_wp2_with (first | ((with_reducible refine Ow.gate_load rfl ?_); (try (refine gate_guard (by rfl) ?_; dsimp only)); (first | refine Ow.l1 Ot.ty HO.out rfl rfl rfl rfl (by first | ((try simp only [hq.1]) <;> rfl) | fail) ?_)))
        all_goals go_ret
        all_goals exact ⟨by first | rfl | (simp only [hq.1]; done) | (simp only [hq.1]; rfl) | (simp [errW_none, errW_some] <;> rfl) | (simp [*, errW_none, errW_some] <;> rfl), Ow.Own.below HO.out⟩
      · replace c18 := Bool.eq_false_iff.mpr c18
        subst c18
        have H1 : (if a3_1 = 0 then (dispute_wrong.j1 kj4 a2 a2 a0_0 a0_1 a0_2 a0_3 a0_4 a0_5 a0_6 a0_7 a0_8 a0_9 a0_10 a0_11 a0_12 a0_13 a0_14 a0_15 a0_16 a0_17 a0_18 a0_19 a0_20 a0_21 a0_22 a0_23 a0_24 a1_0 a1_1 a1_2 a1_3 a1_4 a1_5 a3_0 a3_1 a3_2) else (dispute_wrong.j1 kj4 a2 false a0_0 a0_1 a0_2 a0_3 a0_4 a0_5 a0_6 a0_7 a0_8 a0_9 a0_10 a0_11 a0_12 a0_13 a0_14 a0_15 a0_16 a0_17 a0_18 a0_19 a0_20 a0_21 a0_22 a0_23 a0_24 a1_0 a1_1 a1_2 a1_3 a1_4 a1_5 a3_0 a3_1 a3_2)) = some r := by rw [if_neg (show ¬ (false = true) by decide)] at H; exact H
        clear H
        have H := H1
        clear H1
        have HC19 := Aside0.mk H
        clear H
        go_upto_region 3 with (first | ((with_reducible refine Ow.gate_load rfl ?_); (try (refine gate_guard (by rfl) ?_; dsimp only)); (first | refine Ow.l1 Ot.ty HO.out rfl rfl rfl rfl (by first | ((try simp only [hq.1]) <;> rfl) | fail) ?_)))
        (try simp only [Act.put, List.setIfInBounds_toArray, List.set_cons_zero, List.set_cons_succ])
        go_cut [18] (fun v18 wc => ∃ (kq : Nat) (x18_18 : Bool), v18 = .bool x18_18 ∧ Aside0 (dispute_wrong.j1 kq a2 x18_18 a0_0 a0_1 a0_2 a0_3 a0_4 a0_5 a0_6 a0_7 a0_8 a0_9 a0_10 a0_11 a0_12 a0_13 a0_14 a0_15 a0_16 a0_17 a0_18 a0_19 a0_20 a0_21 a0_22 a0_23 a0_24 a1_0 a1_1 a1_2 a1_3 a1_4 a1_5 a3_0 a3_1 a3_2 = some r) ∧ Aside0 (kq ≤ kj4) ∧ Aside0 (Ow.Own w wc [(gb127, Q0, 27), (gb128, Q1, 33), (gb129, #[.string a3_0, .int .i64 a3_1, .int .i64 a3_2], 54)]))
        case first =>
          have H := HC19.out
          clear HC19
          by_cases c20 : a3_1 = 0
          · rw [if_pos c20] at H
            have c20b0 : (a3_1 == 0) = true := beq_iff_eq.mpr c20
            have c20b1 : (a3_1 != 0) = false := bne_eq_false_iff_eq.mpr c20
            clear c20
            (first | rw [c20b0] | (simp only [i64_w, i32_w]; rw [c20b0]) | skip)
            have H' := Aside0.mk H
            clear H
            go_wp2_with (first | ((with_reducible refine Ow.gate_load rfl ?_); (try (refine gate_guard (by rfl) ?_; dsimp only)); (first | refine Ow.l1 Ot.ty HO.out rfl rfl rfl rfl (by first | ((try simp only [hq.1]) <;> rfl) | fail) ?_)))
            go_meet
            case rel => exact ⟨_, (a2), (by first | rfl | (simp; done) | (simp [*]; done) | (simp [Pu.bne_nil, Pu.beq_nil]; done)), H', ⟨by have := HJ4.out; first | omega | exact Nat.le_refl _⟩, ⟨Ow.Own.cong (by first | exact HO.out | (have h_ := HO.out; simp only [World.drewN_drewN] at h_; exact h_)) (by first | ((try simp only [hq.1]) <;> rfl) | fail)⟩⟩
          · rw [if_neg c20] at H
            have c20b0 : (a3_1 == 0) = false := beq_eq_false_iff_ne.mpr c20
            have c20b1 : (a3_1 != 0) = true := bne_iff_ne.mpr c20
            (first | rw [c20b0] | (simp only [i64_w, i32_w]; rw [c20b0]) | skip)
            have H' := Aside0.mk H
            clear H
            go_wp2_with (first | ((with_reducible refine Ow.gate_load rfl ?_); (try (refine gate_guard (by rfl) ?_; dsimp only)); (first | refine Ow.l1 Ot.ty HO.out rfl rfl rfl rfl (by first | ((try simp only [hq.1]) <;> rfl) | fail) ?_)))
            go_meet
            case rel => exact ⟨_, (false), (by first | rfl | (simp; done) | (simp [*]; done) | (simp [Pu.bne_nil, Pu.beq_nil]; done)), H', ⟨by have := HJ4.out; first | omega | exact Nat.le_refl _⟩, ⟨Ow.Own.cong (by first | exact HO.out | (have h_ := HO.out; simp only [World.drewN_drewN] at h_; exact h_)) (by first | ((try simp only [hq.1]) <;> rfl) | fail)⟩⟩
        case rest =>
          clear HC19
          try clear c1
          try clear c2
          try clear p2
          try clear c9
          try clear c9b0
          try clear c9b1
          try clear c10
          try clear c11
          try clear c13
          try clear c15
          try clear c16
          try clear c18
          try clear c20
          try clear c20b0
          try clear c20b1
          try clear c21
          try clear c22
          try clear c24
          try clear c25
          try clear hcz12_0
          try clear hcz14_0
          try clear hcz17_0
          try clear hcz23_0
          try clear hcz26_0
          try clear hfz12_0
          try clear hfz14_0
          try clear hfz17_0
          try clear hfz23_0
          try clear hfz26_0
          try clear p2
          clear HO
          obtain ⟨kq, x18_18, rfl, HA, HJ18, HO⟩ := hcut
          cases kq with
          | zero => exact absurd HA.out (by simp [dispute_wrong.j1])
          | succ kj18 =>
            have H := HA.out
            clear HA
            simp only [dispute_wrong.j1] at H
            by_cases c27 : x18_18 = true
            · subst c27
              have H1 : (some (⟨#[57, 52]⟩ : ByteArray)) = some r := by rw [if_pos rfl] at H; exact H
              clear H
              have H := H1
              clear H1
              obtain rfl := Option.some.inj H
              go_wp2_with (first | ((with_reducible refine Ow.gate_load rfl ?_); (try (refine gate_guard (by rfl) ?_; dsimp only)); (first | refine Ow.l1 Ot.ty HO.out rfl rfl rfl rfl (by first | ((try simp only [hq.1]) <;> rfl) | fail) ?_)))
              all_goals go_ret
              all_goals exact ⟨by first | rfl | (simp only [hq.1]; done) | (simp only [hq.1]; rfl) | (simp [errW_none, errW_some] <;> rfl) | (simp [*, errW_none, errW_some] <;> rfl), Ow.Own.below HO.out⟩
            · replace c27 := Bool.eq_false_iff.mpr c27
              subst c27
              have H1 : (if a3_1 = 0 then (dispute_wrong.j2 kj18 a2 (decide (a0_3 > (mn a0_18 9999999999999))) a0_0 a0_1 a0_2 a0_3 a0_4 a0_5 a0_6 a0_7 a0_8 a0_9 a0_10 a0_11 a0_12 a0_13 a0_14 a0_15 a0_16 a0_17 a0_18 a0_19 a0_20 a0_21 a0_22 a0_23 a0_24 a1_0 a1_1 a1_2 a1_3 a1_4 a1_5 a3_0 a3_1 a3_2) else (dispute_wrong.j2 kj18 a2 false a0_0 a0_1 a0_2 a0_3 a0_4 a0_5 a0_6 a0_7 a0_8 a0_9 a0_10 a0_11 a0_12 a0_13 a0_14 a0_15 a0_16 a0_17 a0_18 a0_19 a0_20 a0_21 a0_22 a0_23 a0_24 a1_0 a1_1 a1_2 a1_3 a1_4 a1_5 a3_0 a3_1 a3_2)) = some r := by rw [if_neg (show ¬ (false = true) by decide)] at H; exact H
              clear H
              have H := H1
              clear H1
              have HC28 := Aside0.mk H
              clear H
              go_upto_region 5 with (first | ((with_reducible refine Ow.gate_load rfl ?_); (try (refine gate_guard (by rfl) ?_; dsimp only)); (first | refine Ow.l1 Ot.ty HO.out rfl rfl rfl rfl (by first | ((try simp only [hq.1]) <;> rfl) | fail) ?_)))
              (try simp only [Act.put, List.setIfInBounds_toArray, List.set_cons_zero, List.set_cons_succ])
              go_cut [25] (fun v25 wc => ∃ (kq : Nat) (x25_27 : Bool), v25 = .bool x25_27 ∧ Aside0 (dispute_wrong.j2 kq a2 x25_27 a0_0 a0_1 a0_2 a0_3 a0_4 a0_5 a0_6 a0_7 a0_8 a0_9 a0_10 a0_11 a0_12 a0_13 a0_14 a0_15 a0_16 a0_17 a0_18 a0_19 a0_20 a0_21 a0_22 a0_23 a0_24 a1_0 a1_1 a1_2 a1_3 a1_4 a1_5 a3_0 a3_1 a3_2 = some r) ∧ Aside0 (kq ≤ kj18) ∧ Aside0 (Ow.Own w wc [(gb127, Q0, 27), (gb128, Q1, 33), (gb129, #[.string a3_0, .int .i64 a3_1, .int .i64 a3_2], 54)]))
              case first =>
                have H := HC28.out
                clear HC28
                by_cases c29 : a3_1 = 0
                · rw [if_pos c29] at H
                  have c29b0 : (a3_1 == 0) = true := beq_iff_eq.mpr c29
                  have c29b1 : (a3_1 != 0) = false := bne_eq_false_iff_eq.mpr c29
                  clear c29
                  (first | rw [c29b0] | (simp only [i64_w, i32_w]; rw [c29b0]) | skip)
                  obtain ⟨ji30, hji30⟩ : ∃ j_ : Int, (mn a0_18 9999999999999) = j_ := ⟨_, rfl⟩
                  replace H : (dispute_wrong.j2 kj18 a2 (decide (a0_3 > (ji30))) a0_0 a0_1 a0_2 a0_3 a0_4 a0_5 a0_6 a0_7 a0_8 a0_9 a0_10 a0_11 a0_12 a0_13 a0_14 a0_15 a0_16 a0_17 a0_18 a0_19 a0_20 a0_21 a0_22 a0_23 a0_24 a1_0 a1_1 a1_2 a1_3 a1_4 a1_5 a3_0 a3_1 a3_2) = some r := by first | (rw [hji30] at H; exact H) | (simp only [hji30] at H ⊢; exact H)
                  have hji30_ : (if 9999999999999 < a0_18 then 9999999999999 else a0_18) = ji30 := hji30
                  have H' := Aside0.mk H
                  clear H
                  go_wp2_with (first | ((with_reducible refine Ow.gate_load rfl ?_); (try (refine gate_guard (by rfl) ?_; dsimp only)); (first | refine Ow.l1 Ot.ty HO.out rfl rfl rfl rfl (by first | ((try simp only [hq.1]) <;> rfl) | fail) ?_)))
                  go_meet
                  case rel => exact ⟨_, (decide (a0_3 > (ji30))), (by first | rfl | (simp; done) | (simp only [← hji30] <;> (first | rfl | simp)) | (simp [*]; done)), H', ⟨by have := HJ4.out; have := HJ18.out; first | omega | exact Nat.le_refl _⟩, ⟨Ow.Own.cong (by first | exact HO.out | (have h_ := HO.out; simp only [World.drewN_drewN] at h_; exact h_)) (by first | ((try simp only [hq.1]) <;> rfl) | fail)⟩⟩
                · rw [if_neg c29] at H
                  have c29b0 : (a3_1 == 0) = false := beq_eq_false_iff_ne.mpr c29
                  have c29b1 : (a3_1 != 0) = true := bne_iff_ne.mpr c29
                  (first | rw [c29b0] | (simp only [i64_w, i32_w]; rw [c29b0]) | skip)
                  have H' := Aside0.mk H
                  clear H
                  go_wp2_with (first | ((with_reducible refine Ow.gate_load rfl ?_); (try (refine gate_guard (by rfl) ?_; dsimp only)); (first | refine Ow.l1 Ot.ty HO.out rfl rfl rfl rfl (by first | ((try simp only [hq.1]) <;> rfl) | fail) ?_)))
                  go_meet
                  case rel => exact ⟨_, (false), (by first | rfl | (simp; done) | (simp [*]; done) | (simp [Pu.bne_nil, Pu.beq_nil]; done)), H', ⟨by have := HJ4.out; have := HJ18.out; first | omega | exact Nat.le_refl _⟩, ⟨Ow.Own.cong (by first | exact HO.out | (have h_ := HO.out; simp only [World.drewN_drewN] at h_; exact h_)) (by first | ((try simp only [hq.1]) <;> rfl) | fail)⟩⟩
              case rest =>
                clear HC28
                try clear c1
                try clear c2
                try clear p2
                try clear c3
                try clear c9
                try clear c9b0
                try clear c9b1
                try clear c10
                try clear c11
                try clear c13
                try clear c15
                try clear c16
                try clear c18
                try clear c20
                try clear c20b0
                try clear c20b1
                try clear c21
                try clear c22
                try clear c24
                try clear c25
                try clear c27
                try clear c29
                try clear c29b0
                try clear c29b1
                try clear c31
                try clear c32
                try clear c34
                try clear c36
                try clear c37
                try clear hcz12_0
                try clear hcz14_0
                try clear hcz17_0
                try clear hcz23_0
                try clear hcz26_0
                try clear hcz33_0
                try clear hcz35_0
                try clear hcz38_0
                try clear hfz12_0
                try clear hfz14_0
                try clear hfz17_0
                try clear hfz23_0
                try clear hfz26_0
                try clear hfz33_0
                try clear hfz35_0
                try clear hfz38_0
                try clear p2
                clear HO
                obtain ⟨kq, x25_27, rfl, HA, HJ27, HO⟩ := hcut
                cases kq with
                | zero => exact absurd HA.out (by simp [dispute_wrong.j2])
                | succ kj27 =>
                  have H := HA.out
                  clear HA
                  simp only [dispute_wrong.j2] at H
                  by_cases c39 : x25_27 = true
                  · subst c39
                    have H1 : (some (⟨#[54, 49]⟩ : ByteArray)) = some r := by rw [if_pos rfl] at H; exact H
                    clear H
                    have H := H1
                    clear H1
                    obtain rfl := Option.some.inj H
                    go_wp2_with (first | ((with_reducible refine Ow.gate_load rfl ?_); (try (refine gate_guard (by rfl) ?_; dsimp only)); (first | refine Ow.l1 Ot.ty HO.out rfl rfl rfl rfl (by first | ((try simp only [hq.1]) <;> rfl) | fail) ?_)))
                    all_goals go_ret
                    all_goals exact ⟨by first | rfl | (simp only [hq.1]; done) | (simp only [hq.1]; rfl) | (simp [errW_none, errW_some] <;> rfl) | (simp [*, errW_none, errW_some] <;> rfl), Ow.Own.below HO.out⟩
                  · replace c39 := Bool.eq_false_iff.mpr c39
                    subst c39
                    have H1 : (if a3_1 = 0 then (some (⟨#[]⟩ : ByteArray)) else (if a2 = true then (if a1_3 = a3_1 then (if a0_22 > a1_5 then (some (⟨#[53, 52]⟩ : ByteArray)) else (if a0_3 = a1_4 then (some (⟨#[]⟩ : ByteArray)) else (some (⟨#[54, 49]⟩ : ByteArray)))) else (some (⟨#[49, 50]⟩ : ByteArray))) else (some (⟨#[50, 53]⟩ : ByteArray)))) = some r := by rw [if_neg (show ¬ (false = true) by decide)] at H; exact H
                    clear H
                    have H := H1
                    clear H1
                    by_cases c40 : a3_1 = 0
                    · rw [if_pos c40] at H
                      have c40b0 : (a3_1 == 0) = true := beq_iff_eq.mpr c40
                      have c40b1 : (a3_1 != 0) = false := bne_eq_false_iff_eq.mpr c40
                      clear c40
                      obtain rfl := Option.some.inj H
                      go_wp2_with (first | ((with_reducible refine Ow.gate_load rfl ?_); (try (refine gate_guard (by rfl) ?_; dsimp only)); (first | refine Ow.l1 Ot.ty HO.out rfl rfl rfl rfl (by first | ((try simp only [hq.1]) <;> rfl) | fail) ?_)))
                      all_goals go_ret
                      all_goals exact ⟨by first | rfl | (simp only [hq.1]; done) | (simp only [hq.1]; rfl) | (simp [errW_none, errW_some] <;> rfl) | (simp [*, errW_none, errW_some] <;> rfl), Ow.Own.below HO.out⟩
                    · rw [if_neg c40] at H
                      have c40b0 : (a3_1 == 0) = false := beq_eq_false_iff_ne.mpr c40
                      have c40b1 : (a3_1 != 0) = true := bne_iff_ne.mpr c40
                      by_cases c44 : a2 = true
                      · subst c44
                        have H1 : (if a1_3 = a3_1 then (if a0_22 > a1_5 then (some (⟨#[53, 52]⟩ : ByteArray)) else (if a0_3 = a1_4 then (some (⟨#[]⟩ : ByteArray)) else (some (⟨#[54, 49]⟩ : ByteArray)))) else (some (⟨#[49, 50]⟩ : ByteArray))) = some r := by rw [if_pos rfl] at H; exact H
                        clear H
                        have H := H1
                        clear H1
                        by_cases c45 : a1_3 = a3_1
                        · rw [if_pos c45] at H
                          have c45b0 : (a1_3 == a3_1) = true := beq_iff_eq.mpr c45
                          have c45b1 : (a1_3 != a3_1) = false := bne_eq_false_iff_eq.mpr c45
                          clear c45
                          by_cases c46 : a0_22 > a1_5
                          · rw [if_pos c46] at H
                            have c46b0 : decide (a1_5 < a0_22) = true := decide_eq_true c46
                            clear c46
                            obtain rfl := Option.some.inj H
                            go_wp2_with (first | ((with_reducible refine Ow.gate_load rfl ?_); (try (refine gate_guard (by rfl) ?_; dsimp only)); (first | refine Ow.l1 Ot.ty HO.out rfl rfl rfl rfl (by first | ((try simp only [hq.1]) <;> rfl) | fail) ?_)))
                            all_goals go_ret
                            all_goals exact ⟨by first | rfl | (simp only [hq.1]; done) | (simp only [hq.1]; rfl) | (simp [errW_none, errW_some] <;> rfl) | (simp [*, errW_none, errW_some] <;> rfl), Ow.Own.below HO.out⟩
                          · rw [if_neg c46] at H
                            have c46b0 : decide (a1_5 < a0_22) = false := decide_eq_false c46
                            clear c46
                            by_cases c53 : a0_3 = a1_4
                            · rw [if_pos c53] at H
                              have c53b0 : (a0_3 == a1_4) = true := beq_iff_eq.mpr c53
                              have c53b1 : (a0_3 != a1_4) = false := bne_eq_false_iff_eq.mpr c53
                              clear c53
                              obtain rfl := Option.some.inj H
                              go_wp2_with (first | ((with_reducible refine Ow.gate_load rfl ?_); (try (refine gate_guard (by rfl) ?_; dsimp only)); (first | refine Ow.l1 Ot.ty HO.out rfl rfl rfl rfl (by first | ((try simp only [hq.1]) <;> rfl) | fail) ?_)))
                              all_goals go_ret
                              all_goals exact ⟨by first | rfl | (simp only [hq.1]; done) | (simp only [hq.1]; rfl) | (simp [errW_none, errW_some] <;> rfl) | (simp [*, errW_none, errW_some] <;> rfl), Ow.Own.below HO.out⟩
                            · rw [if_neg c53] at H
                              have c53b0 : (a0_3 == a1_4) = false := beq_eq_false_iff_ne.mpr c53
                              have c53b1 : (a0_3 != a1_4) = true := bne_iff_ne.mpr c53
                              obtain rfl := Option.some.inj H
                              go_wp2_with (first | ((with_reducible refine Ow.gate_load rfl ?_); (try (refine gate_guard (by rfl) ?_; dsimp only)); (first | refine Ow.l1 Ot.ty HO.out rfl rfl rfl rfl (by first | ((try simp only [hq.1]) <;> rfl) | fail) ?_)))
                              all_goals go_ret
                              all_goals exact ⟨by first | rfl | (simp only [hq.1]; done) | (simp only [hq.1]; rfl) | (simp [errW_none, errW_some] <;> rfl) | (simp [*, errW_none, errW_some] <;> rfl), Ow.Own.below HO.out⟩
                        · rw [if_neg c45] at H
                          have c45b0 : (a1_3 == a3_1) = false := beq_eq_false_iff_ne.mpr c45
                          have c45b1 : (a1_3 != a3_1) = true := bne_iff_ne.mpr c45
                          obtain rfl := Option.some.inj H
                          go_wp2_with (first | ((with_reducible refine Ow.gate_load rfl ?_); (try (refine gate_guard (by rfl) ?_; dsimp only)); (first | refine Ow.l1 Ot.ty HO.out rfl rfl rfl rfl (by first | ((try simp only [hq.1]) <;> rfl) | fail) ?_)))
                          all_goals go_ret
                          all_goals exact ⟨by first | rfl | (simp only [hq.1]; done) | (simp only [hq.1]; rfl) | (simp [errW_none, errW_some] <;> rfl) | (simp [*, errW_none, errW_some] <;> rfl), Ow.Own.below HO.out⟩
                      · replace c44 := Bool.eq_false_iff.mpr c44
                        subst c44
                        have H1 : (some (⟨#[50, 53]⟩ : ByteArray)) = some r := by rw [if_neg (show ¬ (false = true) by decide)] at H; exact H
                        clear H
                        have H := H1
                        clear H1
                        obtain rfl := Option.some.inj H
                        go_wp2_with (first | ((with_reducible refine Ow.gate_load rfl ?_); (try (refine gate_guard (by rfl) ?_; dsimp only)); (first | refine Ow.l1 Ot.ty HO.out rfl rfl rfl rfl (by first | ((try simp only [hq.1]) <;> rfl) | fail) ?_)))
                        all_goals go_ret
                        all_goals exact ⟨by first | rfl | (simp only [hq.1]; done) | (simp only [hq.1]; rfl) | (simp [errW_none, errW_some] <;> rfl) | (simp [*, errW_none, errW_some] <;> rfl), Ow.Own.below HO.out⟩

end Go.Proofs.Ytmdpomilhejbcaa.XDC
