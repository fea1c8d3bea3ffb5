-- Written by wip/xprint.py, a session's program: printed out of the translation, with hand-written functions. Lean checks it.
import Derived.Test.YtaifcadnnmicnaaXE0
import Derived.Test.YtaifcadnnmicnaaXE3
import Derived.Test.YtaifcadnnmicnaaXE4
import Derived.Test.YtaifcadnnmicnaaXE9
import Derived.Test.YtaifcadnnmicnaaXE19
import Derived.Test.YtaifcadnnmicnaaXE20
import Derived.Test.YtaifcadnnmicnaaXE21
import Derived.Test.YtaifcadnnmicnaaXE24
namespace Go.Proofs.Ytaifcadnnmicnaa.XE
open Go.RowKit Go.Proofs.YtaifcadnnmicnaaW.PrintWords Go.Proofs.YtaifcadnnmicnaaW.PrintLast Go.Proofs.YtaifcadnnmicnaaW.PrintMore
attribute [local go_sem] max2_int min2_int max_two min_two max_three min_three max_four min_four   -- for this text's walks alone
set_option linter.unusedVariables false
set_option linter.unusedSimpArgs false

/-! ### bursarlaw15_ExpiryLapses: function 4 -/
def bursarlaw15_ExpiryLapses.l0 : Nat → List (S30) → Int → List (S30) → List (S30) → List Int → List (S30) → Int → Option (Bool)
  | 0, _, _, _, _, _, _, _ => none
  | k + 1, x0, x1, x5, x6, x7, x8, x9 => if x9 < (x8.length : Int) then (if 0 ≤ x9 then ((bursarref14_May.f ((rd_T30 x8 x9).f0) ((rd_T30 x8 x9).f1) ((rd_T30 x8 x9).f2) ((rd_T30 x8 x9).f3) ((rd_T30 x8 x9).f4) ((rd_T30 x8 x9).f5) ((rd_T30 x8 x9).f6)).bind fun t271 => (if t271 = true then ((bursarref14_Lapse.f ((rd_T30 x8 x9).f0) ((rd_T30 x8 x9).f1) ((rd_T30 x8 x9).f2) ((rd_T30 x8 x9).f3) ((rd_T30 x8 x9).f4) ((rd_T30 x8 x9).f5) ((rd_T30 x8 x9).f6) x1).bind fun bt273 => (bursarlaw15_ExpiryLapses.l0 k x0 x1 x5 x6 x7 (x8.set (x9 : Int).toNat (⟨bt273.1, bt273.2.1, bt273.2.2.1, bt273.2.2.2.1, bt273.2.2.2.2.1, bt273.2.2.2.2.2.1, bt273.2.2.2.2.2.2.1⟩ : S30)) (wrap64 (x9 + 1)))) else (bursarlaw15_ExpiryLapses.l0 k x0 x1 x5 x6 x7 x8 (wrap64 (x9 + 1))))) else (none)) else ((bursarref15_SameHolds.f k x6 x8).bind fun t282 => (if t282 = true then ((bursarref15_Due.f k x0 x1).bind fun t283 => ((bursarref15_Same.f k x7 t283).bind fun t286 => (if t286 = true then ((bursarref15_SameHolds.f k x0 x5).bind fun t287 => (if t287 = true then ((bursarlaw15_awake.f k).bind fun t288 => (some t288)) else (none))) else (none)))) else (none)))
def bursarlaw15_ExpiryLapses.f (k : Nat) (l0 : List (S30)) (a1 : Int) : Option (Bool) := (bursarlaw15_few.f k l0).bind fun t255 => ((bursarlaw15_few.f k t255).bind fun t258 => ((expiry_Lapse.f k t255 a1).bind fun bt261 => ((bursarlaw15_few.f k t255).bind fun t267 => (bursarlaw15_ExpiryLapses.l0 k t255 a1 t258 bt261.1 bt261.2 t267 0))))
theorem bursarlaw15_ExpiryLapses.mono_l : ∀ k, (∀ y0 y1 y2 y3 y4 y5 y6, LeO (bursarlaw15_ExpiryLapses.l0 k y0 y1 y2 y3 y4 y5 y6) (bursarlaw15_ExpiryLapses.l0 (k + 1) y0 y1 y2 y3 y4 y5 y6))
  | 0 => fun _ _ _ _ _ _ _ r h => by simp [bursarlaw15_ExpiryLapses.l0] at h
  | k + 1 => by
    have ih0 := bursarlaw15_ExpiryLapses.mono_l k
    · intro y0 y1 y2 y3 y4 y5 y6
      unfold bursarlaw15_ExpiryLapses.l0
      repeat' first
      | (with_reducible exact ih0 _ _ _ _ _ _ _)
      | (with_reducible exact bursarlaw15_awake.mono _)
      | (with_reducible exact bursarlaw15_few.mono _ _)
      | (with_reducible exact bursarref15_Due.mono _ _ _)
      | (with_reducible exact bursarref15_Same.mono _ _ _)
      | (with_reducible exact bursarref15_SameHolds.mono _ _ _)
      | (with_reducible exact expiry_Lapse.mono _ _ _)
      | (with_reducible exact LeO.refl _)
      | (with_reducible exact LeO.none _)
      | (with_reducible refine LeO.ite ?_ ?_)
      | (with_reducible refine LeO.bind ?_ (fun _ => ?_))
      | exact ih0 _ _ _ _ _ _ _
      | exact bursarlaw15_awake.mono _
      | exact bursarlaw15_few.mono _ _
      | exact bursarref15_Due.mono _ _ _
      | exact bursarref15_Same.mono _ _ _
      | exact bursarref15_SameHolds.mono _ _ _
      | exact expiry_Lapse.mono _ _ _
      | exact LeO.none _
      | refine LeO.ite ?_ ?_
      | refine LeO.bind ?_ (fun _ => ?_)
theorem bursarlaw15_ExpiryLapses.mono : ∀ a0 a1 k, LeO (bursarlaw15_ExpiryLapses.f k a0 a1) (bursarlaw15_ExpiryLapses.f (k + 1) a0 a1) := by
  intro a0 a1 k
  have ih0 := bursarlaw15_ExpiryLapses.mono_l k
  unfold bursarlaw15_ExpiryLapses.f
  repeat' first
      | (with_reducible exact ih0 _ _ _ _ _ _ _)
      | (with_reducible exact bursarlaw15_awake.mono _)
      | (with_reducible exact bursarlaw15_few.mono _ _)
      | (with_reducible exact bursarref15_Due.mono _ _ _)
      | (with_reducible exact bursarref15_Same.mono _ _ _)
      | (with_reducible exact bursarref15_SameHolds.mono _ _ _)
      | (with_reducible exact expiry_Lapse.mono _ _ _)
      | (with_reducible exact LeO.refl _)
      | (with_reducible exact LeO.none _)
      | (with_reducible refine LeO.ite ?_ ?_)
      | (with_reducible refine LeO.bind ?_ (fun _ => ?_))
      | exact ih0 _ _ _ _ _ _ _
      | exact bursarlaw15_awake.mono _
      | exact bursarlaw15_few.mono _ _
      | exact bursarref15_Due.mono _ _ _
      | exact bursarref15_Same.mono _ _ _
      | exact bursarref15_SameHolds.mono _ _ _
      | exact expiry_Lapse.mono _ _ _
      | exact LeO.none _
      | refine LeO.ite ?_ ?_
      | refine LeO.bind ?_ (fun _ => ?_)
set_option maxHeartbeats 8000000 in
set_option maxRecDepth 100000 in
theorem bursarlaw15_ExpiryLapses.calls (k : Nat) (A0 : Option Addr) (c0 : Nat) (l0 : List (S30)) (a1 : Int) (r : Bool) (w : World) (hr0 : Kd.C k30 w A0 l0.length l0) (hc0 : l0.length ≤ c0) (h : bursarlaw15_ExpiryLapses.f k l0 a1 = some r) :
    Calls Try.prog 4 #[.slice A0 l0.length c0, .int .i64 a1] w fun e w' => e = .returned (.bool r) ∧ Below w.heap.size w w' := by
  have hu30 := Try.underlying30
  have HR0 := Aside0.mk hr0
  have HC0 := Aside0.mk hc0
  clear hr0 hc0
  have HB := Aside0.mk (Below.refl w.heap.size w)
  have H : ((bursarlaw15_few.f k l0).bind fun t255 => ((bursarlaw15_few.f k t255).bind fun t258 => ((expiry_Lapse.f k t255 a1).bind fun bt261 => ((bursarlaw15_few.f k t255).bind fun t267 => (bursarlaw15_ExpiryLapses.l0 k t255 a1 t258 bt261.1 bt261.2 t267 0))))) = some r := h
  clear h
  replace H := Option.bind_eq_some_iff.mp H
  obtain ⟨t255, A30, H⟩ := H
  replace H : ((bursarlaw15_few.f k t255).bind fun t258 => ((expiry_Lapse.f k t255 a1).bind fun bt261 => ((bursarlaw15_few.f k t255).bind fun t267 => (bursarlaw15_ExpiryLapses.l0 k t255 a1 t258 bt261.1 bt261.2 t267 0)))) = some r := H
  have A3 := Aside0.mk A30
  clear A30
  replace H := Option.bind_eq_some_iff.mp H
  obtain ⟨t258, A40, H⟩ := H
  replace H : ((expiry_Lapse.f k t255 a1).bind fun bt261 => ((bursarlaw15_few.f k t255).bind fun t267 => (bursarlaw15_ExpiryLapses.l0 k t255 a1 t258 bt261.1 bt261.2 t267 0))) = some r := H
  have A4 := Aside0.mk A40
  clear A40
  replace H := Option.bind_eq_some_iff.mp H
  obtain ⟨⟨t261, t262⟩, A50, H⟩ := H
  replace H : ((bursarlaw15_few.f k t255).bind fun t267 => (bursarlaw15_ExpiryLapses.l0 k t255 a1 t258 t261 t262 t267 0)) = some r := H
  have A5 := Aside0.mk A50
  clear A50
  replace H := Option.bind_eq_some_iff.mp H
  obtain ⟨t267, A60, H⟩ := H
  replace H : (bursarlaw15_ExpiryLapses.l0 k t255 a1 t258 t261 t262 t267 0) = some r := H
  have A6 := Aside0.mk A60
  clear A60
  have H' := Aside0.mk H
  clear H
  go_enter Try.func4, Try.ntmps4
  go_wp2_with (first | ((with_reducible refine gate_callee (f := 6) rfl ?_); refine goesL_ (some 11) rfl rfl Try.func6 (by kernel_rfl) rfl #[.slice A0 l0.length c0] rfl (by (try simp only [List.map_toArray, List.map_cons, List.map_nil]); first | done | rfl | (simp only [List.length_drop, List.length_take]; rfl)) ?_; (with_reducible refine (bursarlaw15_few.calls k (fun k_ => k_ < w.heap.size) _ _ l0 t255 _ ?side1 A3.out).mono ?_); (case side1 => exact Kd.V_mk HC0.out (Kd.F_below (Kd.C_F k30_heap HR0.out) (by repeat (first | (with_reducible first | exact HB.out | apply below_alloc | apply pw_below_drewN | apply below_drew1) | exact HB.out)))); rintro e w7 ⟨v256, rfl, ho0, hb⟩; refine ⟨_, rfl, ?_⟩; have n0_ := Aside0.mk (Kd.R_lower (Kd.R_mono (ok' := fun k_ => True) ho0 (fun _ hk_ => trivial)) (below_size (by repeat (first | (with_reducible first | exact HB.out | apply below_alloc | apply pw_below_drewN | apply below_drew1) | exact HB.out)))); have n1_ := Aside0.mk (below_step (by repeat (first | (with_reducible first | exact HB.out | apply below_alloc | apply pw_below_drewN | apply below_drew1) | exact HB.out)) hb); clear HB; have HO257 := n0_; have HB := n1_; clear n0_ n1_; (try clear hb); (try clear hb2); (try clear hk); (try clear hi); (try clear ho0); obtain ⟨Ao8, co8, eo8⟩ := Kd.R_slice HO257.out; subst eo8) | ((with_reducible refine gate_callee (f := 6) rfl ?_); refine goesL_ (some 13) rfl rfl Try.func6 (by kernel_rfl) rfl #[.slice Ao8 t255.length co8] rfl (by (try simp only [List.map_toArray, List.map_cons, List.map_nil]); first | done | rfl | (simp only [List.length_drop, List.length_take]; rfl)) ?_; (with_reducible refine (bursarlaw15_few.calls k (fun k_ => some k_ = (.slice Ao8 t255.length co8 : Value).ownBlock) _ _ t255 t258 _ ?side1 A4.out).mono ?_); (case side1 => exact Kd.R_V (Kd.R_tight rfl (HO257.out))); rintro e w9 ⟨v259, rfl, ho0, hb⟩; refine ⟨_, rfl, ?_⟩; have n0_ := Aside0.mk (Kd.R_elder' (by (with_reducible repeat (first | apply Kd.R_alloc | apply Kd.R_drewN | apply Kd.R_drew)); exact HO257.out) (Kd.R_base ho0) hb); have n1_ := Aside0.mk (Kd.R_lower (Kd.R_new' (Kd.R_mono (ok' := fun k_ => True) ho0 (fun _ hk_ => trivial)) (Kd.R_lt (by (with_reducible repeat (first | apply Kd.R_alloc | apply Kd.R_drewN | apply Kd.R_drew)); exact HO257.out))) (below_size (by repeat (first | (with_reducible first | exact HB.out | apply below_alloc | apply pw_below_drewN | apply below_drew1) | exact HB.out)))); have n2_ := Aside0.mk (below_step (by repeat (first | (with_reducible first | exact HB.out | apply below_alloc | apply pw_below_drewN | apply below_drew1) | exact HB.out)) hb); clear HO257; clear HB; have HO257 := n0_; have HO260 := n1_; have HB := n2_; clear n0_ n1_ n2_; (try clear hb); (try clear hb2); (try clear hk); (try clear hi); (try clear ho0)) | ((with_reducible refine gate_callee (f := 11) rfl ?_); refine goesL_ (some 17) rfl rfl Try.func11 (by kernel_rfl) rfl #[.slice Ao8 t255.length co8, .int .i64 a1] rfl (by (try simp only [List.map_toArray, List.map_cons, List.map_nil]); first | done | rfl | (simp only [List.length_drop, List.length_take]; rfl)) ?_; (with_reducible refine (expiry_Lapse.calls k _ _ t255 a1 t261 t262 _ ?side1 ?side2 A5.out).mono ?_); (case side1 => repeat (first | exact (Kd.R_reads' HO257.out).2.2 | (with_reducible refine Kd.C_alloc ?_ _) | (with_reducible refine Kd.C_drewN ?_ _) | (with_reducible refine Kd.C_drew ?_))); (case side2 => exact (Kd.R_reads' HO257.out).2.1); rintro e w10 ⟨v263, v265, rfl, ho0, ho1, hb⟩; refine ⟨_, rfl, ?_⟩; have n0_ := Aside0.mk (Kd.R_elder' (by (with_reducible repeat (first | apply Kd.R_alloc | apply Kd.R_drewN | apply Kd.R_drew)); exact HO257.out) (Kd.R_base ho0) hb); have n1_ := Aside0.mk (Kd.R_elder' (by (with_reducible repeat (first | apply Kd.R_alloc | apply Kd.R_drewN | apply Kd.R_drew)); exact HO260.out) (Kd.R_base ho0) hb); have n2_ := Aside0.mk (Kd.R_lower (Kd.R_new' (Kd.R_new' ho0 (Kd.R_lt (by (with_reducible repeat (first | apply Kd.R_alloc | apply Kd.R_drewN | apply Kd.R_drew)); exact HO257.out))) (Kd.R_lt (by (with_reducible repeat (first | apply Kd.R_alloc | apply Kd.R_drewN | apply Kd.R_drew)); exact HO260.out))) (below_size (by repeat (first | (with_reducible first | exact HB.out | apply below_alloc | apply pw_below_drewN | apply below_drew1) | exact HB.out)))); have n3_ := Aside0.mk (Kd.R_lower ho1 (below_size (by repeat (first | (with_reducible first | exact HB.out | apply below_alloc | apply pw_below_drewN | apply below_drew1) | exact HB.out)))); have n4_ := Aside0.mk (below_step (by repeat (first | (with_reducible first | exact HB.out | apply below_alloc | apply pw_below_drewN | apply below_drew1) | exact HB.out)) hb); clear HO257; clear HO260; clear HB; have HO257 := n0_; have HO260 := n1_; have HO264 := n2_; have HO266 := n3_; have HB := n4_; clear n0_ n1_ n2_ n3_ n4_; (try clear hb); (try clear hb2); (try clear hk); (try clear hi); (try clear ho0); (try clear ho1)) | ((with_reducible refine gate_callee (f := 6) rfl ?_); refine goesL_ (some 21) rfl rfl Try.func6 (by kernel_rfl) rfl #[.slice Ao8 t255.length co8] rfl (by (try simp only [List.map_toArray, List.map_cons, List.map_nil]); first | done | rfl | (simp only [List.length_drop, List.length_take]; rfl)) ?_; (with_reducible refine (bursarlaw15_few.calls k (fun k_ => some k_ = (.slice Ao8 t255.length co8 : Value).ownBlock) _ _ t255 t267 _ ?side1 A6.out).mono ?_); (case side1 => exact Kd.R_V (Kd.R_tight rfl (Kd.R_apart' (HO257.out) (Kd.R_typed HO266.out) (by decide)))); rintro e w11 ⟨v268, rfl, ho0, hb⟩; refine ⟨_, rfl, ?_⟩; have n0_ := Aside0.mk (Kd.R_elder' (by (with_reducible repeat (first | apply Kd.R_alloc | apply Kd.R_drewN | apply Kd.R_drew)); exact HO257.out) (Kd.R_base ho0) hb); have n1_ := Aside0.mk (Kd.R_elder' (by (with_reducible repeat (first | apply Kd.R_alloc | apply Kd.R_drewN | apply Kd.R_drew)); exact HO260.out) (Kd.R_base ho0) hb); have n2_ := Aside0.mk (Kd.R_elder' (by (with_reducible repeat (first | apply Kd.R_alloc | apply Kd.R_drewN | apply Kd.R_drew)); exact HO264.out) (Kd.R_base ho0) hb); have n3_ := Aside0.mk (Kd.R_below (by (with_reducible repeat (first | apply Kd.R_alloc | apply Kd.R_drewN | apply Kd.R_drew)); exact HO266.out) hb); have n4_ := Aside0.mk (Kd.R_lower (Kd.R_new' (Kd.R_new' (Kd.R_new' (Kd.R_mono (ok' := fun k_ => True) ho0 (fun _ hk_ => trivial)) (Kd.R_lt (by (with_reducible repeat (first | apply Kd.R_alloc | apply Kd.R_drewN | apply Kd.R_drew)); exact HO257.out))) (Kd.R_lt (by (with_reducible repeat (first | apply Kd.R_alloc | apply Kd.R_drewN | apply Kd.R_drew)); exact HO260.out))) (Kd.R_lt (by (with_reducible repeat (first | apply Kd.R_alloc | apply Kd.R_drewN | apply Kd.R_drew)); exact HO264.out))) (below_size (by repeat (first | (with_reducible first | exact HB.out | apply below_alloc | apply pw_below_drewN | apply below_drew1) | exact HB.out)))); have n5_ := Aside0.mk (below_step (by repeat (first | (with_reducible first | exact HB.out | apply below_alloc | apply pw_below_drewN | apply below_drew1) | exact HB.out)) hb); clear HO257; clear HO260; clear HO264; clear HO266; clear HB; have HO257 := n0_; have HO260 := n1_; have HO264 := n2_; have HO266 := n3_; have HO269 := n4_; have HB := n5_; clear n0_ n1_ n2_ n3_ n4_ n5_; (try clear hb); (try clear hb2); (try clear hk); (try clear hi); (try clear ho0)))
  go_loopg [9] k (fun kq v9 w' => ∃ (x8_1 : List (S30)) (x9_1 : Int), v9 = .int .i64 x9_1 ∧ Aside0 (bursarlaw15_ExpiryLapses.l0 kq t255 a1 t258 t261 t262 x8_1 x9_1 = some r) ∧ Aside0 (kq ≤ k) ∧ Aside0 (Kd.R k30 30 w' w.heap.size (fun k_ => some k_ ≠ (v259 : Value).ownBlock ∧ some k_ ≠ (v263 : Value).ownBlock ∧ some k_ ≠ (v268 : Value).ownBlock) (.slice Ao8 t255.length co8) t255) ∧ Aside0 (Kd.R k30 30 w' w.heap.size (fun k_ => some k_ ≠ ((.slice Ao8 t255.length co8) : Value).ownBlock ∧ some k_ ≠ (v263 : Value).ownBlock ∧ some k_ ≠ (v268 : Value).ownBlock) v259 t258) ∧ Aside0 (Kd.R k30 30 w' w.heap.size (fun k_ => some k_ ≠ ((.slice Ao8 t255.length co8) : Value).ownBlock ∧ some k_ ≠ (v259 : Value).ownBlock ∧ some k_ ≠ (v268 : Value).ownBlock) v263 t261) ∧ Aside0 (Kd.R (Kd.int .i64) 3 w' w.heap.size (fun _ => True) v265 t262) ∧ Aside0 (Kd.R k30 30 w' w.heap.size (fun k_ => some k_ ≠ ((.slice Ao8 t255.length co8) : Value).ownBlock ∧ some k_ ≠ (v259 : Value).ownBlock ∧ some k_ ≠ (v263 : Value).ownBlock) v268 x8_1) ∧ Aside0 (Below w.heap.size w w'))
  case atStart => exact ⟨(t267), (0), (by first | rfl | (simp; done) | (simp [*]; done) | (simp [Pu.bne_nil, Pu.beq_nil]; done)), H', ⟨Nat.le_refl _⟩, ⟨by (with_reducible repeat (first | apply Kd.R_alloc | apply Kd.R_drewN | apply Kd.R_drew)); exact Kd.R_mono HO257.out (fun _ hk => ⟨hk.1.1.2, ⟨hk.1.2, hk.2⟩⟩)⟩, ⟨by (with_reducible repeat (first | apply Kd.R_alloc | apply Kd.R_drewN | apply Kd.R_drew)); exact Kd.R_mono HO260.out (fun _ hk => ⟨hk.1.1.2, ⟨hk.1.2, hk.2⟩⟩)⟩, ⟨by (with_reducible repeat (first | apply Kd.R_alloc | apply Kd.R_drewN | apply Kd.R_drew)); exact Kd.R_mono HO264.out (fun _ hk => ⟨hk.1.1.2, ⟨hk.1.2, hk.2⟩⟩)⟩, ⟨by (with_reducible repeat (first | apply Kd.R_alloc | apply Kd.R_drewN | apply Kd.R_drew)); exact HO266.out⟩, ⟨by (with_reducible repeat (first | apply Kd.R_alloc | apply Kd.R_drewN | apply Kd.R_drew)); exact Kd.R_mono HO269.out (fun _ hk => ⟨hk.1.1.2, ⟨hk.1.2, hk.2⟩⟩)⟩, ⟨by repeat (first | (with_reducible first | exact HB.out | apply below_alloc | apply pw_below_drewN | apply below_drew1) | exact HB.out)⟩⟩
  case round =>
    clear H'
    try clear c1
    try clear p2
    try clear c4
    try clear c6
    try clear c11
    obtain ⟨x8_1, x9_1, rfl, HA, HK1, HO_0, HO_5, HO_6, HO_7, HO_8, HB⟩ := hrel
    cases gk with
    | zero => exact absurd HA.out (by simp [bursarlaw15_ExpiryLapses.l0])
    | succ k1 =>
      have H := HA.out
      clear HA
      simp only [bursarlaw15_ExpiryLapses.l0] at H
      by_cases c12 : x9_1 < (x8_1.length : Int)
      · rw [if_pos c12] at H
        have c12b0 : decide (x9_1 < (x8_1.length : Int)) = true := decide_eq_true c12
        clear c12
        by_cases c13 : 0 ≤ x9_1
        · rw [if_pos c13] at H
          have c13b0 : decide (0 ≤ x9_1) = true := decide_eq_true c13
          clear c13
          replace H := Option.bind_eq_some_iff.mp H
          obtain ⟨t271, A140, H⟩ := H
          replace H : (if t271 = true then ((bursarref14_Lapse.f ((rd_T30 x8_1 x9_1).f0) ((rd_T30 x8_1 x9_1).f1) ((rd_T30 x8_1 x9_1).f2) ((rd_T30 x8_1 x9_1).f3) ((rd_T30 x8_1 x9_1).f4) ((rd_T30 x8_1 x9_1).f5) ((rd_T30 x8_1 x9_1).f6) a1).bind fun bt273 => (bursarlaw15_ExpiryLapses.l0 k1 t255 a1 t258 t261 t262 (x8_1.set (x9_1 : Int).toNat (⟨bt273.1, bt273.2.1, bt273.2.2.1, bt273.2.2.2.1, bt273.2.2.2.2.1, bt273.2.2.2.2.2.1, bt273.2.2.2.2.2.2.1⟩ : S30)) (wrap64 (x9_1 + 1)))) else (bursarlaw15_ExpiryLapses.l0 k1 t255 a1 t258 t261 t262 x8_1 (wrap64 (x9_1 + 1)))) = some r := H
          have A14 := Aside0.mk A140
          clear A140
          by_cases c15 : t271 = true
          · subst c15
            have H1 : ((bursarref14_Lapse.f ((rd_T30 x8_1 x9_1).f0) ((rd_T30 x8_1 x9_1).f1) ((rd_T30 x8_1 x9_1).f2) ((rd_T30 x8_1 x9_1).f3) ((rd_T30 x8_1 x9_1).f4) ((rd_T30 x8_1 x9_1).f5) ((rd_T30 x8_1 x9_1).f6) a1).bind fun bt273 => (bursarlaw15_ExpiryLapses.l0 k1 t255 a1 t258 t261 t262 (x8_1.set (x9_1 : Int).toNat (⟨bt273.1, bt273.2.1, bt273.2.2.1, bt273.2.2.2.1, bt273.2.2.2.2.1, bt273.2.2.2.2.2.1, bt273.2.2.2.2.2.2.1⟩ : S30)) (wrap64 (x9_1 + 1)))) = some r := by rw [if_pos rfl] at H; exact H
            clear H
            have H := H1
            clear H1
            replace H := Option.bind_eq_some_iff.mp H
            obtain ⟨⟨t273, t274, t275, t276, t277, t278, t279, t280⟩, A160, H⟩ := H
            replace H : (bursarlaw15_ExpiryLapses.l0 k1 t255 a1 t258 t261 t262 (x8_1.set (x9_1 : Int).toNat (⟨t273, t274, t275, t276, t277, t278, t279⟩ : S30)) (wrap64 (x9_1 + 1))) = some r := H
            have A16 := Aside0.mk A160
            clear A160
            obtain ⟨y281, hy281⟩ : ∃ y_ : List (S30), y_ = (x8_1.set (x9_1 : Int).toNat (⟨t273, t274, t275, t276, t277, t278, t279⟩ : S30)) := ⟨_, rfl⟩
            replace H : (bursarlaw15_ExpiryLapses.l0 k1 t255 a1 t258 t261 t262 y281 (wrap64 (x9_1 + 1))) = some r := by first | (rw [hy281]; with_reducible exact H) | (have H2_ := (Option.bind_some _ _).symm.trans H; rw [hy281]; with_reducible exact H2_) | (have H2_ := (Option.bind_some _ _).symm.trans H; with_reducible exact H2_) | with_reducible exact H | (rw [hy281]; exact H) | exact H
            have Ny281 := Aside0.mk hy281
            clear hy281
            have H' := Aside0.mk H
            clear H
            obtain ⟨Ao18, co18, eo18⟩ := Kd.R_slice HO_8.out
            subst eo18
            have p270 : 0 ≤ (x9_1 : Int) := of_decide_eq_true (by first | (with_reducible assumption) | assumption)
            have q270 : x9_1 < (x8_1.length : Int) := of_decide_eq_true (by first | (with_reducible assumption) | assumption)
            obtain ⟨ad270, e270, hx270_0, hx270_1, hx270_2, hx270_3, hx270_4, hx270_5, hx270_6⟩ := at_T30 (Kd.R_reads' HO_8.out).2.2 x9_1 p270 q270
            cases e270
            replace p270 := eq_true p270
            replace q270 := eq_true q270
            go_wp2_with (first | ((with_reducible refine gate_callee (f := 9) rfl ?_); refine goesL_ (some 32) rfl rfl Try.func9 (by kernel_rfl) rfl #[.agg #[.string ((rd_T30 x8_1 x9_1).f0), .string ((rd_T30 x8_1 x9_1).f1), .string ((rd_T30 x8_1 x9_1).f2), .int .i64 ((rd_T30 x8_1 x9_1).f3), .int .i64 ((rd_T30 x8_1 x9_1).f4), .int .i64 ((rd_T30 x8_1 x9_1).f5), .bool ((rd_T30 x8_1 x9_1).f6)]] rfl (by (try simp only [List.map_toArray, List.map_cons, List.map_nil]); first | done | rfl | (simp only [List.length_drop, List.length_take]; rfl)) ?_; (with_reducible refine (bursarref14_May.calls ((rd_T30 x8_1 x9_1).f0) ((rd_T30 x8_1 x9_1).f1) ((rd_T30 x8_1 x9_1).f2) ((rd_T30 x8_1 x9_1).f3) ((rd_T30 x8_1 x9_1).f4) ((rd_T30 x8_1 x9_1).f5) ((rd_T30 x8_1 x9_1).f6) true _ A14.out).mono ?_); rintro e w19 ⟨rfl, hb⟩; refine ⟨_, rfl, ?_⟩; have n0_ := Aside0.mk (Kd.R_below (by (with_reducible repeat (first | apply Kd.R_alloc | apply Kd.R_drewN | apply Kd.R_drew)); exact HO_0.out) hb); have n1_ := Aside0.mk (Kd.R_below (by (with_reducible repeat (first | apply Kd.R_alloc | apply Kd.R_drewN | apply Kd.R_drew)); exact HO_5.out) hb); have n2_ := Aside0.mk (Kd.R_below (by (with_reducible repeat (first | apply Kd.R_alloc | apply Kd.R_drewN | apply Kd.R_drew)); exact HO_6.out) hb); have n3_ := Aside0.mk (Kd.R_below (by (with_reducible repeat (first | apply Kd.R_alloc | apply Kd.R_drewN | apply Kd.R_drew)); exact HO_7.out) hb); have n4_ := Aside0.mk (Kd.R_below (by (with_reducible repeat (first | apply Kd.R_alloc | apply Kd.R_drewN | apply Kd.R_drew)); exact HO_8.out) hb); have n5_ := Aside0.mk (below_step (by repeat (first | (with_reducible first | exact HB.out | apply below_alloc | apply pw_below_drewN | apply below_drew1) | exact HB.out)) hb); clear HO_0; clear HO_5; clear HO_6; clear HO_7; clear HO_8; clear HB; have HO_0 := n0_; have HO_5 := n1_; have HO_6 := n2_; have HO_7 := n3_; have HO_8 := n4_; have HB := n5_; clear n0_ n1_ n2_ n3_ n4_ n5_; (try clear hb); (try clear hb2); (try clear hk); (try clear hi); have p272 : 0 ≤ (x9_1 : Int) := of_decide_eq_true (by first | (with_reducible assumption) | assumption); have q272 : x9_1 < (x8_1.length : Int) := of_decide_eq_true (by first | (with_reducible assumption) | assumption); obtain ⟨ad272, e272, hx272_0, hx272_1, hx272_2, hx272_3, hx272_4, hx272_5, hx272_6⟩ := at_T30 (Kd.R_reads' HO_8.out).2.2 x9_1 p272 q272; obtain rfl : ad270 = ad272 := (by injection e272); replace p272 := eq_true p272; replace q272 := eq_true q272) | ((with_reducible refine gate_callee (f := 12) rfl ?_); refine goesL_ (some 41) rfl rfl Try.func12 (by kernel_rfl) rfl #[.agg #[.string ((rd_T30 x8_1 x9_1).f0), .string ((rd_T30 x8_1 x9_1).f1), .string ((rd_T30 x8_1 x9_1).f2), .int .i64 ((rd_T30 x8_1 x9_1).f3), .int .i64 ((rd_T30 x8_1 x9_1).f4), .int .i64 ((rd_T30 x8_1 x9_1).f5), .bool ((rd_T30 x8_1 x9_1).f6)], .int .i64 a1] rfl (by (try simp only [List.map_toArray, List.map_cons, List.map_nil]); first | done | rfl | (simp only [List.length_drop, List.length_take]; rfl)) ?_; (with_reducible refine (bursarref14_Lapse.calls ((rd_T30 x8_1 x9_1).f0) ((rd_T30 x8_1 x9_1).f1) ((rd_T30 x8_1 x9_1).f2) ((rd_T30 x8_1 x9_1).f3) ((rd_T30 x8_1 x9_1).f4) ((rd_T30 x8_1 x9_1).f5) ((rd_T30 x8_1 x9_1).f6) a1 t273 t274 t275 t276 t277 t278 t279 t280 _ A16.out).mono ?_); rintro e w20 ⟨rfl, hb⟩; refine ⟨_, rfl, ?_⟩; have n0_ := Aside0.mk (Kd.R_below (by (with_reducible repeat (first | apply Kd.R_alloc | apply Kd.R_drewN | apply Kd.R_drew)); exact HO_0.out) hb); have n1_ := Aside0.mk (Kd.R_below (by (with_reducible repeat (first | apply Kd.R_alloc | apply Kd.R_drewN | apply Kd.R_drew)); exact HO_5.out) hb); have n2_ := Aside0.mk (Kd.R_below (by (with_reducible repeat (first | apply Kd.R_alloc | apply Kd.R_drewN | apply Kd.R_drew)); exact HO_6.out) hb); have n3_ := Aside0.mk (Kd.R_below (by (with_reducible repeat (first | apply Kd.R_alloc | apply Kd.R_drewN | apply Kd.R_drew)); exact HO_7.out) hb); have n4_ := Aside0.mk (Kd.R_below (by (with_reducible repeat (first | apply Kd.R_alloc | apply Kd.R_drewN | apply Kd.R_drew)); exact HO_8.out) hb); have n5_ := Aside0.mk (below_step (by repeat (first | (with_reducible first | exact HB.out | apply below_alloc | apply pw_below_drewN | apply below_drew1) | exact HB.out)) hb); clear HO_0; clear HO_5; clear HO_6; clear HO_7; clear HO_8; clear HB; have HO_0 := n0_; have HO_5 := n1_; have HO_6 := n2_; have HO_7 := n3_; have HO_8 := n4_; have HB := n5_; clear n0_ n1_ n2_ n3_ n4_ n5_; (try clear hb); (try clear hb2); (try clear hk); (try clear hi); have p17 : 0 ≤ (x9_1 : Int) := of_decide_eq_true (by first | (with_reducible assumption) | assumption); have q17 : (x9_1 : Int) < ((x8_1.length : Int) : Int) := of_decide_eq_true (by first | (with_reducible assumption) | assumption); obtain ⟨go17, co17, eo17, gb17, gl17, cl17, HG17⟩ := Kd.R_form HO_8.out (by omega); (first | cases eo17 | (injection eo17 with ea_ en_ ec_; (first | subst ea_ | (injection ea_ with ea_; subst ea_)); subst ec_; clear en_)); have GB17 := Aside0.mk gb17; have GG17 := Aside0.mk HG17; clear gb17 gl17 HG17; (first | simp only [add_plain] at hx270_0 | skip); (first | simp only [add_plain] at hx270_1 | skip); (first | simp only [add_plain] at hx270_2 | skip); (first | simp only [add_plain] at hx270_3 | skip); (first | simp only [add_plain] at hx270_4 | skip); (first | simp only [add_plain] at hx270_5 | skip); (first | simp only [add_plain] at hx270_6 | skip); (first | simp only [add_plain] at hx272_0 | skip); (first | simp only [add_plain] at hx272_1 | skip); (first | simp only [add_plain] at hx272_2 | skip); (first | simp only [add_plain] at hx272_3 | skip); (first | simp only [add_plain] at hx272_4 | skip); (first | simp only [add_plain] at hx272_5 | skip); (first | simp only [add_plain] at hx272_6 | skip); obtain ⟨ce17, hcl17, hM17, hcc17, hfr17⟩ := Kd.R_elem HO_8.out z30 (x9_1 : Int) p17 q17; obtain rfl := k30_openM hM17; have hx17_0 : w20.cell? ⟨go17, (x9_1 : Int).toNat * 7, none⟩ = some (.string ((rd_T30 x8_1 x9_1).f0)) := hcc17 0 _ rfl; have hx17_1 : w20.cell? ⟨go17, (x9_1 : Int).toNat * 7 + 1, none⟩ = some (.string ((rd_T30 x8_1 x9_1).f1)) := hcc17 1 _ rfl; have hx17_2 : w20.cell? ⟨go17, (x9_1 : Int).toNat * 7 + 2, none⟩ = some (.string ((rd_T30 x8_1 x9_1).f2)) := hcc17 2 _ rfl; have hx17_3 : w20.cell? ⟨go17, (x9_1 : Int).toNat * 7 + 3, none⟩ = some (.int .i64 ((rd_T30 x8_1 x9_1).f3)) := hcc17 3 _ rfl; have hx17_4 : w20.cell? ⟨go17, (x9_1 : Int).toNat * 7 + 4, none⟩ = some (.int .i64 ((rd_T30 x8_1 x9_1).f4)) := hcc17 4 _ rfl; have hx17_5 : w20.cell? ⟨go17, (x9_1 : Int).toNat * 7 + 5, none⟩ = some (.int .i64 ((rd_T30 x8_1 x9_1).f5)) := hcc17 5 _ rfl; have hx17_6 : w20.cell? ⟨go17, (x9_1 : Int).toNat * 7 + 6, none⟩ = some (.bool ((rd_T30 x8_1 x9_1).f6)) := hcc17 6 _ rfl; have hf17_0 : w20.frozen? ⟨go17, (x9_1 : Int).toNat * 7, none⟩ = false := hfr17 0; have hf17_1 : w20.frozen? ⟨go17, (x9_1 : Int).toNat * 7 + 1, none⟩ = false := hfr17 1; have hf17_2 : w20.frozen? ⟨go17, (x9_1 : Int).toNat * 7 + 2, none⟩ = false := hfr17 2; have hf17_3 : w20.frozen? ⟨go17, (x9_1 : Int).toNat * 7 + 3, none⟩ = false := hfr17 3; have hf17_4 : w20.frozen? ⟨go17, (x9_1 : Int).toNat * 7 + 4, none⟩ = false := hfr17 4; have hf17_5 : w20.frozen? ⟨go17, (x9_1 : Int).toNat * 7 + 5, none⟩ = false := hfr17 5; have hf17_6 : w20.frozen? ⟨go17, (x9_1 : Int).toNat * 7 + 6, none⟩ = false := hfr17 6; clear hcl17 hcc17 hfr17 hM17; replace p17 := eq_true p17; replace q17 := eq_true q17; have HX21 := Aside0.mk (show Kd.R k30 30 w20 w.heap.size (fun k_ => some k_ ≠ (.slice Ao8 t255.length co8 : Value).ownBlock ∧ some k_ ≠ (v259 : Value).ownBlock ∧ some k_ ≠ (v263 : Value).ownBlock) (.slice (some ⟨go17, 0, none⟩) x8_1.length co18) x8_1 from (by (with_reducible repeat (first | apply Kd.R_alloc | apply Kd.R_drewN | apply Kd.R_drew)); exact HO_8.out)); obtain ⟨ce21, hcl21, hM21, hcc21, hfr21⟩ := Kd.R_elem HX21.out z30 (x9_1 : Int) (of_decide_eq_true (by first | (with_reducible assumption) | assumption)) (by have h_ : (x9_1 : Int) < ((x8_1.length : Int) : Int) := of_decide_eq_true (by first | (with_reducible assumption) | assumption); first | exact h_ | (have e_ := (Kd.R_reads' HO_8.out).1; omega) | simpa using h_); obtain rfl := k30_openM hM21; have HP21 := Kd.R_seg HX21.out (x9_1 : Int) (of_decide_eq_true (by first | (with_reducible assumption) | assumption)) (by have h_ : (x9_1 : Int) < ((x8_1.length : Int) : Int) := of_decide_eq_true (by first | (with_reducible assumption) | assumption); first | exact h_ | (have e_ := (Kd.R_reads' HO_8.out).1; omega) | simpa using h_) (seg := [.string t273, .string t274, .string t275, .int .i64 t276, .int .i64 t277, .int .i64 t278, .bool t279]) (j := 0) hcl21 hcc21 (show 7 ≤ 7 from by decide) (x' := (⟨t273, t274, t275, t276, t277, t278, t279⟩ : S30)) (k30_mkM _ _ _ (⟨t273, t274, t275, t276, t277, t278, t279⟩ : S30) ) (fun _ hk => hk); have hx21_0 := hcc21 0 _ rfl; (try simp only [show (k30).sz = 7 from rfl, Nat.mul_one, Nat.add_zero] at hx21_0); have hf21_0 := hfr21 0; (try simp only [show (k30).sz = 7 from rfl, Nat.mul_one, Nat.add_zero] at hf21_0); have hx21_1 := hcc21 1 _ rfl; (try simp only [show (k30).sz = 7 from rfl, Nat.mul_one, Nat.add_zero] at hx21_1); have hf21_1 := hfr21 1; (try simp only [show (k30).sz = 7 from rfl, Nat.mul_one, Nat.add_zero] at hf21_1); have hx21_2 := hcc21 2 _ rfl; (try simp only [show (k30).sz = 7 from rfl, Nat.mul_one, Nat.add_zero] at hx21_2); have hf21_2 := hfr21 2; (try simp only [show (k30).sz = 7 from rfl, Nat.mul_one, Nat.add_zero] at hf21_2); have hx21_3 := hcc21 3 _ rfl; (try simp only [show (k30).sz = 7 from rfl, Nat.mul_one, Nat.add_zero] at hx21_3); have hf21_3 := hfr21 3; (try simp only [show (k30).sz = 7 from rfl, Nat.mul_one, Nat.add_zero] at hf21_3); have hx21_4 := hcc21 4 _ rfl; (try simp only [show (k30).sz = 7 from rfl, Nat.mul_one, Nat.add_zero] at hx21_4); have hf21_4 := hfr21 4; (try simp only [show (k30).sz = 7 from rfl, Nat.mul_one, Nat.add_zero] at hf21_4); have hx21_5 := hcc21 5 _ rfl; (try simp only [show (k30).sz = 7 from rfl, Nat.mul_one, Nat.add_zero] at hx21_5); have hf21_5 := hfr21 5; (try simp only [show (k30).sz = 7 from rfl, Nat.mul_one, Nat.add_zero] at hf21_5); have hx21_6 := hcc21 6 _ rfl; (try simp only [show (k30).sz = 7 from rfl, Nat.mul_one, Nat.add_zero] at hx21_6); have hf21_6 := hfr21 6; (try simp only [show (k30).sz = 7 from rfl, Nat.mul_one, Nat.add_zero] at hf21_6); clear hcl21 hcc21 hfr21 hM21) | ((with_reducible refine gate_store (t := 30) (p := 44) rfl ?_); refine store_event (t := 30) (p := 44) (v := ?vo_w22) (w1 := (((((((w20.setCell ⟨go17, (x9_1 : Int).toNat * 7, none⟩ (.string t273)).setCell ⟨go17, (x9_1 : Int).toNat * 7 + 1, none⟩ (.string t274)).setCell ⟨go17, (x9_1 : Int).toNat * 7 + 2, none⟩ (.string t275)).setCell ⟨go17, (x9_1 : Int).toNat * 7 + 3, none⟩ (.int .i64 t276)).setCell ⟨go17, (x9_1 : Int).toNat * 7 + 4, none⟩ (.int .i64 t277)).setCell ⟨go17, (x9_1 : Int).toNat * 7 + 5, none⟩ (.int .i64 t278)).setCell ⟨go17, (x9_1 : Int).toNat * 7 + 6, none⟩ (.bool t279))) ?hg ?ho ?hn ?hr ?_; (case ho => rfl); (case hg => rfl); (case hn => rfl); (case hr => first | (go_simp; done) | (go_simp; rfl)); intro w22 hw; have hg : w20.grownBy w22 (some go17) := (by rw [hw]; exact HP21.2); have hp_ : Kd.R k30 30 w22 w.heap.size (fun k_ => some k_ ≠ (.slice Ao8 t255.length co8 : Value).ownBlock ∧ some k_ ≠ (v259 : Value).ownBlock ∧ some k_ ≠ (v263 : Value).ownBlock) (.slice (some ⟨go17, 0, none⟩) x8_1.length co18) y281 := (by rw [hw, Ny281.out]; exact HP21.1); clear HP21; have n0_ := Aside0.mk (Kd.R_after (v := (.slice (some ⟨go17, 0, none⟩) x8_1.length co18)) (v1 := (.slice (some ⟨go17, 0, none⟩) x8_1.length co18)) (ok := (fun k_ => some k_ ≠ (v259 : Value).ownBlock ∧ some k_ ≠ (v263 : Value).ownBlock)) (by (with_reducible repeat (first | apply Kd.R_alloc | apply Kd.R_drewN | apply Kd.R_drew)); exact Kd.R_mono HO_0.out (fun _ hk => ⟨⟨hk.1, hk.2.1⟩, hk.2.2⟩)) hg (.inl rfl)); have n1_ := Aside0.mk (Kd.R_after (v := (.slice (some ⟨go17, 0, none⟩) x8_1.length co18)) (v1 := (.slice (some ⟨go17, 0, none⟩) x8_1.length co18)) (ok := (fun k_ => some k_ ≠ (.slice Ao8 t255.length co8 : Value).ownBlock ∧ some k_ ≠ (v263 : Value).ownBlock)) (by (with_reducible repeat (first | apply Kd.R_alloc | apply Kd.R_drewN | apply Kd.R_drew)); exact Kd.R_mono HO_5.out (fun _ hk => ⟨⟨hk.1, hk.2.1⟩, hk.2.2⟩)) hg (.inl rfl)); have n2_ := Aside0.mk (Kd.R_after (v := (.slice (some ⟨go17, 0, none⟩) x8_1.length co18)) (v1 := (.slice (some ⟨go17, 0, none⟩) x8_1.length co18)) (ok := (fun k_ => some k_ ≠ (.slice Ao8 t255.length co8 : Value).ownBlock ∧ some k_ ≠ (v259 : Value).ownBlock)) (by (with_reducible repeat (first | apply Kd.R_alloc | apply Kd.R_drewN | apply Kd.R_drew)); exact Kd.R_mono HO_6.out (fun _ hk => ⟨⟨hk.1, hk.2.1⟩, hk.2.2⟩)) hg (.inl rfl)); have n3_ := Aside0.mk (Kd.R_over' (v := (.slice (some ⟨go17, 0, none⟩) x8_1.length co18)) (by (with_reducible repeat (first | apply Kd.R_alloc | apply Kd.R_drewN | apply Kd.R_drew)); exact HO_7.out) (Kd.R_typed HO_8.out) (by decide) hg); have n4_ := Aside0.mk (hp_); have n5_ := Aside0.mk ((by rw [hw]; exact below_set (below_set (below_set (below_set (below_set (below_set (below_set (HB.out) GB17.out) GB17.out) GB17.out) GB17.out) GB17.out) GB17.out) GB17.out : Below w.heap.size w w22)); clear HO_0; clear HO_5; clear HO_6; clear HO_7; clear HO_8; clear HB; have HO_0 := n0_; have HO_5 := n1_; have HO_6 := n2_; have HO_7 := n3_; have HO_8 := n4_; have HB := n5_; clear n0_ n1_ n2_ n3_ n4_ n5_; clear hg hw hp_))
            go_roundg k1
            case measure => have := HK1.out; omega
            case rel => exact ⟨(y281), (wrap64 (x9_1 + 1)), (by first | rfl | (simp; done) | (simp [*]; done) | (simp [Pu.bne_nil, Pu.beq_nil]; done)), H', ⟨by have := HK1.out; omega⟩, ⟨by (with_reducible repeat (first | apply Kd.R_alloc | apply Kd.R_drewN | apply Kd.R_drew)); exact Kd.R_mono HO_0.out (fun _ hk => ⟨hk.1.1, ⟨hk.1.2, hk.2⟩⟩)⟩, ⟨by (with_reducible repeat (first | apply Kd.R_alloc | apply Kd.R_drewN | apply Kd.R_drew)); exact Kd.R_mono HO_5.out (fun _ hk => ⟨hk.1.1, ⟨hk.1.2, hk.2⟩⟩)⟩, ⟨by (with_reducible repeat (first | apply Kd.R_alloc | apply Kd.R_drewN | apply Kd.R_drew)); exact Kd.R_mono HO_6.out (fun _ hk => ⟨hk.1.1, ⟨hk.1.2, hk.2⟩⟩)⟩, ⟨by (with_reducible repeat (first | apply Kd.R_alloc | apply Kd.R_drewN | apply Kd.R_drew)); exact HO_7.out⟩, ⟨by (with_reducible repeat (first | apply Kd.R_alloc | apply Kd.R_drewN | apply Kd.R_drew)); exact HO_8.out⟩, ⟨by repeat (first | (with_reducible first | exact HB.out | apply below_alloc | apply pw_below_drewN | apply below_drew1) | exact HB.out)⟩⟩
          · replace c15 := Bool.eq_false_iff.mpr c15
            subst c15
            have H1 : (bursarlaw15_ExpiryLapses.l0 k1 t255 a1 t258 t261 t262 x8_1 (wrap64 (x9_1 + 1))) = some r := by rw [if_neg (show ¬ (false = true) by decide)] at H; exact H
            clear H
            have H := H1
            clear H1
            have H' := Aside0.mk H
            clear H
            obtain ⟨Ao23, co23, eo23⟩ := Kd.R_slice HO_8.out
            subst eo23
            have p270 : 0 ≤ (x9_1 : Int) := of_decide_eq_true (by first | (with_reducible assumption) | assumption)
            have q270 : x9_1 < (x8_1.length : Int) := of_decide_eq_true (by first | (with_reducible assumption) | assumption)
            obtain ⟨ad270, e270, hx270_0, hx270_1, hx270_2, hx270_3, hx270_4, hx270_5, hx270_6⟩ := at_T30 (Kd.R_reads' HO_8.out).2.2 x9_1 p270 q270
            cases e270
            replace p270 := eq_true p270
            replace q270 := eq_true q270
            go_wp2_with (first | ((with_reducible refine gate_callee (f := 9) rfl ?_); refine goesL_ (some 32) rfl rfl Try.func9 (by kernel_rfl) rfl #[.agg #[.string ((rd_T30 x8_1 x9_1).f0), .string ((rd_T30 x8_1 x9_1).f1), .string ((rd_T30 x8_1 x9_1).f2), .int .i64 ((rd_T30 x8_1 x9_1).f3), .int .i64 ((rd_T30 x8_1 x9_1).f4), .int .i64 ((rd_T30 x8_1 x9_1).f5), .bool ((rd_T30 x8_1 x9_1).f6)]] rfl (by (try simp only [List.map_toArray, List.map_cons, List.map_nil]); first | done | rfl | (simp only [List.length_drop, List.length_take]; rfl)) ?_; (with_reducible refine (bursarref14_May.calls ((rd_T30 x8_1 x9_1).f0) ((rd_T30 x8_1 x9_1).f1) ((rd_T30 x8_1 x9_1).f2) ((rd_T30 x8_1 x9_1).f3) ((rd_T30 x8_1 x9_1).f4) ((rd_T30 x8_1 x9_1).f5) ((rd_T30 x8_1 x9_1).f6) false _ A14.out).mono ?_); rintro e w24 ⟨rfl, hb⟩; refine ⟨_, rfl, ?_⟩; have n0_ := Aside0.mk (Kd.R_below (by (with_reducible repeat (first | apply Kd.R_alloc | apply Kd.R_drewN | apply Kd.R_drew)); exact HO_0.out) hb); have n1_ := Aside0.mk (Kd.R_below (by (with_reducible repeat (first | apply Kd.R_alloc | apply Kd.R_drewN | apply Kd.R_drew)); exact HO_5.out) hb); have n2_ := Aside0.mk (Kd.R_below (by (with_reducible repeat (first | apply Kd.R_alloc | apply Kd.R_drewN | apply Kd.R_drew)); exact HO_6.out) hb); have n3_ := Aside0.mk (Kd.R_below (by (with_reducible repeat (first | apply Kd.R_alloc | apply Kd.R_drewN | apply Kd.R_drew)); exact HO_7.out) hb); have n4_ := Aside0.mk (Kd.R_below (by (with_reducible repeat (first | apply Kd.R_alloc | apply Kd.R_drewN | apply Kd.R_drew)); exact HO_8.out) hb); have n5_ := Aside0.mk (below_step (by repeat (first | (with_reducible first | exact HB.out | apply below_alloc | apply pw_below_drewN | apply below_drew1) | exact HB.out)) hb); clear HO_0; clear HO_5; clear HO_6; clear HO_7; clear HO_8; clear HB; have HO_0 := n0_; have HO_5 := n1_; have HO_6 := n2_; have HO_7 := n3_; have HO_8 := n4_; have HB := n5_; clear n0_ n1_ n2_ n3_ n4_ n5_; (try clear hb); (try clear hb2); (try clear hk); (try clear hi)))
            go_roundg k1
            case measure => have := HK1.out; omega
            case rel => exact ⟨(x8_1), (wrap64 (x9_1 + 1)), (by first | rfl | (simp; done) | (simp [*]; done) | (simp [Pu.bne_nil, Pu.beq_nil]; done)), H', ⟨by have := HK1.out; omega⟩, ⟨by (with_reducible repeat (first | apply Kd.R_alloc | apply Kd.R_drewN | apply Kd.R_drew)); exact HO_0.out⟩, ⟨by (with_reducible repeat (first | apply Kd.R_alloc | apply Kd.R_drewN | apply Kd.R_drew)); exact HO_5.out⟩, ⟨by (with_reducible repeat (first | apply Kd.R_alloc | apply Kd.R_drewN | apply Kd.R_drew)); exact HO_6.out⟩, ⟨by (with_reducible repeat (first | apply Kd.R_alloc | apply Kd.R_drewN | apply Kd.R_drew)); exact HO_7.out⟩, ⟨by (with_reducible repeat (first | apply Kd.R_alloc | apply Kd.R_drewN | apply Kd.R_drew)); exact HO_8.out⟩, ⟨by repeat (first | (with_reducible first | exact HB.out | apply below_alloc | apply pw_below_drewN | apply below_drew1) | exact HB.out)⟩⟩
        · rw [if_neg c13] at H
          exact absurd H (by simp)
      · rw [if_neg c12] at H
        have c12b0 : decide (x9_1 < (x8_1.length : Int)) = false := decide_eq_false c12
        clear c12
        replace H := Option.bind_eq_some_iff.mp H
        obtain ⟨t282, A250, H⟩ := H
        replace H : (if t282 = true then ((bursarref15_Due.f k1 t255 a1).bind fun t283 => ((bursarref15_Same.f k1 t262 t283).bind fun t286 => (if t286 = true then ((bursarref15_SameHolds.f k1 t255 t258).bind fun t287 => (if t287 = true then ((bursarlaw15_awake.f k1).bind fun t288 => (some t288)) else (none))) else (none)))) else (none)) = some r := H
        have A25 := Aside0.mk A250
        clear A250
        by_cases c26 : t282 = true
        · subst c26
          have H1 : ((bursarref15_Due.f k1 t255 a1).bind fun t283 => ((bursarref15_Same.f k1 t262 t283).bind fun t286 => (if t286 = true then ((bursarref15_SameHolds.f k1 t255 t258).bind fun t287 => (if t287 = true then ((bursarlaw15_awake.f k1).bind fun t288 => (some t288)) else (none))) else (none)))) = some r := by rw [if_pos rfl] at H; exact H
          clear H
          have H := H1
          clear H1
          replace H := Option.bind_eq_some_iff.mp H
          obtain ⟨t283, A270, H⟩ := H
          replace H : ((bursarref15_Same.f k1 t262 t283).bind fun t286 => (if t286 = true then ((bursarref15_SameHolds.f k1 t255 t258).bind fun t287 => (if t287 = true then ((bursarlaw15_awake.f k1).bind fun t288 => (some t288)) else (none))) else (none))) = some r := H
          have A27 := Aside0.mk A270
          clear A270
          replace H := Option.bind_eq_some_iff.mp H
          obtain ⟨t286, A280, H⟩ := H
          replace H : (if t286 = true then ((bursarref15_SameHolds.f k1 t255 t258).bind fun t287 => (if t287 = true then ((bursarlaw15_awake.f k1).bind fun t288 => (some t288)) else (none))) else (none)) = some r := H
          have A28 := Aside0.mk A280
          clear A280
          by_cases c29 : t286 = true
          · subst c29
            have H1 : ((bursarref15_SameHolds.f k1 t255 t258).bind fun t287 => (if t287 = true then ((bursarlaw15_awake.f k1).bind fun t288 => (some t288)) else (none))) = some r := by rw [if_pos rfl] at H; exact H
            clear H
            have H := H1
            clear H1
            replace H := Option.bind_eq_some_iff.mp H
            obtain ⟨t287, A300, H⟩ := H
            replace H : (if t287 = true then ((bursarlaw15_awake.f k1).bind fun t288 => (some t288)) else (none)) = some r := H
            have A30 := Aside0.mk A300
            clear A300
            by_cases c31 : t287 = true
            · subst c31
              have H1 : ((bursarlaw15_awake.f k1).bind fun t288 => (some t288)) = some r := by rw [if_pos rfl] at H; exact H
              clear H
              have H := H1
              clear H1
              replace H := Option.bind_eq_some_iff.mp H
              obtain ⟨t288, A320, H⟩ := H
              replace H : (some t288) = some r := H
              have A32 := Aside0.mk A320
              clear A320
              obtain rfl := Option.some.inj H
              obtain ⟨Ao33, co33, eo33⟩ := Kd.R_slice HO_8.out
              subst eo33
              obtain ⟨Ao34, co34, eo34⟩ := Kd.R_slice HO_6.out
              subst eo34
              go_wp2_with (first | ((with_reducible refine gate_callee (f := 13) rfl ?_); refine goesL_ (some 47) rfl rfl Try.func13 (by kernel_rfl) rfl #[.slice Ao34 t261.length co34, .slice Ao33 x8_1.length co33] rfl (by (try simp only [List.map_toArray, List.map_cons, List.map_nil]); first | done | rfl | (simp only [List.length_drop, List.length_take]; rfl)) ?_; (with_reducible refine (bursarref15_SameHolds.calls k1 _ _ t261 _ _ x8_1 true _ ?side1 ?side2 ?side3 ?side4 A25.out).mono ?_); (case side1 => repeat (first | exact (Kd.R_reads' HO_6.out).2.2 | (with_reducible refine Kd.C_alloc ?_ _) | (with_reducible refine Kd.C_drewN ?_ _) | (with_reducible refine Kd.C_drew ?_))); (case side2 => exact (Kd.R_reads' HO_6.out).2.1); (case side3 => repeat (first | exact (Kd.R_reads' HO_8.out).2.2 | (with_reducible refine Kd.C_alloc ?_ _) | (with_reducible refine Kd.C_drewN ?_ _) | (with_reducible refine Kd.C_drew ?_))); (case side4 => exact (Kd.R_reads' HO_8.out).2.1); rintro e w' ⟨rfl, ⟨nd, rfl⟩⟩; refine ⟨_, rfl, ?_⟩) | (go_at_call 14; (with_reducible refine (bursarref15_Due.calls k1 _ _ t255 a1 t283 _ ?side1 ?side2 A27.out).mono ?_); (case side1 => repeat (first | exact (Kd.R_reads' HO_0.out).2.2 | (with_reducible refine Kd.C_alloc ?_ _) | (with_reducible refine Kd.C_drewN ?_ _) | (with_reducible refine Kd.C_drew ?_))); (case side2 => exact (Kd.R_reads' HO_0.out).2.1); rintro e w35 ⟨v284, rfl, ho0, hb⟩; have n0_ := Aside0.mk (Kd.R_below (by (with_reducible repeat (first | apply Kd.R_alloc | apply Kd.R_drewN | apply Kd.R_drew)); exact HO_0.out) hb); have n1_ := Aside0.mk (Kd.R_below (by (with_reducible repeat (first | apply Kd.R_alloc | apply Kd.R_drewN | apply Kd.R_drew)); exact HO_5.out) hb); have n2_ := Aside0.mk (Kd.R_below (by (with_reducible repeat (first | apply Kd.R_alloc | apply Kd.R_drewN | apply Kd.R_drew)); exact HO_6.out) hb); have n3_ := Aside0.mk (Kd.R_elder' (by (with_reducible repeat (first | apply Kd.R_alloc | apply Kd.R_drewN | apply Kd.R_drew)); exact HO_7.out) (Kd.R_base ho0) hb); have n4_ := Aside0.mk (Kd.R_below (by (with_reducible repeat (first | apply Kd.R_alloc | apply Kd.R_drewN | apply Kd.R_drew)); exact HO_8.out) hb); have n5_ := Aside0.mk (Kd.R_lower (Kd.R_new' ho0 (Kd.R_lt (by (with_reducible repeat (first | apply Kd.R_alloc | apply Kd.R_drewN | apply Kd.R_drew)); exact HO_7.out))) (below_size (by repeat (first | (with_reducible first | exact HB.out | apply below_alloc | apply pw_below_drewN | apply below_drew1) | exact HB.out)))); have n6_ := Aside0.mk (below_step (by repeat (first | (with_reducible first | exact HB.out | apply below_alloc | apply pw_below_drewN | apply below_drew1) | exact HB.out)) hb); clear HO_0; clear HO_5; clear HO_6; clear HO_7; clear HO_8; clear HB; have HO_0 := n0_; have HO_5 := n1_; have HO_6 := n2_; have HO_7 := n3_; have HO_8 := n4_; have HO285 := n5_; have HB := n6_; clear n0_ n1_ n2_ n3_ n4_ n5_ n6_; (try clear hb); (try clear hb2); (try clear hk); (try clear hi); (try clear ho0); obtain ⟨Ao36, co36, eo36⟩ := Kd.R_slice HO_7.out; subst eo36; obtain ⟨Ao37, co37, eo37⟩ := Kd.R_slice HO285.out; subst eo37) | (go_at_call 8; (with_reducible refine (bursarref15_Same.calls k1 _ _ t262 _ _ t283 true _ ?side1 ?side2 ?side3 ?side4 A28.out).mono ?_); (case side1 => repeat (first | exact (Kd.R_reads' HO_7.out).2.2 | (with_reducible refine Kd.C_alloc ?_ _) | (with_reducible refine Kd.C_drewN ?_ _) | (with_reducible refine Kd.C_drew ?_))); (case side2 => exact (Kd.R_reads' HO_7.out).2.1); (case side3 => repeat (first | exact (Kd.R_reads' HO285.out).2.2 | (with_reducible refine Kd.C_alloc ?_ _) | (with_reducible refine Kd.C_drewN ?_ _) | (with_reducible refine Kd.C_drew ?_))); (case side4 => exact (Kd.R_reads' HO285.out).2.1); rintro e w' ⟨rfl, ⟨nd, rfl⟩⟩; obtain ⟨Ao38, co38, eo38⟩ := Kd.R_slice HO_5.out; subst eo38) | (go_at_call 13; (with_reducible refine (bursarref15_SameHolds.calls k1 _ _ t255 _ _ t258 true _ ?side1 ?side2 ?side3 ?side4 A30.out).mono ?_); (case side1 => repeat (first | exact (Kd.R_reads' HO_0.out).2.2 | (with_reducible refine Kd.C_alloc ?_ _) | (with_reducible refine Kd.C_drewN ?_ _) | (with_reducible refine Kd.C_drew ?_))); (case side2 => exact (Kd.R_reads' HO_0.out).2.1); (case side3 => repeat (first | exact (Kd.R_reads' HO_5.out).2.2 | (with_reducible refine Kd.C_alloc ?_ _) | (with_reducible refine Kd.C_drewN ?_ _) | (with_reducible refine Kd.C_drew ?_))); (case side4 => exact (Kd.R_reads' HO_5.out).2.1); rintro e w' ⟨rfl, ⟨nd, rfl⟩⟩) | (go_at_call 10; (with_reducible refine (bursarlaw15_awake.calls k1  t288 _ A32.out).mono ?_); rintro e w39 ⟨rfl, hb⟩; have n0_ := Aside0.mk (Kd.R_below (by (with_reducible repeat (first | apply Kd.R_alloc | apply Kd.R_drewN | apply Kd.R_drew)); exact HO_0.out) hb); have n1_ := Aside0.mk (Kd.R_below (by (with_reducible repeat (first | apply Kd.R_alloc | apply Kd.R_drewN | apply Kd.R_drew)); exact HO_5.out) hb); have n2_ := Aside0.mk (Kd.R_below (by (with_reducible repeat (first | apply Kd.R_alloc | apply Kd.R_drewN | apply Kd.R_drew)); exact HO_6.out) hb); have n3_ := Aside0.mk (Kd.R_below (by (with_reducible repeat (first | apply Kd.R_alloc | apply Kd.R_drewN | apply Kd.R_drew)); exact HO_7.out) hb); have n4_ := Aside0.mk (Kd.R_below (by (with_reducible repeat (first | apply Kd.R_alloc | apply Kd.R_drewN | apply Kd.R_drew)); exact HO_8.out) hb); have n5_ := Aside0.mk (Kd.R_below (by (with_reducible repeat (first | apply Kd.R_alloc | apply Kd.R_drewN | apply Kd.R_drew)); exact HO285.out) hb); have n6_ := Aside0.mk (below_step (by repeat (first | (with_reducible first | exact HB.out | apply below_alloc | apply pw_below_drewN | apply below_drew1) | exact HB.out)) hb); clear HO_0; clear HO_5; clear HO_6; clear HO_7; clear HO_8; clear HO285; clear HB; have HO_0 := n0_; have HO_5 := n1_; have HO_6 := n2_; have HO_7 := n3_; have HO_8 := n4_; have HO285 := n5_; have HB := n6_; clear n0_ n1_ n2_ n3_ n4_ n5_ n6_; (try clear hb); (try clear hb2); (try clear hk); (try clear hi)))
              go_ret
              exact ⟨by first | rfl | (simp [errW_none, errW_some] <;> rfl) | (simp [*, errW_none, errW_some] <;> rfl), by repeat (first | (with_reducible first | exact HB.out | apply below_alloc | apply pw_below_drewN | apply below_drew1) | exact HB.out)⟩
            · replace c31 := Bool.eq_false_iff.mpr c31
              subst c31
              have H1 : (none) = some r := by rw [if_neg (show ¬ (false = true) by decide)] at H; exact H
              clear H
              have H := H1
              clear H1
              exact absurd H (by simp)
          · replace c29 := Bool.eq_false_iff.mpr c29
            subst c29
            have H1 : (none) = some r := by rw [if_neg (show ¬ (false = true) by decide)] at H; exact H
            clear H
            have H := H1
            clear H1
            exact absurd H (by simp)
        · replace c26 := Bool.eq_false_iff.mpr c26
          subst c26
          have H1 : (none) = some r := by rw [if_neg (show ¬ (false = true) by decide)] at H; exact H
          clear H
          have H := H1
          clear H1
          exact absurd H (by simp)

end Go.Proofs.Ytaifcadnnmicnaa.XE
