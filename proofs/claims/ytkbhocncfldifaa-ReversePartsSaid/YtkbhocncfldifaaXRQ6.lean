-- Written by wip/xprint.py, a session's program: printed out of the translation, with hand-written functions. Lean checks it.
import Derived.Test.YtkbhocncfldifaaXRQ0
import Derived.Test.YtkbhocncfldifaaXRQ1
import Derived.Test.YtkbhocncfldifaaXRQ2
import Derived.Test.YtkbhocncfldifaaXRQ5
namespace Go.Proofs.Ytkbhocncfldifaa.XRQ
open Go.RowKit Go.Proofs.YtkbhocncfldifaaW.PrintWords Go.Proofs.YtkbhocncfldifaaW.PrintLast Go.Proofs.YtkbhocncfldifaaW.PrintMore
attribute [local go_sem] max2_int min2_int max_two min_two max_three min_three max_four min_four   -- for this text's walks alone
set_option linter.unusedVariables false
set_option linter.unusedSimpArgs false

attribute [local go_sem high] eqA61
/-! ### bursarlaw24_ReverseParts: function 12 -/
mutual
def bursarlaw24_ReverseParts.j0 : Nat → Int → Int → Bool → ByteArray → ByteArray → ByteArray → Int → ByteArray → ByteArray → ByteArray → ByteArray → ByteArray → Int → Int → ByteArray → Bool → Int → ByteArray → ByteArray → ByteArray → Int → Int → Int → Bool → Bool → Int → Int → Bool → Option (Bool)
  | 0, _, _, _, _, _, _, _, _, _, _, _, _, _, _, _, _, _, _, _, _, _, _, _, _, _, _, _, _ => none
  | k + 1, x1, x2, x32, x345000, x345001, x345002, x345003, x345004, x345005, x345006, x345007, x345008, x345009, x345010, x345011, x345012, x345013, x345014, x345015, x345016, x345017, x345018, x345019, x345020, x345021, x345022, x345023, x345024 => if x32 = true then ((bursarlaw24_awake.f).bind fun t370 => (some t370)) else ((reverse_Reverse.f x345000 x345001 x345002 (wrap64 ((wrap64 (x1)) + 1)) x345004 x345005 x345006 x345007 x345008 x345009 x345010 x345011 x345012 x345013 x345014 x345015 x345016 x345017 x345018 x345019 x345020 x345021 x345022 x345023 x345024).bind fun bt374 => (if bt374.2.2.2.2.2.2.2.2.1 = true then ((reverse_Reverse.f x345000 x345001 x345002 (wrap64 ((wrap64 (x2)) + 1)) x345004 x345005 x345006 x345007 x345008 x345009 x345010 x345011 x345012 x345013 bt374.2.1 bt374.2.2.1 bt374.2.2.2.1 bt374.2.2.2.2.1 bt374.2.2.2.2.2.1 bt374.2.2.2.2.2.2.1 bt374.2.2.2.2.2.2.2.1 x345021 x345022 x345023 x345024).bind fun bt392 => ((reverse_Reverse.f x345000 x345001 x345002 (wrap64 ((wrap64 ((wrap64 (x1)) + (wrap64 (x2)))) + 2)) x345004 x345005 x345006 x345007 x345008 x345009 x345010 x345011 x345012 x345013 x345014 x345015 x345016 x345017 x345018 x345019 x345020 x345021 x345022 x345023 x345024).bind fun bt409 => (if (bt392.2.2.2.2.2.2.2.2.1 != bt409.2.2.2.2.2.2.2.2.1) = true then (bursarlaw24_ReverseParts.j1 k true x345000 x345001 x345002 (wrap64 ((wrap64 (x2)) + 1)) x345004 x345005 x345006 x345007 x345008 x345009 x345010 x345011 x345012 x345013 bt374.2.1 bt374.2.2.1 bt374.2.2.2.1 bt374.2.2.2.2.1 bt374.2.2.2.2.2.1 bt374.2.2.2.2.2.2.1 bt374.2.2.2.2.2.2.2.1 x345021 x345022 x345023 x345024 bt374.1 bt374.2.1 bt374.2.2.1 bt374.2.2.2.1 bt374.2.2.2.2.1 bt374.2.2.2.2.2.1 bt374.2.2.2.2.2.2.1 bt374.2.2.2.2.2.2.2.1 bt374.2.2.2.2.2.2.2.2.1 bt374.2.2.2.2.2.2.2.2.2.1 bt374.2.2.2.2.2.2.2.2.2.2.1 bt374.2.2.2.2.2.2.2.2.2.2.2.1 bt374.2.2.2.2.2.2.2.2.2.2.2.2.1 bt374.2.2.2.2.2.2.2.2.2.2.2.2.2.1 bt374.2.2.2.2.2.2.2.2.2.2.2.2.2.2.1) else (if bt392.2.2.2.2.2.2.2.2.1 = true then (bursarlaw24_ReverseParts.j1 k (!(bt392.2.1.toList == bt409.2.1.toList) || (!(bt392.2.2.1.toList == bt409.2.2.1.toList) || (!(bt392.2.2.2.1.toList == bt409.2.2.2.1.toList) || (!(bt392.2.2.2.2.1 == bt409.2.2.2.2.1) || (!(bt392.2.2.2.2.2.1 == bt409.2.2.2.2.2.1) || (!(bt392.2.2.2.2.2.2.1 == bt409.2.2.2.2.2.2.1) || (!(bt392.2.2.2.2.2.2.2.1 == bt409.2.2.2.2.2.2.2.1)))))))) x345000 x345001 x345002 (wrap64 ((wrap64 (x2)) + 1)) x345004 x345005 x345006 x345007 x345008 x345009 x345010 x345011 x345012 x345013 bt374.2.1 bt374.2.2.1 bt374.2.2.2.1 bt374.2.2.2.2.1 bt374.2.2.2.2.2.1 bt374.2.2.2.2.2.2.1 bt374.2.2.2.2.2.2.2.1 x345021 x345022 x345023 x345024 bt374.1 bt374.2.1 bt374.2.2.1 bt374.2.2.2.1 bt374.2.2.2.2.1 bt374.2.2.2.2.2.1 bt374.2.2.2.2.2.2.1 bt374.2.2.2.2.2.2.2.1 bt374.2.2.2.2.2.2.2.2.1 bt374.2.2.2.2.2.2.2.2.2.1 bt374.2.2.2.2.2.2.2.2.2.2.1 bt374.2.2.2.2.2.2.2.2.2.2.2.1 bt374.2.2.2.2.2.2.2.2.2.2.2.2.1 bt374.2.2.2.2.2.2.2.2.2.2.2.2.2.1 bt374.2.2.2.2.2.2.2.2.2.2.2.2.2.2.1) else (bursarlaw24_ReverseParts.j1 k false x345000 x345001 x345002 (wrap64 ((wrap64 (x2)) + 1)) x345004 x345005 x345006 x345007 x345008 x345009 x345010 x345011 x345012 x345013 bt374.2.1 bt374.2.2.1 bt374.2.2.2.1 bt374.2.2.2.2.1 bt374.2.2.2.2.2.1 bt374.2.2.2.2.2.2.1 bt374.2.2.2.2.2.2.2.1 x345021 x345022 x345023 x345024 bt374.1 bt374.2.1 bt374.2.2.1 bt374.2.2.2.1 bt374.2.2.2.2.1 bt374.2.2.2.2.2.1 bt374.2.2.2.2.2.2.1 bt374.2.2.2.2.2.2.2.1 bt374.2.2.2.2.2.2.2.2.1 bt374.2.2.2.2.2.2.2.2.2.1 bt374.2.2.2.2.2.2.2.2.2.2.1 bt374.2.2.2.2.2.2.2.2.2.2.2.1 bt374.2.2.2.2.2.2.2.2.2.2.2.2.1 bt374.2.2.2.2.2.2.2.2.2.2.2.2.2.1 bt374.2.2.2.2.2.2.2.2.2.2.2.2.2.2.1))))) else ((bursarlaw24_awake.f).bind fun t391 => (some t391))))
def bursarlaw24_ReverseParts.j1 : Nat → Bool → ByteArray → ByteArray → ByteArray → Int → ByteArray → ByteArray → ByteArray → ByteArray → ByteArray → Int → Int → ByteArray → Bool → Int → ByteArray → ByteArray → ByteArray → Int → Int → Int → Bool → Bool → Int → Int → Bool → ByteArray → ByteArray → ByteArray → ByteArray → Int → Int → Int → Bool → Bool → Int → Int → ByteArray → ByteArray → ByteArray → Int → Option (Bool)
  | 0, _, _, _, _, _, _, _, _, _, _, _, _, _, _, _, _, _, _, _, _, _, _, _, _, _, _, _, _, _, _, _, _, _, _, _, _, _, _, _, _, _ => none
  | k + 1, x92, x373000, x373001, x373002, x373003, x373004, x373005, x373006, x373007, x373008, x373009, x373010, x373011, x373012, x373013, x373014, x373015, x373016, x373017, x373018, x373019, x373020, x373021, x373022, x373023, x373024, x391000, x391001, x391002, x391003, x391004, x391005, x391006, x391007, x391008, x391009, x391010, x391011, x391012, x391013, x391014 => if x92 = true then (none) else ((reverse_Reverse.f x373000 x373001 x373002 0 x373004 x373005 x373006 x373007 x373008 x373009 x373010 x373011 x373012 x373013 x373014 x373015 x373016 x373017 x373018 x373019 x373020 x373021 x373022 x373023 x373024).bind fun bt426 => (if bt426.2.2.2.2.2.2.2.2.1 = true then ((bursarref14_Left.f bt426.2.1 bt426.2.2.1 bt426.2.2.2.1 bt426.2.2.2.2.1 bt426.2.2.2.2.2.1 bt426.2.2.2.2.2.2.1 bt426.2.2.2.2.2.2.2.1).bind fun t443 => (if t443 = 0 then ((bursarlaw24_awake.f).bind fun t444 => (some t444)) else (none))) else (if x391007 = true then (none) else ((bursarlaw24_awake.f).bind fun t445 => (some t445)))))
end
def bursarlaw24_ReverseParts.f (k : Nat) (a0_0 : ByteArray) (a0_1 : ByteArray) (a0_2 : ByteArray) (a0_3 : Int) (a0_4 : ByteArray) (a0_5 : ByteArray) (a0_6 : ByteArray) (a0_7 : ByteArray) (a0_8 : ByteArray) (a0_9 : Int) (a0_10 : Int) (a0_11 : ByteArray) (a0_12 : Bool) (a0_13 : Int) (a0_14 : ByteArray) (a0_15 : ByteArray) (a0_16 : ByteArray) (a0_17 : Int) (a0_18 : Int) (a0_19 : Int) (a0_20 : Bool) (a0_21 : Bool) (a0_22 : Int) (a0_23 : Int) (a0_24 : Bool) (a1 : Int) (a2 : Int) : Option (Bool) := (bursarlaw24_few.f a0_0 a0_1 a0_2 a0_3 a0_4 a0_5 a0_6 a0_7 a0_8 a0_9 a0_10 a0_11 a0_12 a0_13 a0_14 a0_15 a0_16 a0_17 a0_18 a0_19 a0_20 a0_21 a0_22 a0_23 a0_24).bind fun bt345 => (if bt345.2.2.2.2.2.2.2.2.2.2.2.2.2.2.2.2.2.2.2.2.2.1 = true then (if bt345.2.2.2.2.2.2.2.2.2.2.2.2.2.2.2.2.2.2.2.2.2.2.2.2 = true then (bursarlaw24_ReverseParts.j0 k a1 a2 true bt345.1 bt345.2.1 bt345.2.2.1 bt345.2.2.2.1 bt345.2.2.2.2.1 bt345.2.2.2.2.2.1 bt345.2.2.2.2.2.2.1 bt345.2.2.2.2.2.2.2.1 bt345.2.2.2.2.2.2.2.2.1 bt345.2.2.2.2.2.2.2.2.2.1 bt345.2.2.2.2.2.2.2.2.2.2.1 bt345.2.2.2.2.2.2.2.2.2.2.2.1 bt345.2.2.2.2.2.2.2.2.2.2.2.2.1 bt345.2.2.2.2.2.2.2.2.2.2.2.2.2.1 bt345.2.2.2.2.2.2.2.2.2.2.2.2.2.2.1 bt345.2.2.2.2.2.2.2.2.2.2.2.2.2.2.2.1 bt345.2.2.2.2.2.2.2.2.2.2.2.2.2.2.2.2.1 bt345.2.2.2.2.2.2.2.2.2.2.2.2.2.2.2.2.2.1 bt345.2.2.2.2.2.2.2.2.2.2.2.2.2.2.2.2.2.2.1 bt345.2.2.2.2.2.2.2.2.2.2.2.2.2.2.2.2.2.2.2.1 bt345.2.2.2.2.2.2.2.2.2.2.2.2.2.2.2.2.2.2.2.2.1 bt345.2.2.2.2.2.2.2.2.2.2.2.2.2.2.2.2.2.2.2.2.2.1 bt345.2.2.2.2.2.2.2.2.2.2.2.2.2.2.2.2.2.2.2.2.2.2.1 bt345.2.2.2.2.2.2.2.2.2.2.2.2.2.2.2.2.2.2.2.2.2.2.2.1 bt345.2.2.2.2.2.2.2.2.2.2.2.2.2.2.2.2.2.2.2.2.2.2.2.2) else (bursarlaw24_ReverseParts.j0 k a1 a2 (decide (bt345.2.2.2.1 < 0)) bt345.1 bt345.2.1 bt345.2.2.1 bt345.2.2.2.1 bt345.2.2.2.2.1 bt345.2.2.2.2.2.1 bt345.2.2.2.2.2.2.1 bt345.2.2.2.2.2.2.2.1 bt345.2.2.2.2.2.2.2.2.1 bt345.2.2.2.2.2.2.2.2.2.1 bt345.2.2.2.2.2.2.2.2.2.2.1 bt345.2.2.2.2.2.2.2.2.2.2.2.1 bt345.2.2.2.2.2.2.2.2.2.2.2.2.1 bt345.2.2.2.2.2.2.2.2.2.2.2.2.2.1 bt345.2.2.2.2.2.2.2.2.2.2.2.2.2.2.1 bt345.2.2.2.2.2.2.2.2.2.2.2.2.2.2.2.1 bt345.2.2.2.2.2.2.2.2.2.2.2.2.2.2.2.2.1 bt345.2.2.2.2.2.2.2.2.2.2.2.2.2.2.2.2.2.1 bt345.2.2.2.2.2.2.2.2.2.2.2.2.2.2.2.2.2.2.1 bt345.2.2.2.2.2.2.2.2.2.2.2.2.2.2.2.2.2.2.2.1 bt345.2.2.2.2.2.2.2.2.2.2.2.2.2.2.2.2.2.2.2.2.1 bt345.2.2.2.2.2.2.2.2.2.2.2.2.2.2.2.2.2.2.2.2.2.1 bt345.2.2.2.2.2.2.2.2.2.2.2.2.2.2.2.2.2.2.2.2.2.2.1 bt345.2.2.2.2.2.2.2.2.2.2.2.2.2.2.2.2.2.2.2.2.2.2.2.1 bt345.2.2.2.2.2.2.2.2.2.2.2.2.2.2.2.2.2.2.2.2.2.2.2.2)) else (bursarlaw24_ReverseParts.j0 k a1 a2 true bt345.1 bt345.2.1 bt345.2.2.1 bt345.2.2.2.1 bt345.2.2.2.2.1 bt345.2.2.2.2.2.1 bt345.2.2.2.2.2.2.1 bt345.2.2.2.2.2.2.2.1 bt345.2.2.2.2.2.2.2.2.1 bt345.2.2.2.2.2.2.2.2.2.1 bt345.2.2.2.2.2.2.2.2.2.2.1 bt345.2.2.2.2.2.2.2.2.2.2.2.1 bt345.2.2.2.2.2.2.2.2.2.2.2.2.1 bt345.2.2.2.2.2.2.2.2.2.2.2.2.2.1 bt345.2.2.2.2.2.2.2.2.2.2.2.2.2.2.1 bt345.2.2.2.2.2.2.2.2.2.2.2.2.2.2.2.1 bt345.2.2.2.2.2.2.2.2.2.2.2.2.2.2.2.2.1 bt345.2.2.2.2.2.2.2.2.2.2.2.2.2.2.2.2.2.1 bt345.2.2.2.2.2.2.2.2.2.2.2.2.2.2.2.2.2.2.1 bt345.2.2.2.2.2.2.2.2.2.2.2.2.2.2.2.2.2.2.2.1 bt345.2.2.2.2.2.2.2.2.2.2.2.2.2.2.2.2.2.2.2.2.1 bt345.2.2.2.2.2.2.2.2.2.2.2.2.2.2.2.2.2.2.2.2.2.1 bt345.2.2.2.2.2.2.2.2.2.2.2.2.2.2.2.2.2.2.2.2.2.2.1 bt345.2.2.2.2.2.2.2.2.2.2.2.2.2.2.2.2.2.2.2.2.2.2.2.1 bt345.2.2.2.2.2.2.2.2.2.2.2.2.2.2.2.2.2.2.2.2.2.2.2.2))
theorem bursarlaw24_ReverseParts.mono_l : ∀ k, (∀ y0 y1 y2 y3 y4 y5 y6 y7 y8 y9 y10 y11 y12 y13 y14 y15 y16 y17 y18 y19 y20 y21 y22 y23 y24 y25 y26 y27, LeO (bursarlaw24_ReverseParts.j0 k y0 y1 y2 y3 y4 y5 y6 y7 y8 y9 y10 y11 y12 y13 y14 y15 y16 y17 y18 y19 y20 y21 y22 y23 y24 y25 y26 y27) (bursarlaw24_ReverseParts.j0 (k + 1) y0 y1 y2 y3 y4 y5 y6 y7 y8 y9 y10 y11 y12 y13 y14 y15 y16 y17 y18 y19 y20 y21 y22 y23 y24 y25 y26 y27)) ∧ (∀ y0 y1 y2 y3 y4 y5 y6 y7 y8 y9 y10 y11 y12 y13 y14 y15 y16 y17 y18 y19 y20 y21 y22 y23 y24 y25 y26 y27 y28 y29 y30 y31 y32 y33 y34 y35 y36 y37 y38 y39 y40, LeO (bursarlaw24_ReverseParts.j1 k y0 y1 y2 y3 y4 y5 y6 y7 y8 y9 y10 y11 y12 y13 y14 y15 y16 y17 y18 y19 y20 y21 y22 y23 y24 y25 y26 y27 y28 y29 y30 y31 y32 y33 y34 y35 y36 y37 y38 y39 y40) (bursarlaw24_ReverseParts.j1 (k + 1) y0 y1 y2 y3 y4 y5 y6 y7 y8 y9 y10 y11 y12 y13 y14 y15 y16 y17 y18 y19 y20 y21 y22 y23 y24 y25 y26 y27 y28 y29 y30 y31 y32 y33 y34 y35 y36 y37 y38 y39 y40))
  | 0 => ⟨fun _ _ _ _ _ _ _ _ _ _ _ _ _ _ _ _ _ _ _ _ _ _ _ _ _ _ _ _ r h => by simp [bursarlaw24_ReverseParts.j0] at h, fun _ _ _ _ _ _ _ _ _ _ _ _ _ _ _ _ _ _ _ _ _ _ _ _ _ _ _ _ _ _ _ _ _ _ _ _ _ _ _ _ _ r h => by simp [bursarlaw24_ReverseParts.j1] at h⟩
  | k + 1 => by
    obtain ⟨ih0, ih1⟩ := bursarlaw24_ReverseParts.mono_l k
    refine ⟨?_, ?_⟩
    · intro y0 y1 y2 y3 y4 y5 y6 y7 y8 y9 y10 y11 y12 y13 y14 y15 y16 y17 y18 y19 y20 y21 y22 y23 y24 y25 y26 y27
      unfold bursarlaw24_ReverseParts.j0
      repeat' first
      | (with_reducible exact ih0 _ _ _ _ _ _ _ _ _ _ _ _ _ _ _ _ _ _ _ _ _ _ _ _ _ _ _ _)
      | (with_reducible exact ih1 _ _ _ _ _ _ _ _ _ _ _ _ _ _ _ _ _ _ _ _ _ _ _ _ _ _ _ _ _ _ _ _ _ _ _ _ _ _ _ _ _)
      | (with_reducible exact LeO.refl _)
      | (with_reducible exact LeO.none _)
      | (with_reducible refine LeO.ite ?_ ?_)
      | (with_reducible refine LeO.bind ?_ (fun _ => ?_))
      | exact ih0 _ _ _ _ _ _ _ _ _ _ _ _ _ _ _ _ _ _ _ _ _ _ _ _ _ _ _ _
      | exact ih1 _ _ _ _ _ _ _ _ _ _ _ _ _ _ _ _ _ _ _ _ _ _ _ _ _ _ _ _ _ _ _ _ _ _ _ _ _ _ _ _ _
      | exact LeO.none _
      | refine LeO.ite ?_ ?_
      | refine LeO.bind ?_ (fun _ => ?_)
    · intro y0 y1 y2 y3 y4 y5 y6 y7 y8 y9 y10 y11 y12 y13 y14 y15 y16 y17 y18 y19 y20 y21 y22 y23 y24 y25 y26 y27 y28 y29 y30 y31 y32 y33 y34 y35 y36 y37 y38 y39 y40
      unfold bursarlaw24_ReverseParts.j1
      repeat' first
      | (with_reducible exact ih0 _ _ _ _ _ _ _ _ _ _ _ _ _ _ _ _ _ _ _ _ _ _ _ _ _ _ _ _)
      | (with_reducible exact ih1 _ _ _ _ _ _ _ _ _ _ _ _ _ _ _ _ _ _ _ _ _ _ _ _ _ _ _ _ _ _ _ _ _ _ _ _ _ _ _ _ _)
      | (with_reducible exact LeO.refl _)
      | (with_reducible exact LeO.none _)
      | (with_reducible refine LeO.ite ?_ ?_)
      | (with_reducible refine LeO.bind ?_ (fun _ => ?_))
      | exact ih0 _ _ _ _ _ _ _ _ _ _ _ _ _ _ _ _ _ _ _ _ _ _ _ _ _ _ _ _
      | exact ih1 _ _ _ _ _ _ _ _ _ _ _ _ _ _ _ _ _ _ _ _ _ _ _ _ _ _ _ _ _ _ _ _ _ _ _ _ _ _ _ _ _
      | exact LeO.none _
      | refine LeO.ite ?_ ?_
      | refine LeO.bind ?_ (fun _ => ?_)
theorem bursarlaw24_ReverseParts.mono : ∀ a0 a1 a2 a3 a4 a5 a6 a7 a8 a9 a10 a11 a12 a13 a14 a15 a16 a17 a18 a19 a20 a21 a22 a23 a24 a25 a26 k, LeO (bursarlaw24_ReverseParts.f k a0 a1 a2 a3 a4 a5 a6 a7 a8 a9 a10 a11 a12 a13 a14 a15 a16 a17 a18 a19 a20 a21 a22 a23 a24 a25 a26) (bursarlaw24_ReverseParts.f (k + 1) a0 a1 a2 a3 a4 a5 a6 a7 a8 a9 a10 a11 a12 a13 a14 a15 a16 a17 a18 a19 a20 a21 a22 a23 a24 a25 a26) := by
  intro a0 a1 a2 a3 a4 a5 a6 a7 a8 a9 a10 a11 a12 a13 a14 a15 a16 a17 a18 a19 a20 a21 a22 a23 a24 a25 a26 k
  obtain ⟨ih0, ih1⟩ := bursarlaw24_ReverseParts.mono_l k
  unfold bursarlaw24_ReverseParts.f
  repeat' first
      | (with_reducible exact ih0 _ _ _ _ _ _ _ _ _ _ _ _ _ _ _ _ _ _ _ _ _ _ _ _ _ _ _ _)
      | (with_reducible exact ih1 _ _ _ _ _ _ _ _ _ _ _ _ _ _ _ _ _ _ _ _ _ _ _ _ _ _ _ _ _ _ _ _ _ _ _ _ _ _ _ _ _)
      | (with_reducible exact LeO.refl _)
      | (with_reducible exact LeO.none _)
      | (with_reducible refine LeO.ite ?_ ?_)
      | (with_reducible refine LeO.bind ?_ (fun _ => ?_))
      | exact ih0 _ _ _ _ _ _ _ _ _ _ _ _ _ _ _ _ _ _ _ _ _ _ _ _ _ _ _ _
      | exact ih1 _ _ _ _ _ _ _ _ _ _ _ _ _ _ _ _ _ _ _ _ _ _ _ _ _ _ _ _ _ _ _ _ _ _ _ _ _ _ _ _ _
      | exact LeO.none _
      | refine LeO.ite ?_ ?_
      | refine LeO.bind ?_ (fun _ => ?_)
def bursarlaw24_ReverseParts.T4 : Bool × List (List Nat × List Nat) := (true, [([], []), ([], []), ([], []), ([], []), ([], []), ([], []), ([3, 0, 0, 3, 4, 5], [0, 3]), ([4, 1, 6, 0, 1, 3, 4, 5, 6], [1, 4]), ([5, 2, 7, 0, 1, 2, 3, 4, 5, 6, 7], [2, 5])])
def bursarlaw24_ReverseParts.B4 : List Nat := [0, 0, 0, 0, 0, 0, 57, 123, 255]
theorem bursarlaw24_ReverseParts.tab4 : rtab .any (opsOf Try.f12 4) = bursarlaw24_ReverseParts.T4 := by kernel_rfl
theorem bursarlaw24_ReverseParts.bits4 : waitsOk bursarlaw24_ReverseParts.T4.2 bursarlaw24_ReverseParts.B4 = true := by kernel_rfl
def bursarlaw24_ReverseParts.T9 : Bool × List (List Nat × List Nat) := (true, [([], []), ([0], [0]), ([1], [1]), ([], []), ([3], [3]), ([0, 1, 2], []), ([5, 0, 1, 2], [5]), ([6, 2, 0, 1, 2], [2, 6]), ([0, 1, 2, 3, 4, 5, 6, 7], []), ([8, 4, 7, 0, 1, 2, 3, 4, 5, 6, 7], [4, 8])])
def bursarlaw24_ReverseParts.B9 : List Nat := [0, 1, 3, 0, 8, 7, 39, 103, 255, 511]
theorem bursarlaw24_ReverseParts.tab9 : rtab .any (opsOf Try.f12 9) = bursarlaw24_ReverseParts.T9 := by kernel_rfl
theorem bursarlaw24_ReverseParts.bits9 : waitsOk bursarlaw24_ReverseParts.T9.2 bursarlaw24_ReverseParts.B9 = true := by kernel_rfl
def bursarlaw24_ReverseParts.Z25 : Array Value := #[.string (⟨#[]⟩ : ByteArray), .string (⟨#[]⟩ : ByteArray), .string (⟨#[]⟩ : ByteArray), .int .i64 0, .string (⟨#[]⟩ : ByteArray), .string (⟨#[]⟩ : ByteArray), .string (⟨#[]⟩ : ByteArray), .string (⟨#[]⟩ : ByteArray), .string (⟨#[]⟩ : ByteArray), .int .i64 0, .int .i64 0, .string (⟨#[]⟩ : ByteArray), .bool false, .int .i64 0, .string (⟨#[]⟩ : ByteArray), .string (⟨#[]⟩ : ByteArray), .string (⟨#[]⟩ : ByteArray), .int .i64 0, .int .i64 0, .int .i64 0, .bool false, .bool false, .int .i64 0, .int .i64 0, .bool false]
def bursarlaw24_ReverseParts.Z15 : Array Value := #[.string (⟨#[]⟩ : ByteArray), .string (⟨#[]⟩ : ByteArray), .string (⟨#[]⟩ : ByteArray), .string (⟨#[]⟩ : ByteArray), .int .i64 0, .int .i64 0, .int .i64 0, .bool false, .bool false, .int .i64 0, .int .i64 0, .string (⟨#[]⟩ : ByteArray), .string (⟨#[]⟩ : ByteArray), .string (⟨#[]⟩ : ByteArray), .int .i64 0]
set_option maxHeartbeats 8000000 in
set_option maxRecDepth 100000 in
theorem bursarlaw24_ReverseParts.calls (k : Nat) (a0_0 : ByteArray) (a0_1 : ByteArray) (a0_2 : ByteArray) (a0_3 : Int) (a0_4 : ByteArray) (a0_5 : ByteArray) (a0_6 : ByteArray) (a0_7 : ByteArray) (a0_8 : ByteArray) (a0_9 : Int) (a0_10 : Int) (a0_11 : ByteArray) (a0_12 : Bool) (a0_13 : Int) (a0_14 : ByteArray) (a0_15 : ByteArray) (a0_16 : ByteArray) (a0_17 : Int) (a0_18 : Int) (a0_19 : Int) (a0_20 : Bool) (a0_21 : Bool) (a0_22 : Int) (a0_23 : Int) (a0_24 : Bool) (a1 : Int) (a2 : Int) (r : Bool) (w : World) (h : bursarlaw24_ReverseParts.f k a0_0 a0_1 a0_2 a0_3 a0_4 a0_5 a0_6 a0_7 a0_8 a0_9 a0_10 a0_11 a0_12 a0_13 a0_14 a0_15 a0_16 a0_17 a0_18 a0_19 a0_20 a0_21 a0_22 a0_23 a0_24 a1 a2 = some r) :
    Calls Try.prog 12 #[.agg #[.string a0_0, .string a0_1, .string a0_2, .int .i64 a0_3, .string a0_4, .string a0_5, .string a0_6, .string a0_7, .string a0_8, .int .i64 a0_9, .int .i64 a0_10, .string a0_11, .bool a0_12, .int .i64 a0_13, .string a0_14, .string a0_15, .string a0_16, .int .i64 a0_17, .int .i64 a0_18, .int .i64 a0_19, .bool a0_20, .bool a0_21, .int .i64 a0_22, .int .i64 a0_23, .bool a0_24], .int .u16 a1, .int .u16 a2] w fun e w' => e = .returned (.bool r) ∧ Below w.heap.size w w' := by
  have hu63 := Try.underlying63
  have hu68 := Try.underlying68
  have hu61 := Try.underlying61
  have HO := Aside0.mk (Ow.Own.nil w)
  have hmf : ∀ (fn : Fn) (first cap : Array Value) (w : World), (Instr.makeFunc fn first cap).run Try.prog w = .ok (.func fn first cap) w := fun _ _ _ _ => rfl
  have H : ((bursarlaw24_few.f a0_0 a0_1 a0_2 a0_3 a0_4 a0_5 a0_6 a0_7 a0_8 a0_9 a0_10 a0_11 a0_12 a0_13 a0_14 a0_15 a0_16 a0_17 a0_18 a0_19 a0_20 a0_21 a0_22 a0_23 a0_24).bind fun bt345 => (if bt345.2.2.2.2.2.2.2.2.2.2.2.2.2.2.2.2.2.2.2.2.2.1 = true then (if bt345.2.2.2.2.2.2.2.2.2.2.2.2.2.2.2.2.2.2.2.2.2.2.2.2 = true then (bursarlaw24_ReverseParts.j0 k a1 a2 true bt345.1 bt345.2.1 bt345.2.2.1 bt345.2.2.2.1 bt345.2.2.2.2.1 bt345.2.2.2.2.2.1 bt345.2.2.2.2.2.2.1 bt345.2.2.2.2.2.2.2.1 bt345.2.2.2.2.2.2.2.2.1 bt345.2.2.2.2.2.2.2.2.2.1 bt345.2.2.2.2.2.2.2.2.2.2.1 bt345.2.2.2.2.2.2.2.2.2.2.2.1 bt345.2.2.2.2.2.2.2.2.2.2.2.2.1 bt345.2.2.2.2.2.2.2.2.2.2.2.2.2.1 bt345.2.2.2.2.2.2.2.2.2.2.2.2.2.2.1 bt345.2.2.2.2.2.2.2.2.2.2.2.2.2.2.2.1 bt345.2.2.2.2.2.2.2.2.2.2.2.2.2.2.2.2.1 bt345.2.2.2.2.2.2.2.2.2.2.2.2.2.2.2.2.2.1 bt345.2.2.2.2.2.2.2.2.2.2.2.2.2.2.2.2.2.2.1 bt345.2.2.2.2.2.2.2.2.2.2.2.2.2.2.2.2.2.2.2.1 bt345.2.2.2.2.2.2.2.2.2.2.2.2.2.2.2.2.2.2.2.2.1 bt345.2.2.2.2.2.2.2.2.2.2.2.2.2.2.2.2.2.2.2.2.2.1 bt345.2.2.2.2.2.2.2.2.2.2.2.2.2.2.2.2.2.2.2.2.2.2.1 bt345.2.2.2.2.2.2.2.2.2.2.2.2.2.2.2.2.2.2.2.2.2.2.2.1 bt345.2.2.2.2.2.2.2.2.2.2.2.2.2.2.2.2.2.2.2.2.2.2.2.2) else (bursarlaw24_ReverseParts.j0 k a1 a2 (decide (bt345.2.2.2.1 < 0)) bt345.1 bt345.2.1 bt345.2.2.1 bt345.2.2.2.1 bt345.2.2.2.2.1 bt345.2.2.2.2.2.1 bt345.2.2.2.2.2.2.1 bt345.2.2.2.2.2.2.2.1 bt345.2.2.2.2.2.2.2.2.1 bt345.2.2.2.2.2.2.2.2.2.1 bt345.2.2.2.2.2.2.2.2.2.2.1 bt345.2.2.2.2.2.2.2.2.2.2.2.1 bt345.2.2.2.2.2.2.2.2.2.2.2.2.1 bt345.2.2.2.2.2.2.2.2.2.2.2.2.2.1 bt345.2.2.2.2.2.2.2.2.2.2.2.2.2.2.1 bt345.2.2.2.2.2.2.2.2.2.2.2.2.2.2.2.1 bt345.2.2.2.2.2.2.2.2.2.2.2.2.2.2.2.2.1 bt345.2.2.2.2.2.2.2.2.2.2.2.2.2.2.2.2.2.1 bt345.2.2.2.2.2.2.2.2.2.2.2.2.2.2.2.2.2.2.1 bt345.2.2.2.2.2.2.2.2.2.2.2.2.2.2.2.2.2.2.2.1 bt345.2.2.2.2.2.2.2.2.2.2.2.2.2.2.2.2.2.2.2.2.1 bt345.2.2.2.2.2.2.2.2.2.2.2.2.2.2.2.2.2.2.2.2.2.1 bt345.2.2.2.2.2.2.2.2.2.2.2.2.2.2.2.2.2.2.2.2.2.2.1 bt345.2.2.2.2.2.2.2.2.2.2.2.2.2.2.2.2.2.2.2.2.2.2.2.1 bt345.2.2.2.2.2.2.2.2.2.2.2.2.2.2.2.2.2.2.2.2.2.2.2.2)) else (bursarlaw24_ReverseParts.j0 k a1 a2 true bt345.1 bt345.2.1 bt345.2.2.1 bt345.2.2.2.1 bt345.2.2.2.2.1 bt345.2.2.2.2.2.1 bt345.2.2.2.2.2.2.1 bt345.2.2.2.2.2.2.2.1 bt345.2.2.2.2.2.2.2.2.1 bt345.2.2.2.2.2.2.2.2.2.1 bt345.2.2.2.2.2.2.2.2.2.2.1 bt345.2.2.2.2.2.2.2.2.2.2.2.1 bt345.2.2.2.2.2.2.2.2.2.2.2.2.1 bt345.2.2.2.2.2.2.2.2.2.2.2.2.2.1 bt345.2.2.2.2.2.2.2.2.2.2.2.2.2.2.1 bt345.2.2.2.2.2.2.2.2.2.2.2.2.2.2.2.1 bt345.2.2.2.2.2.2.2.2.2.2.2.2.2.2.2.2.1 bt345.2.2.2.2.2.2.2.2.2.2.2.2.2.2.2.2.2.1 bt345.2.2.2.2.2.2.2.2.2.2.2.2.2.2.2.2.2.2.1 bt345.2.2.2.2.2.2.2.2.2.2.2.2.2.2.2.2.2.2.2.1 bt345.2.2.2.2.2.2.2.2.2.2.2.2.2.2.2.2.2.2.2.2.1 bt345.2.2.2.2.2.2.2.2.2.2.2.2.2.2.2.2.2.2.2.2.2.1 bt345.2.2.2.2.2.2.2.2.2.2.2.2.2.2.2.2.2.2.2.2.2.2.1 bt345.2.2.2.2.2.2.2.2.2.2.2.2.2.2.2.2.2.2.2.2.2.2.2.1 bt345.2.2.2.2.2.2.2.2.2.2.2.2.2.2.2.2.2.2.2.2.2.2.2.2))) = some r := h
  clear h
  replace H := Option.bind_eq_some_iff.mp H
  obtain ⟨⟨t345, t346, t347, t348, t349, t350, t351, t352, t353, t354, t355, t356, t357, t358, t359, t360, t361, t362, t363, t364, t365, t366, t367, t368, t369⟩, A40, H⟩ := H
  replace H : (if t366 = true then (if t369 = true then (bursarlaw24_ReverseParts.j0 k a1 a2 true t345 t346 t347 t348 t349 t350 t351 t352 t353 t354 t355 t356 t357 t358 t359 t360 t361 t362 t363 t364 t365 t366 t367 t368 t369) else (bursarlaw24_ReverseParts.j0 k a1 a2 (decide (t348 < 0)) t345 t346 t347 t348 t349 t350 t351 t352 t353 t354 t355 t356 t357 t358 t359 t360 t361 t362 t363 t364 t365 t366 t367 t368 t369)) else (bursarlaw24_ReverseParts.j0 k a1 a2 true t345 t346 t347 t348 t349 t350 t351 t352 t353 t354 t355 t356 t357 t358 t359 t360 t361 t362 t363 t364 t365 t366 t367 t368 t369)) = some r := H
  have A4 := Aside0.mk A40
  clear A40
  have HC5 := Aside0.mk H
  clear H
  obtain ⟨Q0, hQ0_⟩ : ∃ q_ : Array Value, q_ = (#[.string a0_0, .string a0_1, .string a0_2, .int .i64 a0_3, .string a0_4, .string a0_5, .string a0_6, .string a0_7, .string a0_8, .int .i64 a0_9, .int .i64 a0_10, .string a0_11, .bool a0_12, .int .i64 a0_13, .string a0_14, .string a0_15, .string a0_16, .int .i64 a0_17, .int .i64 a0_18, .int .i64 a0_19, .bool a0_20, .bool a0_21, .int .i64 a0_22, .int .i64 a0_23, .bool a0_24] : Array Value) := ⟨_, rfl⟩
  try rw [← hQ0_]
  have hQ0 := Aside0.mk hQ0_; clear hQ0_
  go_enter Try.func12, Try.ntmps12
  obtain ⟨Q1, hQ1_⟩ : ∃ q_ : Array Value, q_ = (#[.string t345, .string t346, .string t347, .int .i64 t348, .string t349, .string t350, .string t351, .string t352, .string t353, .int .i64 t354, .int .i64 t355, .string t356, .bool t357, .int .i64 t358, .string t359, .string t360, .string t361, .int .i64 t362, .int .i64 t363, .int .i64 t364, .bool t365, .bool t366, .int .i64 t367, .int .i64 t368, .bool t369] : Array Value) := ⟨_, rfl⟩
  try rw [← hQ1_]
  have hQ1 := Aside0.mk hQ1_; clear hQ1_
  go_upto_region 2 with (first | ((with_reducible refine gate_dst (N := 3) rfl ?_); refine Ow.box rfl (N := 3) rfl (cs := Q0) (t := 63) HO.out (by first | (go_simp; done) | (go_simp; rfl)) ?_; clear HO; intro gb344 w6 HO; simp only [List.cons_append, List.nil_append] at HO) | ((with_reducible refine gate_callee (f := 37) rfl ?_); refine goesL_ (some 19) rfl rfl Try.func37 (by kernel_rfl) rfl #[.agg Q0] rfl (by (try simp only [List.map_toArray, List.map_cons, List.map_nil]); first | done | rfl | (simp only [hQ0.out, hQ1.out]; done) | (simp only [hQ0.out, hQ1.out]; rfl)) ?_; refine Calls.mono (calls_of_args (by first | (simp only [hQ0.out, hQ1.out] <;> rfl) | ((fail_if_success (simp only [hQ0.out, hQ1.out])); rfl)) (bursarlaw24_few.calls a0_0 a0_1 a0_2 a0_3 a0_4 a0_5 a0_6 a0_7 a0_8 a0_9 a0_10 a0_11 a0_12 a0_13 a0_14 a0_15 a0_16 a0_17 a0_18 a0_19 a0_20 a0_21 a0_22 a0_23 a0_24 t345 t346 t347 t348 t349 t350 t351 t352 t353 t354 t355 t356 t357 t358 t359 t360 t361 t362 t363 t364 t365 t366 t367 t368 t369 _ A4.out)) ?_; rintro e w8 ⟨he_, hb⟩; (try rw [← hQ1.out] at he_); subst he_; refine ⟨_, rfl, ?_⟩; replace HO := Aside0.mk (Ow.Own.call HO.out hb); clear hb) | ((with_reducible refine Ow.gate_eqs (t := 61) (by first | exact Or.inl rfl | exact Or.inr rfl) rfl ?_); simp only [hQ0.out, hQ1.out, Ow.part, Ot.sz, Ot.zero, Ow.over, Ow.overL, List.drop_succ_cons, List.drop_zero, List.take_succ_cons, List.take_zero]) | ((with_reducible refine Ow.gate_load rfl ?_); (try (refine gate_guard (by rfl) ?_; dsimp only)); (first | refine Ow.tload1 Ot.ty HO.out rfl rfl rfl rfl (by with_reducible first | exact Ow.at0) (by first | (simp only [hQ0.out, hQ1.out] <;> rfl) | ((fail_if_success (simp only [hQ0.out, hQ1.out])); rfl)) ?_ | refine Ow.tload0 Ot.ty HO.out rfl rfl rfl rfl (by with_reducible first | exact Ow.at0) (by first | (simp only [hQ0.out, hQ1.out] <;> rfl) | ((fail_if_success (simp only [hQ0.out, hQ1.out])); rfl)) ?_ | refine Ow.tloadp Ot.ty HO.out rfl rfl rfl rfl (by with_reducible first | exact Ow.at0) (by first | (simp only [hQ0.out, hQ1.out] <;> rfl) | ((fail_if_success (simp only [hQ0.out, hQ1.out])); rfl)) ?_)) | ((with_reducible refine gate_store rfl ?_); (try (refine gate_guard (by rfl) ?_; dsimp only)); (first | refine Ow.tput0 Ot.ty HO.out rfl rfl rfl rfl rfl (by with_reducible first | exact Ow.at0) (by first | exact Ow.ev_tmp rfl | rfl) (by first | (simp only [hQ0.out, hQ1.out] <;> rfl) | ((fail_if_success (simp only [hQ0.out, hQ1.out])); rfl)) (by first | (simp only [hQ0.out, hQ1.out] <;> rfl) | ((fail_if_success (simp only [hQ0.out, hQ1.out])); rfl)) (by first | (simp only [hQ0.out, hQ1.out] <;> rfl) | ((fail_if_success (simp only [hQ0.out, hQ1.out])); rfl)) ?_ | refine Ow.tput Ot.ty HO.out rfl rfl rfl rfl rfl (by with_reducible first | exact Ow.at0) (by first | exact Ow.ev_tmp rfl | rfl) (by first | (simp only [hQ0.out, hQ1.out] <;> rfl) | ((fail_if_success (simp only [hQ0.out, hQ1.out])); rfl)) (by first | (simp only [hQ0.out, hQ1.out] <;> rfl) | ((fail_if_success (simp only [hQ0.out, hQ1.out])); rfl)) (by first | (simp only [hQ0.out, hQ1.out] <;> rfl) | ((fail_if_success (simp only [hQ0.out, hQ1.out])); rfl)) ?_); clear HO; intro wz_ HO; simp only [List.set_cons_zero, List.set_cons_succ] at HO))
  (try simp only [Act.put, List.setIfInBounds_toArray, List.set_cons_zero, List.set_cons_succ])
  go_cut [32] (fun v32 wc => ∃ (kq : Nat) (x32_4 : Bool), v32 = .bool x32_4 ∧ Aside0 (bursarlaw24_ReverseParts.j0 kq a1 a2 x32_4 t345 t346 t347 t348 t349 t350 t351 t352 t353 t354 t355 t356 t357 t358 t359 t360 t361 t362 t363 t364 t365 t366 t367 t368 t369 = some r) ∧ Aside0 (kq ≤ k) ∧ Aside0 (Ow.Own w wc [(gb344, Q1, 63)]))
  case first =>
    have H := HC5.out
    clear HC5
    by_cases c11 : t366 = true
    · subst c11
      have H1 : (if t369 = true then (bursarlaw24_ReverseParts.j0 k a1 a2 true t345 t346 t347 t348 t349 t350 t351 t352 t353 t354 t355 t356 t357 t358 t359 t360 t361 t362 t363 t364 t365 true t367 t368 t369) else (bursarlaw24_ReverseParts.j0 k a1 a2 (decide (t348 < 0)) t345 t346 t347 t348 t349 t350 t351 t352 t353 t354 t355 t356 t357 t358 t359 t360 t361 t362 t363 t364 t365 true t367 t368 t369)) = some r := by rw [if_pos rfl] at H; exact H
      clear H
      have H := H1
      clear H1
      by_cases c12 : t369 = true
      · subst c12
        have H1 : (bursarlaw24_ReverseParts.j0 k a1 a2 true t345 t346 t347 t348 t349 t350 t351 t352 t353 t354 t355 t356 t357 t358 t359 t360 t361 t362 t363 t364 t365 true t367 t368 true) = some r := by rw [if_pos rfl] at H; exact H
        clear H
        have H := H1
        clear H1
        have H' := Aside0.mk H
        clear H
        go_wp2_with (first | ((with_reducible refine Ow.gate_eqs (t := 61) (by first | exact Or.inl rfl | exact Or.inr rfl) rfl ?_); simp only [hQ0.out, hQ1.out, Ow.part, Ot.sz, Ot.zero, Ow.over, Ow.overL, List.drop_succ_cons, List.drop_zero, List.take_succ_cons, List.take_zero]) | ((with_reducible refine Ow.gate_load rfl ?_); (try (refine gate_guard (by rfl) ?_; dsimp only)); (first | refine Ow.tload1 Ot.ty HO.out rfl rfl rfl rfl (by with_reducible first | exact Ow.at0) (by first | (simp only [hQ0.out, hQ1.out] <;> rfl) | ((fail_if_success (simp only [hQ0.out, hQ1.out])); rfl)) ?_ | refine Ow.tload0 Ot.ty HO.out rfl rfl rfl rfl (by with_reducible first | exact Ow.at0) (by first | (simp only [hQ0.out, hQ1.out] <;> rfl) | ((fail_if_success (simp only [hQ0.out, hQ1.out])); rfl)) ?_ | refine Ow.tloadp Ot.ty HO.out rfl rfl rfl rfl (by with_reducible first | exact Ow.at0) (by first | (simp only [hQ0.out, hQ1.out] <;> rfl) | ((fail_if_success (simp only [hQ0.out, hQ1.out])); rfl)) ?_)) | ((with_reducible refine gate_store rfl ?_); (try (refine gate_guard (by rfl) ?_; dsimp only)); (first | refine Ow.tput0 Ot.ty HO.out rfl rfl rfl rfl rfl (by with_reducible first | exact Ow.at0) (by first | exact Ow.ev_tmp rfl | rfl) (by first | (simp only [hQ0.out, hQ1.out] <;> rfl) | ((fail_if_success (simp only [hQ0.out, hQ1.out])); rfl)) (by first | (simp only [hQ0.out, hQ1.out] <;> rfl) | ((fail_if_success (simp only [hQ0.out, hQ1.out])); rfl)) (by first | (simp only [hQ0.out, hQ1.out] <;> rfl) | ((fail_if_success (simp only [hQ0.out, hQ1.out])); rfl)) ?_ | refine Ow.tput Ot.ty HO.out rfl rfl rfl rfl rfl (by with_reducible first | exact Ow.at0) (by first | exact Ow.ev_tmp rfl | rfl) (by first | (simp only [hQ0.out, hQ1.out] <;> rfl) | ((fail_if_success (simp only [hQ0.out, hQ1.out])); rfl)) (by first | (simp only [hQ0.out, hQ1.out] <;> rfl) | ((fail_if_success (simp only [hQ0.out, hQ1.out])); rfl)) (by first | (simp only [hQ0.out, hQ1.out] <;> rfl) | ((fail_if_success (simp only [hQ0.out, hQ1.out])); rfl)) ?_); clear HO; intro wz_ HO; simp only [List.set_cons_zero, List.set_cons_succ] at HO))
        (try simp only [← hQ0.out, ← hQ1.out])
        go_meet
        case rel => exact ⟨_, (true), (by first | rfl | (simp; done) | (simp [*]; done) | (simp [Pu.bne_nil, Pu.beq_nil]; done)), H', ⟨by first | omega | exact Nat.le_refl _⟩, ⟨Ow.Own.cong HO.out (by first | (simp only [hQ0.out, hQ1.out] <;> rfl) | ((fail_if_success (simp only [hQ0.out, hQ1.out])); rfl))⟩⟩
      · replace c12 := Bool.eq_false_iff.mpr c12
        subst c12
        have H1 : (bursarlaw24_ReverseParts.j0 k a1 a2 (decide (t348 < 0)) t345 t346 t347 t348 t349 t350 t351 t352 t353 t354 t355 t356 t357 t358 t359 t360 t361 t362 t363 t364 t365 true t367 t368 false) = some r := by rw [if_neg (show ¬ (false = true) by decide)] at H; exact H
        clear H
        have H := H1
        clear H1
        have H' := Aside0.mk H
        clear H
        go_wp2_with (first | ((with_reducible refine Ow.gate_eqs (t := 61) (by first | exact Or.inl rfl | exact Or.inr rfl) rfl ?_); simp only [hQ0.out, hQ1.out, Ow.part, Ot.sz, Ot.zero, Ow.over, Ow.overL, List.drop_succ_cons, List.drop_zero, List.take_succ_cons, List.take_zero]) | ((with_reducible refine Ow.gate_load rfl ?_); (try (refine gate_guard (by rfl) ?_; dsimp only)); (first | refine Ow.tload1 Ot.ty HO.out rfl rfl rfl rfl (by with_reducible first | exact Ow.at0) (by first | (simp only [hQ0.out, hQ1.out] <;> rfl) | ((fail_if_success (simp only [hQ0.out, hQ1.out])); rfl)) ?_ | refine Ow.tload0 Ot.ty HO.out rfl rfl rfl rfl (by with_reducible first | exact Ow.at0) (by first | (simp only [hQ0.out, hQ1.out] <;> rfl) | ((fail_if_success (simp only [hQ0.out, hQ1.out])); rfl)) ?_ | refine Ow.tloadp Ot.ty HO.out rfl rfl rfl rfl (by with_reducible first | exact Ow.at0) (by first | (simp only [hQ0.out, hQ1.out] <;> rfl) | ((fail_if_success (simp only [hQ0.out, hQ1.out])); rfl)) ?_)) | ((with_reducible refine gate_store rfl ?_); (try (refine gate_guard (by rfl) ?_; dsimp only)); (first | refine Ow.tput0 Ot.ty HO.out rfl rfl rfl rfl rfl (by with_reducible first | exact Ow.at0) (by first | exact Ow.ev_tmp rfl | rfl) (by first | (simp only [hQ0.out, hQ1.out] <;> rfl) | ((fail_if_success (simp only [hQ0.out, hQ1.out])); rfl)) (by first | (simp only [hQ0.out, hQ1.out] <;> rfl) | ((fail_if_success (simp only [hQ0.out, hQ1.out])); rfl)) (by first | (simp only [hQ0.out, hQ1.out] <;> rfl) | ((fail_if_success (simp only [hQ0.out, hQ1.out])); rfl)) ?_ | refine Ow.tput Ot.ty HO.out rfl rfl rfl rfl rfl (by with_reducible first | exact Ow.at0) (by first | exact Ow.ev_tmp rfl | rfl) (by first | (simp only [hQ0.out, hQ1.out] <;> rfl) | ((fail_if_success (simp only [hQ0.out, hQ1.out])); rfl)) (by first | (simp only [hQ0.out, hQ1.out] <;> rfl) | ((fail_if_success (simp only [hQ0.out, hQ1.out])); rfl)) (by first | (simp only [hQ0.out, hQ1.out] <;> rfl) | ((fail_if_success (simp only [hQ0.out, hQ1.out])); rfl)) ?_); clear HO; intro wz_ HO; simp only [List.set_cons_zero, List.set_cons_succ] at HO))
        (try simp only [← hQ0.out, ← hQ1.out])
        go_meet
        case rel => exact ⟨_, (decide (t348 < 0)), (by first | rfl | (simp; done) | (simp [*]; done) | (simp [Pu.bne_nil, Pu.beq_nil]; done)), H', ⟨by first | omega | exact Nat.le_refl _⟩, ⟨Ow.Own.cong HO.out (by first | (simp only [hQ0.out, hQ1.out] <;> rfl) | ((fail_if_success (simp only [hQ0.out, hQ1.out])); rfl))⟩⟩
    · replace c11 := Bool.eq_false_iff.mpr c11
      subst c11
      have H1 : (bursarlaw24_ReverseParts.j0 k a1 a2 true t345 t346 t347 t348 t349 t350 t351 t352 t353 t354 t355 t356 t357 t358 t359 t360 t361 t362 t363 t364 t365 false t367 t368 t369) = some r := by rw [if_neg (show ¬ (false = true) by decide)] at H; exact H
      clear H
      have H := H1
      clear H1
      have H' := Aside0.mk H
      clear H
      go_wp2_with (first | ((with_reducible refine Ow.gate_eqs (t := 61) (by first | exact Or.inl rfl | exact Or.inr rfl) rfl ?_); simp only [hQ0.out, hQ1.out, Ow.part, Ot.sz, Ot.zero, Ow.over, Ow.overL, List.drop_succ_cons, List.drop_zero, List.take_succ_cons, List.take_zero]) | ((with_reducible refine Ow.gate_load rfl ?_); (try (refine gate_guard (by rfl) ?_; dsimp only)); (first | refine Ow.tload1 Ot.ty HO.out rfl rfl rfl rfl (by with_reducible first | exact Ow.at0) (by first | (simp only [hQ0.out, hQ1.out] <;> rfl) | ((fail_if_success (simp only [hQ0.out, hQ1.out])); rfl)) ?_ | refine Ow.tload0 Ot.ty HO.out rfl rfl rfl rfl (by with_reducible first | exact Ow.at0) (by first | (simp only [hQ0.out, hQ1.out] <;> rfl) | ((fail_if_success (simp only [hQ0.out, hQ1.out])); rfl)) ?_ | refine Ow.tloadp Ot.ty HO.out rfl rfl rfl rfl (by with_reducible first | exact Ow.at0) (by first | (simp only [hQ0.out, hQ1.out] <;> rfl) | ((fail_if_success (simp only [hQ0.out, hQ1.out])); rfl)) ?_)) | ((with_reducible refine gate_store rfl ?_); (try (refine gate_guard (by rfl) ?_; dsimp only)); (first | refine Ow.tput0 Ot.ty HO.out rfl rfl rfl rfl rfl (by with_reducible first | exact Ow.at0) (by first | exact Ow.ev_tmp rfl | rfl) (by first | (simp only [hQ0.out, hQ1.out] <;> rfl) | ((fail_if_success (simp only [hQ0.out, hQ1.out])); rfl)) (by first | (simp only [hQ0.out, hQ1.out] <;> rfl) | ((fail_if_success (simp only [hQ0.out, hQ1.out])); rfl)) (by first | (simp only [hQ0.out, hQ1.out] <;> rfl) | ((fail_if_success (simp only [hQ0.out, hQ1.out])); rfl)) ?_ | refine Ow.tput Ot.ty HO.out rfl rfl rfl rfl rfl (by with_reducible first | exact Ow.at0) (by first | exact Ow.ev_tmp rfl | rfl) (by first | (simp only [hQ0.out, hQ1.out] <;> rfl) | ((fail_if_success (simp only [hQ0.out, hQ1.out])); rfl)) (by first | (simp only [hQ0.out, hQ1.out] <;> rfl) | ((fail_if_success (simp only [hQ0.out, hQ1.out])); rfl)) (by first | (simp only [hQ0.out, hQ1.out] <;> rfl) | ((fail_if_success (simp only [hQ0.out, hQ1.out])); rfl)) ?_); clear HO; intro wz_ HO; simp only [List.set_cons_zero, List.set_cons_succ] at HO))
      (try simp only [← hQ0.out, ← hQ1.out])
      go_meet
      case rel => exact ⟨_, (true), (by first | rfl | (simp; done) | (simp [*]; done) | (simp [Pu.bne_nil, Pu.beq_nil]; done)), H', ⟨by first | omega | exact Nat.le_refl _⟩, ⟨Ow.Own.cong HO.out (by first | (simp only [hQ0.out, hQ1.out] <;> rfl) | ((fail_if_success (simp only [hQ0.out, hQ1.out])); rfl))⟩⟩
  case rest =>
    clear HC5
    try clear c1
    try clear p2
    try clear c3
    try clear c11
    try clear c12
    try clear hcz13_0
    try clear hcz14_0
    try clear hcz15_0
    try clear hcz7_0
    try clear hcz9_0
    try clear hfz13_0
    try clear hfz14_0
    try clear hfz15_0
    try clear hfz7_0
    try clear hfz9_0
    clear HO
    obtain ⟨kq, x32_4, rfl, HA, HJ4, HO⟩ := hcut
    cases kq with
    | zero => exact absurd HA.out (by simp [bursarlaw24_ReverseParts.j0])
    | succ kj4 =>
      have H := HA.out
      clear HA
      simp only [bursarlaw24_ReverseParts.j0] at H
      by_cases c16 : x32_4 = true
      · subst c16
        have H1 : ((bursarlaw24_awake.f).bind fun t370 => (some t370)) = some r := by rw [if_pos rfl] at H; exact H
        clear H
        have H := H1
        clear H1
        replace H := Option.bind_eq_some_iff.mp H
        obtain ⟨t370, A170, H⟩ := H
        replace H : (some t370) = some r := H
        have A17 := Aside0.mk A170
        clear A170
        obtain rfl := Option.some.inj H
        go_wp2_with (first | ((with_reducible refine gate_callee (f := 43) rfl ?_); refine goesL_ (some 33) rfl rfl Try.func43 (by kernel_rfl) rfl #[] rfl (by (try simp only [List.map_toArray, List.map_cons, List.map_nil]); first | done | rfl | (simp only [hQ0.out, hQ1.out]; done) | (simp only [hQ0.out, hQ1.out]; rfl)) ?_; refine Calls.mono (calls_of_args (by first | (simp only [hQ0.out, hQ1.out] <;> rfl) | ((fail_if_success (simp only [hQ0.out, hQ1.out])); rfl)) (bursarlaw24_awake.calls  t370 _ A17.out)) ?_; rintro e w18 ⟨he_, hb⟩; subst he_; refine ⟨_, rfl, ?_⟩; replace HO := Aside0.mk (Ow.Own.call HO.out hb); clear hb) | ((with_reducible refine Ow.gate_eqs (t := 61) (by first | exact Or.inl rfl | exact Or.inr rfl) rfl ?_); simp only [hQ0.out, hQ1.out, Ow.part, Ot.sz, Ot.zero, Ow.over, Ow.overL, List.drop_succ_cons, List.drop_zero, List.take_succ_cons, List.take_zero]) | ((with_reducible refine Ow.gate_load rfl ?_); (try (refine gate_guard (by rfl) ?_; dsimp only)); (first | refine Ow.tload1 Ot.ty HO.out rfl rfl rfl rfl (by with_reducible first | exact Ow.at0) (by first | (simp only [hQ0.out, hQ1.out] <;> rfl) | ((fail_if_success (simp only [hQ0.out, hQ1.out])); rfl)) ?_ | refine Ow.tload0 Ot.ty HO.out rfl rfl rfl rfl (by with_reducible first | exact Ow.at0) (by first | (simp only [hQ0.out, hQ1.out] <;> rfl) | ((fail_if_success (simp only [hQ0.out, hQ1.out])); rfl)) ?_ | refine Ow.tloadp Ot.ty HO.out rfl rfl rfl rfl (by with_reducible first | exact Ow.at0) (by first | (simp only [hQ0.out, hQ1.out] <;> rfl) | ((fail_if_success (simp only [hQ0.out, hQ1.out])); rfl)) ?_)) | ((with_reducible refine gate_store rfl ?_); (try (refine gate_guard (by rfl) ?_; dsimp only)); (first | refine Ow.tput0 Ot.ty HO.out rfl rfl rfl rfl rfl (by with_reducible first | exact Ow.at0) (by first | exact Ow.ev_tmp rfl | rfl) (by first | (simp only [hQ0.out, hQ1.out] <;> rfl) | ((fail_if_success (simp only [hQ0.out, hQ1.out])); rfl)) (by first | (simp only [hQ0.out, hQ1.out] <;> rfl) | ((fail_if_success (simp only [hQ0.out, hQ1.out])); rfl)) (by first | (simp only [hQ0.out, hQ1.out] <;> rfl) | ((fail_if_success (simp only [hQ0.out, hQ1.out])); rfl)) ?_ | refine Ow.tput Ot.ty HO.out rfl rfl rfl rfl rfl (by with_reducible first | exact Ow.at0) (by first | exact Ow.ev_tmp rfl | rfl) (by first | (simp only [hQ0.out, hQ1.out] <;> rfl) | ((fail_if_success (simp only [hQ0.out, hQ1.out])); rfl)) (by first | (simp only [hQ0.out, hQ1.out] <;> rfl) | ((fail_if_success (simp only [hQ0.out, hQ1.out])); rfl)) (by first | (simp only [hQ0.out, hQ1.out] <;> rfl) | ((fail_if_success (simp only [hQ0.out, hQ1.out])); rfl)) ?_); clear HO; intro wz_ HO; simp only [List.set_cons_zero, List.set_cons_succ] at HO))
        all_goals go_ret
        all_goals exact ⟨by first | rfl | (simp only [hQ0.out, hQ1.out]; done) | (simp only [hQ0.out, hQ1.out]; rfl) | (simp [errW_none, errW_some] <;> rfl) | (simp [*, errW_none, errW_some] <;> rfl), Ow.Own.below HO.out⟩
      · replace c16 := Bool.eq_false_iff.mpr c16
        subst c16
        have H1 : ((reverse_Reverse.f t345 t346 t347 (wrap64 ((wrap64 (a1)) + 1)) t349 t350 t351 t352 t353 t354 t355 t356 t357 t358 t359 t360 t361 t362 t363 t364 t365 t366 t367 t368 t369).bind fun bt374 => (if bt374.2.2.2.2.2.2.2.2.1 = true then ((reverse_Reverse.f t345 t346 t347 (wrap64 ((wrap64 (a2)) + 1)) t349 t350 t351 t352 t353 t354 t355 t356 t357 t358 bt374.2.1 bt374.2.2.1 bt374.2.2.2.1 bt374.2.2.2.2.1 bt374.2.2.2.2.2.1 bt374.2.2.2.2.2.2.1 bt374.2.2.2.2.2.2.2.1 t366 t367 t368 t369).bind fun bt392 => ((reverse_Reverse.f t345 t346 t347 (wrap64 ((wrap64 ((wrap64 (a1)) + (wrap64 (a2)))) + 2)) t349 t350 t351 t352 t353 t354 t355 t356 t357 t358 t359 t360 t361 t362 t363 t364 t365 t366 t367 t368 t369).bind fun bt409 => (if (bt392.2.2.2.2.2.2.2.2.1 != bt409.2.2.2.2.2.2.2.2.1) = true then (bursarlaw24_ReverseParts.j1 kj4 true t345 t346 t347 (wrap64 ((wrap64 (a2)) + 1)) t349 t350 t351 t352 t353 t354 t355 t356 t357 t358 bt374.2.1 bt374.2.2.1 bt374.2.2.2.1 bt374.2.2.2.2.1 bt374.2.2.2.2.2.1 bt374.2.2.2.2.2.2.1 bt374.2.2.2.2.2.2.2.1 t366 t367 t368 t369 bt374.1 bt374.2.1 bt374.2.2.1 bt374.2.2.2.1 bt374.2.2.2.2.1 bt374.2.2.2.2.2.1 bt374.2.2.2.2.2.2.1 bt374.2.2.2.2.2.2.2.1 bt374.2.2.2.2.2.2.2.2.1 bt374.2.2.2.2.2.2.2.2.2.1 bt374.2.2.2.2.2.2.2.2.2.2.1 bt374.2.2.2.2.2.2.2.2.2.2.2.1 bt374.2.2.2.2.2.2.2.2.2.2.2.2.1 bt374.2.2.2.2.2.2.2.2.2.2.2.2.2.1 bt374.2.2.2.2.2.2.2.2.2.2.2.2.2.2.1) else (if bt392.2.2.2.2.2.2.2.2.1 = true then (bursarlaw24_ReverseParts.j1 kj4 (!(bt392.2.1.toList == bt409.2.1.toList) || (!(bt392.2.2.1.toList == bt409.2.2.1.toList) || (!(bt392.2.2.2.1.toList == bt409.2.2.2.1.toList) || (!(bt392.2.2.2.2.1 == bt409.2.2.2.2.1) || (!(bt392.2.2.2.2.2.1 == bt409.2.2.2.2.2.1) || (!(bt392.2.2.2.2.2.2.1 == bt409.2.2.2.2.2.2.1) || (!(bt392.2.2.2.2.2.2.2.1 == bt409.2.2.2.2.2.2.2.1)))))))) t345 t346 t347 (wrap64 ((wrap64 (a2)) + 1)) t349 t350 t351 t352 t353 t354 t355 t356 t357 t358 bt374.2.1 bt374.2.2.1 bt374.2.2.2.1 bt374.2.2.2.2.1 bt374.2.2.2.2.2.1 bt374.2.2.2.2.2.2.1 bt374.2.2.2.2.2.2.2.1 t366 t367 t368 t369 bt374.1 bt374.2.1 bt374.2.2.1 bt374.2.2.2.1 bt374.2.2.2.2.1 bt374.2.2.2.2.2.1 bt374.2.2.2.2.2.2.1 bt374.2.2.2.2.2.2.2.1 bt374.2.2.2.2.2.2.2.2.1 bt374.2.2.2.2.2.2.2.2.2.1 bt374.2.2.2.2.2.2.2.2.2.2.1 bt374.2.2.2.2.2.2.2.2.2.2.2.1 bt374.2.2.2.2.2.2.2.2.2.2.2.2.1 bt374.2.2.2.2.2.2.2.2.2.2.2.2.2.1 bt374.2.2.2.2.2.2.2.2.2.2.2.2.2.2.1) else (bursarlaw24_ReverseParts.j1 kj4 false t345 t346 t347 (wrap64 ((wrap64 (a2)) + 1)) t349 t350 t351 t352 t353 t354 t355 t356 t357 t358 bt374.2.1 bt374.2.2.1 bt374.2.2.2.1 bt374.2.2.2.2.1 bt374.2.2.2.2.2.1 bt374.2.2.2.2.2.2.1 bt374.2.2.2.2.2.2.2.1 t366 t367 t368 t369 bt374.1 bt374.2.1 bt374.2.2.1 bt374.2.2.2.1 bt374.2.2.2.2.1 bt374.2.2.2.2.2.1 bt374.2.2.2.2.2.2.1 bt374.2.2.2.2.2.2.2.1 bt374.2.2.2.2.2.2.2.2.1 bt374.2.2.2.2.2.2.2.2.2.1 bt374.2.2.2.2.2.2.2.2.2.2.1 bt374.2.2.2.2.2.2.2.2.2.2.2.1 bt374.2.2.2.2.2.2.2.2.2.2.2.2.1 bt374.2.2.2.2.2.2.2.2.2.2.2.2.2.1 bt374.2.2.2.2.2.2.2.2.2.2.2.2.2.2.1))))) else ((bursarlaw24_awake.f).bind fun t391 => (some t391)))) = some r := by rw [if_neg (show ¬ (false = true) by decide)] at H; exact H
        clear H
        have H := H1
        clear H1
        replace H := Option.bind_eq_some_iff.mp H
        obtain ⟨⟨t374, t375, t376, t377, t378, t379, t380, t381, t382, t383, t384, t385, t386, t387, t388, t389⟩, A190, H⟩ := H
        replace H : (if t382 = true then ((reverse_Reverse.f t345 t346 t347 (wrap64 ((wrap64 (a2)) + 1)) t349 t350 t351 t352 t353 t354 t355 t356 t357 t358 t375 t376 t377 t378 t379 t380 t381 t366 t367 t368 t369).bind fun bt392 => ((reverse_Reverse.f t345 t346 t347 (wrap64 ((wrap64 ((wrap64 (a1)) + (wrap64 (a2)))) + 2)) t349 t350 t351 t352 t353 t354 t355 t356 t357 t358 t359 t360 t361 t362 t363 t364 t365 t366 t367 t368 t369).bind fun bt409 => (if (bt392.2.2.2.2.2.2.2.2.1 != bt409.2.2.2.2.2.2.2.2.1) = true then (bursarlaw24_ReverseParts.j1 kj4 true t345 t346 t347 (wrap64 ((wrap64 (a2)) + 1)) t349 t350 t351 t352 t353 t354 t355 t356 t357 t358 t375 t376 t377 t378 t379 t380 t381 t366 t367 t368 t369 t374 t375 t376 t377 t378 t379 t380 t381 t382 t383 t384 t385 t386 t387 t388) else (if bt392.2.2.2.2.2.2.2.2.1 = true then (bursarlaw24_ReverseParts.j1 kj4 (!(bt392.2.1.toList == bt409.2.1.toList) || (!(bt392.2.2.1.toList == bt409.2.2.1.toList) || (!(bt392.2.2.2.1.toList == bt409.2.2.2.1.toList) || (!(bt392.2.2.2.2.1 == bt409.2.2.2.2.1) || (!(bt392.2.2.2.2.2.1 == bt409.2.2.2.2.2.1) || (!(bt392.2.2.2.2.2.2.1 == bt409.2.2.2.2.2.2.1) || (!(bt392.2.2.2.2.2.2.2.1 == bt409.2.2.2.2.2.2.2.1)))))))) t345 t346 t347 (wrap64 ((wrap64 (a2)) + 1)) t349 t350 t351 t352 t353 t354 t355 t356 t357 t358 t375 t376 t377 t378 t379 t380 t381 t366 t367 t368 t369 t374 t375 t376 t377 t378 t379 t380 t381 t382 t383 t384 t385 t386 t387 t388) else (bursarlaw24_ReverseParts.j1 kj4 false t345 t346 t347 (wrap64 ((wrap64 (a2)) + 1)) t349 t350 t351 t352 t353 t354 t355 t356 t357 t358 t375 t376 t377 t378 t379 t380 t381 t366 t367 t368 t369 t374 t375 t376 t377 t378 t379 t380 t381 t382 t383 t384 t385 t386 t387 t388))))) else ((bursarlaw24_awake.f).bind fun t391 => (some t391))) = some r := H
        have A19 := Aside0.mk A190
        clear A190
        by_cases c20 : t382 = true
        · subst c20
          have H1 : ((reverse_Reverse.f t345 t346 t347 (wrap64 ((wrap64 (a2)) + 1)) t349 t350 t351 t352 t353 t354 t355 t356 t357 t358 t375 t376 t377 t378 t379 t380 t381 t366 t367 t368 t369).bind fun bt392 => ((reverse_Reverse.f t345 t346 t347 (wrap64 ((wrap64 ((wrap64 (a1)) + (wrap64 (a2)))) + 2)) t349 t350 t351 t352 t353 t354 t355 t356 t357 t358 t359 t360 t361 t362 t363 t364 t365 t366 t367 t368 t369).bind fun bt409 => (if (bt392.2.2.2.2.2.2.2.2.1 != bt409.2.2.2.2.2.2.2.2.1) = true then (bursarlaw24_ReverseParts.j1 kj4 true t345 t346 t347 (wrap64 ((wrap64 (a2)) + 1)) t349 t350 t351 t352 t353 t354 t355 t356 t357 t358 t375 t376 t377 t378 t379 t380 t381 t366 t367 t368 t369 t374 t375 t376 t377 t378 t379 t380 t381 true t383 t384 t385 t386 t387 t388) else (if bt392.2.2.2.2.2.2.2.2.1 = true then (bursarlaw24_ReverseParts.j1 kj4 (!(bt392.2.1.toList == bt409.2.1.toList) || (!(bt392.2.2.1.toList == bt409.2.2.1.toList) || (!(bt392.2.2.2.1.toList == bt409.2.2.2.1.toList) || (!(bt392.2.2.2.2.1 == bt409.2.2.2.2.1) || (!(bt392.2.2.2.2.2.1 == bt409.2.2.2.2.2.1) || (!(bt392.2.2.2.2.2.2.1 == bt409.2.2.2.2.2.2.1) || (!(bt392.2.2.2.2.2.2.2.1 == bt409.2.2.2.2.2.2.2.1)))))))) t345 t346 t347 (wrap64 ((wrap64 (a2)) + 1)) t349 t350 t351 t352 t353 t354 t355 t356 t357 t358 t375 t376 t377 t378 t379 t380 t381 t366 t367 t368 t369 t374 t375 t376 t377 t378 t379 t380 t381 true t383 t384 t385 t386 t387 t388) else (bursarlaw24_ReverseParts.j1 kj4 false t345 t346 t347 (wrap64 ((wrap64 (a2)) + 1)) t349 t350 t351 t352 t353 t354 t355 t356 t357 t358 t375 t376 t377 t378 t379 t380 t381 t366 t367 t368 t369 t374 t375 t376 t377 t378 t379 t380 t381 true t383 t384 t385 t386 t387 t388))))) = some r := by rw [if_pos rfl] at H; exact H
          clear H
          have H := H1
          clear H1
          replace H := Option.bind_eq_some_iff.mp H
          obtain ⟨⟨t392, t393, t394, t395, t396, t397, t398, t399, t400, t401, t402, t403, t404, t405, t406, t407⟩, A210, H⟩ := H
          replace H : ((reverse_Reverse.f t345 t346 t347 (wrap64 ((wrap64 ((wrap64 (a1)) + (wrap64 (a2)))) + 2)) t349 t350 t351 t352 t353 t354 t355 t356 t357 t358 t359 t360 t361 t362 t363 t364 t365 t366 t367 t368 t369).bind fun bt409 => (if (t400 != bt409.2.2.2.2.2.2.2.2.1) = true then (bursarlaw24_ReverseParts.j1 kj4 true t345 t346 t347 (wrap64 ((wrap64 (a2)) + 1)) t349 t350 t351 t352 t353 t354 t355 t356 t357 t358 t375 t376 t377 t378 t379 t380 t381 t366 t367 t368 t369 t374 t375 t376 t377 t378 t379 t380 t381 true t383 t384 t385 t386 t387 t388) else (if t400 = true then (bursarlaw24_ReverseParts.j1 kj4 (!(t393.toList == bt409.2.1.toList) || (!(t394.toList == bt409.2.2.1.toList) || (!(t395.toList == bt409.2.2.2.1.toList) || (!(t396 == bt409.2.2.2.2.1) || (!(t397 == bt409.2.2.2.2.2.1) || (!(t398 == bt409.2.2.2.2.2.2.1) || (!(t399 == bt409.2.2.2.2.2.2.2.1)))))))) t345 t346 t347 (wrap64 ((wrap64 (a2)) + 1)) t349 t350 t351 t352 t353 t354 t355 t356 t357 t358 t375 t376 t377 t378 t379 t380 t381 t366 t367 t368 t369 t374 t375 t376 t377 t378 t379 t380 t381 true t383 t384 t385 t386 t387 t388) else (bursarlaw24_ReverseParts.j1 kj4 false t345 t346 t347 (wrap64 ((wrap64 (a2)) + 1)) t349 t350 t351 t352 t353 t354 t355 t356 t357 t358 t375 t376 t377 t378 t379 t380 t381 t366 t367 t368 t369 t374 t375 t376 t377 t378 t379 t380 t381 true t383 t384 t385 t386 t387 t388)))) = some r := H
          have A21 := Aside0.mk A210
          clear A210
          replace H := Option.bind_eq_some_iff.mp H
          obtain ⟨⟨t409, t410, t411, t412, t413, t414, t415, t416, t417, t418, t419, t420, t421, t422, t423, t424⟩, A220, H⟩ := H
          replace H : (if (t400 != t417) = true then (bursarlaw24_ReverseParts.j1 kj4 true t345 t346 t347 (wrap64 ((wrap64 (a2)) + 1)) t349 t350 t351 t352 t353 t354 t355 t356 t357 t358 t375 t376 t377 t378 t379 t380 t381 t366 t367 t368 t369 t374 t375 t376 t377 t378 t379 t380 t381 true t383 t384 t385 t386 t387 t388) else (if t400 = true then (bursarlaw24_ReverseParts.j1 kj4 (!(t393.toList == t410.toList) || (!(t394.toList == t411.toList) || (!(t395.toList == t412.toList) || (!(t396 == t413) || (!(t397 == t414) || (!(t398 == t415) || (!(t399 == t416)))))))) t345 t346 t347 (wrap64 ((wrap64 (a2)) + 1)) t349 t350 t351 t352 t353 t354 t355 t356 t357 t358 t375 t376 t377 t378 t379 t380 t381 t366 t367 t368 t369 t374 t375 t376 t377 t378 t379 t380 t381 true t383 t384 t385 t386 t387 t388) else (bursarlaw24_ReverseParts.j1 kj4 false t345 t346 t347 (wrap64 ((wrap64 (a2)) + 1)) t349 t350 t351 t352 t353 t354 t355 t356 t357 t358 t375 t376 t377 t378 t379 t380 t381 t366 t367 t368 t369 t374 t375 t376 t377 t378 t379 t380 t381 true t383 t384 t385 t386 t387 t388))) = some r := H
          have A22 := Aside0.mk A220
          clear A220
          have HC23 := Aside0.mk H
          clear H
          try go_wp2_with (first | ((with_reducible refine Ow.gate_eqs (t := 61) (by first | exact Or.inl rfl | exact Or.inr rfl) rfl ?_); simp only [hQ0.out, hQ1.out, Ow.part, Ot.sz, Ot.zero, Ow.over, Ow.overL, List.drop_succ_cons, List.drop_zero, List.take_succ_cons, List.take_zero]) | ((with_reducible refine Ow.gate_load rfl ?_); (try (refine gate_guard (by rfl) ?_; dsimp only)); (first | refine Ow.tload1 Ot.ty HO.out rfl rfl rfl rfl (by with_reducible first | exact Ow.at0) (by first | (simp only [hQ0.out, hQ1.out] <;> rfl) | ((fail_if_success (simp only [hQ0.out, hQ1.out])); rfl)) ?_ | refine Ow.tload0 Ot.ty HO.out rfl rfl rfl rfl (by with_reducible first | exact Ow.at0) (by first | (simp only [hQ0.out, hQ1.out] <;> rfl) | ((fail_if_success (simp only [hQ0.out, hQ1.out])); rfl)) ?_ | refine Ow.tloadp Ot.ty HO.out rfl rfl rfl rfl (by with_reducible first | exact Ow.at0) (by first | (simp only [hQ0.out, hQ1.out] <;> rfl) | ((fail_if_success (simp only [hQ0.out, hQ1.out])); rfl)) ?_)) | ((with_reducible refine gate_store rfl ?_); (try (refine gate_guard (by rfl) ?_; dsimp only)); (first | refine Ow.tput0 Ot.ty HO.out rfl rfl rfl rfl rfl (by with_reducible first | exact Ow.at0) (by first | exact Ow.ev_tmp rfl | rfl) (by first | (simp only [hQ0.out, hQ1.out] <;> rfl) | ((fail_if_success (simp only [hQ0.out, hQ1.out])); rfl)) (by first | (simp only [hQ0.out, hQ1.out] <;> rfl) | ((fail_if_success (simp only [hQ0.out, hQ1.out])); rfl)) (by first | (simp only [hQ0.out, hQ1.out] <;> rfl) | ((fail_if_success (simp only [hQ0.out, hQ1.out])); rfl)) ?_ | refine Ow.tput Ot.ty HO.out rfl rfl rfl rfl rfl (by with_reducible first | exact Ow.at0) (by first | exact Ow.ev_tmp rfl | rfl) (by first | (simp only [hQ0.out, hQ1.out] <;> rfl) | ((fail_if_success (simp only [hQ0.out, hQ1.out])); rfl)) (by first | (simp only [hQ0.out, hQ1.out] <;> rfl) | ((fail_if_success (simp only [hQ0.out, hQ1.out])); rfl)) (by first | (simp only [hQ0.out, hQ1.out] <;> rfl) | ((fail_if_success (simp only [hQ0.out, hQ1.out])); rfl)) ?_); clear HO; intro wz_ HO; simp only [List.set_cons_zero, List.set_cons_succ] at HO))
          refine Ow.ostart (n := 9) (ds := []) #[false, false, false, false, false, false, false, false, false] HO.out (by kernel_rfl) rfl rfl ?_
          intro hHeld; replace HO := Aside0.mk hHeld; refine with_tabW bursarlaw24_ReverseParts.tab4 bursarlaw24_ReverseParts.bits4 (fun HT_ HW_ => ?_)
          refine take_ (i := 0) (N := some 34) (v := ?_) (a' := ?_) #[true, false, false, false, false, false, false, false, false] rfl rfl (take_ofW HT_.out HW_.out (by kernel_rfl)) (fun _ _ _ h => h) (Or.inl ⟨by rfl, ?_⟩) hHeld ?_ ?_
          rotate_left
          · intro w' s_
            first | (refine' Ow.rload1 Ot.ty s_ rfl rfl rfl ?hk_ ?hs_; (case hk_ => exact (by with_reducible first | exact Ow.at0)); (case hs_ => first | (simp only [hQ0.out, hQ1.out] <;> rfl) | ((fail_if_success (simp only [hQ0.out, hQ1.out])); rfl))) | (refine' Ow.rload0 Ot.ty s_ rfl rfl rfl ?hk_ ?hs_; (case hk_ => exact (by with_reducible first | exact Ow.at0)); (case hs_ => first | (simp only [hQ0.out, hQ1.out] <;> rfl) | ((fail_if_success (simp only [hQ0.out, hQ1.out])); rfl))) | (refine' Ow.rloadp Ot.ty s_ rfl rfl rfl ?hk_ ?hs_; (case hk_ => exact (by with_reducible first | exact Ow.at0)); (case hs_ => first | (simp only [hQ0.out, hQ1.out] <;> rfl) | ((fail_if_success (simp only [hQ0.out, hQ1.out])); rfl))) | (go_simp; with_reducible rfl)
          rotate_left
          · simp only [Act.put, List.setIfInBounds_toArray, List.set_cons_zero, List.set_cons_succ, i64_w, i32_w]
            rfl
          refine take_ (i := 1) (N := some 35) (v := ?_) (a' := ?_) #[true, true, false, false, false, false, false, false, false] rfl rfl (take_ofW HT_.out HW_.out (by kernel_rfl)) (fun _ _ _ h => h) (Or.inl ⟨by rfl, ?_⟩) hHeld ?_ ?_
          rotate_left
          · intro w' s_
            first | (refine' Ow.rload1 Ot.ty s_ rfl rfl rfl ?hk_ ?hs_; (case hk_ => exact (by with_reducible first | exact Ow.at0)); (case hs_ => first | (simp only [hQ0.out, hQ1.out] <;> rfl) | ((fail_if_success (simp only [hQ0.out, hQ1.out])); rfl))) | (refine' Ow.rload0 Ot.ty s_ rfl rfl rfl ?hk_ ?hs_; (case hk_ => exact (by with_reducible first | exact Ow.at0)); (case hs_ => first | (simp only [hQ0.out, hQ1.out] <;> rfl) | ((fail_if_success (simp only [hQ0.out, hQ1.out])); rfl))) | (refine' Ow.rloadp Ot.ty s_ rfl rfl rfl ?hk_ ?hs_; (case hk_ => exact (by with_reducible first | exact Ow.at0)); (case hs_ => first | (simp only [hQ0.out, hQ1.out] <;> rfl) | ((fail_if_success (simp only [hQ0.out, hQ1.out])); rfl))) | (go_simp; with_reducible rfl)
          rotate_left
          · simp only [Act.put, List.setIfInBounds_toArray, List.set_cons_zero, List.set_cons_succ, i64_w, i32_w]
            rfl
          refine take_ (i := 2) (N := some 36) (v := ?_) (a' := ?_) #[true, true, true, false, false, false, false, false, false] rfl rfl (take_ofW HT_.out HW_.out (by kernel_rfl)) (fun _ _ _ h => h) (Or.inl ⟨by rfl, ?_⟩) hHeld ?_ ?_
          rotate_left
          · intro w' s_
            first | (refine' Ow.rload1 Ot.ty s_ rfl rfl rfl ?hk_ ?hs_; (case hk_ => exact (by with_reducible first | exact Ow.at0)); (case hs_ => first | (simp only [hQ0.out, hQ1.out] <;> rfl) | ((fail_if_success (simp only [hQ0.out, hQ1.out])); rfl))) | (refine' Ow.rload0 Ot.ty s_ rfl rfl rfl ?hk_ ?hs_; (case hk_ => exact (by with_reducible first | exact Ow.at0)); (case hs_ => first | (simp only [hQ0.out, hQ1.out] <;> rfl) | ((fail_if_success (simp only [hQ0.out, hQ1.out])); rfl))) | (refine' Ow.rloadp Ot.ty s_ rfl rfl rfl ?hk_ ?hs_; (case hk_ => exact (by with_reducible first | exact Ow.at0)); (case hs_ => first | (simp only [hQ0.out, hQ1.out] <;> rfl) | ((fail_if_success (simp only [hQ0.out, hQ1.out])); rfl))) | (go_simp; with_reducible rfl)
          rotate_left
          · simp only [Act.put, List.setIfInBounds_toArray, List.set_cons_zero, List.set_cons_succ, i64_w, i32_w]
            rfl
          refine join_ (σ := Nat × Nat × Nat) 3 #[true, true, true, true, true, true, false, false, false] (fun s_ => [(7, .pointer (some ⟨s_.1, 0, none⟩)), (8, .pointer (some ⟨s_.2.1, 0, none⟩)), (9, .pointer (some ⟨s_.2.2, 0, none⟩))]) (fun s_ w' => Ow.Own w w' [(gb344, Q1, 63), (s_.1, bursarlaw24_ReverseParts.Z25, 63), (s_.2.1, bursarlaw24_ReverseParts.Z25, 63), (s_.2.2, bursarlaw24_ReverseParts.Z25, 63)]) ?_ ?_
          rotate_left
          · intro hJ3_4_5
            refine join_ (σ := Nat × Nat) 4 #[true, true, true, true, true, false, false, false, false] (fun s_ => [(7, .pointer (some ⟨s_.1, 0, none⟩)), (8, .pointer (some ⟨s_.2, 0, none⟩))]) (fun s_ w' => Ow.Own w w' [(gb344, Q1, 63), (s_.1, bursarlaw24_ReverseParts.Z25, 63), (s_.2, bursarlaw24_ReverseParts.Z25, 63)]) ?_ ?_
            rotate_left
            · intro hJ3_4
              refine join_ (σ := Nat × Nat) 4 #[true, true, true, true, false, true, false, false, false] (fun s_ => [(7, .pointer (some ⟨s_.1, 0, none⟩)), (9, .pointer (some ⟨s_.2, 0, none⟩))]) (fun s_ w' => Ow.Own w w' [(gb344, Q1, 63), (s_.1, bursarlaw24_ReverseParts.Z25, 63), (s_.2, bursarlaw24_ReverseParts.Z25, 63)]) ?_ ?_
              rotate_left
              · intro hJ3_5
                refine join_ (σ := Nat × Nat) 4 #[true, true, true, false, true, true, false, false, false] (fun s_ => [(8, .pointer (some ⟨s_.1, 0, none⟩)), (9, .pointer (some ⟨s_.2, 0, none⟩))]) (fun s_ w' => Ow.Own w w' [(gb344, Q1, 63), (s_.1, bursarlaw24_ReverseParts.Z25, 63), (s_.2, bursarlaw24_ReverseParts.Z25, 63)]) ?_ ?_
                rotate_left
                · intro hJ4_5
                  refine join_ (σ := Nat) 5 #[true, true, true, true, false, false, false, false, false] (fun s_ => [(7, .pointer (some ⟨s_, 0, none⟩))]) (fun s_ w' => Ow.Own w w' [(gb344, Q1, 63), (s_, bursarlaw24_ReverseParts.Z25, 63)]) ?_ ?_
                  rotate_left
                  · intro hJ3
                    refine join_ (σ := Nat) 5 #[true, true, true, false, true, false, false, false, false] (fun s_ => [(8, .pointer (some ⟨s_, 0, none⟩))]) (fun s_ w' => Ow.Own w w' [(gb344, Q1, 63), (s_, bursarlaw24_ReverseParts.Z25, 63)]) ?_ ?_
                    rotate_left
                    · intro hJ4
                      refine join_ (σ := Nat) 5 #[true, true, true, false, false, true, false, false, false] (fun s_ => [(9, .pointer (some ⟨s_, 0, none⟩))]) (fun s_ w' => Ow.Own w w' [(gb344, Q1, 63), (s_, bursarlaw24_ReverseParts.Z25, 63)]) ?_ ?_
                      rotate_left
                      · intro hJ5
                        refine three_ (i := 3) (j := 4) (k := 5) (Ni := some 7) (Nj := some 8) (Nk := some 9) #[true, true, true, true, false, false, false, false, false] #[true, true, true, false, true, false, false, false, false] #[true, true, true, false, false, true, false, false, false] rfl rfl rfl rfl rfl rfl (three_of HT_.out (by kernel_rfl)) (by decide) (by decide) (by decide) (fun K hK => ?_) (fun K hK => ?_) (fun K hK => ?_)
                        · skip
                          refine box_step ?hg (N := 7) ?hd (cs := bursarlaw24_ReverseParts.Z25) (t := 63) ?hr ?_; (case hd => rfl); (case hg => rfl); (case hr => first | (go_simp; done) | (go_simp; rfl))
                          intro gb371 hg w25 hbox hb
                          replace HO := Aside0.mk (Ow.Own.add HO.out hg hbox hb)
                          clear hb hbox hg
                          simp only [List.cons_append, List.nil_append] at HO
                          refine hK.out _ _ (by have h_ := Ow.Own.pick [0] HO.out (by decide); exact h_) (fun hHeld => ?_)
                          clear hK K
                          refine norm_ (a' := ?_) ?_ ?_
                          rotate_left
                          · show Act.put _ (some 7) _ = _
                            simp only [Act.put, List.setIfInBounds_toArray, List.set_cons_zero, List.set_cons_succ, i64_w, i32_w]
                            rfl
                          exact norm_ (by first | (simp only [putAll, Act.put, List.setIfInBounds_toArray, List.set_cons_zero, List.set_cons_succ]; done) | (simp only [putAll, Act.put, List.setIfInBounds_toArray, List.set_cons_zero, List.set_cons_succ]; rfl)) (hJ3 (gb371) _ (Ow.Own.cong (Ow.Own.pick [0, 1] HO.out (by decide)) (by first | (simp only [hQ0.out, hQ1.out] <;> rfl) | ((fail_if_success (simp only [hQ0.out, hQ1.out])); rfl))))
                        · skip
                          refine box_step ?hg (N := 8) ?hd (cs := bursarlaw24_ReverseParts.Z25) (t := 63) ?hr ?_; (case hd => rfl); (case hg => rfl); (case hr => first | (go_simp; done) | (go_simp; rfl))
                          intro gb372 hg w25 hbox hb
                          replace HO := Aside0.mk (Ow.Own.add HO.out hg hbox hb)
                          clear hb hbox hg
                          simp only [List.cons_append, List.nil_append] at HO
                          refine hK.out _ _ (by have h_ := Ow.Own.pick [0] HO.out (by decide); exact h_) (fun hHeld => ?_)
                          clear hK K
                          refine norm_ (a' := ?_) ?_ ?_
                          rotate_left
                          · show Act.put _ (some 8) _ = _
                            simp only [Act.put, List.setIfInBounds_toArray, List.set_cons_zero, List.set_cons_succ, i64_w, i32_w]
                            rfl
                          exact norm_ (by first | (simp only [putAll, Act.put, List.setIfInBounds_toArray, List.set_cons_zero, List.set_cons_succ]; done) | (simp only [putAll, Act.put, List.setIfInBounds_toArray, List.set_cons_zero, List.set_cons_succ]; rfl)) (hJ4 (gb372) _ (Ow.Own.cong (Ow.Own.pick [0, 1] HO.out (by decide)) (by first | (simp only [hQ0.out, hQ1.out] <;> rfl) | ((fail_if_success (simp only [hQ0.out, hQ1.out])); rfl))))
                        · skip
                          refine box_step ?hg (N := 9) ?hd (cs := bursarlaw24_ReverseParts.Z25) (t := 63) ?hr ?_; (case hd => rfl); (case hg => rfl); (case hr => first | (go_simp; done) | (go_simp; rfl))
                          intro gb373 hg w25 hbox hb
                          replace HO := Aside0.mk (Ow.Own.add HO.out hg hbox hb)
                          clear hb hbox hg
                          simp only [List.cons_append, List.nil_append] at HO
                          refine hK.out _ _ (by have h_ := Ow.Own.pick [0] HO.out (by decide); exact h_) (fun hHeld => ?_)
                          clear hK K
                          refine norm_ (a' := ?_) ?_ ?_
                          rotate_left
                          · show Act.put _ (some 9) _ = _
                            simp only [Act.put, List.setIfInBounds_toArray, List.set_cons_zero, List.set_cons_succ, i64_w, i32_w]
                            rfl
                          exact norm_ (by first | (simp only [putAll, Act.put, List.setIfInBounds_toArray, List.set_cons_zero, List.set_cons_succ]; done) | (simp only [putAll, Act.put, List.setIfInBounds_toArray, List.set_cons_zero, List.set_cons_succ]; rfl)) (hJ5 (gb373) _ (Ow.Own.cong (Ow.Own.pick [0, 1] HO.out (by decide)) (by first | (simp only [hQ0.out, hQ1.out] <;> rfl) | ((fail_if_success (simp only [hQ0.out, hQ1.out])); rfl))))
                      · skip
                        rintro gb373 w26 HO7_
                        clear HO
                        have HO := Aside0.mk HO7_
                        clear HO7_
                        have hHeld := Ow.Own.pick [0] HO.out (by decide)
                        refine norm_ (a' := ?_) ?_ ?_
                        rotate_left
                        · simp only [putAll, Act.put, List.setIfInBounds_toArray, List.set_cons_zero, List.set_cons_succ]
                          rfl
                        refine two_ (i := 3) (j := 4) (Ni := some 7) (Nj := some 8) #[true, true, true, true, false, true, false, false, false] #[true, true, true, false, true, true, false, false, false] rfl rfl rfl rfl (two_of HT_.out (by kernel_rfl)) (by decide) (by decide) (fun K hK => ?_) (fun K hK => ?_)
                        · skip
                          refine box_step ?hg (N := 7) ?hd (cs := bursarlaw24_ReverseParts.Z25) (t := 63) ?hr ?_; (case hd => rfl); (case hg => rfl); (case hr => first | (go_simp; done) | (go_simp; rfl))
                          intro gb371 hg w27 hbox hb
                          replace HO := Aside0.mk (Ow.Own.add HO.out hg hbox hb)
                          clear hb hbox hg
                          simp only [List.cons_append, List.nil_append] at HO
                          refine hK.out _ _ (by have h_ := Ow.Own.pick [0] HO.out (by decide); exact h_) (fun hHeld => ?_)
                          clear hK K
                          refine norm_ (a' := ?_) ?_ ?_
                          rotate_left
                          · show Act.put _ (some 7) _ = _
                            simp only [Act.put, List.setIfInBounds_toArray, List.set_cons_zero, List.set_cons_succ, i64_w, i32_w]
                            rfl
                          exact norm_ (by first | (simp only [putAll, Act.put, List.setIfInBounds_toArray, List.set_cons_zero, List.set_cons_succ]; done) | (simp only [putAll, Act.put, List.setIfInBounds_toArray, List.set_cons_zero, List.set_cons_succ]; rfl)) (hJ3_5 (gb371, gb373) _ (Ow.Own.cong (Ow.Own.pick [0, 2, 1] HO.out (by decide)) (by first | (simp only [hQ0.out, hQ1.out] <;> rfl) | ((fail_if_success (simp only [hQ0.out, hQ1.out])); rfl))))
                        · skip
                          refine box_step ?hg (N := 8) ?hd (cs := bursarlaw24_ReverseParts.Z25) (t := 63) ?hr ?_; (case hd => rfl); (case hg => rfl); (case hr => first | (go_simp; done) | (go_simp; rfl))
                          intro gb372 hg w27 hbox hb
                          replace HO := Aside0.mk (Ow.Own.add HO.out hg hbox hb)
                          clear hb hbox hg
                          simp only [List.cons_append, List.nil_append] at HO
                          refine hK.out _ _ (by have h_ := Ow.Own.pick [0] HO.out (by decide); exact h_) (fun hHeld => ?_)
                          clear hK K
                          refine norm_ (a' := ?_) ?_ ?_
                          rotate_left
                          · show Act.put _ (some 8) _ = _
                            simp only [Act.put, List.setIfInBounds_toArray, List.set_cons_zero, List.set_cons_succ, i64_w, i32_w]
                            rfl
                          exact norm_ (by first | (simp only [putAll, Act.put, List.setIfInBounds_toArray, List.set_cons_zero, List.set_cons_succ]; done) | (simp only [putAll, Act.put, List.setIfInBounds_toArray, List.set_cons_zero, List.set_cons_succ]; rfl)) (hJ4_5 (gb372, gb373) _ (Ow.Own.cong (Ow.Own.pick [0, 2, 1] HO.out (by decide)) (by first | (simp only [hQ0.out, hQ1.out] <;> rfl) | ((fail_if_success (simp only [hQ0.out, hQ1.out])); rfl))))
                    · skip
                      rintro gb372 w26 HO7_
                      clear HO
                      have HO := Aside0.mk HO7_
                      clear HO7_
                      have hHeld := Ow.Own.pick [0] HO.out (by decide)
                      refine norm_ (a' := ?_) ?_ ?_
                      rotate_left
                      · simp only [putAll, Act.put, List.setIfInBounds_toArray, List.set_cons_zero, List.set_cons_succ]
                        rfl
                      refine two_ (i := 3) (j := 5) (Ni := some 7) (Nj := some 9) #[true, true, true, true, true, false, false, false, false] #[true, true, true, false, true, true, false, false, false] rfl rfl rfl rfl (two_of HT_.out (by kernel_rfl)) (by decide) (by decide) (fun K hK => ?_) (fun K hK => ?_)
                      · skip
                        refine box_step ?hg (N := 7) ?hd (cs := bursarlaw24_ReverseParts.Z25) (t := 63) ?hr ?_; (case hd => rfl); (case hg => rfl); (case hr => first | (go_simp; done) | (go_simp; rfl))
                        intro gb371 hg w27 hbox hb
                        replace HO := Aside0.mk (Ow.Own.add HO.out hg hbox hb)
                        clear hb hbox hg
                        simp only [List.cons_append, List.nil_append] at HO
                        refine hK.out _ _ (by have h_ := Ow.Own.pick [0] HO.out (by decide); exact h_) (fun hHeld => ?_)
                        clear hK K
                        refine norm_ (a' := ?_) ?_ ?_
                        rotate_left
                        · show Act.put _ (some 7) _ = _
                          simp only [Act.put, List.setIfInBounds_toArray, List.set_cons_zero, List.set_cons_succ, i64_w, i32_w]
                          rfl
                        exact norm_ (by first | (simp only [putAll, Act.put, List.setIfInBounds_toArray, List.set_cons_zero, List.set_cons_succ]; done) | (simp only [putAll, Act.put, List.setIfInBounds_toArray, List.set_cons_zero, List.set_cons_succ]; rfl)) (hJ3_4 (gb371, gb372) _ (Ow.Own.cong (Ow.Own.pick [0, 2, 1] HO.out (by decide)) (by first | (simp only [hQ0.out, hQ1.out] <;> rfl) | ((fail_if_success (simp only [hQ0.out, hQ1.out])); rfl))))
                      · skip
                        refine box_step ?hg (N := 9) ?hd (cs := bursarlaw24_ReverseParts.Z25) (t := 63) ?hr ?_; (case hd => rfl); (case hg => rfl); (case hr => first | (go_simp; done) | (go_simp; rfl))
                        intro gb373 hg w27 hbox hb
                        replace HO := Aside0.mk (Ow.Own.add HO.out hg hbox hb)
                        clear hb hbox hg
                        simp only [List.cons_append, List.nil_append] at HO
                        refine hK.out _ _ (by have h_ := Ow.Own.pick [0] HO.out (by decide); exact h_) (fun hHeld => ?_)
                        clear hK K
                        refine norm_ (a' := ?_) ?_ ?_
                        rotate_left
                        · show Act.put _ (some 9) _ = _
                          simp only [Act.put, List.setIfInBounds_toArray, List.set_cons_zero, List.set_cons_succ, i64_w, i32_w]
                          rfl
                        exact norm_ (by first | (simp only [putAll, Act.put, List.setIfInBounds_toArray, List.set_cons_zero, List.set_cons_succ]; done) | (simp only [putAll, Act.put, List.setIfInBounds_toArray, List.set_cons_zero, List.set_cons_succ]; rfl)) (hJ4_5 (gb372, gb373) _ (Ow.Own.cong (Ow.Own.pick [0, 1, 2] HO.out (by decide)) (by first | (simp only [hQ0.out, hQ1.out] <;> rfl) | ((fail_if_success (simp only [hQ0.out, hQ1.out])); rfl))))
                  · skip
                    rintro gb371 w26 HO7_
                    clear HO
                    have HO := Aside0.mk HO7_
                    clear HO7_
                    have hHeld := Ow.Own.pick [0] HO.out (by decide)
                    refine norm_ (a' := ?_) ?_ ?_
                    rotate_left
                    · simp only [putAll, Act.put, List.setIfInBounds_toArray, List.set_cons_zero, List.set_cons_succ]
                      rfl
                    refine two_ (i := 4) (j := 5) (Ni := some 8) (Nj := some 9) #[true, true, true, true, true, false, false, false, false] #[true, true, true, true, false, true, false, false, false] rfl rfl rfl rfl (two_of HT_.out (by kernel_rfl)) (by decide) (by decide) (fun K hK => ?_) (fun K hK => ?_)
                    · skip
                      refine box_step ?hg (N := 8) ?hd (cs := bursarlaw24_ReverseParts.Z25) (t := 63) ?hr ?_; (case hd => rfl); (case hg => rfl); (case hr => first | (go_simp; done) | (go_simp; rfl))
                      intro gb372 hg w27 hbox hb
                      replace HO := Aside0.mk (Ow.Own.add HO.out hg hbox hb)
                      clear hb hbox hg
                      simp only [List.cons_append, List.nil_append] at HO
                      refine hK.out _ _ (by have h_ := Ow.Own.pick [0] HO.out (by decide); exact h_) (fun hHeld => ?_)
                      clear hK K
                      refine norm_ (a' := ?_) ?_ ?_
                      rotate_left
                      · show Act.put _ (some 8) _ = _
                        simp only [Act.put, List.setIfInBounds_toArray, List.set_cons_zero, List.set_cons_succ, i64_w, i32_w]
                        rfl
                      exact norm_ (by first | (simp only [putAll, Act.put, List.setIfInBounds_toArray, List.set_cons_zero, List.set_cons_succ]; done) | (simp only [putAll, Act.put, List.setIfInBounds_toArray, List.set_cons_zero, List.set_cons_succ]; rfl)) (hJ3_4 (gb371, gb372) _ (Ow.Own.cong (Ow.Own.pick [0, 1, 2] HO.out (by decide)) (by first | (simp only [hQ0.out, hQ1.out] <;> rfl) | ((fail_if_success (simp only [hQ0.out, hQ1.out])); rfl))))
                    · skip
                      refine box_step ?hg (N := 9) ?hd (cs := bursarlaw24_ReverseParts.Z25) (t := 63) ?hr ?_; (case hd => rfl); (case hg => rfl); (case hr => first | (go_simp; done) | (go_simp; rfl))
                      intro gb373 hg w27 hbox hb
                      replace HO := Aside0.mk (Ow.Own.add HO.out hg hbox hb)
                      clear hb hbox hg
                      simp only [List.cons_append, List.nil_append] at HO
                      refine hK.out _ _ (by have h_ := Ow.Own.pick [0] HO.out (by decide); exact h_) (fun hHeld => ?_)
                      clear hK K
                      refine norm_ (a' := ?_) ?_ ?_
                      rotate_left
                      · show Act.put _ (some 9) _ = _
                        simp only [Act.put, List.setIfInBounds_toArray, List.set_cons_zero, List.set_cons_succ, i64_w, i32_w]
                        rfl
                      exact norm_ (by first | (simp only [putAll, Act.put, List.setIfInBounds_toArray, List.set_cons_zero, List.set_cons_succ]; done) | (simp only [putAll, Act.put, List.setIfInBounds_toArray, List.set_cons_zero, List.set_cons_succ]; rfl)) (hJ3_5 (gb371, gb373) _ (Ow.Own.cong (Ow.Own.pick [0, 1, 2] HO.out (by decide)) (by first | (simp only [hQ0.out, hQ1.out] <;> rfl) | ((fail_if_success (simp only [hQ0.out, hQ1.out])); rfl))))
                · skip
                  rintro ⟨gb372, gb373⟩ w27 HO7_
                  clear HO
                  have HO := Aside0.mk HO7_
                  clear HO7_
                  have hHeld := Ow.Own.pick [0] HO.out (by decide)
                  refine norm_ (a' := ?_) ?_ ?_
                  rotate_left
                  · simp only [putAll, Act.put, List.setIfInBounds_toArray, List.set_cons_zero, List.set_cons_succ]
                    rfl
                  refine one_ (i := 3) (N := some 7) #[true, true, true, true, true, true, false, false, false] rfl rfl (one_of HT_.out (by kernel_rfl)) (by decide) (fun K hK => ?_)
                  refine box_step ?hg (N := 7) ?hd (cs := bursarlaw24_ReverseParts.Z25) (t := 63) ?hr ?_; (case hd => rfl); (case hg => rfl); (case hr => first | (go_simp; done) | (go_simp; rfl))
                  intro gb371 hg w28 hbox hb
                  replace HO := Aside0.mk (Ow.Own.add HO.out hg hbox hb)
                  clear hb hbox hg
                  simp only [List.cons_append, List.nil_append] at HO
                  refine hK.out _ _ (by have h_ := Ow.Own.pick [0] HO.out (by decide); exact h_) (fun hHeld => ?_)
                  clear hK K
                  refine norm_ (a' := ?_) ?_ ?_
                  rotate_left
                  · show Act.put _ (some 7) _ = _
                    simp only [Act.put, List.setIfInBounds_toArray, List.set_cons_zero, List.set_cons_succ, i64_w, i32_w]
                    rfl
                  exact norm_ (by first | (simp only [putAll, Act.put, List.setIfInBounds_toArray, List.set_cons_zero, List.set_cons_succ]; done) | (simp only [putAll, Act.put, List.setIfInBounds_toArray, List.set_cons_zero, List.set_cons_succ]; rfl)) (hJ3_4_5 (gb371, gb372, gb373) _ (Ow.Own.cong (Ow.Own.pick [0, 3, 1, 2] HO.out (by decide)) (by first | (simp only [hQ0.out, hQ1.out] <;> rfl) | ((fail_if_success (simp only [hQ0.out, hQ1.out])); rfl))))
              · skip
                rintro ⟨gb371, gb373⟩ w27 HO7_
                clear HO
                have HO := Aside0.mk HO7_
                clear HO7_
                have hHeld := Ow.Own.pick [0] HO.out (by decide)
                refine norm_ (a' := ?_) ?_ ?_
                rotate_left
                · simp only [putAll, Act.put, List.setIfInBounds_toArray, List.set_cons_zero, List.set_cons_succ]
                  rfl
                refine one_ (i := 4) (N := some 8) #[true, true, true, true, true, true, false, false, false] rfl rfl (one_of HT_.out (by kernel_rfl)) (by decide) (fun K hK => ?_)
                refine box_step ?hg (N := 8) ?hd (cs := bursarlaw24_ReverseParts.Z25) (t := 63) ?hr ?_; (case hd => rfl); (case hg => rfl); (case hr => first | (go_simp; done) | (go_simp; rfl))
                intro gb372 hg w28 hbox hb
                replace HO := Aside0.mk (Ow.Own.add HO.out hg hbox hb)
                clear hb hbox hg
                simp only [List.cons_append, List.nil_append] at HO
                refine hK.out _ _ (by have h_ := Ow.Own.pick [0] HO.out (by decide); exact h_) (fun hHeld => ?_)
                clear hK K
                refine norm_ (a' := ?_) ?_ ?_
                rotate_left
                · show Act.put _ (some 8) _ = _
                  simp only [Act.put, List.setIfInBounds_toArray, List.set_cons_zero, List.set_cons_succ, i64_w, i32_w]
                  rfl
                exact norm_ (by first | (simp only [putAll, Act.put, List.setIfInBounds_toArray, List.set_cons_zero, List.set_cons_succ]; done) | (simp only [putAll, Act.put, List.setIfInBounds_toArray, List.set_cons_zero, List.set_cons_succ]; rfl)) (hJ3_4_5 (gb371, gb372, gb373) _ (Ow.Own.cong (Ow.Own.pick [0, 1, 3, 2] HO.out (by decide)) (by first | (simp only [hQ0.out, hQ1.out] <;> rfl) | ((fail_if_success (simp only [hQ0.out, hQ1.out])); rfl))))
            · skip
              rintro ⟨gb371, gb372⟩ w27 HO7_
              clear HO
              have HO := Aside0.mk HO7_
              clear HO7_
              have hHeld := Ow.Own.pick [0] HO.out (by decide)
              refine norm_ (a' := ?_) ?_ ?_
              rotate_left
              · simp only [putAll, Act.put, List.setIfInBounds_toArray, List.set_cons_zero, List.set_cons_succ]
                rfl
              refine one_ (i := 5) (N := some 9) #[true, true, true, true, true, true, false, false, false] rfl rfl (one_of HT_.out (by kernel_rfl)) (by decide) (fun K hK => ?_)
              refine box_step ?hg (N := 9) ?hd (cs := bursarlaw24_ReverseParts.Z25) (t := 63) ?hr ?_; (case hd => rfl); (case hg => rfl); (case hr => first | (go_simp; done) | (go_simp; rfl))
              intro gb373 hg w28 hbox hb
              replace HO := Aside0.mk (Ow.Own.add HO.out hg hbox hb)
              clear hb hbox hg
              simp only [List.cons_append, List.nil_append] at HO
              refine hK.out _ _ (by have h_ := Ow.Own.pick [0] HO.out (by decide); exact h_) (fun hHeld => ?_)
              clear hK K
              refine norm_ (a' := ?_) ?_ ?_
              rotate_left
              · show Act.put _ (some 9) _ = _
                simp only [Act.put, List.setIfInBounds_toArray, List.set_cons_zero, List.set_cons_succ, i64_w, i32_w]
                rfl
              exact norm_ (by first | (simp only [putAll, Act.put, List.setIfInBounds_toArray, List.set_cons_zero, List.set_cons_succ]; done) | (simp only [putAll, Act.put, List.setIfInBounds_toArray, List.set_cons_zero, List.set_cons_succ]; rfl)) (hJ3_4_5 (gb371, gb372, gb373) _ (Ow.Own.cong (Ow.Own.pick [0, 1, 2, 3] HO.out (by decide)) (by first | (simp only [hQ0.out, hQ1.out] <;> rfl) | ((fail_if_success (simp only [hQ0.out, hQ1.out])); rfl))))
          rintro ⟨gb371, gb372, gb373⟩ w28 HO7_
          clear HO
          have HO := Aside0.mk HO7_
          clear HO7_
          have hHeld := Ow.Own.pick [0] HO.out (by decide)
          refine norm_ (a' := ?_) ?_ ?_
          rotate_left
          · simp only [putAll, Act.put, List.setIfInBounds_toArray, List.set_cons_zero, List.set_cons_succ]
            rfl
          refine one_ (i := 6) (N := none) #[true, true, true, true, true, true, true, false, false] rfl rfl (one_of HT_.out (by kernel_rfl)) (by decide) (fun K hK => ?_)
          refine Ow.oskip Ot.ty HO.out (by rfl) rfl rfl rfl rfl (by with_reducible first | exact Ow.at0 | exact Ow.at1 | exact Ow.at2 | exact Ow.at3) (by first | exact Ow.ev_tmp rfl | rfl) (by first | (simp only [hQ0.out, hQ1.out] <;> rfl) | ((fail_if_success (simp only [hQ0.out, hQ1.out])); rfl)) (by first | (simp only [hQ0.out, hQ1.out] <;> rfl) | ((fail_if_success (simp only [hQ0.out, hQ1.out])); rfl)) (by first | (simp only [hQ0.out, hQ1.out] <;> rfl) | ((fail_if_success (simp only [hQ0.out, hQ1.out])); rfl)) ?_
          clear HO; intro wz_ HO; simp only [List.set_cons_zero, List.set_cons_succ] at HO
          refine hK.out _ _ (by have h_ := Ow.Own.pick [0] HO.out (by decide); exact h_) (fun hHeld => ?_)
          clear hK K
          refine one_ (i := 7) (N := none) #[true, true, true, true, true, true, true, true, false] rfl rfl (one_of HT_.out (by kernel_rfl)) (by decide) (fun K hK => ?_)
          refine Ow.oskip Ot.ty HO.out (by rfl) rfl rfl rfl rfl (by with_reducible first | exact Ow.at0 | exact Ow.at1 | exact Ow.at2 | exact Ow.at3) (by first | exact Ow.ev_tmp rfl | rfl) (by first | (simp only [hQ0.out, hQ1.out] <;> rfl) | ((fail_if_success (simp only [hQ0.out, hQ1.out])); rfl)) (by first | (simp only [hQ0.out, hQ1.out] <;> rfl) | ((fail_if_success (simp only [hQ0.out, hQ1.out])); rfl)) (by first | (simp only [hQ0.out, hQ1.out] <;> rfl) | ((fail_if_success (simp only [hQ0.out, hQ1.out])); rfl)) ?_
          clear HO; intro wz_ HO; simp only [List.set_cons_zero, List.set_cons_succ] at HO
          refine hK.out _ _ (by have h_ := Ow.Own.pick [0] HO.out (by decide); exact h_) (fun hHeld => ?_)
          clear hK K
          refine one_ (i := 8) (N := none) #[true, true, true, true, true, true, true, true, true] rfl rfl (one_of HT_.out (by kernel_rfl)) (by decide) (fun K hK => ?_)
          refine Ow.oskip Ot.ty HO.out (by rfl) rfl rfl rfl rfl (by with_reducible first | exact Ow.at0 | exact Ow.at1 | exact Ow.at2 | exact Ow.at3) (by first | exact Ow.ev_tmp rfl | rfl) (by first | (simp only [hQ0.out, hQ1.out] <;> rfl) | ((fail_if_success (simp only [hQ0.out, hQ1.out])); rfl)) (by first | (simp only [hQ0.out, hQ1.out] <;> rfl) | ((fail_if_success (simp only [hQ0.out, hQ1.out])); rfl)) (by first | (simp only [hQ0.out, hQ1.out] <;> rfl) | ((fail_if_success (simp only [hQ0.out, hQ1.out])); rfl)) ?_
          clear HO; intro wz_ HO; simp only [List.set_cons_zero, List.set_cons_succ] at HO
          refine hK.out _ _ (by have h_ := Ow.Own.pick [0] HO.out (by decide); exact h_) (fun hHeld => ?_)
          clear hK K
          refine done_ (done_of HT_.out (by kernel_rfl)) ?_
          obtain ⟨Q2, hQ2_⟩ : ∃ q_ : Array Value, q_ = (#[.string t374, .string t375, .string t376, .string t377, .int .i64 t378, .int .i64 t379, .int .i64 t380, .bool t381, .bool true, .int .i64 t383, .int .i64 t384, .string t385, .string t386, .string t387, .int .i64 t388] : Array Value) := ⟨_, rfl⟩
          try rw [← hQ2_]
          have hQ2 := Aside0.mk hQ2_; clear hQ2_
          obtain ⟨Q3, hQ3_⟩ : ∃ q_ : Array Value, q_ = (#[.string t345, .string t346, .string t347, .int .i64 (wrap64 ((wrap64 (a1)) + 1)), .string t349, .string t350, .string t351, .string t352, .string t353, .int .i64 t354, .int .i64 t355, .string t356, .bool t357, .int .i64 t358, .string t359, .string t360, .string t361, .int .i64 t362, .int .i64 t363, .int .i64 t364, .bool t365, .bool t366, .int .i64 t367, .int .i64 t368, .bool t369] : Array Value) := ⟨_, rfl⟩
          try rw [← hQ3_]
          have hQ3 := Aside0.mk hQ3_; clear hQ3_
          try go_wp2_with (first | ((with_reducible refine gate_callee (f := 38) rfl ?_); refine goesL_ (some 52) rfl rfl Try.func38 (by kernel_rfl) rfl #[.agg Q3] rfl (by (try simp only [List.map_toArray, List.map_cons, List.map_nil]); first | done | rfl | (simp only [hQ0.out, hQ1.out, hQ2.out, hQ3.out]; done) | (simp only [hQ0.out, hQ1.out, hQ2.out, hQ3.out]; rfl)) ?_; refine Calls.mono (calls_of_args (by first | (simp only [hQ0.out, hQ1.out, hQ2.out, hQ3.out] <;> rfl) | ((fail_if_success (simp only [hQ0.out, hQ1.out, hQ2.out, hQ3.out])); rfl)) (reverse_Reverse.calls t345 t346 t347 (wrap64 ((wrap64 (a1)) + 1)) t349 t350 t351 t352 t353 t354 t355 t356 t357 t358 t359 t360 t361 t362 t363 t364 t365 t366 t367 t368 t369 t374 t375 t376 t377 t378 t379 t380 t381 true t383 t384 t385 t386 t387 t388 t389 _ A19.out)) ?_; rintro e w111 ⟨he_, hb⟩; (try rw [← hQ2.out] at he_); subst he_; refine ⟨_, rfl, ?_⟩; replace HO := Aside0.mk (Ow.Own.call HO.out hb); clear hb) | ((with_reducible refine gate_dst (N := 10) rfl ?_); refine Ow.box rfl (N := 10) rfl (cs := bursarlaw24_ReverseParts.Z15) (t := 68) HO.out (by first | (go_simp; done) | (go_simp; rfl)) ?_; clear HO; intro gb390 w112 HO; simp only [List.cons_append, List.nil_append] at HO) | ((with_reducible refine Ow.gate_eqs (t := 61) (by first | exact Or.inl rfl | exact Or.inr rfl) rfl ?_); simp only [hQ0.out, hQ1.out, hQ2.out, hQ3.out, Ow.part, Ot.sz, Ot.zero, Ow.over, Ow.overL, List.drop_succ_cons, List.drop_zero, List.take_succ_cons, List.take_zero]) | ((with_reducible refine Ow.gate_load rfl ?_); (try (refine gate_guard (by rfl) ?_; dsimp only)); (first | refine Ow.tload1 Ot.ty HO.out rfl rfl rfl rfl (by with_reducible first | exact Ow.at0 | exact Ow.at1 | exact Ow.at2 | exact Ow.at3 | exact Ow.at4) (by first | (simp only [hQ0.out, hQ1.out, hQ2.out, hQ3.out] <;> rfl) | ((fail_if_success (simp only [hQ0.out, hQ1.out, hQ2.out, hQ3.out])); rfl)) ?_ | refine Ow.tload0 Ot.ty HO.out rfl rfl rfl rfl (by with_reducible first | exact Ow.at0 | exact Ow.at1 | exact Ow.at2 | exact Ow.at3 | exact Ow.at4) (by first | (simp only [hQ0.out, hQ1.out, hQ2.out, hQ3.out] <;> rfl) | ((fail_if_success (simp only [hQ0.out, hQ1.out, hQ2.out, hQ3.out])); rfl)) ?_ | refine Ow.tloadp Ot.ty HO.out rfl rfl rfl rfl (by with_reducible first | exact Ow.at0 | exact Ow.at1 | exact Ow.at2 | exact Ow.at3 | exact Ow.at4) (by first | (simp only [hQ0.out, hQ1.out, hQ2.out, hQ3.out] <;> rfl) | ((fail_if_success (simp only [hQ0.out, hQ1.out, hQ2.out, hQ3.out])); rfl)) ?_)) | ((with_reducible refine gate_store rfl ?_); (try (refine gate_guard (by rfl) ?_; dsimp only)); (first | refine Ow.tput0 Ot.ty HO.out rfl rfl rfl rfl rfl (by with_reducible first | exact Ow.at0 | exact Ow.at1 | exact Ow.at2 | exact Ow.at3 | exact Ow.at4) (by first | exact Ow.ev_tmp rfl | rfl) (by first | (simp only [hQ0.out, hQ1.out, hQ2.out, hQ3.out] <;> rfl) | ((fail_if_success (simp only [hQ0.out, hQ1.out, hQ2.out, hQ3.out])); rfl)) (by first | (simp only [hQ0.out, hQ1.out, hQ2.out, hQ3.out] <;> rfl) | ((fail_if_success (simp only [hQ0.out, hQ1.out, hQ2.out, hQ3.out])); rfl)) (by first | (simp only [hQ0.out, hQ1.out, hQ2.out, hQ3.out] <;> rfl) | ((fail_if_success (simp only [hQ0.out, hQ1.out, hQ2.out, hQ3.out])); rfl)) ?_ | refine Ow.tput Ot.ty HO.out rfl rfl rfl rfl rfl (by with_reducible first | exact Ow.at0 | exact Ow.at1 | exact Ow.at2 | exact Ow.at3 | exact Ow.at4) (by first | exact Ow.ev_tmp rfl | rfl) (by first | (simp only [hQ0.out, hQ1.out, hQ2.out, hQ3.out] <;> rfl) | ((fail_if_success (simp only [hQ0.out, hQ1.out, hQ2.out, hQ3.out])); rfl)) (by first | (simp only [hQ0.out, hQ1.out, hQ2.out, hQ3.out] <;> rfl) | ((fail_if_success (simp only [hQ0.out, hQ1.out, hQ2.out, hQ3.out])); rfl)) (by first | (simp only [hQ0.out, hQ1.out, hQ2.out, hQ3.out] <;> rfl) | ((fail_if_success (simp only [hQ0.out, hQ1.out, hQ2.out, hQ3.out])); rfl)) ?_); clear HO; intro wz_ HO; simp only [List.set_cons_zero, List.set_cons_succ] at HO))
          refine Ow.ostartk (n := 10) (ds := []) [0, 1, 3, 4] #[false, false, false, false, false, false, false, false, false, false] HO.out (by decide) (by kernel_rfl) rfl rfl ?_
          intro HO3_ hHeld; replace HO := Aside0.mk HO3_; clear HO3_; refine with_tabW bursarlaw24_ReverseParts.tab9 bursarlaw24_ReverseParts.bits9 (fun HT_ HW_ => ?_)
          refine pure_ (i := 0) (N := some 59) (v := ?_) (a' := ?_) #[true, false, false, false, false, false, false, false, false, false] rfl rfl (any_of HT_.out (by kernel_rfl)) (fun _ _ _ h => h) (Or.inl ⟨by rfl, ?_⟩) ?_ ?_
          rotate_left
          · intro w'
            (try (with_reducible refine Ow.gate_eql (by first | exact Or.inl rfl | exact Or.inr rfl) rfl ?_; simp only [hQ0.out, hQ1.out, hQ2.out, hQ3.out, Ow.part, Ot.sz, Ot.zero, Ow.over, Ow.overL, List.drop_succ_cons, List.drop_zero, List.take_succ_cons, List.take_zero]))
            go_simp
            with_reducible rfl
          rotate_left
          · simp only [Act.put, List.setIfInBounds_toArray, List.set_cons_zero, List.set_cons_succ, i64_w, i32_w]
            rfl
          refine pure_ (i := 1) (N := some 60) (v := ?_) (a' := ?_) #[true, true, false, false, false, false, false, false, false, false] rfl rfl (any_of HT_.out (by kernel_rfl)) (fun _ _ _ h => h) (Or.inl ⟨by rfl, ?_⟩) ?_ ?_
          rotate_left
          · intro w'
            (try (with_reducible refine Ow.gate_eql (by first | exact Or.inl rfl | exact Or.inr rfl) rfl ?_; simp only [hQ0.out, hQ1.out, hQ2.out, hQ3.out, Ow.part, Ot.sz, Ot.zero, Ow.over, Ow.overL, List.drop_succ_cons, List.drop_zero, List.take_succ_cons, List.take_zero]))
            go_simp
            with_reducible rfl
          rotate_left
          · simp only [Act.put, List.setIfInBounds_toArray, List.set_cons_zero, List.set_cons_succ, i64_w, i32_w]
            rfl
          refine pure_ (i := 2) (N := some 61) (v := ?_) (a' := ?_) #[true, true, true, false, false, false, false, false, false, false] rfl rfl (any_of HT_.out (by kernel_rfl)) (fun _ _ _ h => h) (Or.inl ⟨by rfl, ?_⟩) ?_ ?_
          rotate_left
          · intro w'
            (try (with_reducible refine Ow.gate_eql (by first | exact Or.inl rfl | exact Or.inr rfl) rfl ?_; simp only [hQ0.out, hQ1.out, hQ2.out, hQ3.out, Ow.part, Ot.sz, Ot.zero, Ow.over, Ow.overL, List.drop_succ_cons, List.drop_zero, List.take_succ_cons, List.take_zero]))
            go_simp
            with_reducible rfl
          rotate_left
          · simp only [Act.put, List.setIfInBounds_toArray, List.set_cons_zero, List.set_cons_succ, i64_w, i32_w]
            rfl
          refine pure_ (i := 3) (N := some 62) (v := ?_) (a' := ?_) #[true, true, true, true, false, false, false, false, false, false] rfl rfl (any_of HT_.out (by kernel_rfl)) (fun _ _ _ h => h) (Or.inl ⟨by rfl, ?_⟩) ?_ ?_
          rotate_left
          · intro w'
            (try (with_reducible refine Ow.gate_eql (by first | exact Or.inl rfl | exact Or.inr rfl) rfl ?_; simp only [hQ0.out, hQ1.out, hQ2.out, hQ3.out, Ow.part, Ot.sz, Ot.zero, Ow.over, Ow.overL, List.drop_succ_cons, List.drop_zero, List.take_succ_cons, List.take_zero]))
            go_simp
            with_reducible rfl
          rotate_left
          · simp only [Act.put, List.setIfInBounds_toArray, List.set_cons_zero, List.set_cons_succ, i64_w, i32_w]
            rfl
          refine pure_ (i := 5) (N := some 64) (v := ?_) (a' := ?_) #[true, true, true, true, false, true, false, false, false, false] rfl rfl (any_of HT_.out (by kernel_rfl)) (fun _ _ _ h => h) (Or.inl ⟨by rfl, ?_⟩) ?_ ?_
          rotate_left
          · intro w'
            (try (with_reducible refine Ow.gate_eql (by first | exact Or.inl rfl | exact Or.inr rfl) rfl ?_; simp only [hQ0.out, hQ1.out, hQ2.out, hQ3.out, Ow.part, Ot.sz, Ot.zero, Ow.over, Ow.overL, List.drop_succ_cons, List.drop_zero, List.take_succ_cons, List.take_zero]))
            go_simp
            with_reducible rfl
          rotate_left
          · simp only [Act.put, List.setIfInBounds_toArray, List.set_cons_zero, List.set_cons_succ, i64_w, i32_w]
            rfl
          refine pure_ (i := 6) (N := some 65) (v := ?_) (a' := ?_) #[true, true, true, true, false, true, true, false, false, false] rfl rfl (any_of HT_.out (by kernel_rfl)) (fun _ _ _ h => h) (Or.inl ⟨by rfl, ?_⟩) ?_ ?_
          rotate_left
          · intro w'
            (try (with_reducible refine Ow.gate_eql (by first | exact Or.inl rfl | exact Or.inr rfl) rfl ?_; simp only [hQ0.out, hQ1.out, hQ2.out, hQ3.out, Ow.part, Ot.sz, Ot.zero, Ow.over, Ow.overL, List.drop_succ_cons, List.drop_zero, List.take_succ_cons, List.take_zero]))
            go_simp
            with_reducible rfl
          rotate_left
          · simp only [Act.put, List.setIfInBounds_toArray, List.set_cons_zero, List.set_cons_succ, i64_w, i32_w]
            rfl
          refine take_ (i := 4) (N := some 63) (v := ?_) (a' := ?_) #[true, true, true, true, true, true, true, false, false, false] rfl rfl (take_ofW HT_.out HW_.out (by kernel_rfl)) (fun _ _ _ h => h) (Or.inl ⟨by rfl, ?_⟩) hHeld ?_ ?_
          rotate_left
          · intro w' s_
            first | (refine' Ow.rload1 Ot.ty s_ rfl rfl rfl ?hk_ ?hs_; (case hk_ => exact (by first | exact Ow.at0 | exact Ow.at1 | exact Ow.at2 | exact Ow.at3)); (case hs_ => first | (simp only [hQ0.out, hQ1.out, hQ2.out, hQ3.out] <;> rfl) | ((fail_if_success (simp only [hQ0.out, hQ1.out, hQ2.out, hQ3.out])); rfl))) | (refine' Ow.rload0 Ot.ty s_ rfl rfl rfl ?hk_ ?hs_; (case hk_ => exact (by first | exact Ow.at0 | exact Ow.at1 | exact Ow.at2 | exact Ow.at3)); (case hs_ => first | (simp only [hQ0.out, hQ1.out, hQ2.out, hQ3.out] <;> rfl) | ((fail_if_success (simp only [hQ0.out, hQ1.out, hQ2.out, hQ3.out])); rfl))) | (refine' Ow.rloadp Ot.ty s_ rfl rfl rfl ?hk_ ?hs_; (case hk_ => exact (by first | exact Ow.at0 | exact Ow.at1 | exact Ow.at2 | exact Ow.at3)); (case hs_ => first | (simp only [hQ0.out, hQ1.out, hQ2.out, hQ3.out] <;> rfl) | ((fail_if_success (simp only [hQ0.out, hQ1.out, hQ2.out, hQ3.out])); rfl))) | (go_simp; with_reducible rfl)
          rotate_left
          · simp only [Act.put, List.setIfInBounds_toArray, List.set_cons_zero, List.set_cons_succ, i64_w, i32_w]
            rfl
          refine one_ (i := 7) (N := none) #[true, true, true, true, true, true, true, true, false, false] rfl rfl (one_of HT_.out (by kernel_rfl)) (by decide) (fun K hK => ?_)
          refine Ow.oskip Ot.ty HO.out (by rfl) rfl rfl rfl rfl (by with_reducible first | exact Ow.at0 | exact Ow.at1 | exact Ow.at2 | exact Ow.at3 | exact Ow.at4) (by first | exact Ow.ev_tmp rfl | rfl) (by first | (simp only [hQ0.out, hQ1.out, hQ2.out, hQ3.out] <;> rfl) | ((fail_if_success (simp only [hQ0.out, hQ1.out, hQ2.out, hQ3.out])); rfl)) (by first | (simp only [hQ0.out, hQ1.out, hQ2.out, hQ3.out] <;> rfl) | ((fail_if_success (simp only [hQ0.out, hQ1.out, hQ2.out, hQ3.out])); rfl)) (by first | (simp only [hQ0.out, hQ1.out, hQ2.out, hQ3.out] <;> rfl) | ((fail_if_success (simp only [hQ0.out, hQ1.out, hQ2.out, hQ3.out])); rfl)) ?_
          clear HO; intro wz_ HO; simp only [List.set_cons_zero, List.set_cons_succ] at HO
          refine hK.out _ _ (by have h_ := Ow.Own.pick [0, 1, 3, 4] HO.out (by decide); exact h_) (fun hHeld => ?_)
          clear hK K
          refine pure_ (i := 8) (N := some 66) (v := ?_) (a' := ?_) #[true, true, true, true, true, true, true, true, true, false] rfl rfl (any_of HT_.out (by kernel_rfl)) (fun _ _ _ h => h) (Or.inl ⟨by rfl, ?_⟩) ?_ ?_
          rotate_left
          · intro w'
            (try (with_reducible refine Ow.gate_eql (by first | exact Or.inl rfl | exact Or.inr rfl) rfl ?_; simp only [hQ0.out, hQ1.out, hQ2.out, hQ3.out, Ow.part, Ot.sz, Ot.zero, Ow.over, Ow.overL, List.drop_succ_cons, List.drop_zero, List.take_succ_cons, List.take_zero]))
            go_simp
            with_reducible rfl
          rotate_left
          · simp only [Act.put, List.setIfInBounds_toArray, List.set_cons_zero, List.set_cons_succ, i64_w, i32_w]
            rfl
          refine one_ (i := 9) (N := none) #[true, true, true, true, true, true, true, true, true, true] rfl rfl (one_of HT_.out (by kernel_rfl)) (by decide) (fun K hK => ?_)
          refine Ow.oskip Ot.ty HO.out (by rfl) rfl rfl rfl rfl (by with_reducible first | exact Ow.at0 | exact Ow.at1 | exact Ow.at2 | exact Ow.at3 | exact Ow.at4) (by first | exact Ow.ev_tmp rfl | rfl) (by first | (simp only [hQ0.out, hQ1.out, hQ2.out, hQ3.out] <;> rfl) | ((fail_if_success (simp only [hQ0.out, hQ1.out, hQ2.out, hQ3.out])); rfl)) (by first | (simp only [hQ0.out, hQ1.out, hQ2.out, hQ3.out] <;> rfl) | ((fail_if_success (simp only [hQ0.out, hQ1.out, hQ2.out, hQ3.out])); rfl)) (by first | (simp only [hQ0.out, hQ1.out, hQ2.out, hQ3.out] <;> rfl) | ((fail_if_success (simp only [hQ0.out, hQ1.out, hQ2.out, hQ3.out])); rfl)) ?_
          clear HO; intro wz_ HO; simp only [List.set_cons_zero, List.set_cons_succ] at HO
          refine hK.out _ _ (by have h_ := Ow.Own.pick [0, 1, 3, 4] HO.out (by decide); exact h_) (fun hHeld => ?_)
          clear hK K
          refine done_ (done_of HT_.out (by kernel_rfl)) ?_
          obtain ⟨Q4, hQ4_⟩ : ∃ q_ : Array Value, q_ = (#[.string t392, .string t393, .string t394, .string t395, .int .i64 t396, .int .i64 t397, .int .i64 t398, .bool t399, .bool t400, .int .i64 t401, .int .i64 t402, .string t403, .string t404, .string t405, .int .i64 t406] : Array Value) := ⟨_, rfl⟩
          try rw [← hQ4_]
          have hQ4 := Aside0.mk hQ4_; clear hQ4_
          obtain ⟨Q5, hQ5_⟩ : ∃ q_ : Array Value, q_ = (#[.string t345, .string t346, .string t347, .int .i64 (wrap64 ((wrap64 (a2)) + 1)), .string t349, .string t350, .string t351, .string t352, .string t353, .int .i64 t354, .int .i64 t355, .string t356, .bool t357, .int .i64 t358, .string t375, .string t376, .string t377, .int .i64 t378, .int .i64 t379, .int .i64 t380, .bool t381, .bool t366, .int .i64 t367, .int .i64 t368, .bool t369] : Array Value) := ⟨_, rfl⟩
          try rw [← hQ5_]
          have hQ5 := Aside0.mk hQ5_; clear hQ5_
          obtain ⟨Q6, hQ6_⟩ : ∃ q_ : Array Value, q_ = (#[.string t409, .string t410, .string t411, .string t412, .int .i64 t413, .int .i64 t414, .int .i64 t415, .bool t416, .bool t417, .int .i64 t418, .int .i64 t419, .string t420, .string t421, .string t422, .int .i64 t423] : Array Value) := ⟨_, rfl⟩
          try rw [← hQ6_]
          have hQ6 := Aside0.mk hQ6_; clear hQ6_
          obtain ⟨Q7, hQ7_⟩ : ∃ q_ : Array Value, q_ = (#[.string t345, .string t346, .string t347, .int .i64 (wrap64 ((wrap64 ((wrap64 (a1)) + (wrap64 (a2)))) + 2)), .string t349, .string t350, .string t351, .string t352, .string t353, .int .i64 t354, .int .i64 t355, .string t356, .bool t357, .int .i64 t358, .string t359, .string t360, .string t361, .int .i64 t362, .int .i64 t363, .int .i64 t364, .bool t365, .bool t366, .int .i64 t367, .int .i64 t368, .bool t369] : Array Value) := ⟨_, rfl⟩
          try rw [← hQ7_]
          have hQ7 := Aside0.mk hQ7_; clear hQ7_
          go_upto_region 12 with (first | ((with_reducible refine gate_callee (f := 38) rfl ?_); refine goesL_ (some 69) rfl rfl Try.func38 (by kernel_rfl) rfl #[.agg Q5] rfl (by (try simp only [List.map_toArray, List.map_cons, List.map_nil]); first | done | rfl | (simp only [hQ0.out, hQ1.out, hQ2.out, hQ3.out, hQ4.out, hQ5.out, hQ6.out, hQ7.out]; done) | (simp only [hQ0.out, hQ1.out, hQ2.out, hQ3.out, hQ4.out, hQ5.out, hQ6.out, hQ7.out]; rfl)) ?_; refine Calls.mono (calls_of_args (by first | (simp only [hQ0.out, hQ1.out, hQ2.out, hQ3.out, hQ4.out, hQ5.out, hQ6.out, hQ7.out] <;> rfl) | ((fail_if_success (simp only [hQ0.out, hQ1.out, hQ2.out, hQ3.out, hQ4.out, hQ5.out, hQ6.out, hQ7.out])); rfl)) (reverse_Reverse.calls t345 t346 t347 (wrap64 ((wrap64 (a2)) + 1)) t349 t350 t351 t352 t353 t354 t355 t356 t357 t358 t375 t376 t377 t378 t379 t380 t381 t366 t367 t368 t369 t392 t393 t394 t395 t396 t397 t398 t399 t400 t401 t402 t403 t404 t405 t406 t407 _ A21.out)) ?_; rintro e w131 ⟨he_, hb⟩; (try rw [← hQ4.out] at he_); subst he_; refine ⟨_, rfl, ?_⟩; replace HO := Aside0.mk (Ow.Own.call HO.out hb); clear hb) | ((with_reducible refine gate_dst (N := 12) rfl ?_); refine Ow.box rfl (N := 12) rfl (cs := bursarlaw24_ReverseParts.Z15) (t := 68) HO.out (by first | (go_simp; done) | (go_simp; rfl)) ?_; clear HO; intro gb408 w132 HO; simp only [List.cons_append, List.nil_append] at HO) | ((with_reducible refine gate_callee (f := 38) rfl ?_); refine goesL_ (some 74) rfl rfl Try.func38 (by kernel_rfl) rfl #[.agg Q7] rfl (by (try simp only [List.map_toArray, List.map_cons, List.map_nil]); first | done | rfl | (simp only [hQ0.out, hQ1.out, hQ2.out, hQ3.out, hQ4.out, hQ5.out, hQ6.out, hQ7.out]; done) | (simp only [hQ0.out, hQ1.out, hQ2.out, hQ3.out, hQ4.out, hQ5.out, hQ6.out, hQ7.out]; rfl)) ?_; refine Calls.mono (calls_of_args (by first | (simp only [hQ0.out, hQ1.out, hQ2.out, hQ3.out, hQ4.out, hQ5.out, hQ6.out, hQ7.out] <;> rfl) | ((fail_if_success (simp only [hQ0.out, hQ1.out, hQ2.out, hQ3.out, hQ4.out, hQ5.out, hQ6.out, hQ7.out])); rfl)) (reverse_Reverse.calls t345 t346 t347 (wrap64 ((wrap64 ((wrap64 (a1)) + (wrap64 (a2)))) + 2)) t349 t350 t351 t352 t353 t354 t355 t356 t357 t358 t359 t360 t361 t362 t363 t364 t365 t366 t367 t368 t369 t409 t410 t411 t412 t413 t414 t415 t416 t417 t418 t419 t420 t421 t422 t423 t424 _ A22.out)) ?_; rintro e w141 ⟨he_, hb⟩; (try rw [← hQ6.out] at he_); subst he_; refine ⟨_, rfl, ?_⟩; replace HO := Aside0.mk (Ow.Own.call HO.out hb); clear hb) | ((with_reducible refine gate_dst (N := 14) rfl ?_); refine Ow.box rfl (N := 14) rfl (cs := bursarlaw24_ReverseParts.Z15) (t := 68) HO.out (by first | (go_simp; done) | (go_simp; rfl)) ?_; clear HO; intro gb425 w142 HO; simp only [List.cons_append, List.nil_append] at HO) | ((with_reducible refine Ow.gate_eqs (t := 61) (by first | exact Or.inl rfl | exact Or.inr rfl) rfl ?_); simp only [hQ0.out, hQ1.out, hQ2.out, hQ3.out, hQ4.out, hQ5.out, hQ6.out, hQ7.out, Ow.part, Ot.sz, Ot.zero, Ow.over, Ow.overL, List.drop_succ_cons, List.drop_zero, List.take_succ_cons, List.take_zero]) | ((with_reducible refine Ow.gate_load rfl ?_); (try (refine gate_guard (by rfl) ?_; dsimp only)); (first | refine Ow.tload1 Ot.ty HO.out rfl rfl rfl rfl (by with_reducible first | exact Ow.at0 | exact Ow.at1 | exact Ow.at2 | exact Ow.at3 | exact Ow.at4 | exact Ow.at5 | exact Ow.at6) (by first | (simp only [hQ0.out, hQ1.out, hQ2.out, hQ3.out, hQ4.out, hQ5.out, hQ6.out, hQ7.out] <;> rfl) | ((fail_if_success (simp only [hQ0.out, hQ1.out, hQ2.out, hQ3.out, hQ4.out, hQ5.out, hQ6.out, hQ7.out])); rfl)) ?_ | refine Ow.tload0 Ot.ty HO.out rfl rfl rfl rfl (by with_reducible first | exact Ow.at0 | exact Ow.at1 | exact Ow.at2 | exact Ow.at3 | exact Ow.at4 | exact Ow.at5 | exact Ow.at6) (by first | (simp only [hQ0.out, hQ1.out, hQ2.out, hQ3.out, hQ4.out, hQ5.out, hQ6.out, hQ7.out] <;> rfl) | ((fail_if_success (simp only [hQ0.out, hQ1.out, hQ2.out, hQ3.out, hQ4.out, hQ5.out, hQ6.out, hQ7.out])); rfl)) ?_ | refine Ow.tloadp Ot.ty HO.out rfl rfl rfl rfl (by with_reducible first | exact Ow.at0 | exact Ow.at1 | exact Ow.at2 | exact Ow.at3 | exact Ow.at4 | exact Ow.at5 | exact Ow.at6) (by first | (simp only [hQ0.out, hQ1.out, hQ2.out, hQ3.out, hQ4.out, hQ5.out, hQ6.out, hQ7.out] <;> rfl) | ((fail_if_success (simp only [hQ0.out, hQ1.out, hQ2.out, hQ3.out, hQ4.out, hQ5.out, hQ6.out, hQ7.out])); rfl)) ?_)) | ((with_reducible refine gate_store rfl ?_); (try (refine gate_guard (by rfl) ?_; dsimp only)); (first | refine Ow.tput0 Ot.ty HO.out rfl rfl rfl rfl rfl (by with_reducible first | exact Ow.at0 | exact Ow.at1 | exact Ow.at2 | exact Ow.at3 | exact Ow.at4 | exact Ow.at5 | exact Ow.at6) (by first | exact Ow.ev_tmp rfl | rfl) (by first | (simp only [hQ0.out, hQ1.out, hQ2.out, hQ3.out, hQ4.out, hQ5.out, hQ6.out, hQ7.out] <;> rfl) | ((fail_if_success (simp only [hQ0.out, hQ1.out, hQ2.out, hQ3.out, hQ4.out, hQ5.out, hQ6.out, hQ7.out])); rfl)) (by first | (simp only [hQ0.out, hQ1.out, hQ2.out, hQ3.out, hQ4.out, hQ5.out, hQ6.out, hQ7.out] <;> rfl) | ((fail_if_success (simp only [hQ0.out, hQ1.out, hQ2.out, hQ3.out, hQ4.out, hQ5.out, hQ6.out, hQ7.out])); rfl)) (by first | (simp only [hQ0.out, hQ1.out, hQ2.out, hQ3.out, hQ4.out, hQ5.out, hQ6.out, hQ7.out] <;> rfl) | ((fail_if_success (simp only [hQ0.out, hQ1.out, hQ2.out, hQ3.out, hQ4.out, hQ5.out, hQ6.out, hQ7.out])); rfl)) ?_ | refine Ow.tput Ot.ty HO.out rfl rfl rfl rfl rfl (by with_reducible first | exact Ow.at0 | exact Ow.at1 | exact Ow.at2 | exact Ow.at3 | exact Ow.at4 | exact Ow.at5 | exact Ow.at6) (by first | exact Ow.ev_tmp rfl | rfl) (by first | (simp only [hQ0.out, hQ1.out, hQ2.out, hQ3.out, hQ4.out, hQ5.out, hQ6.out, hQ7.out] <;> rfl) | ((fail_if_success (simp only [hQ0.out, hQ1.out, hQ2.out, hQ3.out, hQ4.out, hQ5.out, hQ6.out, hQ7.out])); rfl)) (by first | (simp only [hQ0.out, hQ1.out, hQ2.out, hQ3.out, hQ4.out, hQ5.out, hQ6.out, hQ7.out] <;> rfl) | ((fail_if_success (simp only [hQ0.out, hQ1.out, hQ2.out, hQ3.out, hQ4.out, hQ5.out, hQ6.out, hQ7.out])); rfl)) (by first | (simp only [hQ0.out, hQ1.out, hQ2.out, hQ3.out, hQ4.out, hQ5.out, hQ6.out, hQ7.out] <;> rfl) | ((fail_if_success (simp only [hQ0.out, hQ1.out, hQ2.out, hQ3.out, hQ4.out, hQ5.out, hQ6.out, hQ7.out])); rfl)) ?_); clear HO; intro wz_ HO; simp only [List.set_cons_zero, List.set_cons_succ] at HO))
          (try simp only [Act.put, List.setIfInBounds_toArray, List.set_cons_zero, List.set_cons_succ])
          go_cut [92] (fun v92 wc => ∃ (kq : Nat) (x92_22 : Bool), v92 = .bool x92_22 ∧ Aside0 (bursarlaw24_ReverseParts.j1 kq x92_22 t345 t346 t347 (wrap64 ((wrap64 (a2)) + 1)) t349 t350 t351 t352 t353 t354 t355 t356 t357 t358 t375 t376 t377 t378 t379 t380 t381 t366 t367 t368 t369 t374 t375 t376 t377 t378 t379 t380 t381 true t383 t384 t385 t386 t387 t388 = some r) ∧ Aside0 (kq ≤ kj4) ∧ Aside0 (Ow.Own w wc [(gb344, Q1, 63), (gb371, Q3, 63), (gb372, Q5, 63), (gb373, Q7, 63), (gb390, Q2, 68), (gb408, Q4, 68), (gb425, Q6, 68)]))
          case first =>
            have H := HC23.out
            clear HC23
            by_cases c151 : (t400 != t417) = true
            · rw [if_pos c151] at H
              have c151b0 : (t400 != t417) = true := c151
              (try (have c151b1 : decide (t400 = t417) = false := by simpa using c151))
              (try (have c151b2 : (t400 == t417) = false := by simpa using c151))
              (try (have c151b3 : ¬ (t400 = t417) := by simpa using c151))
              clear c151
              (first | rw [c151b0] | (simp only [i64_w, i32_w]; rw [c151b0]) | skip)
              have H' := Aside0.mk H
              clear H
              go_wp2_with (first | ((with_reducible refine Ow.gate_eqs (t := 61) (by first | exact Or.inl rfl | exact Or.inr rfl) rfl ?_); simp only [hQ0.out, hQ1.out, hQ2.out, hQ3.out, hQ4.out, hQ5.out, hQ6.out, hQ7.out, Ow.part, Ot.sz, Ot.zero, Ow.over, Ow.overL, List.drop_succ_cons, List.drop_zero, List.take_succ_cons, List.take_zero]) | ((with_reducible refine Ow.gate_load rfl ?_); (try (refine gate_guard (by rfl) ?_; dsimp only)); (first | refine Ow.tload1 Ot.ty HO.out rfl rfl rfl rfl (by with_reducible first | exact Ow.at0 | exact Ow.at1 | exact Ow.at2 | exact Ow.at3 | exact Ow.at4 | exact Ow.at5 | exact Ow.at6) (by first | (simp only [hQ0.out, hQ1.out, hQ2.out, hQ3.out, hQ4.out, hQ5.out, hQ6.out, hQ7.out] <;> rfl) | ((fail_if_success (simp only [hQ0.out, hQ1.out, hQ2.out, hQ3.out, hQ4.out, hQ5.out, hQ6.out, hQ7.out])); rfl)) ?_ | refine Ow.tload0 Ot.ty HO.out rfl rfl rfl rfl (by with_reducible first | exact Ow.at0 | exact Ow.at1 | exact Ow.at2 | exact Ow.at3 | exact Ow.at4 | exact Ow.at5 | exact Ow.at6) (by first | (simp only [hQ0.out, hQ1.out, hQ2.out, hQ3.out, hQ4.out, hQ5.out, hQ6.out, hQ7.out] <;> rfl) | ((fail_if_success (simp only [hQ0.out, hQ1.out, hQ2.out, hQ3.out, hQ4.out, hQ5.out, hQ6.out, hQ7.out])); rfl)) ?_ | refine Ow.tloadp Ot.ty HO.out rfl rfl rfl rfl (by with_reducible first | exact Ow.at0 | exact Ow.at1 | exact Ow.at2 | exact Ow.at3 | exact Ow.at4 | exact Ow.at5 | exact Ow.at6) (by first | (simp only [hQ0.out, hQ1.out, hQ2.out, hQ3.out, hQ4.out, hQ5.out, hQ6.out, hQ7.out] <;> rfl) | ((fail_if_success (simp only [hQ0.out, hQ1.out, hQ2.out, hQ3.out, hQ4.out, hQ5.out, hQ6.out, hQ7.out])); rfl)) ?_)) | ((with_reducible refine gate_store rfl ?_); (try (refine gate_guard (by rfl) ?_; dsimp only)); (first | refine Ow.tput0 Ot.ty HO.out rfl rfl rfl rfl rfl (by with_reducible first | exact Ow.at0 | exact Ow.at1 | exact Ow.at2 | exact Ow.at3 | exact Ow.at4 | exact Ow.at5 | exact Ow.at6) (by first | exact Ow.ev_tmp rfl | rfl) (by first | (simp only [hQ0.out, hQ1.out, hQ2.out, hQ3.out, hQ4.out, hQ5.out, hQ6.out, hQ7.out] <;> rfl) | ((fail_if_success (simp only [hQ0.out, hQ1.out, hQ2.out, hQ3.out, hQ4.out, hQ5.out, hQ6.out, hQ7.out])); rfl)) (by first | (simp only [hQ0.out, hQ1.out, hQ2.out, hQ3.out, hQ4.out, hQ5.out, hQ6.out, hQ7.out] <;> rfl) | ((fail_if_success (simp only [hQ0.out, hQ1.out, hQ2.out, hQ3.out, hQ4.out, hQ5.out, hQ6.out, hQ7.out])); rfl)) (by first | (simp only [hQ0.out, hQ1.out, hQ2.out, hQ3.out, hQ4.out, hQ5.out, hQ6.out, hQ7.out] <;> rfl) | ((fail_if_success (simp only [hQ0.out, hQ1.out, hQ2.out, hQ3.out, hQ4.out, hQ5.out, hQ6.out, hQ7.out])); rfl)) ?_ | refine Ow.tput Ot.ty HO.out rfl rfl rfl rfl rfl (by with_reducible first | exact Ow.at0 | exact Ow.at1 | exact Ow.at2 | exact Ow.at3 | exact Ow.at4 | exact Ow.at5 | exact Ow.at6) (by first | exact Ow.ev_tmp rfl | rfl) (by first | (simp only [hQ0.out, hQ1.out, hQ2.out, hQ3.out, hQ4.out, hQ5.out, hQ6.out, hQ7.out] <;> rfl) | ((fail_if_success (simp only [hQ0.out, hQ1.out, hQ2.out, hQ3.out, hQ4.out, hQ5.out, hQ6.out, hQ7.out])); rfl)) (by first | (simp only [hQ0.out, hQ1.out, hQ2.out, hQ3.out, hQ4.out, hQ5.out, hQ6.out, hQ7.out] <;> rfl) | ((fail_if_success (simp only [hQ0.out, hQ1.out, hQ2.out, hQ3.out, hQ4.out, hQ5.out, hQ6.out, hQ7.out])); rfl)) (by first | (simp only [hQ0.out, hQ1.out, hQ2.out, hQ3.out, hQ4.out, hQ5.out, hQ6.out, hQ7.out] <;> rfl) | ((fail_if_success (simp only [hQ0.out, hQ1.out, hQ2.out, hQ3.out, hQ4.out, hQ5.out, hQ6.out, hQ7.out])); rfl)) ?_); clear HO; intro wz_ HO; simp only [List.set_cons_zero, List.set_cons_succ] at HO))
              (try simp only [← hQ0.out, ← hQ1.out, ← hQ2.out, ← hQ3.out, ← hQ4.out, ← hQ5.out, ← hQ6.out, ← hQ7.out])
              go_meet
              case rel => exact ⟨_, (true), (by first | rfl | (simp; done) | (simp [*]; done) | (simp [Pu.bne_nil, Pu.beq_nil]; done)), H', ⟨by have := HJ4.out; first | omega | exact Nat.le_refl _⟩, ⟨Ow.Own.cong HO.out (by first | (simp only [hQ0.out, hQ1.out, hQ2.out, hQ3.out, hQ4.out, hQ5.out, hQ6.out, hQ7.out] <;> rfl) | ((fail_if_success (simp only [hQ0.out, hQ1.out, hQ2.out, hQ3.out, hQ4.out, hQ5.out, hQ6.out, hQ7.out])); rfl))⟩⟩
            · rw [if_neg c151] at H
              have c151b0 : (t400 != t417) = false := by simpa using c151
              (try (have c151b1 : decide (t400 = t417) = true := by simpa using c151))
              (try (have c151b2 : (t400 == t417) = true := by simpa using c151))
              clear c151
              (first | rw [c151b0] | (simp only [i64_w, i32_w]; rw [c151b0]) | skip)
              by_cases c165 : t400 = true
              · subst c165
                have H1 : (bursarlaw24_ReverseParts.j1 kj4 (!(t393.toList == t410.toList) || (!(t394.toList == t411.toList) || (!(t395.toList == t412.toList) || (!(t396 == t413) || (!(t397 == t414) || (!(t398 == t415) || (!(t399 == t416)))))))) t345 t346 t347 (wrap64 ((wrap64 (a2)) + 1)) t349 t350 t351 t352 t353 t354 t355 t356 t357 t358 t375 t376 t377 t378 t379 t380 t381 t366 t367 t368 t369 t374 t375 t376 t377 t378 t379 t380 t381 true t383 t384 t385 t386 t387 t388) = some r := by rw [if_pos rfl] at H; exact H
                clear H
                have H := H1
                clear H1
                have H' := Aside0.mk H
                clear H
                go_wp2_with (first | ((with_reducible refine Ow.gate_eqs (t := 61) (by first | exact Or.inl rfl | exact Or.inr rfl) rfl ?_); simp only [hQ0.out, hQ1.out, hQ2.out, hQ3.out, hQ4.out, hQ5.out, hQ6.out, hQ7.out, Ow.part, Ot.sz, Ot.zero, Ow.over, Ow.overL, List.drop_succ_cons, List.drop_zero, List.take_succ_cons, List.take_zero]) | ((with_reducible refine Ow.gate_load rfl ?_); (try (refine gate_guard (by rfl) ?_; dsimp only)); (first | refine Ow.tload1 Ot.ty HO.out rfl rfl rfl rfl (by with_reducible first | exact Ow.at0 | exact Ow.at1 | exact Ow.at2 | exact Ow.at3 | exact Ow.at4 | exact Ow.at5 | exact Ow.at6) (by first | (simp only [hQ0.out, hQ1.out, hQ2.out, hQ3.out, hQ4.out, hQ5.out, hQ6.out, hQ7.out] <;> rfl) | ((fail_if_success (simp only [hQ0.out, hQ1.out, hQ2.out, hQ3.out, hQ4.out, hQ5.out, hQ6.out, hQ7.out])); rfl)) ?_ | refine Ow.tload0 Ot.ty HO.out rfl rfl rfl rfl (by with_reducible first | exact Ow.at0 | exact Ow.at1 | exact Ow.at2 | exact Ow.at3 | exact Ow.at4 | exact Ow.at5 | exact Ow.at6) (by first | (simp only [hQ0.out, hQ1.out, hQ2.out, hQ3.out, hQ4.out, hQ5.out, hQ6.out, hQ7.out] <;> rfl) | ((fail_if_success (simp only [hQ0.out, hQ1.out, hQ2.out, hQ3.out, hQ4.out, hQ5.out, hQ6.out, hQ7.out])); rfl)) ?_ | refine Ow.tloadp Ot.ty HO.out rfl rfl rfl rfl (by with_reducible first | exact Ow.at0 | exact Ow.at1 | exact Ow.at2 | exact Ow.at3 | exact Ow.at4 | exact Ow.at5 | exact Ow.at6) (by first | (simp only [hQ0.out, hQ1.out, hQ2.out, hQ3.out, hQ4.out, hQ5.out, hQ6.out, hQ7.out] <;> rfl) | ((fail_if_success (simp only [hQ0.out, hQ1.out, hQ2.out, hQ3.out, hQ4.out, hQ5.out, hQ6.out, hQ7.out])); rfl)) ?_)) | ((with_reducible refine gate_store rfl ?_); (try (refine gate_guard (by rfl) ?_; dsimp only)); (first | refine Ow.tput0 Ot.ty HO.out rfl rfl rfl rfl rfl (by with_reducible first | exact Ow.at0 | exact Ow.at1 | exact Ow.at2 | exact Ow.at3 | exact Ow.at4 | exact Ow.at5 | exact Ow.at6) (by first | exact Ow.ev_tmp rfl | rfl) (by first | (simp only [hQ0.out, hQ1.out, hQ2.out, hQ3.out, hQ4.out, hQ5.out, hQ6.out, hQ7.out] <;> rfl) | ((fail_if_success (simp only [hQ0.out, hQ1.out, hQ2.out, hQ3.out, hQ4.out, hQ5.out, hQ6.out, hQ7.out])); rfl)) (by first | (simp only [hQ0.out, hQ1.out, hQ2.out, hQ3.out, hQ4.out, hQ5.out, hQ6.out, hQ7.out] <;> rfl) | ((fail_if_success (simp only [hQ0.out, hQ1.out, hQ2.out, hQ3.out, hQ4.out, hQ5.out, hQ6.out, hQ7.out])); rfl)) (by first | (simp only [hQ0.out, hQ1.out, hQ2.out, hQ3.out, hQ4.out, hQ5.out, hQ6.out, hQ7.out] <;> rfl) | ((fail_if_success (simp only [hQ0.out, hQ1.out, hQ2.out, hQ3.out, hQ4.out, hQ5.out, hQ6.out, hQ7.out])); rfl)) ?_ | refine Ow.tput Ot.ty HO.out rfl rfl rfl rfl rfl (by with_reducible first | exact Ow.at0 | exact Ow.at1 | exact Ow.at2 | exact Ow.at3 | exact Ow.at4 | exact Ow.at5 | exact Ow.at6) (by first | exact Ow.ev_tmp rfl | rfl) (by first | (simp only [hQ0.out, hQ1.out, hQ2.out, hQ3.out, hQ4.out, hQ5.out, hQ6.out, hQ7.out] <;> rfl) | ((fail_if_success (simp only [hQ0.out, hQ1.out, hQ2.out, hQ3.out, hQ4.out, hQ5.out, hQ6.out, hQ7.out])); rfl)) (by first | (simp only [hQ0.out, hQ1.out, hQ2.out, hQ3.out, hQ4.out, hQ5.out, hQ6.out, hQ7.out] <;> rfl) | ((fail_if_success (simp only [hQ0.out, hQ1.out, hQ2.out, hQ3.out, hQ4.out, hQ5.out, hQ6.out, hQ7.out])); rfl)) (by first | (simp only [hQ0.out, hQ1.out, hQ2.out, hQ3.out, hQ4.out, hQ5.out, hQ6.out, hQ7.out] <;> rfl) | ((fail_if_success (simp only [hQ0.out, hQ1.out, hQ2.out, hQ3.out, hQ4.out, hQ5.out, hQ6.out, hQ7.out])); rfl)) ?_); clear HO; intro wz_ HO; simp only [List.set_cons_zero, List.set_cons_succ] at HO))
                (try simp only [← hQ0.out, ← hQ1.out, ← hQ2.out, ← hQ3.out, ← hQ4.out, ← hQ5.out, ← hQ6.out, ← hQ7.out])
                go_meet
                case rel => exact ⟨_, ((!(t393.toList == t410.toList) || (!(t394.toList == t411.toList) || (!(t395.toList == t412.toList) || (!(t396 == t413) || (!(t397 == t414) || (!(t398 == t415) || (!(t399 == t416))))))))), (by first | rfl | (simp; done) | (simp [*]; done) | (simp [Pu.bne_nil, Pu.beq_nil]; done)), H', ⟨by have := HJ4.out; first | omega | exact Nat.le_refl _⟩, ⟨Ow.Own.cong HO.out (by first | (simp only [hQ0.out, hQ1.out, hQ2.out, hQ3.out, hQ4.out, hQ5.out, hQ6.out, hQ7.out] <;> rfl) | ((fail_if_success (simp only [hQ0.out, hQ1.out, hQ2.out, hQ3.out, hQ4.out, hQ5.out, hQ6.out, hQ7.out])); rfl))⟩⟩
              · replace c165 := Bool.eq_false_iff.mpr c165
                subst c165
                have H1 : (bursarlaw24_ReverseParts.j1 kj4 false t345 t346 t347 (wrap64 ((wrap64 (a2)) + 1)) t349 t350 t351 t352 t353 t354 t355 t356 t357 t358 t375 t376 t377 t378 t379 t380 t381 t366 t367 t368 t369 t374 t375 t376 t377 t378 t379 t380 t381 true t383 t384 t385 t386 t387 t388) = some r := by rw [if_neg (show ¬ (false = true) by decide)] at H; exact H
                clear H
                have H := H1
                clear H1
                have H' := Aside0.mk H
                clear H
                go_wp2_with (first | ((with_reducible refine Ow.gate_eqs (t := 61) (by first | exact Or.inl rfl | exact Or.inr rfl) rfl ?_); simp only [hQ0.out, hQ1.out, hQ2.out, hQ3.out, hQ4.out, hQ5.out, hQ6.out, hQ7.out, Ow.part, Ot.sz, Ot.zero, Ow.over, Ow.overL, List.drop_succ_cons, List.drop_zero, List.take_succ_cons, List.take_zero]) | ((with_reducible refine Ow.gate_load rfl ?_); (try (refine gate_guard (by rfl) ?_; dsimp only)); (first | refine Ow.tload1 Ot.ty HO.out rfl rfl rfl rfl (by with_reducible first | exact Ow.at0 | exact Ow.at1 | exact Ow.at2 | exact Ow.at3 | exact Ow.at4 | exact Ow.at5 | exact Ow.at6) (by first | (simp only [hQ0.out, hQ1.out, hQ2.out, hQ3.out, hQ4.out, hQ5.out, hQ6.out, hQ7.out] <;> rfl) | ((fail_if_success (simp only [hQ0.out, hQ1.out, hQ2.out, hQ3.out, hQ4.out, hQ5.out, hQ6.out, hQ7.out])); rfl)) ?_ | refine Ow.tload0 Ot.ty HO.out rfl rfl rfl rfl (by with_reducible first | exact Ow.at0 | exact Ow.at1 | exact Ow.at2 | exact Ow.at3 | exact Ow.at4 | exact Ow.at5 | exact Ow.at6) (by first | (simp only [hQ0.out, hQ1.out, hQ2.out, hQ3.out, hQ4.out, hQ5.out, hQ6.out, hQ7.out] <;> rfl) | ((fail_if_success (simp only [hQ0.out, hQ1.out, hQ2.out, hQ3.out, hQ4.out, hQ5.out, hQ6.out, hQ7.out])); rfl)) ?_ | refine Ow.tloadp Ot.ty HO.out rfl rfl rfl rfl (by with_reducible first | exact Ow.at0 | exact Ow.at1 | exact Ow.at2 | exact Ow.at3 | exact Ow.at4 | exact Ow.at5 | exact Ow.at6) (by first | (simp only [hQ0.out, hQ1.out, hQ2.out, hQ3.out, hQ4.out, hQ5.out, hQ6.out, hQ7.out] <;> rfl) | ((fail_if_success (simp only [hQ0.out, hQ1.out, hQ2.out, hQ3.out, hQ4.out, hQ5.out, hQ6.out, hQ7.out])); rfl)) ?_)) | ((with_reducible refine gate_store rfl ?_); (try (refine gate_guard (by rfl) ?_; dsimp only)); (first | refine Ow.tput0 Ot.ty HO.out rfl rfl rfl rfl rfl (by with_reducible first | exact Ow.at0 | exact Ow.at1 | exact Ow.at2 | exact Ow.at3 | exact Ow.at4 | exact Ow.at5 | exact Ow.at6) (by first | exact Ow.ev_tmp rfl | rfl) (by first | (simp only [hQ0.out, hQ1.out, hQ2.out, hQ3.out, hQ4.out, hQ5.out, hQ6.out, hQ7.out] <;> rfl) | ((fail_if_success (simp only [hQ0.out, hQ1.out, hQ2.out, hQ3.out, hQ4.out, hQ5.out, hQ6.out, hQ7.out])); rfl)) (by first | (simp only [hQ0.out, hQ1.out, hQ2.out, hQ3.out, hQ4.out, hQ5.out, hQ6.out, hQ7.out] <;> rfl) | ((fail_if_success (simp only [hQ0.out, hQ1.out, hQ2.out, hQ3.out, hQ4.out, hQ5.out, hQ6.out, hQ7.out])); rfl)) (by first | (simp only [hQ0.out, hQ1.out, hQ2.out, hQ3.out, hQ4.out, hQ5.out, hQ6.out, hQ7.out] <;> rfl) | ((fail_if_success (simp only [hQ0.out, hQ1.out, hQ2.out, hQ3.out, hQ4.out, hQ5.out, hQ6.out, hQ7.out])); rfl)) ?_ | refine Ow.tput Ot.ty HO.out rfl rfl rfl rfl rfl (by with_reducible first | exact Ow.at0 | exact Ow.at1 | exact Ow.at2 | exact Ow.at3 | exact Ow.at4 | exact Ow.at5 | exact Ow.at6) (by first | exact Ow.ev_tmp rfl | rfl) (by first | (simp only [hQ0.out, hQ1.out, hQ2.out, hQ3.out, hQ4.out, hQ5.out, hQ6.out, hQ7.out] <;> rfl) | ((fail_if_success (simp only [hQ0.out, hQ1.out, hQ2.out, hQ3.out, hQ4.out, hQ5.out, hQ6.out, hQ7.out])); rfl)) (by first | (simp only [hQ0.out, hQ1.out, hQ2.out, hQ3.out, hQ4.out, hQ5.out, hQ6.out, hQ7.out] <;> rfl) | ((fail_if_success (simp only [hQ0.out, hQ1.out, hQ2.out, hQ3.out, hQ4.out, hQ5.out, hQ6.out, hQ7.out])); rfl)) (by first | (simp only [hQ0.out, hQ1.out, hQ2.out, hQ3.out, hQ4.out, hQ5.out, hQ6.out, hQ7.out] <;> rfl) | ((fail_if_success (simp only [hQ0.out, hQ1.out, hQ2.out, hQ3.out, hQ4.out, hQ5.out, hQ6.out, hQ7.out])); rfl)) ?_); clear HO; intro wz_ HO; simp only [List.set_cons_zero, List.set_cons_succ] at HO))
                (try simp only [← hQ0.out, ← hQ1.out, ← hQ2.out, ← hQ3.out, ← hQ4.out, ← hQ5.out, ← hQ6.out, ← hQ7.out])
                go_meet
                case rel => exact ⟨_, (false), (by first | rfl | (simp; done) | (simp [*]; done) | (simp [Pu.bne_nil, Pu.beq_nil]; done)), H', ⟨by have := HJ4.out; first | omega | exact Nat.le_refl _⟩, ⟨Ow.Own.cong HO.out (by first | (simp only [hQ0.out, hQ1.out, hQ2.out, hQ3.out, hQ4.out, hQ5.out, hQ6.out, hQ7.out] <;> rfl) | ((fail_if_success (simp only [hQ0.out, hQ1.out, hQ2.out, hQ3.out, hQ4.out, hQ5.out, hQ6.out, hQ7.out])); rfl))⟩⟩
          case rest =>
            clear HC23
            try clear c1
            try clear p2
            try clear c3
            try clear p6
            try clear c10
            try clear c11
            try clear c12
            try clear c13
            try clear c14
            try clear c15
            try clear c16
            try clear c17
            try clear c18
            try clear c19
            try clear c38
            try clear p64
            try clear c104
            try clear c105
            try clear c106
            try clear c108
            try clear c109
            try clear c113
            try clear c114
            try clear c115
            try clear c116
            try clear c129
            try clear c133
            try clear c134
            try clear c135
            try clear c136
            try clear c137
            try clear c143
            try clear c144
            try clear c145
            try clear c146
            try clear c147
            try clear c148
            try clear c151
            try clear c151b0
            try clear c151b1
            try clear c151b2
            try clear c152
            try clear c153
            try clear c154
            try clear c155
            try clear c156
            try clear c157
            try clear c159
            try clear c160
            try clear c161
            try clear c162
            try clear c163
            try clear c165
            try clear c166
            try clear c167
            try clear c168
            try clear c169
            try clear c170
            try clear c171
            try clear c173
            try clear c174
            try clear c175
            try clear c176
            try clear c177
            try clear c179
            try clear c180
            try clear c181
            try clear c182
            try clear c183
            try clear c184
            try clear c186
            try clear c187
            try clear c188
            try clear c189
            try clear c190
            try clear hcz107_0
            try clear hcz110_0
            try clear hcz117_0
            try clear hcz119_0
            try clear hcz130_0
            try clear hcz138_0
            try clear hcz140_0
            try clear hcz149_0
            try clear hcz158_0
            try clear hcz164_0
            try clear hcz172_0
            try clear hcz178_0
            try clear hcz185_0
            try clear hcz191_0
            try clear hfz107_0
            try clear hfz110_0
            try clear hfz117_0
            try clear hfz119_0
            try clear hfz130_0
            try clear hfz138_0
            try clear hfz140_0
            try clear hfz149_0
            try clear hfz158_0
            try clear hfz164_0
            try clear hfz172_0
            try clear hfz178_0
            try clear hfz185_0
            try clear hfz191_0
            clear HO
            obtain ⟨kq, x92_22, rfl, HA, HJ22, HO⟩ := hcut
            cases kq with
            | zero => exact absurd HA.out (by simp [bursarlaw24_ReverseParts.j1])
            | succ kj22 =>
              have H := HA.out
              clear HA
              simp only [bursarlaw24_ReverseParts.j1] at H
              by_cases c192 : x92_22 = true
              · subst c192
                have H1 : (none) = some r := by rw [if_pos rfl] at H; exact H
                clear H
                have H := H1
                clear H1
                exact absurd H (by simp)
              · replace c192 := Bool.eq_false_iff.mpr c192
                subst c192
                have H1 : ((reverse_Reverse.f t345 t346 t347 0 t349 t350 t351 t352 t353 t354 t355 t356 t357 t358 t375 t376 t377 t378 t379 t380 t381 t366 t367 t368 t369).bind fun bt426 => (if bt426.2.2.2.2.2.2.2.2.1 = true then ((bursarref14_Left.f bt426.2.1 bt426.2.2.1 bt426.2.2.2.1 bt426.2.2.2.2.1 bt426.2.2.2.2.2.1 bt426.2.2.2.2.2.2.1 bt426.2.2.2.2.2.2.2.1).bind fun t443 => (if t443 = 0 then ((bursarlaw24_awake.f).bind fun t444 => (some t444)) else (none))) else (if t381 = true then (none) else ((bursarlaw24_awake.f).bind fun t445 => (some t445))))) = some r := by rw [if_neg (show ¬ (false = true) by decide)] at H; exact H
                clear H
                have H := H1
                clear H1
                replace H := Option.bind_eq_some_iff.mp H
                obtain ⟨⟨t426, t427, t428, t429, t430, t431, t432, t433, t434, t435, t436, t437, t438, t439, t440, t441⟩, A1930, H⟩ := H
                replace H : (if t434 = true then ((bursarref14_Left.f t427 t428 t429 t430 t431 t432 t433).bind fun t443 => (if t443 = 0 then ((bursarlaw24_awake.f).bind fun t444 => (some t444)) else (none))) else (if t381 = true then (none) else ((bursarlaw24_awake.f).bind fun t445 => (some t445)))) = some r := H
                have A193 := Aside0.mk A1930
                clear A1930
                by_cases c194 : t434 = true
                · subst c194
                  have H1 : ((bursarref14_Left.f t427 t428 t429 t430 t431 t432 t433).bind fun t443 => (if t443 = 0 then ((bursarlaw24_awake.f).bind fun t444 => (some t444)) else (none))) = some r := by rw [if_pos rfl] at H; exact H
                  clear H
                  have H := H1
                  clear H1
                  replace H := Option.bind_eq_some_iff.mp H
                  obtain ⟨t443, A1950, H⟩ := H
                  replace H : (if t443 = 0 then ((bursarlaw24_awake.f).bind fun t444 => (some t444)) else (none)) = some r := H
                  have A195 := Aside0.mk A1950
                  clear A1950
                  by_cases c196 : t443 = 0
                  · rw [if_pos c196] at H
                    have c196b0 : (t443 == 0) = true := beq_iff_eq.mpr c196
                    have c196b1 : (t443 != 0) = false := bne_eq_false_iff_eq.mpr c196
                    clear c196
                    replace H := Option.bind_eq_some_iff.mp H
                    obtain ⟨t444, A1970, H⟩ := H
                    replace H : (some t444) = some r := H
                    have A197 := Aside0.mk A1970
                    clear A1970
                    obtain rfl := Option.some.inj H
                    obtain ⟨Q8, hQ8_⟩ : ∃ q_ : Array Value, q_ = (#[.string t426, .string t427, .string t428, .string t429, .int .i64 t430, .int .i64 t431, .int .i64 t432, .bool t433, .bool true, .int .i64 t435, .int .i64 t436, .string t437, .string t438, .string t439, .int .i64 t440] : Array Value) := ⟨_, rfl⟩
                    try rw [← hQ8_]
                    have hQ8 := Aside0.mk hQ8_; clear hQ8_
                    obtain ⟨Q9, hQ9_⟩ : ∃ q_ : Array Value, q_ = (#[.string t345, .string t346, .string t347, .int .i64 0, .string t349, .string t350, .string t351, .string t352, .string t353, .int .i64 t354, .int .i64 t355, .string t356, .bool t357, .int .i64 t358, .string t375, .string t376, .string t377, .int .i64 t378, .int .i64 t379, .int .i64 t380, .bool t381, .bool t366, .int .i64 t367, .int .i64 t368, .bool t369] : Array Value) := ⟨_, rfl⟩
                    try rw [← hQ9_]
                    have hQ9 := Aside0.mk hQ9_; clear hQ9_
                    go_wp2_with (first | ((with_reducible refine gate_callee (f := 38) rfl ?_); refine goesL_ (some 97) rfl rfl Try.func38 (by kernel_rfl) rfl #[.agg Q9] rfl (by (try simp only [List.map_toArray, List.map_cons, List.map_nil]); first | done | rfl | (simp only [hQ0.out, hQ1.out, hQ2.out, hQ3.out, hQ4.out, hQ5.out, hQ6.out, hQ7.out, hQ8.out, hQ9.out]; done) | (simp only [hQ0.out, hQ1.out, hQ2.out, hQ3.out, hQ4.out, hQ5.out, hQ6.out, hQ7.out, hQ8.out, hQ9.out]; rfl)) ?_; refine Calls.mono (calls_of_args (by first | (simp only [hQ0.out, hQ1.out, hQ2.out, hQ3.out, hQ4.out, hQ5.out, hQ6.out, hQ7.out, hQ8.out, hQ9.out] <;> rfl) | ((fail_if_success (simp only [hQ0.out, hQ1.out, hQ2.out, hQ3.out, hQ4.out, hQ5.out, hQ6.out, hQ7.out, hQ8.out, hQ9.out])); rfl)) (reverse_Reverse.calls t345 t346 t347 0 t349 t350 t351 t352 t353 t354 t355 t356 t357 t358 t375 t376 t377 t378 t379 t380 t381 t366 t367 t368 t369 t426 t427 t428 t429 t430 t431 t432 t433 true t435 t436 t437 t438 t439 t440 t441 _ A193.out)) ?_; rintro e w205 ⟨he_, hb⟩; (try rw [← hQ8.out] at he_); subst he_; refine ⟨_, rfl, ?_⟩; replace HO := Aside0.mk (Ow.Own.call HO.out hb); clear hb) | ((with_reducible refine gate_dst (N := 16) rfl ?_); refine Ow.box rfl (N := 16) rfl (cs := bursarlaw24_ReverseParts.Z15) (t := 68) HO.out (by first | (go_simp; done) | (go_simp; rfl)) ?_; clear HO; intro gb442 w206 HO; simp only [List.cons_append, List.nil_append] at HO) | (go_at_call 44; refine Calls.mono (calls_of_args (by first | (simp only [hQ0.out, hQ1.out, hQ2.out, hQ3.out, hQ4.out, hQ5.out, hQ6.out, hQ7.out, hQ8.out, hQ9.out] <;> rfl) | ((fail_if_success (simp only [hQ0.out, hQ1.out, hQ2.out, hQ3.out, hQ4.out, hQ5.out, hQ6.out, hQ7.out, hQ8.out, hQ9.out])); rfl)) (bursarref14_Left.calls t427 t428 t429 t430 t431 t432 t433 t443 _ A195.out)) ?_; rintro e w217 ⟨he_, hb⟩; subst he_; replace HO := Aside0.mk (Ow.Own.call HO.out hb); clear hb) | (go_at_call 43; refine Calls.mono (calls_of_args (by first | (simp only [hQ0.out, hQ1.out, hQ2.out, hQ3.out, hQ4.out, hQ5.out, hQ6.out, hQ7.out, hQ8.out, hQ9.out] <;> rfl) | ((fail_if_success (simp only [hQ0.out, hQ1.out, hQ2.out, hQ3.out, hQ4.out, hQ5.out, hQ6.out, hQ7.out, hQ8.out, hQ9.out])); rfl)) (bursarlaw24_awake.calls  t444 _ A197.out)) ?_; rintro e w218 ⟨he_, hb⟩; subst he_; replace HO := Aside0.mk (Ow.Own.call HO.out hb); clear hb) | ((with_reducible refine Ow.gate_eqs (t := 61) (by first | exact Or.inl rfl | exact Or.inr rfl) rfl ?_); simp only [hQ0.out, hQ1.out, hQ2.out, hQ3.out, hQ4.out, hQ5.out, hQ6.out, hQ7.out, hQ8.out, hQ9.out, Ow.part, Ot.sz, Ot.zero, Ow.over, Ow.overL, List.drop_succ_cons, List.drop_zero, List.take_succ_cons, List.take_zero]) | ((with_reducible refine Ow.gate_load rfl ?_); (try (refine gate_guard (by rfl) ?_; dsimp only)); (first | refine Ow.tload1 Ot.ty HO.out rfl rfl rfl rfl (by with_reducible first | exact Ow.at0 | exact Ow.at1 | exact Ow.at2 | exact Ow.at3 | exact Ow.at4 | exact Ow.at5 | exact Ow.at6 | exact Ow.at7) (by first | (simp only [hQ0.out, hQ1.out, hQ2.out, hQ3.out, hQ4.out, hQ5.out, hQ6.out, hQ7.out, hQ8.out, hQ9.out] <;> rfl) | ((fail_if_success (simp only [hQ0.out, hQ1.out, hQ2.out, hQ3.out, hQ4.out, hQ5.out, hQ6.out, hQ7.out, hQ8.out, hQ9.out])); rfl)) ?_ | refine Ow.tload0 Ot.ty HO.out rfl rfl rfl rfl (by with_reducible first | exact Ow.at0 | exact Ow.at1 | exact Ow.at2 | exact Ow.at3 | exact Ow.at4 | exact Ow.at5 | exact Ow.at6 | exact Ow.at7) (by first | (simp only [hQ0.out, hQ1.out, hQ2.out, hQ3.out, hQ4.out, hQ5.out, hQ6.out, hQ7.out, hQ8.out, hQ9.out] <;> rfl) | ((fail_if_success (simp only [hQ0.out, hQ1.out, hQ2.out, hQ3.out, hQ4.out, hQ5.out, hQ6.out, hQ7.out, hQ8.out, hQ9.out])); rfl)) ?_ | refine Ow.tloadp Ot.ty HO.out rfl rfl rfl rfl (by with_reducible first | exact Ow.at0 | exact Ow.at1 | exact Ow.at2 | exact Ow.at3 | exact Ow.at4 | exact Ow.at5 | exact Ow.at6 | exact Ow.at7) (by first | (simp only [hQ0.out, hQ1.out, hQ2.out, hQ3.out, hQ4.out, hQ5.out, hQ6.out, hQ7.out, hQ8.out, hQ9.out] <;> rfl) | ((fail_if_success (simp only [hQ0.out, hQ1.out, hQ2.out, hQ3.out, hQ4.out, hQ5.out, hQ6.out, hQ7.out, hQ8.out, hQ9.out])); rfl)) ?_)) | ((with_reducible refine gate_store rfl ?_); (try (refine gate_guard (by rfl) ?_; dsimp only)); (first | refine Ow.tput0 Ot.ty HO.out rfl rfl rfl rfl rfl (by with_reducible first | exact Ow.at0 | exact Ow.at1 | exact Ow.at2 | exact Ow.at3 | exact Ow.at4 | exact Ow.at5 | exact Ow.at6 | exact Ow.at7) (by first | exact Ow.ev_tmp rfl | rfl) (by first | (simp only [hQ0.out, hQ1.out, hQ2.out, hQ3.out, hQ4.out, hQ5.out, hQ6.out, hQ7.out, hQ8.out, hQ9.out] <;> rfl) | ((fail_if_success (simp only [hQ0.out, hQ1.out, hQ2.out, hQ3.out, hQ4.out, hQ5.out, hQ6.out, hQ7.out, hQ8.out, hQ9.out])); rfl)) (by first | (simp only [hQ0.out, hQ1.out, hQ2.out, hQ3.out, hQ4.out, hQ5.out, hQ6.out, hQ7.out, hQ8.out, hQ9.out] <;> rfl) | ((fail_if_success (simp only [hQ0.out, hQ1.out, hQ2.out, hQ3.out, hQ4.out, hQ5.out, hQ6.out, hQ7.out, hQ8.out, hQ9.out])); rfl)) (by first | (simp only [hQ0.out, hQ1.out, hQ2.out, hQ3.out, hQ4.out, hQ5.out, hQ6.out, hQ7.out, hQ8.out, hQ9.out] <;> rfl) | ((fail_if_success (simp only [hQ0.out, hQ1.out, hQ2.out, hQ3.out, hQ4.out, hQ5.out, hQ6.out, hQ7.out, hQ8.out, hQ9.out])); rfl)) ?_ | refine Ow.tput Ot.ty HO.out rfl rfl rfl rfl rfl (by with_reducible first | exact Ow.at0 | exact Ow.at1 | exact Ow.at2 | exact Ow.at3 | exact Ow.at4 | exact Ow.at5 | exact Ow.at6 | exact Ow.at7) (by first | exact Ow.ev_tmp rfl | rfl) (by first | (simp only [hQ0.out, hQ1.out, hQ2.out, hQ3.out, hQ4.out, hQ5.out, hQ6.out, hQ7.out, hQ8.out, hQ9.out] <;> rfl) | ((fail_if_success (simp only [hQ0.out, hQ1.out, hQ2.out, hQ3.out, hQ4.out, hQ5.out, hQ6.out, hQ7.out, hQ8.out, hQ9.out])); rfl)) (by first | (simp only [hQ0.out, hQ1.out, hQ2.out, hQ3.out, hQ4.out, hQ5.out, hQ6.out, hQ7.out, hQ8.out, hQ9.out] <;> rfl) | ((fail_if_success (simp only [hQ0.out, hQ1.out, hQ2.out, hQ3.out, hQ4.out, hQ5.out, hQ6.out, hQ7.out, hQ8.out, hQ9.out])); rfl)) (by first | (simp only [hQ0.out, hQ1.out, hQ2.out, hQ3.out, hQ4.out, hQ5.out, hQ6.out, hQ7.out, hQ8.out, hQ9.out] <;> rfl) | ((fail_if_success (simp only [hQ0.out, hQ1.out, hQ2.out, hQ3.out, hQ4.out, hQ5.out, hQ6.out, hQ7.out, hQ8.out, hQ9.out])); rfl)) ?_); clear HO; intro wz_ HO; simp only [List.set_cons_zero, List.set_cons_succ] at HO))
                    all_goals go_ret
                    all_goals exact ⟨by first | rfl | (simp only [hQ0.out, hQ1.out, hQ2.out, hQ3.out, hQ4.out, hQ5.out, hQ6.out, hQ7.out, hQ8.out, hQ9.out]; done) | (simp only [hQ0.out, hQ1.out, hQ2.out, hQ3.out, hQ4.out, hQ5.out, hQ6.out, hQ7.out, hQ8.out, hQ9.out]; rfl) | (simp [errW_none, errW_some] <;> rfl) | (simp [*, errW_none, errW_some] <;> rfl), Ow.Own.below HO.out⟩
                  · rw [if_neg c196] at H
                    exact absurd H (by simp)
                · replace c194 := Bool.eq_false_iff.mpr c194
                  subst c194
                  have H1 : (if t381 = true then (none) else ((bursarlaw24_awake.f).bind fun t445 => (some t445))) = some r := by rw [if_neg (show ¬ (false = true) by decide)] at H; exact H
                  clear H
                  have H := H1
                  clear H1
                  by_cases c219 : t381 = true
                  · subst c219
                    have H1 : (none) = some r := by rw [if_pos rfl] at H; exact H
                    clear H
                    have H := H1
                    clear H1
                    exact absurd H (by simp)
                  · replace c219 := Bool.eq_false_iff.mpr c219
                    subst c219
                    have H1 : ((bursarlaw24_awake.f).bind fun t445 => (some t445)) = some r := by rw [if_neg (show ¬ (false = true) by decide)] at H; exact H
                    clear H
                    have H := H1
                    clear H1
                    replace H := Option.bind_eq_some_iff.mp H
                    obtain ⟨t445, A2200, H⟩ := H
                    replace H : (some t445) = some r := H
                    have A220 := Aside0.mk A2200
                    clear A2200
                    obtain rfl := Option.some.inj H
                    obtain ⟨Q10, hQ10_⟩ : ∃ q_ : Array Value, q_ = (#[.string t426, .string t427, .string t428, .string t429, .int .i64 t430, .int .i64 t431, .int .i64 t432, .bool t433, .bool false, .int .i64 t435, .int .i64 t436, .string t437, .string t438, .string t439, .int .i64 t440] : Array Value) := ⟨_, rfl⟩
                    try rw [← hQ10_]
                    have hQ10 := Aside0.mk hQ10_; clear hQ10_
                    obtain ⟨Q11, hQ11_⟩ : ∃ q_ : Array Value, q_ = (#[.string t345, .string t346, .string t347, .int .i64 0, .string t349, .string t350, .string t351, .string t352, .string t353, .int .i64 t354, .int .i64 t355, .string t356, .bool t357, .int .i64 t358, .string t375, .string t376, .string t377, .int .i64 t378, .int .i64 t379, .int .i64 t380, .bool false, .bool t366, .int .i64 t367, .int .i64 t368, .bool t369] : Array Value) := ⟨_, rfl⟩
                    try rw [← hQ11_]
                    have hQ11 := Aside0.mk hQ11_; clear hQ11_
                    go_wp2_with (first | ((with_reducible refine gate_callee (f := 38) rfl ?_); refine goesL_ (some 97) rfl rfl Try.func38 (by kernel_rfl) rfl #[.agg Q11] rfl (by (try simp only [List.map_toArray, List.map_cons, List.map_nil]); first | done | rfl | (simp only [hQ0.out, hQ1.out, hQ2.out, hQ3.out, hQ4.out, hQ5.out, hQ6.out, hQ7.out, hQ10.out, hQ11.out]; done) | (simp only [hQ0.out, hQ1.out, hQ2.out, hQ3.out, hQ4.out, hQ5.out, hQ6.out, hQ7.out, hQ10.out, hQ11.out]; rfl)) ?_; refine Calls.mono (calls_of_args (by first | (simp only [hQ0.out, hQ1.out, hQ2.out, hQ3.out, hQ4.out, hQ5.out, hQ6.out, hQ7.out, hQ10.out, hQ11.out] <;> rfl) | ((fail_if_success (simp only [hQ0.out, hQ1.out, hQ2.out, hQ3.out, hQ4.out, hQ5.out, hQ6.out, hQ7.out, hQ10.out, hQ11.out])); rfl)) (reverse_Reverse.calls t345 t346 t347 0 t349 t350 t351 t352 t353 t354 t355 t356 t357 t358 t375 t376 t377 t378 t379 t380 false t366 t367 t368 t369 t426 t427 t428 t429 t430 t431 t432 t433 false t435 t436 t437 t438 t439 t440 t441 _ A193.out)) ?_; rintro e w228 ⟨he_, hb⟩; (try rw [← hQ10.out] at he_); subst he_; refine ⟨_, rfl, ?_⟩; replace HO := Aside0.mk (Ow.Own.call HO.out hb); clear hb) | ((with_reducible refine gate_dst (N := 16) rfl ?_); refine Ow.box rfl (N := 16) rfl (cs := bursarlaw24_ReverseParts.Z15) (t := 68) HO.out (by first | (go_simp; done) | (go_simp; rfl)) ?_; clear HO; intro gb442 w229 HO; simp only [List.cons_append, List.nil_append] at HO) | (go_at_call 43; refine Calls.mono (calls_of_args (by first | (simp only [hQ0.out, hQ1.out, hQ2.out, hQ3.out, hQ4.out, hQ5.out, hQ6.out, hQ7.out, hQ10.out, hQ11.out] <;> rfl) | ((fail_if_success (simp only [hQ0.out, hQ1.out, hQ2.out, hQ3.out, hQ4.out, hQ5.out, hQ6.out, hQ7.out, hQ10.out, hQ11.out])); rfl)) (bursarlaw24_awake.calls  t445 _ A220.out)) ?_; rintro e w246 ⟨he_, hb⟩; subst he_; replace HO := Aside0.mk (Ow.Own.call HO.out hb); clear hb) | ((with_reducible refine Ow.gate_eqs (t := 61) (by first | exact Or.inl rfl | exact Or.inr rfl) rfl ?_); simp only [hQ0.out, hQ1.out, hQ2.out, hQ3.out, hQ4.out, hQ5.out, hQ6.out, hQ7.out, hQ10.out, hQ11.out, Ow.part, Ot.sz, Ot.zero, Ow.over, Ow.overL, List.drop_succ_cons, List.drop_zero, List.take_succ_cons, List.take_zero]) | ((with_reducible refine Ow.gate_load rfl ?_); (try (refine gate_guard (by rfl) ?_; dsimp only)); (first | refine Ow.tload1 Ot.ty HO.out rfl rfl rfl rfl (by with_reducible first | exact Ow.at0 | exact Ow.at1 | exact Ow.at2 | exact Ow.at3 | exact Ow.at4 | exact Ow.at5 | exact Ow.at6 | exact Ow.at7) (by first | (simp only [hQ0.out, hQ1.out, hQ2.out, hQ3.out, hQ4.out, hQ5.out, hQ6.out, hQ7.out, hQ10.out, hQ11.out] <;> rfl) | ((fail_if_success (simp only [hQ0.out, hQ1.out, hQ2.out, hQ3.out, hQ4.out, hQ5.out, hQ6.out, hQ7.out, hQ10.out, hQ11.out])); rfl)) ?_ | refine Ow.tload0 Ot.ty HO.out rfl rfl rfl rfl (by with_reducible first | exact Ow.at0 | exact Ow.at1 | exact Ow.at2 | exact Ow.at3 | exact Ow.at4 | exact Ow.at5 | exact Ow.at6 | exact Ow.at7) (by first | (simp only [hQ0.out, hQ1.out, hQ2.out, hQ3.out, hQ4.out, hQ5.out, hQ6.out, hQ7.out, hQ10.out, hQ11.out] <;> rfl) | ((fail_if_success (simp only [hQ0.out, hQ1.out, hQ2.out, hQ3.out, hQ4.out, hQ5.out, hQ6.out, hQ7.out, hQ10.out, hQ11.out])); rfl)) ?_ | refine Ow.tloadp Ot.ty HO.out rfl rfl rfl rfl (by with_reducible first | exact Ow.at0 | exact Ow.at1 | exact Ow.at2 | exact Ow.at3 | exact Ow.at4 | exact Ow.at5 | exact Ow.at6 | exact Ow.at7) (by first | (simp only [hQ0.out, hQ1.out, hQ2.out, hQ3.out, hQ4.out, hQ5.out, hQ6.out, hQ7.out, hQ10.out, hQ11.out] <;> rfl) | ((fail_if_success (simp only [hQ0.out, hQ1.out, hQ2.out, hQ3.out, hQ4.out, hQ5.out, hQ6.out, hQ7.out, hQ10.out, hQ11.out])); rfl)) ?_)) | ((with_reducible refine gate_store rfl ?_); (try (refine gate_guard (by rfl) ?_; dsimp only)); (first | refine Ow.tput0 Ot.ty HO.out rfl rfl rfl rfl rfl (by with_reducible first | exact Ow.at0 | exact Ow.at1 | exact Ow.at2 | exact Ow.at3 | exact Ow.at4 | exact Ow.at5 | exact Ow.at6 | exact Ow.at7) (by first | exact Ow.ev_tmp rfl | rfl) (by first | (simp only [hQ0.out, hQ1.out, hQ2.out, hQ3.out, hQ4.out, hQ5.out, hQ6.out, hQ7.out, hQ10.out, hQ11.out] <;> rfl) | ((fail_if_success (simp only [hQ0.out, hQ1.out, hQ2.out, hQ3.out, hQ4.out, hQ5.out, hQ6.out, hQ7.out, hQ10.out, hQ11.out])); rfl)) (by first | (simp only [hQ0.out, hQ1.out, hQ2.out, hQ3.out, hQ4.out, hQ5.out, hQ6.out, hQ7.out, hQ10.out, hQ11.out] <;> rfl) | ((fail_if_success (simp only [hQ0.out, hQ1.out, hQ2.out, hQ3.out, hQ4.out, hQ5.out, hQ6.out, hQ7.out, hQ10.out, hQ11.out])); rfl)) (by first | (simp only [hQ0.out, hQ1.out, hQ2.out, hQ3.out, hQ4.out, hQ5.out, hQ6.out, hQ7.out, hQ10.out, hQ11.out] <;> rfl) | ((fail_if_success (simp only [hQ0.out, hQ1.out, hQ2.out, hQ3.out, hQ4.out, hQ5.out, hQ6.out, hQ7.out, hQ10.out, hQ11.out])); rfl)) ?_ | refine Ow.tput Ot.ty HO.out rfl rfl rfl rfl rfl (by with_reducible first | exact Ow.at0 | exact Ow.at1 | exact Ow.at2 | exact Ow.at3 | exact Ow.at4 | exact Ow.at5 | exact Ow.at6 | exact Ow.at7) (by first | exact Ow.ev_tmp rfl | rfl) (by first | (simp only [hQ0.out, hQ1.out, hQ2.out, hQ3.out, hQ4.out, hQ5.out, hQ6.out, hQ7.out, hQ10.out, hQ11.out] <;> rfl) | ((fail_if_success (simp only [hQ0.out, hQ1.out, hQ2.out, hQ3.out, hQ4.out, hQ5.out, hQ6.out, hQ7.out, hQ10.out, hQ11.out])); rfl)) (by first | (simp only [hQ0.out, hQ1.out, hQ2.out, hQ3.out, hQ4.out, hQ5.out, hQ6.out, hQ7.out, hQ10.out, hQ11.out] <;> rfl) | ((fail_if_success (simp only [hQ0.out, hQ1.out, hQ2.out, hQ3.out, hQ4.out, hQ5.out, hQ6.out, hQ7.out, hQ10.out, hQ11.out])); rfl)) (by first | (simp only [hQ0.out, hQ1.out, hQ2.out, hQ3.out, hQ4.out, hQ5.out, hQ6.out, hQ7.out, hQ10.out, hQ11.out] <;> rfl) | ((fail_if_success (simp only [hQ0.out, hQ1.out, hQ2.out, hQ3.out, hQ4.out, hQ5.out, hQ6.out, hQ7.out, hQ10.out, hQ11.out])); rfl)) ?_); clear HO; intro wz_ HO; simp only [List.set_cons_zero, List.set_cons_succ] at HO))
                    all_goals go_ret
                    all_goals exact ⟨by first | rfl | (simp only [hQ0.out, hQ1.out, hQ2.out, hQ3.out, hQ4.out, hQ5.out, hQ6.out, hQ7.out, hQ10.out, hQ11.out]; done) | (simp only [hQ0.out, hQ1.out, hQ2.out, hQ3.out, hQ4.out, hQ5.out, hQ6.out, hQ7.out, hQ10.out, hQ11.out]; rfl) | (simp [errW_none, errW_some] <;> rfl) | (simp [*, errW_none, errW_some] <;> rfl), Ow.Own.below HO.out⟩
        · replace c20 := Bool.eq_false_iff.mpr c20
          subst c20
          have H1 : ((bursarlaw24_awake.f).bind fun t391 => (some t391)) = some r := by rw [if_neg (show ¬ (false = true) by decide)] at H; exact H
          clear H
          have H := H1
          clear H1
          replace H := Option.bind_eq_some_iff.mp H
          obtain ⟨t391, A2470, H⟩ := H
          replace H : (some t391) = some r := H
          have A247 := Aside0.mk A2470
          clear A2470
          obtain rfl := Option.some.inj H
          try go_wp2_with (first | ((with_reducible refine Ow.gate_eqs (t := 61) (by first | exact Or.inl rfl | exact Or.inr rfl) rfl ?_); simp only [hQ0.out, hQ1.out, Ow.part, Ot.sz, Ot.zero, Ow.over, Ow.overL, List.drop_succ_cons, List.drop_zero, List.take_succ_cons, List.take_zero]) | ((with_reducible refine Ow.gate_load rfl ?_); (try (refine gate_guard (by rfl) ?_; dsimp only)); (first | refine Ow.tload1 Ot.ty HO.out rfl rfl rfl rfl (by with_reducible first | exact Ow.at0) (by first | (simp only [hQ0.out, hQ1.out] <;> rfl) | ((fail_if_success (simp only [hQ0.out, hQ1.out])); rfl)) ?_ | refine Ow.tload0 Ot.ty HO.out rfl rfl rfl rfl (by with_reducible first | exact Ow.at0) (by first | (simp only [hQ0.out, hQ1.out] <;> rfl) | ((fail_if_success (simp only [hQ0.out, hQ1.out])); rfl)) ?_ | refine Ow.tloadp Ot.ty HO.out rfl rfl rfl rfl (by with_reducible first | exact Ow.at0) (by first | (simp only [hQ0.out, hQ1.out] <;> rfl) | ((fail_if_success (simp only [hQ0.out, hQ1.out])); rfl)) ?_)) | ((with_reducible refine gate_store rfl ?_); (try (refine gate_guard (by rfl) ?_; dsimp only)); (first | refine Ow.tput0 Ot.ty HO.out rfl rfl rfl rfl rfl (by with_reducible first | exact Ow.at0) (by first | exact Ow.ev_tmp rfl | rfl) (by first | (simp only [hQ0.out, hQ1.out] <;> rfl) | ((fail_if_success (simp only [hQ0.out, hQ1.out])); rfl)) (by first | (simp only [hQ0.out, hQ1.out] <;> rfl) | ((fail_if_success (simp only [hQ0.out, hQ1.out])); rfl)) (by first | (simp only [hQ0.out, hQ1.out] <;> rfl) | ((fail_if_success (simp only [hQ0.out, hQ1.out])); rfl)) ?_ | refine Ow.tput Ot.ty HO.out rfl rfl rfl rfl rfl (by with_reducible first | exact Ow.at0) (by first | exact Ow.ev_tmp rfl | rfl) (by first | (simp only [hQ0.out, hQ1.out] <;> rfl) | ((fail_if_success (simp only [hQ0.out, hQ1.out])); rfl)) (by first | (simp only [hQ0.out, hQ1.out] <;> rfl) | ((fail_if_success (simp only [hQ0.out, hQ1.out])); rfl)) (by first | (simp only [hQ0.out, hQ1.out] <;> rfl) | ((fail_if_success (simp only [hQ0.out, hQ1.out])); rfl)) ?_); clear HO; intro wz_ HO; simp only [List.set_cons_zero, List.set_cons_succ] at HO))
          refine Ow.ostart (n := 9) (ds := []) #[false, false, false, false, false, false, false, false, false] HO.out (by kernel_rfl) rfl rfl ?_
          intro hHeld; replace HO := Aside0.mk hHeld; refine with_tabW bursarlaw24_ReverseParts.tab4 bursarlaw24_ReverseParts.bits4 (fun HT_ HW_ => ?_)
          refine take_ (i := 0) (N := some 34) (v := ?_) (a' := ?_) #[true, false, false, false, false, false, false, false, false] rfl rfl (take_ofW HT_.out HW_.out (by kernel_rfl)) (fun _ _ _ h => h) (Or.inl ⟨by rfl, ?_⟩) hHeld ?_ ?_
          rotate_left
          · intro w' s_
            first | (refine' Ow.rload1 Ot.ty s_ rfl rfl rfl ?hk_ ?hs_; (case hk_ => exact (by with_reducible first | exact Ow.at0)); (case hs_ => first | (simp only [hQ0.out, hQ1.out] <;> rfl) | ((fail_if_success (simp only [hQ0.out, hQ1.out])); rfl))) | (refine' Ow.rload0 Ot.ty s_ rfl rfl rfl ?hk_ ?hs_; (case hk_ => exact (by with_reducible first | exact Ow.at0)); (case hs_ => first | (simp only [hQ0.out, hQ1.out] <;> rfl) | ((fail_if_success (simp only [hQ0.out, hQ1.out])); rfl))) | (refine' Ow.rloadp Ot.ty s_ rfl rfl rfl ?hk_ ?hs_; (case hk_ => exact (by with_reducible first | exact Ow.at0)); (case hs_ => first | (simp only [hQ0.out, hQ1.out] <;> rfl) | ((fail_if_success (simp only [hQ0.out, hQ1.out])); rfl))) | (go_simp; with_reducible rfl)
          rotate_left
          · simp only [Act.put, List.setIfInBounds_toArray, List.set_cons_zero, List.set_cons_succ, i64_w, i32_w]
            rfl
          refine take_ (i := 1) (N := some 35) (v := ?_) (a' := ?_) #[true, true, false, false, false, false, false, false, false] rfl rfl (take_ofW HT_.out HW_.out (by kernel_rfl)) (fun _ _ _ h => h) (Or.inl ⟨by rfl, ?_⟩) hHeld ?_ ?_
          rotate_left
          · intro w' s_
            first | (refine' Ow.rload1 Ot.ty s_ rfl rfl rfl ?hk_ ?hs_; (case hk_ => exact (by with_reducible first | exact Ow.at0)); (case hs_ => first | (simp only [hQ0.out, hQ1.out] <;> rfl) | ((fail_if_success (simp only [hQ0.out, hQ1.out])); rfl))) | (refine' Ow.rload0 Ot.ty s_ rfl rfl rfl ?hk_ ?hs_; (case hk_ => exact (by with_reducible first | exact Ow.at0)); (case hs_ => first | (simp only [hQ0.out, hQ1.out] <;> rfl) | ((fail_if_success (simp only [hQ0.out, hQ1.out])); rfl))) | (refine' Ow.rloadp Ot.ty s_ rfl rfl rfl ?hk_ ?hs_; (case hk_ => exact (by with_reducible first | exact Ow.at0)); (case hs_ => first | (simp only [hQ0.out, hQ1.out] <;> rfl) | ((fail_if_success (simp only [hQ0.out, hQ1.out])); rfl))) | (go_simp; with_reducible rfl)
          rotate_left
          · simp only [Act.put, List.setIfInBounds_toArray, List.set_cons_zero, List.set_cons_succ, i64_w, i32_w]
            rfl
          refine take_ (i := 2) (N := some 36) (v := ?_) (a' := ?_) #[true, true, true, false, false, false, false, false, false] rfl rfl (take_ofW HT_.out HW_.out (by kernel_rfl)) (fun _ _ _ h => h) (Or.inl ⟨by rfl, ?_⟩) hHeld ?_ ?_
          rotate_left
          · intro w' s_
            first | (refine' Ow.rload1 Ot.ty s_ rfl rfl rfl ?hk_ ?hs_; (case hk_ => exact (by with_reducible first | exact Ow.at0)); (case hs_ => first | (simp only [hQ0.out, hQ1.out] <;> rfl) | ((fail_if_success (simp only [hQ0.out, hQ1.out])); rfl))) | (refine' Ow.rload0 Ot.ty s_ rfl rfl rfl ?hk_ ?hs_; (case hk_ => exact (by with_reducible first | exact Ow.at0)); (case hs_ => first | (simp only [hQ0.out, hQ1.out] <;> rfl) | ((fail_if_success (simp only [hQ0.out, hQ1.out])); rfl))) | (refine' Ow.rloadp Ot.ty s_ rfl rfl rfl ?hk_ ?hs_; (case hk_ => exact (by with_reducible first | exact Ow.at0)); (case hs_ => first | (simp only [hQ0.out, hQ1.out] <;> rfl) | ((fail_if_success (simp only [hQ0.out, hQ1.out])); rfl))) | (go_simp; with_reducible rfl)
          rotate_left
          · simp only [Act.put, List.setIfInBounds_toArray, List.set_cons_zero, List.set_cons_succ, i64_w, i32_w]
            rfl
          refine join_ (σ := Nat × Nat × Nat) 3 #[true, true, true, true, true, true, false, false, false] (fun s_ => [(7, .pointer (some ⟨s_.1, 0, none⟩)), (8, .pointer (some ⟨s_.2.1, 0, none⟩)), (9, .pointer (some ⟨s_.2.2, 0, none⟩))]) (fun s_ w' => Ow.Own w w' [(gb344, Q1, 63), (s_.1, bursarlaw24_ReverseParts.Z25, 63), (s_.2.1, bursarlaw24_ReverseParts.Z25, 63), (s_.2.2, bursarlaw24_ReverseParts.Z25, 63)]) ?_ ?_
          rotate_left
          · intro hJ3_4_5
            refine join_ (σ := Nat × Nat) 4 #[true, true, true, true, true, false, false, false, false] (fun s_ => [(7, .pointer (some ⟨s_.1, 0, none⟩)), (8, .pointer (some ⟨s_.2, 0, none⟩))]) (fun s_ w' => Ow.Own w w' [(gb344, Q1, 63), (s_.1, bursarlaw24_ReverseParts.Z25, 63), (s_.2, bursarlaw24_ReverseParts.Z25, 63)]) ?_ ?_
            rotate_left
            · intro hJ3_4
              refine join_ (σ := Nat × Nat) 4 #[true, true, true, true, false, true, false, false, false] (fun s_ => [(7, .pointer (some ⟨s_.1, 0, none⟩)), (9, .pointer (some ⟨s_.2, 0, none⟩))]) (fun s_ w' => Ow.Own w w' [(gb344, Q1, 63), (s_.1, bursarlaw24_ReverseParts.Z25, 63), (s_.2, bursarlaw24_ReverseParts.Z25, 63)]) ?_ ?_
              rotate_left
              · intro hJ3_5
                refine join_ (σ := Nat × Nat) 4 #[true, true, true, false, true, true, false, false, false] (fun s_ => [(8, .pointer (some ⟨s_.1, 0, none⟩)), (9, .pointer (some ⟨s_.2, 0, none⟩))]) (fun s_ w' => Ow.Own w w' [(gb344, Q1, 63), (s_.1, bursarlaw24_ReverseParts.Z25, 63), (s_.2, bursarlaw24_ReverseParts.Z25, 63)]) ?_ ?_
                rotate_left
                · intro hJ4_5
                  refine join_ (σ := Nat) 5 #[true, true, true, true, false, false, false, false, false] (fun s_ => [(7, .pointer (some ⟨s_, 0, none⟩))]) (fun s_ w' => Ow.Own w w' [(gb344, Q1, 63), (s_, bursarlaw24_ReverseParts.Z25, 63)]) ?_ ?_
                  rotate_left
                  · intro hJ3
                    refine join_ (σ := Nat) 5 #[true, true, true, false, true, false, false, false, false] (fun s_ => [(8, .pointer (some ⟨s_, 0, none⟩))]) (fun s_ w' => Ow.Own w w' [(gb344, Q1, 63), (s_, bursarlaw24_ReverseParts.Z25, 63)]) ?_ ?_
                    rotate_left
                    · intro hJ4
                      refine join_ (σ := Nat) 5 #[true, true, true, false, false, true, false, false, false] (fun s_ => [(9, .pointer (some ⟨s_, 0, none⟩))]) (fun s_ w' => Ow.Own w w' [(gb344, Q1, 63), (s_, bursarlaw24_ReverseParts.Z25, 63)]) ?_ ?_
                      rotate_left
                      · intro hJ5
                        refine three_ (i := 3) (j := 4) (k := 5) (Ni := some 7) (Nj := some 8) (Nk := some 9) #[true, true, true, true, false, false, false, false, false] #[true, true, true, false, true, false, false, false, false] #[true, true, true, false, false, true, false, false, false] rfl rfl rfl rfl rfl rfl (three_of HT_.out (by kernel_rfl)) (by decide) (by decide) (by decide) (fun K hK => ?_) (fun K hK => ?_) (fun K hK => ?_)
                        · skip
                          refine box_step ?hg (N := 7) ?hd (cs := bursarlaw24_ReverseParts.Z25) (t := 63) ?hr ?_; (case hd => rfl); (case hg => rfl); (case hr => first | (go_simp; done) | (go_simp; rfl))
                          intro gb371 hg w249 hbox hb
                          replace HO := Aside0.mk (Ow.Own.add HO.out hg hbox hb)
                          clear hb hbox hg
                          simp only [List.cons_append, List.nil_append] at HO
                          refine hK.out _ _ (by have h_ := Ow.Own.pick [0] HO.out (by decide); exact h_) (fun hHeld => ?_)
                          clear hK K
                          refine norm_ (a' := ?_) ?_ ?_
                          rotate_left
                          · show Act.put _ (some 7) _ = _
                            simp only [Act.put, List.setIfInBounds_toArray, List.set_cons_zero, List.set_cons_succ, i64_w, i32_w]
                            rfl
                          exact norm_ (by first | (simp only [putAll, Act.put, List.setIfInBounds_toArray, List.set_cons_zero, List.set_cons_succ]; done) | (simp only [putAll, Act.put, List.setIfInBounds_toArray, List.set_cons_zero, List.set_cons_succ]; rfl)) (hJ3 (gb371) _ (Ow.Own.cong (Ow.Own.pick [0, 1] HO.out (by decide)) (by first | (simp only [hQ0.out, hQ1.out] <;> rfl) | ((fail_if_success (simp only [hQ0.out, hQ1.out])); rfl))))
                        · skip
                          refine box_step ?hg (N := 8) ?hd (cs := bursarlaw24_ReverseParts.Z25) (t := 63) ?hr ?_; (case hd => rfl); (case hg => rfl); (case hr => first | (go_simp; done) | (go_simp; rfl))
                          intro gb372 hg w249 hbox hb
                          replace HO := Aside0.mk (Ow.Own.add HO.out hg hbox hb)
                          clear hb hbox hg
                          simp only [List.cons_append, List.nil_append] at HO
                          refine hK.out _ _ (by have h_ := Ow.Own.pick [0] HO.out (by decide); exact h_) (fun hHeld => ?_)
                          clear hK K
                          refine norm_ (a' := ?_) ?_ ?_
                          rotate_left
                          · show Act.put _ (some 8) _ = _
                            simp only [Act.put, List.setIfInBounds_toArray, List.set_cons_zero, List.set_cons_succ, i64_w, i32_w]
                            rfl
                          exact norm_ (by first | (simp only [putAll, Act.put, List.setIfInBounds_toArray, List.set_cons_zero, List.set_cons_succ]; done) | (simp only [putAll, Act.put, List.setIfInBounds_toArray, List.set_cons_zero, List.set_cons_succ]; rfl)) (hJ4 (gb372) _ (Ow.Own.cong (Ow.Own.pick [0, 1] HO.out (by decide)) (by first | (simp only [hQ0.out, hQ1.out] <;> rfl) | ((fail_if_success (simp only [hQ0.out, hQ1.out])); rfl))))
                        · skip
                          refine box_step ?hg (N := 9) ?hd (cs := bursarlaw24_ReverseParts.Z25) (t := 63) ?hr ?_; (case hd => rfl); (case hg => rfl); (case hr => first | (go_simp; done) | (go_simp; rfl))
                          intro gb373 hg w249 hbox hb
                          replace HO := Aside0.mk (Ow.Own.add HO.out hg hbox hb)
                          clear hb hbox hg
                          simp only [List.cons_append, List.nil_append] at HO
                          refine hK.out _ _ (by have h_ := Ow.Own.pick [0] HO.out (by decide); exact h_) (fun hHeld => ?_)
                          clear hK K
                          refine norm_ (a' := ?_) ?_ ?_
                          rotate_left
                          · show Act.put _ (some 9) _ = _
                            simp only [Act.put, List.setIfInBounds_toArray, List.set_cons_zero, List.set_cons_succ, i64_w, i32_w]
                            rfl
                          exact norm_ (by first | (simp only [putAll, Act.put, List.setIfInBounds_toArray, List.set_cons_zero, List.set_cons_succ]; done) | (simp only [putAll, Act.put, List.setIfInBounds_toArray, List.set_cons_zero, List.set_cons_succ]; rfl)) (hJ5 (gb373) _ (Ow.Own.cong (Ow.Own.pick [0, 1] HO.out (by decide)) (by first | (simp only [hQ0.out, hQ1.out] <;> rfl) | ((fail_if_success (simp only [hQ0.out, hQ1.out])); rfl))))
                      · skip
                        rintro gb373 w250 HO7_
                        clear HO
                        have HO := Aside0.mk HO7_
                        clear HO7_
                        have hHeld := Ow.Own.pick [0] HO.out (by decide)
                        refine norm_ (a' := ?_) ?_ ?_
                        rotate_left
                        · simp only [putAll, Act.put, List.setIfInBounds_toArray, List.set_cons_zero, List.set_cons_succ]
                          rfl
                        refine two_ (i := 3) (j := 4) (Ni := some 7) (Nj := some 8) #[true, true, true, true, false, true, false, false, false] #[true, true, true, false, true, true, false, false, false] rfl rfl rfl rfl (two_of HT_.out (by kernel_rfl)) (by decide) (by decide) (fun K hK => ?_) (fun K hK => ?_)
                        · skip
                          refine box_step ?hg (N := 7) ?hd (cs := bursarlaw24_ReverseParts.Z25) (t := 63) ?hr ?_; (case hd => rfl); (case hg => rfl); (case hr => first | (go_simp; done) | (go_simp; rfl))
                          intro gb371 hg w251 hbox hb
                          replace HO := Aside0.mk (Ow.Own.add HO.out hg hbox hb)
                          clear hb hbox hg
                          simp only [List.cons_append, List.nil_append] at HO
                          refine hK.out _ _ (by have h_ := Ow.Own.pick [0] HO.out (by decide); exact h_) (fun hHeld => ?_)
                          clear hK K
                          refine norm_ (a' := ?_) ?_ ?_
                          rotate_left
                          · show Act.put _ (some 7) _ = _
                            simp only [Act.put, List.setIfInBounds_toArray, List.set_cons_zero, List.set_cons_succ, i64_w, i32_w]
                            rfl
                          exact norm_ (by first | (simp only [putAll, Act.put, List.setIfInBounds_toArray, List.set_cons_zero, List.set_cons_succ]; done) | (simp only [putAll, Act.put, List.setIfInBounds_toArray, List.set_cons_zero, List.set_cons_succ]; rfl)) (hJ3_5 (gb371, gb373) _ (Ow.Own.cong (Ow.Own.pick [0, 2, 1] HO.out (by decide)) (by first | (simp only [hQ0.out, hQ1.out] <;> rfl) | ((fail_if_success (simp only [hQ0.out, hQ1.out])); rfl))))
                        · skip
                          refine box_step ?hg (N := 8) ?hd (cs := bursarlaw24_ReverseParts.Z25) (t := 63) ?hr ?_; (case hd => rfl); (case hg => rfl); (case hr => first | (go_simp; done) | (go_simp; rfl))
                          intro gb372 hg w251 hbox hb
                          replace HO := Aside0.mk (Ow.Own.add HO.out hg hbox hb)
                          clear hb hbox hg
                          simp only [List.cons_append, List.nil_append] at HO
                          refine hK.out _ _ (by have h_ := Ow.Own.pick [0] HO.out (by decide); exact h_) (fun hHeld => ?_)
                          clear hK K
                          refine norm_ (a' := ?_) ?_ ?_
                          rotate_left
                          · show Act.put _ (some 8) _ = _
                            simp only [Act.put, List.setIfInBounds_toArray, List.set_cons_zero, List.set_cons_succ, i64_w, i32_w]
                            rfl
                          exact norm_ (by first | (simp only [putAll, Act.put, List.setIfInBounds_toArray, List.set_cons_zero, List.set_cons_succ]; done) | (simp only [putAll, Act.put, List.setIfInBounds_toArray, List.set_cons_zero, List.set_cons_succ]; rfl)) (hJ4_5 (gb372, gb373) _ (Ow.Own.cong (Ow.Own.pick [0, 2, 1] HO.out (by decide)) (by first | (simp only [hQ0.out, hQ1.out] <;> rfl) | ((fail_if_success (simp only [hQ0.out, hQ1.out])); rfl))))
                    · skip
                      rintro gb372 w250 HO7_
                      clear HO
                      have HO := Aside0.mk HO7_
                      clear HO7_
                      have hHeld := Ow.Own.pick [0] HO.out (by decide)
                      refine norm_ (a' := ?_) ?_ ?_
                      rotate_left
                      · simp only [putAll, Act.put, List.setIfInBounds_toArray, List.set_cons_zero, List.set_cons_succ]
                        rfl
                      refine two_ (i := 3) (j := 5) (Ni := some 7) (Nj := some 9) #[true, true, true, true, true, false, false, false, false] #[true, true, true, false, true, true, false, false, false] rfl rfl rfl rfl (two_of HT_.out (by kernel_rfl)) (by decide) (by decide) (fun K hK => ?_) (fun K hK => ?_)
                      · skip
                        refine box_step ?hg (N := 7) ?hd (cs := bursarlaw24_ReverseParts.Z25) (t := 63) ?hr ?_; (case hd => rfl); (case hg => rfl); (case hr => first | (go_simp; done) | (go_simp; rfl))
                        intro gb371 hg w251 hbox hb
                        replace HO := Aside0.mk (Ow.Own.add HO.out hg hbox hb)
                        clear hb hbox hg
                        simp only [List.cons_append, List.nil_append] at HO
                        refine hK.out _ _ (by have h_ := Ow.Own.pick [0] HO.out (by decide); exact h_) (fun hHeld => ?_)
                        clear hK K
                        refine norm_ (a' := ?_) ?_ ?_
                        rotate_left
                        · show Act.put _ (some 7) _ = _
                          simp only [Act.put, List.setIfInBounds_toArray, List.set_cons_zero, List.set_cons_succ, i64_w, i32_w]
                          rfl
                        exact norm_ (by first | (simp only [putAll, Act.put, List.setIfInBounds_toArray, List.set_cons_zero, List.set_cons_succ]; done) | (simp only [putAll, Act.put, List.setIfInBounds_toArray, List.set_cons_zero, List.set_cons_succ]; rfl)) (hJ3_4 (gb371, gb372) _ (Ow.Own.cong (Ow.Own.pick [0, 2, 1] HO.out (by decide)) (by first | (simp only [hQ0.out, hQ1.out] <;> rfl) | ((fail_if_success (simp only [hQ0.out, hQ1.out])); rfl))))
                      · skip
                        refine box_step ?hg (N := 9) ?hd (cs := bursarlaw24_ReverseParts.Z25) (t := 63) ?hr ?_; (case hd => rfl); (case hg => rfl); (case hr => first | (go_simp; done) | (go_simp; rfl))
                        intro gb373 hg w251 hbox hb
                        replace HO := Aside0.mk (Ow.Own.add HO.out hg hbox hb)
                        clear hb hbox hg
                        simp only [List.cons_append, List.nil_append] at HO
                        refine hK.out _ _ (by have h_ := Ow.Own.pick [0] HO.out (by decide); exact h_) (fun hHeld => ?_)
                        clear hK K
                        refine norm_ (a' := ?_) ?_ ?_
                        rotate_left
                        · show Act.put _ (some 9) _ = _
                          simp only [Act.put, List.setIfInBounds_toArray, List.set_cons_zero, List.set_cons_succ, i64_w, i32_w]
                          rfl
                        exact norm_ (by first | (simp only [putAll, Act.put, List.setIfInBounds_toArray, List.set_cons_zero, List.set_cons_succ]; done) | (simp only [putAll, Act.put, List.setIfInBounds_toArray, List.set_cons_zero, List.set_cons_succ]; rfl)) (hJ4_5 (gb372, gb373) _ (Ow.Own.cong (Ow.Own.pick [0, 1, 2] HO.out (by decide)) (by first | (simp only [hQ0.out, hQ1.out] <;> rfl) | ((fail_if_success (simp only [hQ0.out, hQ1.out])); rfl))))
                  · skip
                    rintro gb371 w250 HO7_
                    clear HO
                    have HO := Aside0.mk HO7_
                    clear HO7_
                    have hHeld := Ow.Own.pick [0] HO.out (by decide)
                    refine norm_ (a' := ?_) ?_ ?_
                    rotate_left
                    · simp only [putAll, Act.put, List.setIfInBounds_toArray, List.set_cons_zero, List.set_cons_succ]
                      rfl
                    refine two_ (i := 4) (j := 5) (Ni := some 8) (Nj := some 9) #[true, true, true, true, true, false, false, false, false] #[true, true, true, true, false, true, false, false, false] rfl rfl rfl rfl (two_of HT_.out (by kernel_rfl)) (by decide) (by decide) (fun K hK => ?_) (fun K hK => ?_)
                    · skip
                      refine box_step ?hg (N := 8) ?hd (cs := bursarlaw24_ReverseParts.Z25) (t := 63) ?hr ?_; (case hd => rfl); (case hg => rfl); (case hr => first | (go_simp; done) | (go_simp; rfl))
                      intro gb372 hg w251 hbox hb
                      replace HO := Aside0.mk (Ow.Own.add HO.out hg hbox hb)
                      clear hb hbox hg
                      simp only [List.cons_append, List.nil_append] at HO
                      refine hK.out _ _ (by have h_ := Ow.Own.pick [0] HO.out (by decide); exact h_) (fun hHeld => ?_)
                      clear hK K
                      refine norm_ (a' := ?_) ?_ ?_
                      rotate_left
                      · show Act.put _ (some 8) _ = _
                        simp only [Act.put, List.setIfInBounds_toArray, List.set_cons_zero, List.set_cons_succ, i64_w, i32_w]
                        rfl
                      exact norm_ (by first | (simp only [putAll, Act.put, List.setIfInBounds_toArray, List.set_cons_zero, List.set_cons_succ]; done) | (simp only [putAll, Act.put, List.setIfInBounds_toArray, List.set_cons_zero, List.set_cons_succ]; rfl)) (hJ3_4 (gb371, gb372) _ (Ow.Own.cong (Ow.Own.pick [0, 1, 2] HO.out (by decide)) (by first | (simp only [hQ0.out, hQ1.out] <;> rfl) | ((fail_if_success (simp only [hQ0.out, hQ1.out])); rfl))))
                    · skip
                      refine box_step ?hg (N := 9) ?hd (cs := bursarlaw24_ReverseParts.Z25) (t := 63) ?hr ?_; (case hd => rfl); (case hg => rfl); (case hr => first | (go_simp; done) | (go_simp; rfl))
                      intro gb373 hg w251 hbox hb
                      replace HO := Aside0.mk (Ow.Own.add HO.out hg hbox hb)
                      clear hb hbox hg
                      simp only [List.cons_append, List.nil_append] at HO
                      refine hK.out _ _ (by have h_ := Ow.Own.pick [0] HO.out (by decide); exact h_) (fun hHeld => ?_)
                      clear hK K
                      refine norm_ (a' := ?_) ?_ ?_
                      rotate_left
                      · show Act.put _ (some 9) _ = _
                        simp only [Act.put, List.setIfInBounds_toArray, List.set_cons_zero, List.set_cons_succ, i64_w, i32_w]
                        rfl
                      exact norm_ (by first | (simp only [putAll, Act.put, List.setIfInBounds_toArray, List.set_cons_zero, List.set_cons_succ]; done) | (simp only [putAll, Act.put, List.setIfInBounds_toArray, List.set_cons_zero, List.set_cons_succ]; rfl)) (hJ3_5 (gb371, gb373) _ (Ow.Own.cong (Ow.Own.pick [0, 1, 2] HO.out (by decide)) (by first | (simp only [hQ0.out, hQ1.out] <;> rfl) | ((fail_if_success (simp only [hQ0.out, hQ1.out])); rfl))))
                · skip
                  rintro ⟨gb372, gb373⟩ w251 HO7_
                  clear HO
                  have HO := Aside0.mk HO7_
                  clear HO7_
                  have hHeld := Ow.Own.pick [0] HO.out (by decide)
                  refine norm_ (a' := ?_) ?_ ?_
                  rotate_left
                  · simp only [putAll, Act.put, List.setIfInBounds_toArray, List.set_cons_zero, List.set_cons_succ]
                    rfl
                  refine one_ (i := 3) (N := some 7) #[true, true, true, true, true, true, false, false, false] rfl rfl (one_of HT_.out (by kernel_rfl)) (by decide) (fun K hK => ?_)
                  refine box_step ?hg (N := 7) ?hd (cs := bursarlaw24_ReverseParts.Z25) (t := 63) ?hr ?_; (case hd => rfl); (case hg => rfl); (case hr => first | (go_simp; done) | (go_simp; rfl))
                  intro gb371 hg w252 hbox hb
                  replace HO := Aside0.mk (Ow.Own.add HO.out hg hbox hb)
                  clear hb hbox hg
                  simp only [List.cons_append, List.nil_append] at HO
                  refine hK.out _ _ (by have h_ := Ow.Own.pick [0] HO.out (by decide); exact h_) (fun hHeld => ?_)
                  clear hK K
                  refine norm_ (a' := ?_) ?_ ?_
                  rotate_left
                  · show Act.put _ (some 7) _ = _
                    simp only [Act.put, List.setIfInBounds_toArray, List.set_cons_zero, List.set_cons_succ, i64_w, i32_w]
                    rfl
                  exact norm_ (by first | (simp only [putAll, Act.put, List.setIfInBounds_toArray, List.set_cons_zero, List.set_cons_succ]; done) | (simp only [putAll, Act.put, List.setIfInBounds_toArray, List.set_cons_zero, List.set_cons_succ]; rfl)) (hJ3_4_5 (gb371, gb372, gb373) _ (Ow.Own.cong (Ow.Own.pick [0, 3, 1, 2] HO.out (by decide)) (by first | (simp only [hQ0.out, hQ1.out] <;> rfl) | ((fail_if_success (simp only [hQ0.out, hQ1.out])); rfl))))
              · skip
                rintro ⟨gb371, gb373⟩ w251 HO7_
                clear HO
                have HO := Aside0.mk HO7_
                clear HO7_
                have hHeld := Ow.Own.pick [0] HO.out (by decide)
                refine norm_ (a' := ?_) ?_ ?_
                rotate_left
                · simp only [putAll, Act.put, List.setIfInBounds_toArray, List.set_cons_zero, List.set_cons_succ]
                  rfl
                refine one_ (i := 4) (N := some 8) #[true, true, true, true, true, true, false, false, false] rfl rfl (one_of HT_.out (by kernel_rfl)) (by decide) (fun K hK => ?_)
                refine box_step ?hg (N := 8) ?hd (cs := bursarlaw24_ReverseParts.Z25) (t := 63) ?hr ?_; (case hd => rfl); (case hg => rfl); (case hr => first | (go_simp; done) | (go_simp; rfl))
                intro gb372 hg w252 hbox hb
                replace HO := Aside0.mk (Ow.Own.add HO.out hg hbox hb)
                clear hb hbox hg
                simp only [List.cons_append, List.nil_append] at HO
                refine hK.out _ _ (by have h_ := Ow.Own.pick [0] HO.out (by decide); exact h_) (fun hHeld => ?_)
                clear hK K
                refine norm_ (a' := ?_) ?_ ?_
                rotate_left
                · show Act.put _ (some 8) _ = _
                  simp only [Act.put, List.setIfInBounds_toArray, List.set_cons_zero, List.set_cons_succ, i64_w, i32_w]
                  rfl
                exact norm_ (by first | (simp only [putAll, Act.put, List.setIfInBounds_toArray, List.set_cons_zero, List.set_cons_succ]; done) | (simp only [putAll, Act.put, List.setIfInBounds_toArray, List.set_cons_zero, List.set_cons_succ]; rfl)) (hJ3_4_5 (gb371, gb372, gb373) _ (Ow.Own.cong (Ow.Own.pick [0, 1, 3, 2] HO.out (by decide)) (by first | (simp only [hQ0.out, hQ1.out] <;> rfl) | ((fail_if_success (simp only [hQ0.out, hQ1.out])); rfl))))
            · skip
              rintro ⟨gb371, gb372⟩ w251 HO7_
              clear HO
              have HO := Aside0.mk HO7_
              clear HO7_
              have hHeld := Ow.Own.pick [0] HO.out (by decide)
              refine norm_ (a' := ?_) ?_ ?_
              rotate_left
              · simp only [putAll, Act.put, List.setIfInBounds_toArray, List.set_cons_zero, List.set_cons_succ]
                rfl
              refine one_ (i := 5) (N := some 9) #[true, true, true, true, true, true, false, false, false] rfl rfl (one_of HT_.out (by kernel_rfl)) (by decide) (fun K hK => ?_)
              refine box_step ?hg (N := 9) ?hd (cs := bursarlaw24_ReverseParts.Z25) (t := 63) ?hr ?_; (case hd => rfl); (case hg => rfl); (case hr => first | (go_simp; done) | (go_simp; rfl))
              intro gb373 hg w252 hbox hb
              replace HO := Aside0.mk (Ow.Own.add HO.out hg hbox hb)
              clear hb hbox hg
              simp only [List.cons_append, List.nil_append] at HO
              refine hK.out _ _ (by have h_ := Ow.Own.pick [0] HO.out (by decide); exact h_) (fun hHeld => ?_)
              clear hK K
              refine norm_ (a' := ?_) ?_ ?_
              rotate_left
              · show Act.put _ (some 9) _ = _
                simp only [Act.put, List.setIfInBounds_toArray, List.set_cons_zero, List.set_cons_succ, i64_w, i32_w]
                rfl
              exact norm_ (by first | (simp only [putAll, Act.put, List.setIfInBounds_toArray, List.set_cons_zero, List.set_cons_succ]; done) | (simp only [putAll, Act.put, List.setIfInBounds_toArray, List.set_cons_zero, List.set_cons_succ]; rfl)) (hJ3_4_5 (gb371, gb372, gb373) _ (Ow.Own.cong (Ow.Own.pick [0, 1, 2, 3] HO.out (by decide)) (by first | (simp only [hQ0.out, hQ1.out] <;> rfl) | ((fail_if_success (simp only [hQ0.out, hQ1.out])); rfl))))
          rintro ⟨gb371, gb372, gb373⟩ w252 HO7_
          clear HO
          have HO := Aside0.mk HO7_
          clear HO7_
          have hHeld := Ow.Own.pick [0] HO.out (by decide)
          refine norm_ (a' := ?_) ?_ ?_
          rotate_left
          · simp only [putAll, Act.put, List.setIfInBounds_toArray, List.set_cons_zero, List.set_cons_succ]
            rfl
          refine one_ (i := 6) (N := none) #[true, true, true, true, true, true, true, false, false] rfl rfl (one_of HT_.out (by kernel_rfl)) (by decide) (fun K hK => ?_)
          refine Ow.oskip Ot.ty HO.out (by rfl) rfl rfl rfl rfl (by with_reducible first | exact Ow.at0 | exact Ow.at1 | exact Ow.at2 | exact Ow.at3) (by first | exact Ow.ev_tmp rfl | rfl) (by first | (simp only [hQ0.out, hQ1.out] <;> rfl) | ((fail_if_success (simp only [hQ0.out, hQ1.out])); rfl)) (by first | (simp only [hQ0.out, hQ1.out] <;> rfl) | ((fail_if_success (simp only [hQ0.out, hQ1.out])); rfl)) (by first | (simp only [hQ0.out, hQ1.out] <;> rfl) | ((fail_if_success (simp only [hQ0.out, hQ1.out])); rfl)) ?_
          clear HO; intro wz_ HO; simp only [List.set_cons_zero, List.set_cons_succ] at HO
          refine hK.out _ _ (by have h_ := Ow.Own.pick [0] HO.out (by decide); exact h_) (fun hHeld => ?_)
          clear hK K
          refine one_ (i := 7) (N := none) #[true, true, true, true, true, true, true, true, false] rfl rfl (one_of HT_.out (by kernel_rfl)) (by decide) (fun K hK => ?_)
          refine Ow.oskip Ot.ty HO.out (by rfl) rfl rfl rfl rfl (by with_reducible first | exact Ow.at0 | exact Ow.at1 | exact Ow.at2 | exact Ow.at3) (by first | exact Ow.ev_tmp rfl | rfl) (by first | (simp only [hQ0.out, hQ1.out] <;> rfl) | ((fail_if_success (simp only [hQ0.out, hQ1.out])); rfl)) (by first | (simp only [hQ0.out, hQ1.out] <;> rfl) | ((fail_if_success (simp only [hQ0.out, hQ1.out])); rfl)) (by first | (simp only [hQ0.out, hQ1.out] <;> rfl) | ((fail_if_success (simp only [hQ0.out, hQ1.out])); rfl)) ?_
          clear HO; intro wz_ HO; simp only [List.set_cons_zero, List.set_cons_succ] at HO
          refine hK.out _ _ (by have h_ := Ow.Own.pick [0] HO.out (by decide); exact h_) (fun hHeld => ?_)
          clear hK K
          refine one_ (i := 8) (N := none) #[true, true, true, true, true, true, true, true, true] rfl rfl (one_of HT_.out (by kernel_rfl)) (by decide) (fun K hK => ?_)
          refine Ow.oskip Ot.ty HO.out (by rfl) rfl rfl rfl rfl (by with_reducible first | exact Ow.at0 | exact Ow.at1 | exact Ow.at2 | exact Ow.at3) (by first | exact Ow.ev_tmp rfl | rfl) (by first | (simp only [hQ0.out, hQ1.out] <;> rfl) | ((fail_if_success (simp only [hQ0.out, hQ1.out])); rfl)) (by first | (simp only [hQ0.out, hQ1.out] <;> rfl) | ((fail_if_success (simp only [hQ0.out, hQ1.out])); rfl)) (by first | (simp only [hQ0.out, hQ1.out] <;> rfl) | ((fail_if_success (simp only [hQ0.out, hQ1.out])); rfl)) ?_
          clear HO; intro wz_ HO; simp only [List.set_cons_zero, List.set_cons_succ] at HO
          refine hK.out _ _ (by have h_ := Ow.Own.pick [0] HO.out (by decide); exact h_) (fun hHeld => ?_)
          clear hK K
          refine done_ (done_of HT_.out (by kernel_rfl)) ?_
          obtain ⟨Q12, hQ12_⟩ : ∃ q_ : Array Value, q_ = (#[.string t374, .string t375, .string t376, .string t377, .int .i64 t378, .int .i64 t379, .int .i64 t380, .bool t381, .bool false, .int .i64 t383, .int .i64 t384, .string t385, .string t386, .string t387, .int .i64 t388] : Array Value) := ⟨_, rfl⟩
          try rw [← hQ12_]
          have hQ12 := Aside0.mk hQ12_; clear hQ12_
          obtain ⟨Q13, hQ13_⟩ : ∃ q_ : Array Value, q_ = (#[.string t345, .string t346, .string t347, .int .i64 (wrap64 ((wrap64 (a1)) + 1)), .string t349, .string t350, .string t351, .string t352, .string t353, .int .i64 t354, .int .i64 t355, .string t356, .bool t357, .int .i64 t358, .string t359, .string t360, .string t361, .int .i64 t362, .int .i64 t363, .int .i64 t364, .bool t365, .bool t366, .int .i64 t367, .int .i64 t368, .bool t369] : Array Value) := ⟨_, rfl⟩
          try rw [← hQ13_]
          have hQ13 := Aside0.mk hQ13_; clear hQ13_
          try go_wp2_with (first | ((with_reducible refine gate_callee (f := 38) rfl ?_); refine goesL_ (some 52) rfl rfl Try.func38 (by kernel_rfl) rfl #[.agg Q13] rfl (by (try simp only [List.map_toArray, List.map_cons, List.map_nil]); first | done | rfl | (simp only [hQ0.out, hQ1.out, hQ12.out, hQ13.out]; done) | (simp only [hQ0.out, hQ1.out, hQ12.out, hQ13.out]; rfl)) ?_; refine Calls.mono (calls_of_args (by first | (simp only [hQ0.out, hQ1.out, hQ12.out, hQ13.out] <;> rfl) | ((fail_if_success (simp only [hQ0.out, hQ1.out, hQ12.out, hQ13.out])); rfl)) (reverse_Reverse.calls t345 t346 t347 (wrap64 ((wrap64 (a1)) + 1)) t349 t350 t351 t352 t353 t354 t355 t356 t357 t358 t359 t360 t361 t362 t363 t364 t365 t366 t367 t368 t369 t374 t375 t376 t377 t378 t379 t380 t381 false t383 t384 t385 t386 t387 t388 t389 _ A19.out)) ?_; rintro e w335 ⟨he_, hb⟩; (try rw [← hQ12.out] at he_); subst he_; refine ⟨_, rfl, ?_⟩; replace HO := Aside0.mk (Ow.Own.call HO.out hb); clear hb) | ((with_reducible refine gate_dst (N := 10) rfl ?_); refine Ow.box rfl (N := 10) rfl (cs := bursarlaw24_ReverseParts.Z15) (t := 68) HO.out (by first | (go_simp; done) | (go_simp; rfl)) ?_; clear HO; intro gb390 w336 HO; simp only [List.cons_append, List.nil_append] at HO) | ((with_reducible refine gate_callee (f := 43) rfl ?_); refine goesL_ (some 58) rfl rfl Try.func43 (by kernel_rfl) rfl #[] rfl (by (try simp only [List.map_toArray, List.map_cons, List.map_nil]); first | done | rfl | (simp only [hQ0.out, hQ1.out, hQ12.out, hQ13.out]; done) | (simp only [hQ0.out, hQ1.out, hQ12.out, hQ13.out]; rfl)) ?_; refine Calls.mono (calls_of_args (by first | (simp only [hQ0.out, hQ1.out, hQ12.out, hQ13.out] <;> rfl) | ((fail_if_success (simp only [hQ0.out, hQ1.out, hQ12.out, hQ13.out])); rfl)) (bursarlaw24_awake.calls  t391 _ A247.out)) ?_; rintro e w344 ⟨he_, hb⟩; subst he_; refine ⟨_, rfl, ?_⟩; replace HO := Aside0.mk (Ow.Own.call HO.out hb); clear hb) | ((with_reducible refine Ow.gate_eqs (t := 61) (by first | exact Or.inl rfl | exact Or.inr rfl) rfl ?_); simp only [hQ0.out, hQ1.out, hQ12.out, hQ13.out, Ow.part, Ot.sz, Ot.zero, Ow.over, Ow.overL, List.drop_succ_cons, List.drop_zero, List.take_succ_cons, List.take_zero]) | ((with_reducible refine Ow.gate_load rfl ?_); (try (refine gate_guard (by rfl) ?_; dsimp only)); (first | refine Ow.tload1 Ot.ty HO.out rfl rfl rfl rfl (by with_reducible first | exact Ow.at0 | exact Ow.at1 | exact Ow.at2 | exact Ow.at3 | exact Ow.at4) (by first | (simp only [hQ0.out, hQ1.out, hQ12.out, hQ13.out] <;> rfl) | ((fail_if_success (simp only [hQ0.out, hQ1.out, hQ12.out, hQ13.out])); rfl)) ?_ | refine Ow.tload0 Ot.ty HO.out rfl rfl rfl rfl (by with_reducible first | exact Ow.at0 | exact Ow.at1 | exact Ow.at2 | exact Ow.at3 | exact Ow.at4) (by first | (simp only [hQ0.out, hQ1.out, hQ12.out, hQ13.out] <;> rfl) | ((fail_if_success (simp only [hQ0.out, hQ1.out, hQ12.out, hQ13.out])); rfl)) ?_ | refine Ow.tloadp Ot.ty HO.out rfl rfl rfl rfl (by with_reducible first | exact Ow.at0 | exact Ow.at1 | exact Ow.at2 | exact Ow.at3 | exact Ow.at4) (by first | (simp only [hQ0.out, hQ1.out, hQ12.out, hQ13.out] <;> rfl) | ((fail_if_success (simp only [hQ0.out, hQ1.out, hQ12.out, hQ13.out])); rfl)) ?_)) | ((with_reducible refine gate_store rfl ?_); (try (refine gate_guard (by rfl) ?_; dsimp only)); (first | refine Ow.tput0 Ot.ty HO.out rfl rfl rfl rfl rfl (by with_reducible first | exact Ow.at0 | exact Ow.at1 | exact Ow.at2 | exact Ow.at3 | exact Ow.at4) (by first | exact Ow.ev_tmp rfl | rfl) (by first | (simp only [hQ0.out, hQ1.out, hQ12.out, hQ13.out] <;> rfl) | ((fail_if_success (simp only [hQ0.out, hQ1.out, hQ12.out, hQ13.out])); rfl)) (by first | (simp only [hQ0.out, hQ1.out, hQ12.out, hQ13.out] <;> rfl) | ((fail_if_success (simp only [hQ0.out, hQ1.out, hQ12.out, hQ13.out])); rfl)) (by first | (simp only [hQ0.out, hQ1.out, hQ12.out, hQ13.out] <;> rfl) | ((fail_if_success (simp only [hQ0.out, hQ1.out, hQ12.out, hQ13.out])); rfl)) ?_ | refine Ow.tput Ot.ty HO.out rfl rfl rfl rfl rfl (by with_reducible first | exact Ow.at0 | exact Ow.at1 | exact Ow.at2 | exact Ow.at3 | exact Ow.at4) (by first | exact Ow.ev_tmp rfl | rfl) (by first | (simp only [hQ0.out, hQ1.out, hQ12.out, hQ13.out] <;> rfl) | ((fail_if_success (simp only [hQ0.out, hQ1.out, hQ12.out, hQ13.out])); rfl)) (by first | (simp only [hQ0.out, hQ1.out, hQ12.out, hQ13.out] <;> rfl) | ((fail_if_success (simp only [hQ0.out, hQ1.out, hQ12.out, hQ13.out])); rfl)) (by first | (simp only [hQ0.out, hQ1.out, hQ12.out, hQ13.out] <;> rfl) | ((fail_if_success (simp only [hQ0.out, hQ1.out, hQ12.out, hQ13.out])); rfl)) ?_); clear HO; intro wz_ HO; simp only [List.set_cons_zero, List.set_cons_succ] at HO))
          all_goals go_ret
          all_goals exact ⟨by first | rfl | (simp only [hQ0.out, hQ1.out, hQ12.out, hQ13.out]; done) | (simp only [hQ0.out, hQ1.out, hQ12.out, hQ13.out]; rfl) | (simp [errW_none, errW_some] <;> rfl) | (simp [*, errW_none, errW_some] <;> rfl), Ow.Own.below HO.out⟩

end Go.Proofs.Ytkbhocncfldifaa.XRQ
