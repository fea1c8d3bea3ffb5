-- Written by wip/xprint.py, a session's program: printed out of the translation, with hand-written functions. Lean checks it.
import Derived.Test.YtddlmcaclbkopaaXAU0
import Derived.Test.YtddlmcaclbkopaaXAU17
import Derived.Test.YtddlmcaclbkopaaXAU20
namespace Go.Proofs.Ytddlmcaclbkopaa.XAU
open Go.RowKit Go.Proofs.YtddlmcaclbkopaaW.PrintWords Go.Proofs.YtddlmcaclbkopaaW.PrintLast Go.Proofs.YtddlmcaclbkopaaW.PrintMore
attribute [local go_sem] max2_int min2_int max_two min_two max_three min_three max_four min_four   -- for this text's walks alone
set_option linter.unusedVariables false
set_option linter.unusedSimpArgs false

/-! ### bursarref22_Auth: function 33 -/
mutual
def bursarref22_Auth.j0 : Nat → ByteArray → ByteArray → ByteArray → ByteArray → Int → ByteArray → ByteArray → ByteArray → ByteArray → ByteArray → Int → Int → ByteArray → Bool → Int → ByteArray → ByteArray → ByteArray → Int → Int → Int → Bool → Bool → Int → Int → Bool → Option (ByteArray × ByteArray × ByteArray × ByteArray × Int × Int × Int × Bool × Bool × Int × Int × ByteArray × ByteArray × ByteArray × Int)
  | 0, _, _, _, _, _, _, _, _, _, _, _, _, _, _, _, _, _, _, _, _, _, _, _, _, _, _ => none
  | k + 1, x3, x169000, x169001, x169002, x169003, x169004, x169005, x169006, x169007, x169008, x169009, x169010, x169011, x169012, x169013, x169014, x169015, x169016, x169017, x169018, x169019, x169020, x169021, x169022, x169023, x169024 => (bursarref22_Advice.f x169000 x169001 x169002 x169003 x169004 x169005 x169006 x169007 x169008 x169009 x169010 x169011).bind fun t216 => (if t216 = true then (bursarref22_Auth.j1 k x3 false x169000 x169001 x169002 x169003 x169004 x169005 x169006 x169007 x169008 x169009 x169010 x169011 x169012 x169013 x169014 x169015 x169016 x169017 x169018 x169019 x169020 x169021 x169022 x169023 x169024) else (bursarref22_Auth.j1 k x3 (decide (x169003 > x169013)) x169000 x169001 x169002 x169003 x169004 x169005 x169006 x169007 x169008 x169009 x169010 x169011 x169012 x169013 x169014 x169015 x169016 x169017 x169018 x169019 x169020 x169021 x169022 x169023 x169024))
def bursarref22_Auth.j1 : Nat → ByteArray → Bool → ByteArray → ByteArray → ByteArray → Int → ByteArray → ByteArray → ByteArray → ByteArray → ByteArray → Int → Int → ByteArray → Bool → Int → ByteArray → ByteArray → ByteArray → Int → Int → Int → Bool → Bool → Int → Int → Bool → Option (ByteArray × ByteArray × ByteArray × ByteArray × Int × Int × Int × Bool × Bool × Int × Int × ByteArray × ByteArray × ByteArray × Int)
  | 0, _, _, _, _, _, _, _, _, _, _, _, _, _, _, _, _, _, _, _, _, _, _, _, _, _, _, _ => none
  | k + 1, x3, x4, x169000, x169001, x169002, x169003, x169004, x169005, x169006, x169007, x169008, x169009, x169010, x169011, x169012, x169013, x169014, x169015, x169016, x169017, x169018, x169019, x169020, x169021, x169022, x169023, x169024 => if x3.toList = ([48, 48] : List UInt8) then (if x169021 = true then ((bursarref22_no.f (⟨#[57, 52]⟩ : ByteArray)).bind fun bt217 => (some (bt217.1, bt217.2.1, bt217.2.2.1, bt217.2.2.2.1, bt217.2.2.2.2.1, bt217.2.2.2.2.2.1, bt217.2.2.2.2.2.2.1, bt217.2.2.2.2.2.2.2.1, bt217.2.2.2.2.2.2.2.2.1, bt217.2.2.2.2.2.2.2.2.2.1, bt217.2.2.2.2.2.2.2.2.2.2.1, bt217.2.2.2.2.2.2.2.2.2.2.2.1, bt217.2.2.2.2.2.2.2.2.2.2.2.2.1, bt217.2.2.2.2.2.2.2.2.2.2.2.2.2.1, bt217.2.2.2.2.2.2.2.2.2.2.2.2.2.2))) else (if x4 = true then ((bursarref22_no.f (⟨#[53, 49]⟩ : ByteArray)).bind fun bt232 => (some (bt232.1, bt232.2.1, bt232.2.2.1, bt232.2.2.2.1, bt232.2.2.2.2.1, bt232.2.2.2.2.2.1, bt232.2.2.2.2.2.2.1, bt232.2.2.2.2.2.2.2.1, bt232.2.2.2.2.2.2.2.2.1, bt232.2.2.2.2.2.2.2.2.2.1, bt232.2.2.2.2.2.2.2.2.2.2.1, bt232.2.2.2.2.2.2.2.2.2.2.2.1, bt232.2.2.2.2.2.2.2.2.2.2.2.2.1, bt232.2.2.2.2.2.2.2.2.2.2.2.2.2.1, bt232.2.2.2.2.2.2.2.2.2.2.2.2.2.2))) else (if x169003 > 9999999999999 then ((bursarref22_no.f (⟨#[57, 54]⟩ : ByteArray)).bind fun bt247 => (some (bt247.1, bt247.2.1, bt247.2.2.1, bt247.2.2.2.1, bt247.2.2.2.2.1, bt247.2.2.2.2.2.1, bt247.2.2.2.2.2.2.1, bt247.2.2.2.2.2.2.2.1, bt247.2.2.2.2.2.2.2.2.1, bt247.2.2.2.2.2.2.2.2.2.1, bt247.2.2.2.2.2.2.2.2.2.2.1, bt247.2.2.2.2.2.2.2.2.2.2.2.1, bt247.2.2.2.2.2.2.2.2.2.2.2.2.1, bt247.2.2.2.2.2.2.2.2.2.2.2.2.2.1, bt247.2.2.2.2.2.2.2.2.2.2.2.2.2.2))) else (some ((⟨#[48, 48]⟩ : ByteArray), x169007, x169006, x169001, x169003, 0, wrap64 (x169022 + 100), true, true, 0, 0, (⟨#[]⟩ : ByteArray), (⟨#[]⟩ : ByteArray), (⟨#[]⟩ : ByteArray), 0))))) else (if x3.toList = ([48, 50] : List UInt8) then (if x169021 = true then (if x169016.toList = x169001.toList then (if x169020 = true then (if x4 = true then ((bursarref22_no.f (⟨#[53, 49]⟩ : ByteArray)).bind fun bt322 => (some (bt322.1, bt322.2.1, bt322.2.2.1, bt322.2.2.2.1, bt322.2.2.2.2.1, bt322.2.2.2.2.2.1, bt322.2.2.2.2.2.2.1, bt322.2.2.2.2.2.2.2.1, bt322.2.2.2.2.2.2.2.2.1, bt322.2.2.2.2.2.2.2.2.2.1, bt322.2.2.2.2.2.2.2.2.2.2.1, bt322.2.2.2.2.2.2.2.2.2.2.2.1, bt322.2.2.2.2.2.2.2.2.2.2.2.2.1, bt322.2.2.2.2.2.2.2.2.2.2.2.2.2.1, bt322.2.2.2.2.2.2.2.2.2.2.2.2.2.2))) else ((bursarref14_More.f k x169014 x169015 x169016 x169017 x169018 x169019 x169020 x169003 (wrap64 (x169022 + 100))).bind fun bt337 => (if bt337.2.2.2.2.2.2.2 = 0 then (if bt337.2.2.2.1 > 9999999999999 then ((bursarref22_no.f (⟨#[57, 54]⟩ : ByteArray)).bind fun bt346 => (some (bt346.1, bt346.2.1, bt346.2.2.1, bt346.2.2.2.1, bt346.2.2.2.2.1, bt346.2.2.2.2.2.1, bt346.2.2.2.2.2.2.1, bt346.2.2.2.2.2.2.2.1, bt346.2.2.2.2.2.2.2.2.1, bt346.2.2.2.2.2.2.2.2.2.1, bt346.2.2.2.2.2.2.2.2.2.2.1, bt346.2.2.2.2.2.2.2.2.2.2.2.1, bt346.2.2.2.2.2.2.2.2.2.2.2.2.1, bt346.2.2.2.2.2.2.2.2.2.2.2.2.2.1, bt346.2.2.2.2.2.2.2.2.2.2.2.2.2.2))) else (some ((⟨#[48, 48]⟩ : ByteArray), bt337.1, bt337.2.1, bt337.2.2.1, bt337.2.2.2.1, bt337.2.2.2.2.1, bt337.2.2.2.2.2.1, bt337.2.2.2.2.2.2.1, true, 0, 0, (⟨#[]⟩ : ByteArray), (⟨#[]⟩ : ByteArray), (⟨#[]⟩ : ByteArray), 0))) else ((bursarref22_no.f (⟨#[57, 54]⟩ : ByteArray)).bind fun bt361 => (some (bt361.1, bt361.2.1, bt361.2.2.1, bt361.2.2.2.1, bt361.2.2.2.2.1, bt361.2.2.2.2.2.1, bt361.2.2.2.2.2.2.1, bt361.2.2.2.2.2.2.2.1, bt361.2.2.2.2.2.2.2.2.1, bt361.2.2.2.2.2.2.2.2.2.1, bt361.2.2.2.2.2.2.2.2.2.2.1, bt361.2.2.2.2.2.2.2.2.2.2.2.1, bt361.2.2.2.2.2.2.2.2.2.2.2.2.1, bt361.2.2.2.2.2.2.2.2.2.2.2.2.2.1, bt361.2.2.2.2.2.2.2.2.2.2.2.2.2.2)))))) else ((bursarref22_no.f (⟨#[53, 52]⟩ : ByteArray)).bind fun bt307 => (some (bt307.1, bt307.2.1, bt307.2.2.1, bt307.2.2.2.1, bt307.2.2.2.2.1, bt307.2.2.2.2.2.1, bt307.2.2.2.2.2.2.1, bt307.2.2.2.2.2.2.2.1, bt307.2.2.2.2.2.2.2.2.1, bt307.2.2.2.2.2.2.2.2.2.1, bt307.2.2.2.2.2.2.2.2.2.2.1, bt307.2.2.2.2.2.2.2.2.2.2.2.1, bt307.2.2.2.2.2.2.2.2.2.2.2.2.1, bt307.2.2.2.2.2.2.2.2.2.2.2.2.2.1, bt307.2.2.2.2.2.2.2.2.2.2.2.2.2.2)))) else ((bursarref22_no.f (⟨#[49, 52]⟩ : ByteArray)).bind fun bt292 => (some (bt292.1, bt292.2.1, bt292.2.2.1, bt292.2.2.2.1, bt292.2.2.2.2.1, bt292.2.2.2.2.2.1, bt292.2.2.2.2.2.2.1, bt292.2.2.2.2.2.2.2.1, bt292.2.2.2.2.2.2.2.2.1, bt292.2.2.2.2.2.2.2.2.2.1, bt292.2.2.2.2.2.2.2.2.2.2.1, bt292.2.2.2.2.2.2.2.2.2.2.2.1, bt292.2.2.2.2.2.2.2.2.2.2.2.2.1, bt292.2.2.2.2.2.2.2.2.2.2.2.2.2.1, bt292.2.2.2.2.2.2.2.2.2.2.2.2.2.2)))) else ((bursarref22_no.f (⟨#[50, 53]⟩ : ByteArray)).bind fun bt277 => (some (bt277.1, bt277.2.1, bt277.2.2.1, bt277.2.2.2.1, bt277.2.2.2.2.1, bt277.2.2.2.2.2.1, bt277.2.2.2.2.2.2.1, bt277.2.2.2.2.2.2.2.1, bt277.2.2.2.2.2.2.2.2.1, bt277.2.2.2.2.2.2.2.2.2.1, bt277.2.2.2.2.2.2.2.2.2.2.1, bt277.2.2.2.2.2.2.2.2.2.2.2.1, bt277.2.2.2.2.2.2.2.2.2.2.2.2.1, bt277.2.2.2.2.2.2.2.2.2.2.2.2.2.1, bt277.2.2.2.2.2.2.2.2.2.2.2.2.2.2)))) else ((bursarref22_no.f (⟨#[49, 50]⟩ : ByteArray)).bind fun bt262 => (some (bt262.1, bt262.2.1, bt262.2.2.1, bt262.2.2.2.1, bt262.2.2.2.2.1, bt262.2.2.2.2.2.1, bt262.2.2.2.2.2.2.1, bt262.2.2.2.2.2.2.2.1, bt262.2.2.2.2.2.2.2.2.1, bt262.2.2.2.2.2.2.2.2.2.1, bt262.2.2.2.2.2.2.2.2.2.2.1, bt262.2.2.2.2.2.2.2.2.2.2.2.1, bt262.2.2.2.2.2.2.2.2.2.2.2.2.1, bt262.2.2.2.2.2.2.2.2.2.2.2.2.2.1, bt262.2.2.2.2.2.2.2.2.2.2.2.2.2.2))))
end
def bursarref22_Auth.f (k : Nat) (a0_0 : ByteArray) (a0_1 : ByteArray) (a0_2 : ByteArray) (a0_3 : Int) (a0_4 : ByteArray) (a0_5 : ByteArray) (a0_6 : ByteArray) (a0_7 : ByteArray) (a0_8 : ByteArray) (a0_9 : Int) (a0_10 : Int) (a0_11 : ByteArray) (a0_12 : Bool) (a0_13 : Int) (a0_14 : ByteArray) (a0_15 : ByteArray) (a0_16 : ByteArray) (a0_17 : Int) (a0_18 : Int) (a0_19 : Int) (a0_20 : Bool) (a0_21 : Bool) (a0_22 : Int) (a0_23 : Int) (a0_24 : Bool) : Option (ByteArray × ByteArray × ByteArray × ByteArray × Int × Int × Int × Bool × Bool × Int × Int × ByteArray × ByteArray × ByteArray × Int) := (bursarref22_May.f k a0_0 a0_1 a0_2 a0_3 a0_4 a0_5 a0_6 a0_7 a0_8 a0_9 a0_10 a0_11 a0_12 a0_13 a0_14 a0_15 a0_16 a0_17 a0_18 a0_19 a0_20 a0_21 a0_22 a0_23 a0_24).bind fun t170 => (if t170 = true then (if a0_24 = true then ((bursarref22_no.f (⟨#[49, 50]⟩ : ByteArray)).bind fun bt186 => (some (bt186.1, bt186.2.1, bt186.2.2.1, bt186.2.2.2.1, bt186.2.2.2.2.1, bt186.2.2.2.2.2.1, bt186.2.2.2.2.2.2.1, bt186.2.2.2.2.2.2.2.1, bt186.2.2.2.2.2.2.2.2.1, bt186.2.2.2.2.2.2.2.2.2.1, bt186.2.2.2.2.2.2.2.2.2.2.1, bt186.2.2.2.2.2.2.2.2.2.2.2.1, bt186.2.2.2.2.2.2.2.2.2.2.2.2.1, bt186.2.2.2.2.2.2.2.2.2.2.2.2.2.1, bt186.2.2.2.2.2.2.2.2.2.2.2.2.2.2))) else (if a0_12 = true then (if (a0_2.size : Int) ≥ 2 then (if 2 ≤ (a0_2.size : Int) then (bursarref22_Auth.j0 k (a0_2.extract 0 2) a0_0 a0_1 a0_2 a0_3 a0_4 a0_5 a0_6 a0_7 a0_8 a0_9 a0_10 a0_11 a0_12 a0_13 a0_14 a0_15 a0_16 a0_17 a0_18 a0_19 a0_20 a0_21 a0_22 a0_23 a0_24) else (none)) else (bursarref22_Auth.j0 k (⟨#[]⟩ : ByteArray) a0_0 a0_1 a0_2 a0_3 a0_4 a0_5 a0_6 a0_7 a0_8 a0_9 a0_10 a0_11 a0_12 a0_13 a0_14 a0_15 a0_16 a0_17 a0_18 a0_19 a0_20 a0_21 a0_22 a0_23 a0_24)) else ((bursarref22_no.f (⟨#[49, 52]⟩ : ByteArray)).bind fun bt201 => (some (bt201.1, bt201.2.1, bt201.2.2.1, bt201.2.2.2.1, bt201.2.2.2.2.1, bt201.2.2.2.2.2.1, bt201.2.2.2.2.2.2.1, bt201.2.2.2.2.2.2.2.1, bt201.2.2.2.2.2.2.2.2.1, bt201.2.2.2.2.2.2.2.2.2.1, bt201.2.2.2.2.2.2.2.2.2.2.1, bt201.2.2.2.2.2.2.2.2.2.2.2.1, bt201.2.2.2.2.2.2.2.2.2.2.2.2.1, bt201.2.2.2.2.2.2.2.2.2.2.2.2.2.1, bt201.2.2.2.2.2.2.2.2.2.2.2.2.2.2))))) else ((bursarref22_no.f (⟨#[51, 48]⟩ : ByteArray)).bind fun bt171 => (some (bt171.1, bt171.2.1, bt171.2.2.1, bt171.2.2.2.1, bt171.2.2.2.2.1, bt171.2.2.2.2.2.1, bt171.2.2.2.2.2.2.1, bt171.2.2.2.2.2.2.2.1, bt171.2.2.2.2.2.2.2.2.1, bt171.2.2.2.2.2.2.2.2.2.1, bt171.2.2.2.2.2.2.2.2.2.2.1, bt171.2.2.2.2.2.2.2.2.2.2.2.1, bt171.2.2.2.2.2.2.2.2.2.2.2.2.1, bt171.2.2.2.2.2.2.2.2.2.2.2.2.2.1, bt171.2.2.2.2.2.2.2.2.2.2.2.2.2.2))))
theorem bursarref22_Auth.mono_l : ∀ k, (∀ y0 y1 y2 y3 y4 y5 y6 y7 y8 y9 y10 y11 y12 y13 y14 y15 y16 y17 y18 y19 y20 y21 y22 y23 y24 y25, LeO (bursarref22_Auth.j0 k y0 y1 y2 y3 y4 y5 y6 y7 y8 y9 y10 y11 y12 y13 y14 y15 y16 y17 y18 y19 y20 y21 y22 y23 y24 y25) (bursarref22_Auth.j0 (k + 1) y0 y1 y2 y3 y4 y5 y6 y7 y8 y9 y10 y11 y12 y13 y14 y15 y16 y17 y18 y19 y20 y21 y22 y23 y24 y25)) ∧ (∀ y0 y1 y2 y3 y4 y5 y6 y7 y8 y9 y10 y11 y12 y13 y14 y15 y16 y17 y18 y19 y20 y21 y22 y23 y24 y25 y26, LeO (bursarref22_Auth.j1 k y0 y1 y2 y3 y4 y5 y6 y7 y8 y9 y10 y11 y12 y13 y14 y15 y16 y17 y18 y19 y20 y21 y22 y23 y24 y25 y26) (bursarref22_Auth.j1 (k + 1) y0 y1 y2 y3 y4 y5 y6 y7 y8 y9 y10 y11 y12 y13 y14 y15 y16 y17 y18 y19 y20 y21 y22 y23 y24 y25 y26))
  | 0 => ⟨fun _ _ _ _ _ _ _ _ _ _ _ _ _ _ _ _ _ _ _ _ _ _ _ _ _ _ r h => by simp [bursarref22_Auth.j0] at h, fun _ _ _ _ _ _ _ _ _ _ _ _ _ _ _ _ _ _ _ _ _ _ _ _ _ _ _ r h => by simp [bursarref22_Auth.j1] at h⟩
  | k + 1 => by
    obtain ⟨ih0, ih1⟩ := bursarref22_Auth.mono_l k
    refine ⟨?_, ?_⟩
    · intro y0 y1 y2 y3 y4 y5 y6 y7 y8 y9 y10 y11 y12 y13 y14 y15 y16 y17 y18 y19 y20 y21 y22 y23 y24 y25
      unfold bursarref22_Auth.j0
      repeat' first
      | (with_reducible exact ih0 _ _ _ _ _ _ _ _ _ _ _ _ _ _ _ _ _ _ _ _ _ _ _ _ _ _)
      | (with_reducible exact ih1 _ _ _ _ _ _ _ _ _ _ _ _ _ _ _ _ _ _ _ _ _ _ _ _ _ _ _)
      | (with_reducible exact bursarref14_More.mono _ _ _ _ _ _ _ _ _ _)
      | (with_reducible exact bursarref22_May.mono _ _ _ _ _ _ _ _ _ _ _ _ _ _ _ _ _ _ _ _ _ _ _ _ _ _)
      | (with_reducible exact LeO.refl _)
      | (with_reducible exact LeO.none _)
      | (with_reducible refine LeO.ite ?_ ?_)
      | (with_reducible refine LeO.bind ?_ (fun _ => ?_))
      | exact ih0 _ _ _ _ _ _ _ _ _ _ _ _ _ _ _ _ _ _ _ _ _ _ _ _ _ _
      | exact ih1 _ _ _ _ _ _ _ _ _ _ _ _ _ _ _ _ _ _ _ _ _ _ _ _ _ _ _
      | exact bursarref14_More.mono _ _ _ _ _ _ _ _ _ _
      | exact bursarref22_May.mono _ _ _ _ _ _ _ _ _ _ _ _ _ _ _ _ _ _ _ _ _ _ _ _ _ _
      | exact LeO.none _
      | refine LeO.ite ?_ ?_
      | refine LeO.bind ?_ (fun _ => ?_)
    · intro y0 y1 y2 y3 y4 y5 y6 y7 y8 y9 y10 y11 y12 y13 y14 y15 y16 y17 y18 y19 y20 y21 y22 y23 y24 y25 y26
      unfold bursarref22_Auth.j1
      repeat' first
      | (with_reducible exact ih0 _ _ _ _ _ _ _ _ _ _ _ _ _ _ _ _ _ _ _ _ _ _ _ _ _ _)
      | (with_reducible exact ih1 _ _ _ _ _ _ _ _ _ _ _ _ _ _ _ _ _ _ _ _ _ _ _ _ _ _ _)
      | (with_reducible exact bursarref14_More.mono _ _ _ _ _ _ _ _ _ _)
      | (with_reducible exact bursarref22_May.mono _ _ _ _ _ _ _ _ _ _ _ _ _ _ _ _ _ _ _ _ _ _ _ _ _ _)
      | (with_reducible exact LeO.refl _)
      | (with_reducible exact LeO.none _)
      | (with_reducible refine LeO.ite ?_ ?_)
      | (with_reducible refine LeO.bind ?_ (fun _ => ?_))
      | exact ih0 _ _ _ _ _ _ _ _ _ _ _ _ _ _ _ _ _ _ _ _ _ _ _ _ _ _
      | exact ih1 _ _ _ _ _ _ _ _ _ _ _ _ _ _ _ _ _ _ _ _ _ _ _ _ _ _ _
      | exact bursarref14_More.mono _ _ _ _ _ _ _ _ _ _
      | exact bursarref22_May.mono _ _ _ _ _ _ _ _ _ _ _ _ _ _ _ _ _ _ _ _ _ _ _ _ _ _
      | exact LeO.none _
      | refine LeO.ite ?_ ?_
      | refine LeO.bind ?_ (fun _ => ?_)
theorem bursarref22_Auth.mono : ∀ a0 a1 a2 a3 a4 a5 a6 a7 a8 a9 a10 a11 a12 a13 a14 a15 a16 a17 a18 a19 a20 a21 a22 a23 a24 k, LeO (bursarref22_Auth.f k a0 a1 a2 a3 a4 a5 a6 a7 a8 a9 a10 a11 a12 a13 a14 a15 a16 a17 a18 a19 a20 a21 a22 a23 a24) (bursarref22_Auth.f (k + 1) a0 a1 a2 a3 a4 a5 a6 a7 a8 a9 a10 a11 a12 a13 a14 a15 a16 a17 a18 a19 a20 a21 a22 a23 a24) := by
  intro a0 a1 a2 a3 a4 a5 a6 a7 a8 a9 a10 a11 a12 a13 a14 a15 a16 a17 a18 a19 a20 a21 a22 a23 a24 k
  obtain ⟨ih0, ih1⟩ := bursarref22_Auth.mono_l k
  unfold bursarref22_Auth.f
  repeat' first
      | (with_reducible exact ih0 _ _ _ _ _ _ _ _ _ _ _ _ _ _ _ _ _ _ _ _ _ _ _ _ _ _)
      | (with_reducible exact ih1 _ _ _ _ _ _ _ _ _ _ _ _ _ _ _ _ _ _ _ _ _ _ _ _ _ _ _)
      | (with_reducible exact bursarref14_More.mono _ _ _ _ _ _ _ _ _ _)
      | (with_reducible exact bursarref22_May.mono _ _ _ _ _ _ _ _ _ _ _ _ _ _ _ _ _ _ _ _ _ _ _ _ _ _)
      | (with_reducible exact LeO.refl _)
      | (with_reducible exact LeO.none _)
      | (with_reducible refine LeO.ite ?_ ?_)
      | (with_reducible refine LeO.bind ?_ (fun _ => ?_))
      | exact ih0 _ _ _ _ _ _ _ _ _ _ _ _ _ _ _ _ _ _ _ _ _ _ _ _ _ _
      | exact ih1 _ _ _ _ _ _ _ _ _ _ _ _ _ _ _ _ _ _ _ _ _ _ _ _ _ _ _
      | exact bursarref14_More.mono _ _ _ _ _ _ _ _ _ _
      | exact bursarref22_May.mono _ _ _ _ _ _ _ _ _ _ _ _ _ _ _ _ _ _ _ _ _ _ _ _ _ _
      | exact LeO.none _
      | refine LeO.ite ?_ ?_
      | refine LeO.bind ?_ (fun _ => ?_)
def bursarref22_Auth.Z15 : Array Value := #[.string (⟨#[]⟩ : ByteArray), .string (⟨#[]⟩ : ByteArray), .string (⟨#[]⟩ : ByteArray), .string (⟨#[]⟩ : ByteArray), .int .i64 0, .int .i64 0, .int .i64 0, .bool false, .bool false, .int .i64 0, .int .i64 0, .string (⟨#[]⟩ : ByteArray), .string (⟨#[]⟩ : ByteArray), .string (⟨#[]⟩ : ByteArray), .int .i64 0]
def bursarref22_Auth.Z7 : Array Value := #[.string (⟨#[]⟩ : ByteArray), .string (⟨#[]⟩ : ByteArray), .string (⟨#[]⟩ : ByteArray), .int .i64 0, .int .i64 0, .int .i64 0, .bool false]
set_option maxHeartbeats 8000000 in
set_option maxRecDepth 100000 in
theorem bursarref22_Auth.calls (k : Nat) (a0_0 : ByteArray) (a0_1 : ByteArray) (a0_2 : ByteArray) (a0_3 : Int) (a0_4 : ByteArray) (a0_5 : ByteArray) (a0_6 : ByteArray) (a0_7 : ByteArray) (a0_8 : ByteArray) (a0_9 : Int) (a0_10 : Int) (a0_11 : ByteArray) (a0_12 : Bool) (a0_13 : Int) (a0_14 : ByteArray) (a0_15 : ByteArray) (a0_16 : ByteArray) (a0_17 : Int) (a0_18 : Int) (a0_19 : Int) (a0_20 : Bool) (a0_21 : Bool) (a0_22 : Int) (a0_23 : Int) (a0_24 : Bool) (r1 : ByteArray) (r2 : ByteArray) (r3 : ByteArray) (r4 : ByteArray) (r5 : Int) (r6 : Int) (r7 : Int) (r8 : Bool) (r9 : Bool) (r10 : Int) (r11 : Int) (r12 : ByteArray) (r13 : ByteArray) (r14 : ByteArray) (r15 : Int) (w : World) (h : bursarref22_Auth.f k a0_0 a0_1 a0_2 a0_3 a0_4 a0_5 a0_6 a0_7 a0_8 a0_9 a0_10 a0_11 a0_12 a0_13 a0_14 a0_15 a0_16 a0_17 a0_18 a0_19 a0_20 a0_21 a0_22 a0_23 a0_24 = some (r1, r2, r3, r4, r5, r6, r7, r8, r9, r10, r11, r12, r13, r14, r15)) :
    Calls Try.prog 33 #[.agg #[.string a0_0, .string a0_1, .string a0_2, .int .i64 a0_3, .string a0_4, .string a0_5, .string a0_6, .string a0_7, .string a0_8, .int .i64 a0_9, .int .i64 a0_10, .string a0_11, .bool a0_12, .int .i64 a0_13, .string a0_14, .string a0_15, .string a0_16, .int .i64 a0_17, .int .i64 a0_18, .int .i64 a0_19, .bool a0_20, .bool a0_21, .int .i64 a0_22, .int .i64 a0_23, .bool a0_24]] w fun e w' => e = .returned (.agg #[.string r1, .string r2, .string r3, .string r4, .int .i64 r5, .int .i64 r6, .int .i64 r7, .bool r8, .bool r9, .int .i64 r10, .int .i64 r11, .string r12, .string r13, .string r14, .int .i64 r15]) ∧ Below w.heap.size w w' := by
  have hu27 := Try.underlying27
  have hu53 := Try.underlying53
  have hu23 := Try.underlying23
  have hu25 := Try.underlying25
  have HO := Aside0.mk (Ow.Own.nil w)
  have hmf : ∀ (fn : Fn) (first cap : Array Value) (w : World), (Instr.makeFunc fn first cap).run Try.prog w = .ok (.func fn first cap) w := fun _ _ _ _ => rfl
  have H : ((bursarref22_May.f k a0_0 a0_1 a0_2 a0_3 a0_4 a0_5 a0_6 a0_7 a0_8 a0_9 a0_10 a0_11 a0_12 a0_13 a0_14 a0_15 a0_16 a0_17 a0_18 a0_19 a0_20 a0_21 a0_22 a0_23 a0_24).bind fun t170 => (if t170 = true then (if a0_24 = true then ((bursarref22_no.f (⟨#[49, 50]⟩ : ByteArray)).bind fun bt186 => (some (bt186.1, bt186.2.1, bt186.2.2.1, bt186.2.2.2.1, bt186.2.2.2.2.1, bt186.2.2.2.2.2.1, bt186.2.2.2.2.2.2.1, bt186.2.2.2.2.2.2.2.1, bt186.2.2.2.2.2.2.2.2.1, bt186.2.2.2.2.2.2.2.2.2.1, bt186.2.2.2.2.2.2.2.2.2.2.1, bt186.2.2.2.2.2.2.2.2.2.2.2.1, bt186.2.2.2.2.2.2.2.2.2.2.2.2.1, bt186.2.2.2.2.2.2.2.2.2.2.2.2.2.1, bt186.2.2.2.2.2.2.2.2.2.2.2.2.2.2))) else (if a0_12 = true then (if (a0_2.size : Int) ≥ 2 then (if 2 ≤ (a0_2.size : Int) then (bursarref22_Auth.j0 k (a0_2.extract 0 2) a0_0 a0_1 a0_2 a0_3 a0_4 a0_5 a0_6 a0_7 a0_8 a0_9 a0_10 a0_11 a0_12 a0_13 a0_14 a0_15 a0_16 a0_17 a0_18 a0_19 a0_20 a0_21 a0_22 a0_23 a0_24) else (none)) else (bursarref22_Auth.j0 k (⟨#[]⟩ : ByteArray) a0_0 a0_1 a0_2 a0_3 a0_4 a0_5 a0_6 a0_7 a0_8 a0_9 a0_10 a0_11 a0_12 a0_13 a0_14 a0_15 a0_16 a0_17 a0_18 a0_19 a0_20 a0_21 a0_22 a0_23 a0_24)) else ((bursarref22_no.f (⟨#[49, 52]⟩ : ByteArray)).bind fun bt201 => (some (bt201.1, bt201.2.1, bt201.2.2.1, bt201.2.2.2.1, bt201.2.2.2.2.1, bt201.2.2.2.2.2.1, bt201.2.2.2.2.2.2.1, bt201.2.2.2.2.2.2.2.1, bt201.2.2.2.2.2.2.2.2.1, bt201.2.2.2.2.2.2.2.2.2.1, bt201.2.2.2.2.2.2.2.2.2.2.1, bt201.2.2.2.2.2.2.2.2.2.2.2.1, bt201.2.2.2.2.2.2.2.2.2.2.2.2.1, bt201.2.2.2.2.2.2.2.2.2.2.2.2.2.1, bt201.2.2.2.2.2.2.2.2.2.2.2.2.2.2))))) else ((bursarref22_no.f (⟨#[51, 48]⟩ : ByteArray)).bind fun bt171 => (some (bt171.1, bt171.2.1, bt171.2.2.1, bt171.2.2.2.1, bt171.2.2.2.2.1, bt171.2.2.2.2.2.1, bt171.2.2.2.2.2.2.1, bt171.2.2.2.2.2.2.2.1, bt171.2.2.2.2.2.2.2.2.1, bt171.2.2.2.2.2.2.2.2.2.1, bt171.2.2.2.2.2.2.2.2.2.2.1, bt171.2.2.2.2.2.2.2.2.2.2.2.1, bt171.2.2.2.2.2.2.2.2.2.2.2.2.1, bt171.2.2.2.2.2.2.2.2.2.2.2.2.2.1, bt171.2.2.2.2.2.2.2.2.2.2.2.2.2.2))))) = some (r1, r2, r3, r4, r5, r6, r7, r8, r9, r10, r11, r12, r13, r14, r15) := h
  clear h
  replace H := Option.bind_eq_some_iff.mp H
  obtain ⟨t170, A20, H⟩ := H
  replace H : (if t170 = true then (if a0_24 = true then ((bursarref22_no.f (⟨#[49, 50]⟩ : ByteArray)).bind fun bt186 => (some (bt186.1, bt186.2.1, bt186.2.2.1, bt186.2.2.2.1, bt186.2.2.2.2.1, bt186.2.2.2.2.2.1, bt186.2.2.2.2.2.2.1, bt186.2.2.2.2.2.2.2.1, bt186.2.2.2.2.2.2.2.2.1, bt186.2.2.2.2.2.2.2.2.2.1, bt186.2.2.2.2.2.2.2.2.2.2.1, bt186.2.2.2.2.2.2.2.2.2.2.2.1, bt186.2.2.2.2.2.2.2.2.2.2.2.2.1, bt186.2.2.2.2.2.2.2.2.2.2.2.2.2.1, bt186.2.2.2.2.2.2.2.2.2.2.2.2.2.2))) else (if a0_12 = true then (if (a0_2.size : Int) ≥ 2 then (if 2 ≤ (a0_2.size : Int) then (bursarref22_Auth.j0 k (a0_2.extract 0 2) a0_0 a0_1 a0_2 a0_3 a0_4 a0_5 a0_6 a0_7 a0_8 a0_9 a0_10 a0_11 a0_12 a0_13 a0_14 a0_15 a0_16 a0_17 a0_18 a0_19 a0_20 a0_21 a0_22 a0_23 a0_24) else (none)) else (bursarref22_Auth.j0 k (⟨#[]⟩ : ByteArray) a0_0 a0_1 a0_2 a0_3 a0_4 a0_5 a0_6 a0_7 a0_8 a0_9 a0_10 a0_11 a0_12 a0_13 a0_14 a0_15 a0_16 a0_17 a0_18 a0_19 a0_20 a0_21 a0_22 a0_23 a0_24)) else ((bursarref22_no.f (⟨#[49, 52]⟩ : ByteArray)).bind fun bt201 => (some (bt201.1, bt201.2.1, bt201.2.2.1, bt201.2.2.2.1, bt201.2.2.2.2.1, bt201.2.2.2.2.2.1, bt201.2.2.2.2.2.2.1, bt201.2.2.2.2.2.2.2.1, bt201.2.2.2.2.2.2.2.2.1, bt201.2.2.2.2.2.2.2.2.2.1, bt201.2.2.2.2.2.2.2.2.2.2.1, bt201.2.2.2.2.2.2.2.2.2.2.2.1, bt201.2.2.2.2.2.2.2.2.2.2.2.2.1, bt201.2.2.2.2.2.2.2.2.2.2.2.2.2.1, bt201.2.2.2.2.2.2.2.2.2.2.2.2.2.2))))) else ((bursarref22_no.f (⟨#[51, 48]⟩ : ByteArray)).bind fun bt171 => (some (bt171.1, bt171.2.1, bt171.2.2.1, bt171.2.2.2.1, bt171.2.2.2.2.1, bt171.2.2.2.2.2.1, bt171.2.2.2.2.2.2.1, bt171.2.2.2.2.2.2.2.1, bt171.2.2.2.2.2.2.2.2.1, bt171.2.2.2.2.2.2.2.2.2.1, bt171.2.2.2.2.2.2.2.2.2.2.1, bt171.2.2.2.2.2.2.2.2.2.2.2.1, bt171.2.2.2.2.2.2.2.2.2.2.2.2.1, bt171.2.2.2.2.2.2.2.2.2.2.2.2.2.1, bt171.2.2.2.2.2.2.2.2.2.2.2.2.2.2)))) = some (r1, r2, r3, r4, r5, r6, r7, r8, r9, r10, r11, r12, r13, r14, r15) := H
  have A2 := Aside0.mk A20
  clear A20
  by_cases c3 : t170 = true
  · subst c3
    have H1 : (if a0_24 = true then ((bursarref22_no.f (⟨#[49, 50]⟩ : ByteArray)).bind fun bt186 => (some (bt186.1, bt186.2.1, bt186.2.2.1, bt186.2.2.2.1, bt186.2.2.2.2.1, bt186.2.2.2.2.2.1, bt186.2.2.2.2.2.2.1, bt186.2.2.2.2.2.2.2.1, bt186.2.2.2.2.2.2.2.2.1, bt186.2.2.2.2.2.2.2.2.2.1, bt186.2.2.2.2.2.2.2.2.2.2.1, bt186.2.2.2.2.2.2.2.2.2.2.2.1, bt186.2.2.2.2.2.2.2.2.2.2.2.2.1, bt186.2.2.2.2.2.2.2.2.2.2.2.2.2.1, bt186.2.2.2.2.2.2.2.2.2.2.2.2.2.2))) else (if a0_12 = true then (if (a0_2.size : Int) ≥ 2 then (if 2 ≤ (a0_2.size : Int) then (bursarref22_Auth.j0 k (a0_2.extract 0 2) a0_0 a0_1 a0_2 a0_3 a0_4 a0_5 a0_6 a0_7 a0_8 a0_9 a0_10 a0_11 a0_12 a0_13 a0_14 a0_15 a0_16 a0_17 a0_18 a0_19 a0_20 a0_21 a0_22 a0_23 a0_24) else (none)) else (bursarref22_Auth.j0 k (⟨#[]⟩ : ByteArray) a0_0 a0_1 a0_2 a0_3 a0_4 a0_5 a0_6 a0_7 a0_8 a0_9 a0_10 a0_11 a0_12 a0_13 a0_14 a0_15 a0_16 a0_17 a0_18 a0_19 a0_20 a0_21 a0_22 a0_23 a0_24)) else ((bursarref22_no.f (⟨#[49, 52]⟩ : ByteArray)).bind fun bt201 => (some (bt201.1, bt201.2.1, bt201.2.2.1, bt201.2.2.2.1, bt201.2.2.2.2.1, bt201.2.2.2.2.2.1, bt201.2.2.2.2.2.2.1, bt201.2.2.2.2.2.2.2.1, bt201.2.2.2.2.2.2.2.2.1, bt201.2.2.2.2.2.2.2.2.2.1, bt201.2.2.2.2.2.2.2.2.2.2.1, bt201.2.2.2.2.2.2.2.2.2.2.2.1, bt201.2.2.2.2.2.2.2.2.2.2.2.2.1, bt201.2.2.2.2.2.2.2.2.2.2.2.2.2.1, bt201.2.2.2.2.2.2.2.2.2.2.2.2.2.2))))) = some (r1, r2, r3, r4, r5, r6, r7, r8, r9, r10, r11, r12, r13, r14, r15) := by rw [if_pos rfl] at H; exact H
    clear H
    have H := H1
    clear H1
    by_cases c4 : a0_24 = true
    · subst c4
      have H1 : ((bursarref22_no.f (⟨#[49, 50]⟩ : ByteArray)).bind fun bt186 => (some (bt186.1, bt186.2.1, bt186.2.2.1, bt186.2.2.2.1, bt186.2.2.2.2.1, bt186.2.2.2.2.2.1, bt186.2.2.2.2.2.2.1, bt186.2.2.2.2.2.2.2.1, bt186.2.2.2.2.2.2.2.2.1, bt186.2.2.2.2.2.2.2.2.2.1, bt186.2.2.2.2.2.2.2.2.2.2.1, bt186.2.2.2.2.2.2.2.2.2.2.2.1, bt186.2.2.2.2.2.2.2.2.2.2.2.2.1, bt186.2.2.2.2.2.2.2.2.2.2.2.2.2.1, bt186.2.2.2.2.2.2.2.2.2.2.2.2.2.2))) = some (r1, r2, r3, r4, r5, r6, r7, r8, r9, r10, r11, r12, r13, r14, r15) := by rw [if_pos rfl] at H; exact H
      clear H
      have H := H1
      clear H1
      replace H := Option.bind_eq_some_iff.mp H
      obtain ⟨⟨t186, t187, t188, t189, t190, t191, t192, t193, t194, t195, t196, t197, t198, t199, t200⟩, A50, H⟩ := H
      replace H : (some (t186, t187, t188, t189, t190, t191, t192, t193, t194, t195, t196, t197, t198, t199, t200)) = some (r1, r2, r3, r4, r5, r6, r7, r8, r9, r10, r11, r12, r13, r14, r15) := H
      have A5 := Aside0.mk A50
      clear A50
      simp only [Option.some.injEq, Prod.mk.injEq] at H
      obtain ⟨rfl, rfl, rfl, rfl, rfl, rfl, rfl, rfl, rfl, rfl, rfl, rfl, rfl, rfl, rfl⟩ := H
      obtain ⟨Q0, hQ0_⟩ : ∃ q_ : Array Value, q_ = (#[.string a0_0, .string a0_1, .string a0_2, .int .i64 a0_3, .string a0_4, .string a0_5, .string a0_6, .string a0_7, .string a0_8, .int .i64 a0_9, .int .i64 a0_10, .string a0_11, .bool a0_12, .int .i64 a0_13, .string a0_14, .string a0_15, .string a0_16, .int .i64 a0_17, .int .i64 a0_18, .int .i64 a0_19, .bool a0_20, .bool a0_21, .int .i64 a0_22, .int .i64 a0_23, .bool true] : Array Value) := ⟨_, rfl⟩
      try rw [← hQ0_]
      have hQ0 := Aside0.mk hQ0_; have hq := Aside0.mk hQ0_; clear hQ0_
      go_enter Try.func33, Try.ntmps33
      obtain ⟨Q1, hQ1_⟩ : ∃ q_ : Array Value, q_ = (#[.string t186, .string t187, .string t188, .string t189, .int .i64 t190, .int .i64 t191, .int .i64 t192, .bool t193, .bool t194, .int .i64 t195, .int .i64 t196, .string t197, .string t198, .string t199, .int .i64 t200] : Array Value) := ⟨_, rfl⟩
      try rw [← hQ1_]
      have hQ1 := Aside0.mk hQ1_; replace hq := Aside0.mk (And.intro hQ1_ hq.1); clear hQ1_
      go_wp2_with (first | ((with_reducible refine gate_dst (N := 1) rfl ?_); refine Ow.box rfl (N := 1) rfl (cs := Q0) (t := 27) HO.out (by first | (go_simp; done) | (go_simp; rfl)) ?_; clear HO; intro gb168 w6 HO; simp only [List.cons_append, List.nil_append] at HO) | ((with_reducible refine gate_dst (N := 2) rfl ?_); refine Ow.box rfl (N := 2) rfl (cs := bursarref22_Auth.Z15) (t := 53) HO.out (by first | (go_simp; done) | (go_simp; rfl)) ?_; clear HO; intro gb169 w7 HO; simp only [List.cons_append, List.nil_append] at HO) | ((with_reducible refine gate_callee (f := 35) rfl ?_); refine goesL_ (some 8) rfl rfl Try.func35 (by kernel_rfl) rfl #[.agg Q0] rfl (by (try simp only [List.map_toArray, List.map_cons, List.map_nil]); first | done | rfl | (simp only [hq.1]; done) | (simp only [hq.1]; rfl)) ?_; refine Calls.mono (calls_of_args (by first | ((try simp only [hq.1]) <;> rfl) | fail) (bursarref22_May.calls k a0_0 a0_1 a0_2 a0_3 a0_4 a0_5 a0_6 a0_7 a0_8 a0_9 a0_10 a0_11 a0_12 a0_13 a0_14 a0_15 a0_16 a0_17 a0_18 a0_19 a0_20 a0_21 a0_22 a0_23 true true _ A2.out)) ?_; rintro e w10 ⟨he_, hb⟩; subst he_; refine ⟨_, rfl, ?_⟩; replace HO := Aside0.mk (Ow.Own.call HO.out hb); clear hb) | ((with_reducible refine gate_callee (f := 62) rfl ?_); refine goesL_ (some 13) rfl rfl Try.func62 (by kernel_rfl) rfl #[.string (⟨#[49, 50]⟩ : ByteArray)] rfl (by (try simp only [List.map_toArray, List.map_cons, List.map_nil]); first | done | rfl | (simp only [hq.1]; done) | (simp only [hq.1]; rfl)) ?_; refine Calls.mono (calls_of_args (by first | ((try simp only [hq.1]) <;> rfl) | fail) (bursarref22_no.calls (⟨#[49, 50]⟩ : ByteArray) t186 t187 t188 t189 t190 t191 t192 t193 t194 t195 t196 t197 t198 t199 t200 _ A5.out)) ?_; rintro e w12 ⟨he_, hb⟩; (try rw [← hQ1.out] at he_); subst he_; refine ⟨_, rfl, ?_⟩; replace HO := Aside0.mk (Ow.Own.call HO.out hb); clear hb) | ((with_reducible refine Ow.gate_build rfl ?_); (try (refine gate_guard (by rfl) ?_; dsimp only)); refine' Ow.tbuild Ot.bd rfl rfl rfl ?hf_ ?_; (case hf_ => repeat (any_goals (first | exact Ow.Fills.nil | (refine' Ow.Fills.c ?hv_ rfl ?hz_ ?_; (case hv_ => first | exact Ow.ev_tmp rfl | rfl); (case hz_ => first | (refine ⟨?_, ?_⟩ <;> (first | ((try simp only [hq.1]) <;> rfl) | fail)) | fail)))))) | ((with_reducible refine Ow.gate_load rfl ?_); (try (refine gate_guard (by rfl) ?_; dsimp only)); (first | refine Ow.l1 Ot.ty HO.out rfl rfl rfl rfl (by first | ((try simp only [hq.1]) <;> rfl) | fail) ?_ | refine Ow.l0 Ot.ty HO.out rfl rfl rfl rfl (by first | ((try simp only [hq.1]) <;> rfl) | fail) ?_ | refine Ow.lp Ot.ty HO.out rfl rfl rfl rfl (by first | ((try simp only [hq.1]) <;> rfl) | fail) ?_)) | ((with_reducible refine gate_store rfl ?_); (try (refine gate_guard (by rfl) ?_; dsimp only)); (first | refine Ow.s0 Ot.ty HO.out rfl rfl rfl rfl rfl (by first | exact Ow.ev_tmp rfl | rfl) (by first | (refine ⟨?_, ?_, ?_⟩ <;> (first | ((try simp only [hq.1]) <;> rfl) | fail)) | fail) ?_ | refine Ow.sp Ot.ty HO.out rfl rfl rfl rfl rfl (by first | exact Ow.ev_tmp rfl | rfl) (by first | (refine ⟨?_, ?_, ?_⟩ <;> (first | ((try simp only [hq.1]) <;> rfl) | fail)) | fail) ?_); clear HO; intro wz_ HO; simp only [List.set_cons_zero, List.set_cons_succ] at HO))
      refine' bodyPost_ret (results_cell_row rfl _ _ gb169 53 _ (0, 0) _ rfl ?hb_ Try.underlying53 rfl ?hi_) rfl ?_
      case hb_ => refine' Ow.Own.get HO.out 1 ?hk_; (case hk_ => rfl)
      case hi_ => exact (Ot.ty.size 53 rfl).trans (congrArg some (by first | ((try simp only [hq.1]) <;> rfl) | fail))
      all_goals exact ⟨by first | rfl | (simp only [hq.1]; done) | (simp only [hq.1]; rfl) | (simp [errW_none, errW_some] <;> rfl) | (simp [*, errW_none, errW_some] <;> rfl), Ow.Own.below HO.out⟩
    · replace c4 := Bool.eq_false_iff.mpr c4
      subst c4
      have H1 : (if a0_12 = true then (if (a0_2.size : Int) ≥ 2 then (if 2 ≤ (a0_2.size : Int) then (bursarref22_Auth.j0 k (a0_2.extract 0 2) a0_0 a0_1 a0_2 a0_3 a0_4 a0_5 a0_6 a0_7 a0_8 a0_9 a0_10 a0_11 a0_12 a0_13 a0_14 a0_15 a0_16 a0_17 a0_18 a0_19 a0_20 a0_21 a0_22 a0_23 false) else (none)) else (bursarref22_Auth.j0 k (⟨#[]⟩ : ByteArray) a0_0 a0_1 a0_2 a0_3 a0_4 a0_5 a0_6 a0_7 a0_8 a0_9 a0_10 a0_11 a0_12 a0_13 a0_14 a0_15 a0_16 a0_17 a0_18 a0_19 a0_20 a0_21 a0_22 a0_23 false)) else ((bursarref22_no.f (⟨#[49, 52]⟩ : ByteArray)).bind fun bt201 => (some (bt201.1, bt201.2.1, bt201.2.2.1, bt201.2.2.2.1, bt201.2.2.2.2.1, bt201.2.2.2.2.2.1, bt201.2.2.2.2.2.2.1, bt201.2.2.2.2.2.2.2.1, bt201.2.2.2.2.2.2.2.2.1, bt201.2.2.2.2.2.2.2.2.2.1, bt201.2.2.2.2.2.2.2.2.2.2.1, bt201.2.2.2.2.2.2.2.2.2.2.2.1, bt201.2.2.2.2.2.2.2.2.2.2.2.2.1, bt201.2.2.2.2.2.2.2.2.2.2.2.2.2.1, bt201.2.2.2.2.2.2.2.2.2.2.2.2.2.2)))) = some (r1, r2, r3, r4, r5, r6, r7, r8, r9, r10, r11, r12, r13, r14, r15) := by rw [if_neg (show ¬ (false = true) by decide)] at H; exact H
      clear H
      have H := H1
      clear H1
      by_cases c15 : a0_12 = true
      · subst c15
        have H1 : (if (a0_2.size : Int) ≥ 2 then (if 2 ≤ (a0_2.size : Int) then (bursarref22_Auth.j0 k (a0_2.extract 0 2) a0_0 a0_1 a0_2 a0_3 a0_4 a0_5 a0_6 a0_7 a0_8 a0_9 a0_10 a0_11 true a0_13 a0_14 a0_15 a0_16 a0_17 a0_18 a0_19 a0_20 a0_21 a0_22 a0_23 false) else (none)) else (bursarref22_Auth.j0 k (⟨#[]⟩ : ByteArray) a0_0 a0_1 a0_2 a0_3 a0_4 a0_5 a0_6 a0_7 a0_8 a0_9 a0_10 a0_11 true a0_13 a0_14 a0_15 a0_16 a0_17 a0_18 a0_19 a0_20 a0_21 a0_22 a0_23 false)) = some (r1, r2, r3, r4, r5, r6, r7, r8, r9, r10, r11, r12, r13, r14, r15) := by rw [if_pos rfl] at H; exact H
        clear H
        have H := H1
        clear H1
        have HC16 := Aside0.mk H
        clear H
        obtain ⟨Q2, hQ2_⟩ : ∃ q_ : Array Value, q_ = (#[.string a0_0, .string a0_1, .string a0_2, .int .i64 a0_3, .string a0_4, .string a0_5, .string a0_6, .string a0_7, .string a0_8, .int .i64 a0_9, .int .i64 a0_10, .string a0_11, .bool true, .int .i64 a0_13, .string a0_14, .string a0_15, .string a0_16, .int .i64 a0_17, .int .i64 a0_18, .int .i64 a0_19, .bool a0_20, .bool a0_21, .int .i64 a0_22, .int .i64 a0_23, .bool false] : Array Value) := ⟨_, rfl⟩
        try rw [← hQ2_]
        have hQ2 := Aside0.mk hQ2_; have hq := Aside0.mk hQ2_; clear hQ2_
        go_enter Try.func33, Try.ntmps33
        go_upto_if 22 with (first | ((with_reducible refine gate_dst (N := 1) rfl ?_); refine Ow.box rfl (N := 1) rfl (cs := Q2) (t := 27) HO.out (by first | (go_simp; done) | (go_simp; rfl)) ?_; clear HO; intro gb168 w17 HO; simp only [List.cons_append, List.nil_append] at HO) | ((with_reducible refine gate_dst (N := 2) rfl ?_); refine Ow.box rfl (N := 2) rfl (cs := bursarref22_Auth.Z15) (t := 53) HO.out (by first | (go_simp; done) | (go_simp; rfl)) ?_; clear HO; intro gb169 w18 HO; simp only [List.cons_append, List.nil_append] at HO) | ((with_reducible refine gate_callee (f := 35) rfl ?_); refine goesL_ (some 8) rfl rfl Try.func35 (by kernel_rfl) rfl #[.agg Q2] rfl (by (try simp only [List.map_toArray, List.map_cons, List.map_nil]); first | done | rfl | (simp only [hq.1]; done) | (simp only [hq.1]; rfl)) ?_; refine Calls.mono (calls_of_args (by first | ((try simp only [hq.1]) <;> rfl) | fail) (bursarref22_May.calls k a0_0 a0_1 a0_2 a0_3 a0_4 a0_5 a0_6 a0_7 a0_8 a0_9 a0_10 a0_11 true a0_13 a0_14 a0_15 a0_16 a0_17 a0_18 a0_19 a0_20 a0_21 a0_22 a0_23 false true _ A2.out)) ?_; rintro e w21 ⟨he_, hb⟩; subst he_; refine ⟨_, rfl, ?_⟩; replace HO := Aside0.mk (Ow.Own.call HO.out hb); clear hb) | ((with_reducible refine Ow.gate_build rfl ?_); (try (refine gate_guard (by rfl) ?_; dsimp only)); refine' Ow.tbuild Ot.bd rfl rfl rfl ?hf_ ?_; (case hf_ => repeat (any_goals (first | exact Ow.Fills.nil | (refine' Ow.Fills.c ?hv_ rfl ?hz_ ?_; (case hv_ => first | exact Ow.ev_tmp rfl | rfl); (case hz_ => first | (refine ⟨?_, ?_⟩ <;> (first | ((try simp only [hq.1]) <;> rfl) | fail)) | fail)))))) | ((with_reducible refine Ow.gate_load rfl ?_); (try (refine gate_guard (by rfl) ?_; dsimp only)); (first | refine Ow.l1 Ot.ty HO.out rfl rfl rfl rfl (by first | ((try simp only [hq.1]) <;> rfl) | fail) ?_ | refine Ow.l0 Ot.ty HO.out rfl rfl rfl rfl (by first | ((try simp only [hq.1]) <;> rfl) | fail) ?_ | refine Ow.lp Ot.ty HO.out rfl rfl rfl rfl (by first | ((try simp only [hq.1]) <;> rfl) | fail) ?_)) | ((with_reducible refine gate_store rfl ?_); (try (refine gate_guard (by rfl) ?_; dsimp only)); (first | refine Ow.s0 Ot.ty HO.out rfl rfl rfl rfl rfl (by first | exact Ow.ev_tmp rfl | rfl) (by first | (refine ⟨?_, ?_, ?_⟩ <;> (first | ((try simp only [hq.1]) <;> rfl) | fail)) | fail) ?_ | refine Ow.sp Ot.ty HO.out rfl rfl rfl rfl rfl (by first | exact Ow.ev_tmp rfl | rfl) (by first | (refine ⟨?_, ?_, ?_⟩ <;> (first | ((try simp only [hq.1]) <;> rfl) | fail)) | fail) ?_); clear HO; intro wz_ HO; simp only [List.set_cons_zero, List.set_cons_succ] at HO))
        (try simp only [Act.put, List.setIfInBounds_toArray, List.set_cons_zero, List.set_cons_succ])
        (try simp only [Act.put, List.setIfInBounds_toArray, List.set_cons_zero, List.set_cons_succ])
        go_cut [3] (fun v3 wc => ∃ (kq : Nat) (x3_15 : ByteArray), v3 = .string x3_15 ∧ Aside0 (bursarref22_Auth.j0 kq x3_15 a0_0 a0_1 a0_2 a0_3 a0_4 a0_5 a0_6 a0_7 a0_8 a0_9 a0_10 a0_11 true a0_13 a0_14 a0_15 a0_16 a0_17 a0_18 a0_19 a0_20 a0_21 a0_22 a0_23 false = some (r1, r2, r3, r4, r5, r6, r7, r8, r9, r10, r11, r12, r13, r14, r15)) ∧ Aside0 (kq ≤ k) ∧ Aside0 (Ow.Own w wc [(gb168, Q2, 27), (gb169, bursarref22_Auth.Z15, 53)]))
        case first =>
          have H := HC16.out
          clear HC16
          by_cases c23 : (a0_2.size : Int) ≥ 2
          · rw [if_pos c23] at H
            have c23b0 : decide (2 ≤ (a0_2.size : Int)) = true := decide_eq_true c23
            have c23b1 : decide (2 ≤ a0_2.size) = true := decide_eq_true (by omega)
            clear c23
            (first | rw [c23b0] | (simp only [i64_w, i32_w]; rw [c23b0]) | skip)
            by_cases c24 : 2 ≤ (a0_2.size : Int)
            · rw [if_pos c24] at H
              have c24b0 := eq_true c24
              have c24b1 : decide (2 ≤ (a0_2.size : Int)) = true := decide_eq_true c24
              clear c24
              have H' := Aside0.mk H
              clear H
              go_wp2_with (first | ((with_reducible refine Ow.gate_build rfl ?_); (try (refine gate_guard (by rfl) ?_; dsimp only)); refine' Ow.tbuild Ot.bd rfl rfl rfl ?hf_ ?_; (case hf_ => repeat (any_goals (first | exact Ow.Fills.nil | (refine' Ow.Fills.c ?hv_ rfl ?hz_ ?_; (case hv_ => first | exact Ow.ev_tmp rfl | rfl); (case hz_ => first | (refine ⟨?_, ?_⟩ <;> (first | ((try simp only [hq.1]) <;> rfl) | fail)) | fail)))))) | ((with_reducible refine Ow.gate_load rfl ?_); (try (refine gate_guard (by rfl) ?_; dsimp only)); (first | refine Ow.l1 Ot.ty HO.out rfl rfl rfl rfl (by first | ((try simp only [hq.1]) <;> rfl) | fail) ?_ | refine Ow.l0 Ot.ty HO.out rfl rfl rfl rfl (by first | ((try simp only [hq.1]) <;> rfl) | fail) ?_ | refine Ow.lp Ot.ty HO.out rfl rfl rfl rfl (by first | ((try simp only [hq.1]) <;> rfl) | fail) ?_)) | ((with_reducible refine gate_store rfl ?_); (try (refine gate_guard (by rfl) ?_; dsimp only)); (first | refine Ow.s0 Ot.ty HO.out rfl rfl rfl rfl rfl (by first | exact Ow.ev_tmp rfl | rfl) (by first | (refine ⟨?_, ?_, ?_⟩ <;> (first | ((try simp only [hq.1]) <;> rfl) | fail)) | fail) ?_ | refine Ow.sp Ot.ty HO.out rfl rfl rfl rfl rfl (by first | exact Ow.ev_tmp rfl | rfl) (by first | (refine ⟨?_, ?_, ?_⟩ <;> (first | ((try simp only [hq.1]) <;> rfl) | fail)) | fail) ?_); clear HO; intro wz_ HO; simp only [List.set_cons_zero, List.set_cons_succ] at HO))
              go_meet
              case rel => exact ⟨_, (a0_2.extract 0 2), (by first | rfl | (simp; done) | (simp [*]; done) | (simp [Pu.bne_nil, Pu.beq_nil]; done)), H', ⟨by first | omega | exact Nat.le_refl _⟩, ⟨Ow.Own.cong (by first | exact HO.out | (have h_ := HO.out; simp only [World.drewN_drewN] at h_; exact h_)) (by first | ((try simp only [hq.1]) <;> rfl) | fail)⟩⟩
            · rw [if_neg c24] at H
              exact absurd H (by simp)
          · rw [if_neg c23] at H
            have c23b0 : decide (2 ≤ (a0_2.size : Int)) = false := decide_eq_false c23
            have c23b1 : decide (2 ≤ a0_2.size) = false := decide_eq_false (by omega)
            clear c23
            (first | rw [c23b0] | (simp only [i64_w, i32_w]; rw [c23b0]) | skip)
            have H' := Aside0.mk H
            clear H
            go_wp2_with (first | ((with_reducible refine Ow.gate_build rfl ?_); (try (refine gate_guard (by rfl) ?_; dsimp only)); refine' Ow.tbuild Ot.bd rfl rfl rfl ?hf_ ?_; (case hf_ => repeat (any_goals (first | exact Ow.Fills.nil | (refine' Ow.Fills.c ?hv_ rfl ?hz_ ?_; (case hv_ => first | exact Ow.ev_tmp rfl | rfl); (case hz_ => first | (refine ⟨?_, ?_⟩ <;> (first | ((try simp only [hq.1]) <;> rfl) | fail)) | fail)))))) | ((with_reducible refine Ow.gate_load rfl ?_); (try (refine gate_guard (by rfl) ?_; dsimp only)); (first | refine Ow.l1 Ot.ty HO.out rfl rfl rfl rfl (by first | ((try simp only [hq.1]) <;> rfl) | fail) ?_ | refine Ow.l0 Ot.ty HO.out rfl rfl rfl rfl (by first | ((try simp only [hq.1]) <;> rfl) | fail) ?_ | refine Ow.lp Ot.ty HO.out rfl rfl rfl rfl (by first | ((try simp only [hq.1]) <;> rfl) | fail) ?_)) | ((with_reducible refine gate_store rfl ?_); (try (refine gate_guard (by rfl) ?_; dsimp only)); (first | refine Ow.s0 Ot.ty HO.out rfl rfl rfl rfl rfl (by first | exact Ow.ev_tmp rfl | rfl) (by first | (refine ⟨?_, ?_, ?_⟩ <;> (first | ((try simp only [hq.1]) <;> rfl) | fail)) | fail) ?_ | refine Ow.sp Ot.ty HO.out rfl rfl rfl rfl rfl (by first | exact Ow.ev_tmp rfl | rfl) (by first | (refine ⟨?_, ?_, ?_⟩ <;> (first | ((try simp only [hq.1]) <;> rfl) | fail)) | fail) ?_); clear HO; intro wz_ HO; simp only [List.set_cons_zero, List.set_cons_succ] at HO))
            go_meet
            case rel => exact ⟨_, ((⟨#[]⟩ : ByteArray)), (by first | rfl | (simp; done) | (simp [*]; done) | (simp [Pu.bne_nil, Pu.beq_nil]; done)), H', ⟨by first | omega | exact Nat.le_refl _⟩, ⟨Ow.Own.cong (by first | exact HO.out | (have h_ := HO.out; simp only [World.drewN_drewN] at h_; exact h_)) (by first | ((try simp only [hq.1]) <;> rfl) | fail)⟩⟩
        case rest =>
          clear HC16
          try clear c1
          try clear c2
          try clear p2
          try clear c3
          try clear c4
          try clear c6
          try clear c8
          try clear c15
          try clear c19
          try clear c23
          try clear c23b0
          try clear c23b1
          try clear c24
          try clear c24b0
          try clear c24b1
          try clear c25
          try clear hcz11_0
          try clear hcz13_0
          try clear hcz20_0
          try clear hcz22_0
          try clear hcz26_0
          try clear hcz9_0
          try clear hfz11_0
          try clear hfz13_0
          try clear hfz20_0
          try clear hfz22_0
          try clear hfz26_0
          try clear hfz9_0
          clear HO
          obtain ⟨kq, x3_15, rfl, HA, HJ15, HO⟩ := hcut
          cases kq with
          | zero => exact absurd HA.out (by simp [bursarref22_Auth.j0])
          | succ kj15 =>
            have H := HA.out
            clear HA
            simp only [bursarref22_Auth.j0] at H
            have HC27 := Aside0.mk H
            clear H
            go_upto_region 10 with (first | ((with_reducible refine Ow.gate_build rfl ?_); (try (refine gate_guard (by rfl) ?_; dsimp only)); refine' Ow.tbuild Ot.bd rfl rfl rfl ?hf_ ?_; (case hf_ => repeat (any_goals (first | exact Ow.Fills.nil | (refine' Ow.Fills.c ?hv_ rfl ?hz_ ?_; (case hv_ => first | exact Ow.ev_tmp rfl | rfl); (case hz_ => first | (refine ⟨?_, ?_⟩ <;> (first | ((try simp only [hq.1]) <;> rfl) | fail)) | fail)))))) | ((with_reducible refine Ow.gate_load rfl ?_); (try (refine gate_guard (by rfl) ?_; dsimp only)); (first | refine Ow.l1 Ot.ty HO.out rfl rfl rfl rfl (by first | ((try simp only [hq.1]) <;> rfl) | fail) ?_ | refine Ow.l0 Ot.ty HO.out rfl rfl rfl rfl (by first | ((try simp only [hq.1]) <;> rfl) | fail) ?_ | refine Ow.lp Ot.ty HO.out rfl rfl rfl rfl (by first | ((try simp only [hq.1]) <;> rfl) | fail) ?_)) | ((with_reducible refine gate_store rfl ?_); (try (refine gate_guard (by rfl) ?_; dsimp only)); (first | refine Ow.s0 Ot.ty HO.out rfl rfl rfl rfl rfl (by first | exact Ow.ev_tmp rfl | rfl) (by first | (refine ⟨?_, ?_, ?_⟩ <;> (first | ((try simp only [hq.1]) <;> rfl) | fail)) | fail) ?_ | refine Ow.sp Ot.ty HO.out rfl rfl rfl rfl rfl (by first | exact Ow.ev_tmp rfl | rfl) (by first | (refine ⟨?_, ?_, ?_⟩ <;> (first | ((try simp only [hq.1]) <;> rfl) | fail)) | fail) ?_); clear HO; intro wz_ HO; simp only [List.set_cons_zero, List.set_cons_succ] at HO))
            (try simp only [Act.put, List.setIfInBounds_toArray, List.set_cons_zero, List.set_cons_succ])
            go_cut [4] (fun v4 wc => ∃ (kq : Nat) (x4_26 : Bool), v4 = .bool x4_26 ∧ Aside0 (bursarref22_Auth.j1 kq x3_15 x4_26 a0_0 a0_1 a0_2 a0_3 a0_4 a0_5 a0_6 a0_7 a0_8 a0_9 a0_10 a0_11 true a0_13 a0_14 a0_15 a0_16 a0_17 a0_18 a0_19 a0_20 a0_21 a0_22 a0_23 false = some (r1, r2, r3, r4, r5, r6, r7, r8, r9, r10, r11, r12, r13, r14, r15)) ∧ Aside0 (kq ≤ kj15) ∧ Aside0 (Ow.Own w wc [(gb168, Q2, 27), (gb169, bursarref22_Auth.Z15, 53)]))
            case first =>
              have H := HC27.out
              clear HC27
              replace H := Option.bind_eq_some_iff.mp H
              obtain ⟨t216, A280, H⟩ := H
              replace H : (if t216 = true then (bursarref22_Auth.j1 kj15 x3_15 false a0_0 a0_1 a0_2 a0_3 a0_4 a0_5 a0_6 a0_7 a0_8 a0_9 a0_10 a0_11 true a0_13 a0_14 a0_15 a0_16 a0_17 a0_18 a0_19 a0_20 a0_21 a0_22 a0_23 false) else (bursarref22_Auth.j1 kj15 x3_15 (decide (a0_3 > a0_13)) a0_0 a0_1 a0_2 a0_3 a0_4 a0_5 a0_6 a0_7 a0_8 a0_9 a0_10 a0_11 true a0_13 a0_14 a0_15 a0_16 a0_17 a0_18 a0_19 a0_20 a0_21 a0_22 a0_23 false)) = some (r1, r2, r3, r4, r5, r6, r7, r8, r9, r10, r11, r12, r13, r14, r15) := H
              have A28 := Aside0.mk A280
              clear A280
              by_cases c29 : t216 = true
              · subst c29
                have H1 : (bursarref22_Auth.j1 kj15 x3_15 false a0_0 a0_1 a0_2 a0_3 a0_4 a0_5 a0_6 a0_7 a0_8 a0_9 a0_10 a0_11 true a0_13 a0_14 a0_15 a0_16 a0_17 a0_18 a0_19 a0_20 a0_21 a0_22 a0_23 false) = some (r1, r2, r3, r4, r5, r6, r7, r8, r9, r10, r11, r12, r13, r14, r15) := by rw [if_pos rfl] at H; exact H
                clear H
                have H := H1
                clear H1
                have H' := Aside0.mk H
                clear H
                obtain ⟨Q3, hQ3_⟩ : ∃ q_ : Array Value, q_ = (#[.string a0_0, .string a0_1, .string a0_2, .int .i64 a0_3, .string a0_4, .string a0_5, .string a0_6, .string a0_7, .string a0_8, .int .i64 a0_9, .int .i64 a0_10, .string a0_11] : Array Value) := ⟨_, rfl⟩
                try rw [← hQ3_]
                have hQ3 := Aside0.mk hQ3_; replace hq := Aside0.mk (And.intro hQ3_ hq.1); clear hQ3_
                go_wp2_with (first | ((with_reducible refine gate_callee (f := 37) rfl ?_); refine goesL_ (some 29) rfl rfl Try.func37 (by kernel_rfl) rfl #[.agg Q3] rfl (by (try simp only [List.map_toArray, List.map_cons, List.map_nil]); first | done | rfl | (simp only [hq.1]; done) | (simp only [hq.1]; rfl)) ?_; refine Calls.mono (calls_of_args (by first | ((try simp only [hq.1]) <;> rfl) | fail) (bursarref22_Advice.calls a0_0 a0_1 a0_2 a0_3 a0_4 a0_5 a0_6 a0_7 a0_8 a0_9 a0_10 a0_11 true _ A28.out)) ?_; rintro e w32 ⟨he_, hb⟩; subst he_; refine ⟨_, rfl, ?_⟩; replace HO := Aside0.mk (Ow.Own.call HO.out hb); clear hb) | ((with_reducible refine Ow.gate_build rfl ?_); (try (refine gate_guard (by rfl) ?_; dsimp only)); refine' Ow.tbuild Ot.bd rfl rfl rfl ?hf_ ?_; (case hf_ => repeat (any_goals (first | exact Ow.Fills.nil | (refine' Ow.Fills.c ?hv_ rfl ?hz_ ?_; (case hv_ => first | exact Ow.ev_tmp rfl | rfl); (case hz_ => first | (refine ⟨?_, ?_⟩ <;> (first | ((try simp only [hq.1]) <;> rfl) | fail)) | fail)))))) | ((with_reducible refine Ow.gate_load rfl ?_); (try (refine gate_guard (by rfl) ?_; dsimp only)); (first | refine Ow.l1 Ot.ty HO.out rfl rfl rfl rfl (by first | ((try simp only [hq.1]) <;> rfl) | fail) ?_ | refine Ow.l0 Ot.ty HO.out rfl rfl rfl rfl (by first | ((try simp only [hq.1]) <;> rfl) | fail) ?_ | refine Ow.lp Ot.ty HO.out rfl rfl rfl rfl (by first | ((try simp only [hq.1]) <;> rfl) | fail) ?_)) | ((with_reducible refine gate_store rfl ?_); (try (refine gate_guard (by rfl) ?_; dsimp only)); (first | refine Ow.s0 Ot.ty HO.out rfl rfl rfl rfl rfl (by first | exact Ow.ev_tmp rfl | rfl) (by first | (refine ⟨?_, ?_, ?_⟩ <;> (first | ((try simp only [hq.1]) <;> rfl) | fail)) | fail) ?_ | refine Ow.sp Ot.ty HO.out rfl rfl rfl rfl rfl (by first | exact Ow.ev_tmp rfl | rfl) (by first | (refine ⟨?_, ?_, ?_⟩ <;> (first | ((try simp only [hq.1]) <;> rfl) | fail)) | fail) ?_); clear HO; intro wz_ HO; simp only [List.set_cons_zero, List.set_cons_succ] at HO))
                go_meet
                case rel => exact ⟨_, (false), (by first | rfl | (simp; done) | (simp [*]; done) | (simp [Pu.bne_nil, Pu.beq_nil]; done)), H', ⟨by have := HJ15.out; first | omega | exact Nat.le_refl _⟩, ⟨Ow.Own.cong (by first | exact HO.out | (have h_ := HO.out; simp only [World.drewN_drewN] at h_; exact h_)) (by first | ((try simp only [hq.1]) <;> rfl) | fail)⟩⟩
              · replace c29 := Bool.eq_false_iff.mpr c29
                subst c29
                have H1 : (bursarref22_Auth.j1 kj15 x3_15 (decide (a0_3 > a0_13)) a0_0 a0_1 a0_2 a0_3 a0_4 a0_5 a0_6 a0_7 a0_8 a0_9 a0_10 a0_11 true a0_13 a0_14 a0_15 a0_16 a0_17 a0_18 a0_19 a0_20 a0_21 a0_22 a0_23 false) = some (r1, r2, r3, r4, r5, r6, r7, r8, r9, r10, r11, r12, r13, r14, r15) := by rw [if_neg (show ¬ (false = true) by decide)] at H; exact H
                clear H
                have H := H1
                clear H1
                have H' := Aside0.mk H
                clear H
                obtain ⟨Q4, hQ4_⟩ : ∃ q_ : Array Value, q_ = (#[.string a0_0, .string a0_1, .string a0_2, .int .i64 a0_3, .string a0_4, .string a0_5, .string a0_6, .string a0_7, .string a0_8, .int .i64 a0_9, .int .i64 a0_10, .string a0_11] : Array Value) := ⟨_, rfl⟩
                try rw [← hQ4_]
                have hQ4 := Aside0.mk hQ4_; replace hq := Aside0.mk (And.intro hQ4_ hq.1); clear hQ4_
                go_wp2_with (first | ((with_reducible refine gate_callee (f := 37) rfl ?_); refine goesL_ (some 29) rfl rfl Try.func37 (by kernel_rfl) rfl #[.agg Q4] rfl (by (try simp only [List.map_toArray, List.map_cons, List.map_nil]); first | done | rfl | (simp only [hq.1]; done) | (simp only [hq.1]; rfl)) ?_; refine Calls.mono (calls_of_args (by first | ((try simp only [hq.1]) <;> rfl) | fail) (bursarref22_Advice.calls a0_0 a0_1 a0_2 a0_3 a0_4 a0_5 a0_6 a0_7 a0_8 a0_9 a0_10 a0_11 false _ A28.out)) ?_; rintro e w35 ⟨he_, hb⟩; subst he_; refine ⟨_, rfl, ?_⟩; replace HO := Aside0.mk (Ow.Own.call HO.out hb); clear hb) | ((with_reducible refine Ow.gate_build rfl ?_); (try (refine gate_guard (by rfl) ?_; dsimp only)); refine' Ow.tbuild Ot.bd rfl rfl rfl ?hf_ ?_; (case hf_ => repeat (any_goals (first | exact Ow.Fills.nil | (refine' Ow.Fills.c ?hv_ rfl ?hz_ ?_; (case hv_ => first | exact Ow.ev_tmp rfl | rfl); (case hz_ => first | (refine ⟨?_, ?_⟩ <;> (first | ((try simp only [hq.1]) <;> rfl) | fail)) | fail)))))) | ((with_reducible refine Ow.gate_load rfl ?_); (try (refine gate_guard (by rfl) ?_; dsimp only)); (first | refine Ow.l1 Ot.ty HO.out rfl rfl rfl rfl (by first | ((try simp only [hq.1]) <;> rfl) | fail) ?_ | refine Ow.l0 Ot.ty HO.out rfl rfl rfl rfl (by first | ((try simp only [hq.1]) <;> rfl) | fail) ?_ | refine Ow.lp Ot.ty HO.out rfl rfl rfl rfl (by first | ((try simp only [hq.1]) <;> rfl) | fail) ?_)) | ((with_reducible refine gate_store rfl ?_); (try (refine gate_guard (by rfl) ?_; dsimp only)); (first | refine Ow.s0 Ot.ty HO.out rfl rfl rfl rfl rfl (by first | exact Ow.ev_tmp rfl | rfl) (by first | (refine ⟨?_, ?_, ?_⟩ <;> (first | ((try simp only [hq.1]) <;> rfl) | fail)) | fail) ?_ | refine Ow.sp Ot.ty HO.out rfl rfl rfl rfl rfl (by first | exact Ow.ev_tmp rfl | rfl) (by first | (refine ⟨?_, ?_, ?_⟩ <;> (first | ((try simp only [hq.1]) <;> rfl) | fail)) | fail) ?_); clear HO; intro wz_ HO; simp only [List.set_cons_zero, List.set_cons_succ] at HO))
                go_meet
                case rel => exact ⟨_, (decide (a0_3 > a0_13)), (by first | rfl | (simp; done) | (simp [*]; done) | (simp [Pu.bne_nil, Pu.beq_nil]; done)), H', ⟨by have := HJ15.out; first | omega | exact Nat.le_refl _⟩, ⟨Ow.Own.cong (by first | exact HO.out | (have h_ := HO.out; simp only [World.drewN_drewN] at h_; exact h_)) (by first | ((try simp only [hq.1]) <;> rfl) | fail)⟩⟩
            case rest =>
              clear HC27
              try clear c1
              try clear c2
              try clear p2
              try clear c3
              try clear c4
              try clear c6
              try clear c8
              try clear c15
              try clear c19
              try clear c23
              try clear c23b0
              try clear c23b1
              try clear c24
              try clear c24b0
              try clear c24b1
              try clear c25
              try clear c29
              try clear c30
              try clear c33
              try clear c35
              try clear hcz11_0
              try clear hcz13_0
              try clear hcz20_0
              try clear hcz22_0
              try clear hcz26_0
              try clear hcz31_0
              try clear hcz34_0
              try clear hcz36_0
              try clear hcz9_0
              try clear hfz11_0
              try clear hfz13_0
              try clear hfz20_0
              try clear hfz22_0
              try clear hfz26_0
              try clear hfz31_0
              try clear hfz34_0
              try clear hfz36_0
              try clear hfz9_0
              try clear p2
              clear HO
              obtain ⟨kq, x4_26, rfl, HA, HJ26, HO⟩ := hcut
              cases kq with
              | zero => exact absurd HA.out (by simp [bursarref22_Auth.j1])
              | succ kj26 =>
                have H := HA.out
                clear HA
                simp only [bursarref22_Auth.j1] at H
                by_cases c37 : x3_15.toList = ([48, 48] : List UInt8)
                · rw [if_pos c37] at H
                  have c37b0 : (x3_15.toList == ([48, 48] : List UInt8)) = true := beq_iff_eq.mpr c37
                  have c37b1 : (x3_15.toList != ([48, 48] : List UInt8)) = false := bne_eq_false_iff_eq.mpr c37
                  clear c37
                  by_cases c38 : a0_21 = true
                  · subst c38
                    have H1 : ((bursarref22_no.f (⟨#[57, 52]⟩ : ByteArray)).bind fun bt217 => (some (bt217.1, bt217.2.1, bt217.2.2.1, bt217.2.2.2.1, bt217.2.2.2.2.1, bt217.2.2.2.2.2.1, bt217.2.2.2.2.2.2.1, bt217.2.2.2.2.2.2.2.1, bt217.2.2.2.2.2.2.2.2.1, bt217.2.2.2.2.2.2.2.2.2.1, bt217.2.2.2.2.2.2.2.2.2.2.1, bt217.2.2.2.2.2.2.2.2.2.2.2.1, bt217.2.2.2.2.2.2.2.2.2.2.2.2.1, bt217.2.2.2.2.2.2.2.2.2.2.2.2.2.1, bt217.2.2.2.2.2.2.2.2.2.2.2.2.2.2))) = some (r1, r2, r3, r4, r5, r6, r7, r8, r9, r10, r11, r12, r13, r14, r15) := by rw [if_pos rfl] at H; exact H
                    clear H
                    have H := H1
                    clear H1
                    replace H := Option.bind_eq_some_iff.mp H
                    obtain ⟨⟨t217, t218, t219, t220, t221, t222, t223, t224, t225, t226, t227, t228, t229, t230, t231⟩, A390, H⟩ := H
                    replace H : (some (t217, t218, t219, t220, t221, t222, t223, t224, t225, t226, t227, t228, t229, t230, t231)) = some (r1, r2, r3, r4, r5, r6, r7, r8, r9, r10, r11, r12, r13, r14, r15) := H
                    have A39 := Aside0.mk A390
                    clear A390
                    simp only [Option.some.injEq, Prod.mk.injEq] at H
                    obtain ⟨rfl, rfl, rfl, rfl, rfl, rfl, rfl, rfl, rfl, rfl, rfl, rfl, rfl, rfl, rfl⟩ := H
                    obtain ⟨Q5, hQ5_⟩ : ∃ q_ : Array Value, q_ = (#[.string t217, .string t218, .string t219, .string t220, .int .i64 t221, .int .i64 t222, .int .i64 t223, .bool t224, .bool t225, .int .i64 t226, .int .i64 t227, .string t228, .string t229, .string t230, .int .i64 t231] : Array Value) := ⟨_, rfl⟩
                    try rw [← hQ5_]
                    have hQ5 := Aside0.mk hQ5_; replace hq := Aside0.mk (And.intro hQ5_ hq.1); clear hQ5_
                    go_wp2_with (first | ((with_reducible refine gate_callee (f := 62) rfl ?_); refine goesL_ (some 43) rfl rfl Try.func62 (by kernel_rfl) rfl #[.string (⟨#[57, 52]⟩ : ByteArray)] rfl (by (try simp only [List.map_toArray, List.map_cons, List.map_nil]); first | done | rfl | (simp only [hq.1]; done) | (simp only [hq.1]; rfl)) ?_; refine Calls.mono (calls_of_args (by first | ((try simp only [hq.1]) <;> rfl) | fail) (bursarref22_no.calls (⟨#[57, 52]⟩ : ByteArray) t217 t218 t219 t220 t221 t222 t223 t224 t225 t226 t227 t228 t229 t230 t231 _ A39.out)) ?_; rintro e w42 ⟨he_, hb⟩; (try rw [← hQ5.out] at he_); subst he_; refine ⟨_, rfl, ?_⟩; replace HO := Aside0.mk (Ow.Own.call HO.out hb); clear hb) | ((with_reducible refine Ow.gate_build rfl ?_); (try (refine gate_guard (by rfl) ?_; dsimp only)); refine' Ow.tbuild Ot.bd rfl rfl rfl ?hf_ ?_; (case hf_ => repeat (any_goals (first | exact Ow.Fills.nil | (refine' Ow.Fills.c ?hv_ rfl ?hz_ ?_; (case hv_ => first | exact Ow.ev_tmp rfl | rfl); (case hz_ => first | (refine ⟨?_, ?_⟩ <;> (first | ((try simp only [hq.1]) <;> rfl) | fail)) | fail)))))) | ((with_reducible refine Ow.gate_load rfl ?_); (try (refine gate_guard (by rfl) ?_; dsimp only)); (first | refine Ow.l1 Ot.ty HO.out rfl rfl rfl rfl (by first | ((try simp only [hq.1]) <;> rfl) | fail) ?_ | refine Ow.l0 Ot.ty HO.out rfl rfl rfl rfl (by first | ((try simp only [hq.1]) <;> rfl) | fail) ?_ | refine Ow.lp Ot.ty HO.out rfl rfl rfl rfl (by first | ((try simp only [hq.1]) <;> rfl) | fail) ?_)) | ((with_reducible refine gate_store rfl ?_); (try (refine gate_guard (by rfl) ?_; dsimp only)); (first | refine Ow.s0 Ot.ty HO.out rfl rfl rfl rfl rfl (by first | exact Ow.ev_tmp rfl | rfl) (by first | (refine ⟨?_, ?_, ?_⟩ <;> (first | ((try simp only [hq.1]) <;> rfl) | fail)) | fail) ?_ | refine Ow.sp Ot.ty HO.out rfl rfl rfl rfl rfl (by first | exact Ow.ev_tmp rfl | rfl) (by first | (refine ⟨?_, ?_, ?_⟩ <;> (first | ((try simp only [hq.1]) <;> rfl) | fail)) | fail) ?_); clear HO; intro wz_ HO; simp only [List.set_cons_zero, List.set_cons_succ] at HO))
                    refine' bodyPost_ret (results_cell_row rfl _ _ gb169 53 _ (0, 0) _ rfl ?hb_ Try.underlying53 rfl ?hi_) rfl ?_
                    case hb_ => refine' Ow.Own.get HO.out 1 ?hk_; (case hk_ => rfl)
                    case hi_ => exact (Ot.ty.size 53 rfl).trans (congrArg some (by first | ((try simp only [hq.1]) <;> rfl) | fail))
                    all_goals exact ⟨by first | rfl | (simp only [hq.1]; done) | (simp only [hq.1]; rfl) | (simp [errW_none, errW_some] <;> rfl) | (simp [*, errW_none, errW_some] <;> rfl), Ow.Own.below HO.out⟩
                  · replace c38 := Bool.eq_false_iff.mpr c38
                    subst c38
                    have H1 : (if x4_26 = true then ((bursarref22_no.f (⟨#[53, 49]⟩ : ByteArray)).bind fun bt232 => (some (bt232.1, bt232.2.1, bt232.2.2.1, bt232.2.2.2.1, bt232.2.2.2.2.1, bt232.2.2.2.2.2.1, bt232.2.2.2.2.2.2.1, bt232.2.2.2.2.2.2.2.1, bt232.2.2.2.2.2.2.2.2.1, bt232.2.2.2.2.2.2.2.2.2.1, bt232.2.2.2.2.2.2.2.2.2.2.1, bt232.2.2.2.2.2.2.2.2.2.2.2.1, bt232.2.2.2.2.2.2.2.2.2.2.2.2.1, bt232.2.2.2.2.2.2.2.2.2.2.2.2.2.1, bt232.2.2.2.2.2.2.2.2.2.2.2.2.2.2))) else (if a0_3 > 9999999999999 then ((bursarref22_no.f (⟨#[57, 54]⟩ : ByteArray)).bind fun bt247 => (some (bt247.1, bt247.2.1, bt247.2.2.1, bt247.2.2.2.1, bt247.2.2.2.2.1, bt247.2.2.2.2.2.1, bt247.2.2.2.2.2.2.1, bt247.2.2.2.2.2.2.2.1, bt247.2.2.2.2.2.2.2.2.1, bt247.2.2.2.2.2.2.2.2.2.1, bt247.2.2.2.2.2.2.2.2.2.2.1, bt247.2.2.2.2.2.2.2.2.2.2.2.1, bt247.2.2.2.2.2.2.2.2.2.2.2.2.1, bt247.2.2.2.2.2.2.2.2.2.2.2.2.2.1, bt247.2.2.2.2.2.2.2.2.2.2.2.2.2.2))) else (some ((⟨#[48, 48]⟩ : ByteArray), a0_7, a0_6, a0_1, a0_3, 0, wrap64 (a0_22 + 100), true, true, 0, 0, (⟨#[]⟩ : ByteArray), (⟨#[]⟩ : ByteArray), (⟨#[]⟩ : ByteArray), 0)))) = some (r1, r2, r3, r4, r5, r6, r7, r8, r9, r10, r11, r12, r13, r14, r15) := by rw [if_neg (show ¬ (false = true) by decide)] at H; exact H
                    clear H
                    have H := H1
                    clear H1
                    by_cases c45 : x4_26 = true
                    · subst c45
                      have H1 : ((bursarref22_no.f (⟨#[53, 49]⟩ : ByteArray)).bind fun bt232 => (some (bt232.1, bt232.2.1, bt232.2.2.1, bt232.2.2.2.1, bt232.2.2.2.2.1, bt232.2.2.2.2.2.1, bt232.2.2.2.2.2.2.1, bt232.2.2.2.2.2.2.2.1, bt232.2.2.2.2.2.2.2.2.1, bt232.2.2.2.2.2.2.2.2.2.1, bt232.2.2.2.2.2.2.2.2.2.2.1, bt232.2.2.2.2.2.2.2.2.2.2.2.1, bt232.2.2.2.2.2.2.2.2.2.2.2.2.1, bt232.2.2.2.2.2.2.2.2.2.2.2.2.2.1, bt232.2.2.2.2.2.2.2.2.2.2.2.2.2.2))) = some (r1, r2, r3, r4, r5, r6, r7, r8, r9, r10, r11, r12, r13, r14, r15) := by rw [if_pos rfl] at H; exact H
                      clear H
                      have H := H1
                      clear H1
                      replace H := Option.bind_eq_some_iff.mp H
                      obtain ⟨⟨t232, t233, t234, t235, t236, t237, t238, t239, t240, t241, t242, t243, t244, t245, t246⟩, A460, H⟩ := H
                      replace H : (some (t232, t233, t234, t235, t236, t237, t238, t239, t240, t241, t242, t243, t244, t245, t246)) = some (r1, r2, r3, r4, r5, r6, r7, r8, r9, r10, r11, r12, r13, r14, r15) := H
                      have A46 := Aside0.mk A460
                      clear A460
                      simp only [Option.some.injEq, Prod.mk.injEq] at H
                      obtain ⟨rfl, rfl, rfl, rfl, rfl, rfl, rfl, rfl, rfl, rfl, rfl, rfl, rfl, rfl, rfl⟩ := H
                      obtain ⟨Q6, hQ6_⟩ : ∃ q_ : Array Value, q_ = (#[.string t232, .string t233, .string t234, .string t235, .int .i64 t236, .int .i64 t237, .int .i64 t238, .bool t239, .bool t240, .int .i64 t241, .int .i64 t242, .string t243, .string t244, .string t245, .int .i64 t246] : Array Value) := ⟨_, rfl⟩
                      try rw [← hQ6_]
                      have hQ6 := Aside0.mk hQ6_; replace hq := Aside0.mk (And.intro hQ6_ hq.1); clear hQ6_
                      go_wp2_with (first | ((with_reducible refine gate_callee (f := 62) rfl ?_); refine goesL_ (some 45) rfl rfl Try.func62 (by kernel_rfl) rfl #[.string (⟨#[53, 49]⟩ : ByteArray)] rfl (by (try simp only [List.map_toArray, List.map_cons, List.map_nil]); first | done | rfl | (simp only [hq.1]; done) | (simp only [hq.1]; rfl)) ?_; refine Calls.mono (calls_of_args (by first | ((try simp only [hq.1]) <;> rfl) | fail) (bursarref22_no.calls (⟨#[53, 49]⟩ : ByteArray) t232 t233 t234 t235 t236 t237 t238 t239 t240 t241 t242 t243 t244 t245 t246 _ A46.out)) ?_; rintro e w49 ⟨he_, hb⟩; (try rw [← hQ6.out] at he_); subst he_; refine ⟨_, rfl, ?_⟩; replace HO := Aside0.mk (Ow.Own.call HO.out hb); clear hb) | ((with_reducible refine Ow.gate_build rfl ?_); (try (refine gate_guard (by rfl) ?_; dsimp only)); refine' Ow.tbuild Ot.bd rfl rfl rfl ?hf_ ?_; (case hf_ => repeat (any_goals (first | exact Ow.Fills.nil | (refine' Ow.Fills.c ?hv_ rfl ?hz_ ?_; (case hv_ => first | exact Ow.ev_tmp rfl | rfl); (case hz_ => first | (refine ⟨?_, ?_⟩ <;> (first | ((try simp only [hq.1]) <;> rfl) | fail)) | fail)))))) | ((with_reducible refine Ow.gate_load rfl ?_); (try (refine gate_guard (by rfl) ?_; dsimp only)); (first | refine Ow.l1 Ot.ty HO.out rfl rfl rfl rfl (by first | ((try simp only [hq.1]) <;> rfl) | fail) ?_ | refine Ow.l0 Ot.ty HO.out rfl rfl rfl rfl (by first | ((try simp only [hq.1]) <;> rfl) | fail) ?_ | refine Ow.lp Ot.ty HO.out rfl rfl rfl rfl (by first | ((try simp only [hq.1]) <;> rfl) | fail) ?_)) | ((with_reducible refine gate_store rfl ?_); (try (refine gate_guard (by rfl) ?_; dsimp only)); (first | refine Ow.s0 Ot.ty HO.out rfl rfl rfl rfl rfl (by first | exact Ow.ev_tmp rfl | rfl) (by first | (refine ⟨?_, ?_, ?_⟩ <;> (first | ((try simp only [hq.1]) <;> rfl) | fail)) | fail) ?_ | refine Ow.sp Ot.ty HO.out rfl rfl rfl rfl rfl (by first | exact Ow.ev_tmp rfl | rfl) (by first | (refine ⟨?_, ?_, ?_⟩ <;> (first | ((try simp only [hq.1]) <;> rfl) | fail)) | fail) ?_); clear HO; intro wz_ HO; simp only [List.set_cons_zero, List.set_cons_succ] at HO))
                      refine' bodyPost_ret (results_cell_row rfl _ _ gb169 53 _ (0, 0) _ rfl ?hb_ Try.underlying53 rfl ?hi_) rfl ?_
                      case hb_ => refine' Ow.Own.get HO.out 1 ?hk_; (case hk_ => rfl)
                      case hi_ => exact (Ot.ty.size 53 rfl).trans (congrArg some (by first | ((try simp only [hq.1]) <;> rfl) | fail))
                      all_goals exact ⟨by first | rfl | (simp only [hq.1]; done) | (simp only [hq.1]; rfl) | (simp [errW_none, errW_some] <;> rfl) | (simp [*, errW_none, errW_some] <;> rfl), Ow.Own.below HO.out⟩
                    · replace c45 := Bool.eq_false_iff.mpr c45
                      subst c45
                      have H1 : (if a0_3 > 9999999999999 then ((bursarref22_no.f (⟨#[57, 54]⟩ : ByteArray)).bind fun bt247 => (some (bt247.1, bt247.2.1, bt247.2.2.1, bt247.2.2.2.1, bt247.2.2.2.2.1, bt247.2.2.2.2.2.1, bt247.2.2.2.2.2.2.1, bt247.2.2.2.2.2.2.2.1, bt247.2.2.2.2.2.2.2.2.1, bt247.2.2.2.2.2.2.2.2.2.1, bt247.2.2.2.2.2.2.2.2.2.2.1, bt247.2.2.2.2.2.2.2.2.2.2.2.1, bt247.2.2.2.2.2.2.2.2.2.2.2.2.1, bt247.2.2.2.2.2.2.2.2.2.2.2.2.2.1, bt247.2.2.2.2.2.2.2.2.2.2.2.2.2.2))) else (some ((⟨#[48, 48]⟩ : ByteArray), a0_7, a0_6, a0_1, a0_3, 0, wrap64 (a0_22 + 100), true, true, 0, 0, (⟨#[]⟩ : ByteArray), (⟨#[]⟩ : ByteArray), (⟨#[]⟩ : ByteArray), 0))) = some (r1, r2, r3, r4, r5, r6, r7, r8, r9, r10, r11, r12, r13, r14, r15) := by rw [if_neg (show ¬ (false = true) by decide)] at H; exact H
                      clear H
                      have H := H1
                      clear H1
                      by_cases c52 : a0_3 > 9999999999999
                      · rw [if_pos c52] at H
                        have c52b0 : decide (9999999999999 < a0_3) = true := decide_eq_true c52
                        clear c52
                        replace H := Option.bind_eq_some_iff.mp H
                        obtain ⟨⟨t247, t248, t249, t250, t251, t252, t253, t254, t255, t256, t257, t258, t259, t260, t261⟩, A530, H⟩ := H
                        replace H : (some (t247, t248, t249, t250, t251, t252, t253, t254, t255, t256, t257, t258, t259, t260, t261)) = some (r1, r2, r3, r4, r5, r6, r7, r8, r9, r10, r11, r12, r13, r14, r15) := H
                        have A53 := Aside0.mk A530
                        clear A530
                        simp only [Option.some.injEq, Prod.mk.injEq] at H
                        obtain ⟨rfl, rfl, rfl, rfl, rfl, rfl, rfl, rfl, rfl, rfl, rfl, rfl, rfl, rfl, rfl⟩ := H
                        obtain ⟨Q7, hQ7_⟩ : ∃ q_ : Array Value, q_ = (#[.string t247, .string t248, .string t249, .string t250, .int .i64 t251, .int .i64 t252, .int .i64 t253, .bool t254, .bool t255, .int .i64 t256, .int .i64 t257, .string t258, .string t259, .string t260, .int .i64 t261] : Array Value) := ⟨_, rfl⟩
                        try rw [← hQ7_]
                        have hQ7 := Aside0.mk hQ7_; replace hq := Aside0.mk (And.intro hQ7_ hq.1); clear hQ7_
                        go_wp2_with (first | ((with_reducible refine gate_callee (f := 62) rfl ?_); refine goesL_ (some 50) rfl rfl Try.func62 (by kernel_rfl) rfl #[.string (⟨#[57, 54]⟩ : ByteArray)] rfl (by (try simp only [List.map_toArray, List.map_cons, List.map_nil]); first | done | rfl | (simp only [hq.1]; done) | (simp only [hq.1]; rfl)) ?_; refine Calls.mono (calls_of_args (by first | ((try simp only [hq.1]) <;> rfl) | fail) (bursarref22_no.calls (⟨#[57, 54]⟩ : ByteArray) t247 t248 t249 t250 t251 t252 t253 t254 t255 t256 t257 t258 t259 t260 t261 _ A53.out)) ?_; rintro e w56 ⟨he_, hb⟩; (try rw [← hQ7.out] at he_); subst he_; refine ⟨_, rfl, ?_⟩; replace HO := Aside0.mk (Ow.Own.call HO.out hb); clear hb) | ((with_reducible refine Ow.gate_build rfl ?_); (try (refine gate_guard (by rfl) ?_; dsimp only)); refine' Ow.tbuild Ot.bd rfl rfl rfl ?hf_ ?_; (case hf_ => repeat (any_goals (first | exact Ow.Fills.nil | (refine' Ow.Fills.c ?hv_ rfl ?hz_ ?_; (case hv_ => first | exact Ow.ev_tmp rfl | rfl); (case hz_ => first | (refine ⟨?_, ?_⟩ <;> (first | ((try simp only [hq.1]) <;> rfl) | fail)) | fail)))))) | ((with_reducible refine Ow.gate_load rfl ?_); (try (refine gate_guard (by rfl) ?_; dsimp only)); (first | refine Ow.l1 Ot.ty HO.out rfl rfl rfl rfl (by first | ((try simp only [hq.1]) <;> rfl) | fail) ?_ | refine Ow.l0 Ot.ty HO.out rfl rfl rfl rfl (by first | ((try simp only [hq.1]) <;> rfl) | fail) ?_ | refine Ow.lp Ot.ty HO.out rfl rfl rfl rfl (by first | ((try simp only [hq.1]) <;> rfl) | fail) ?_)) | ((with_reducible refine gate_store rfl ?_); (try (refine gate_guard (by rfl) ?_; dsimp only)); (first | refine Ow.s0 Ot.ty HO.out rfl rfl rfl rfl rfl (by first | exact Ow.ev_tmp rfl | rfl) (by first | (refine ⟨?_, ?_, ?_⟩ <;> (first | ((try simp only [hq.1]) <;> rfl) | fail)) | fail) ?_ | refine Ow.sp Ot.ty HO.out rfl rfl rfl rfl rfl (by first | exact Ow.ev_tmp rfl | rfl) (by first | (refine ⟨?_, ?_, ?_⟩ <;> (first | ((try simp only [hq.1]) <;> rfl) | fail)) | fail) ?_); clear HO; intro wz_ HO; simp only [List.set_cons_zero, List.set_cons_succ] at HO))
                        refine' bodyPost_ret (results_cell_row rfl _ _ gb169 53 _ (0, 0) _ rfl ?hb_ Try.underlying53 rfl ?hi_) rfl ?_
                        case hb_ => refine' Ow.Own.get HO.out 1 ?hk_; (case hk_ => rfl)
                        case hi_ => exact (Ot.ty.size 53 rfl).trans (congrArg some (by first | ((try simp only [hq.1]) <;> rfl) | fail))
                        all_goals exact ⟨by first | rfl | (simp only [hq.1]; done) | (simp only [hq.1]; rfl) | (simp [errW_none, errW_some] <;> rfl) | (simp [*, errW_none, errW_some] <;> rfl), Ow.Own.below HO.out⟩
                      · rw [if_neg c52] at H
                        have c52b0 : decide (9999999999999 < a0_3) = false := decide_eq_false c52
                        clear c52
                        simp only [Option.some.injEq, Prod.mk.injEq] at H
                        obtain ⟨rfl, rfl, rfl, rfl, rfl, rfl, rfl, rfl, rfl, rfl, rfl, rfl, rfl, rfl, rfl⟩ := H
                        go_wp2_with (first | ((with_reducible refine Ow.gate_build rfl ?_); (try (refine gate_guard (by rfl) ?_; dsimp only)); refine' Ow.tbuild Ot.bd rfl rfl rfl ?hf_ ?_; (case hf_ => repeat (any_goals (first | exact Ow.Fills.nil | (refine' Ow.Fills.c ?hv_ rfl ?hz_ ?_; (case hv_ => first | exact Ow.ev_tmp rfl | rfl); (case hz_ => first | (refine ⟨?_, ?_⟩ <;> (first | ((try simp only [hq.1]) <;> rfl) | fail)) | fail)))))) | ((with_reducible refine Ow.gate_load rfl ?_); (try (refine gate_guard (by rfl) ?_; dsimp only)); (first | refine Ow.l1 Ot.ty HO.out rfl rfl rfl rfl (by first | ((try simp only [hq.1]) <;> rfl) | fail) ?_ | refine Ow.l0 Ot.ty HO.out rfl rfl rfl rfl (by first | ((try simp only [hq.1]) <;> rfl) | fail) ?_ | refine Ow.lp Ot.ty HO.out rfl rfl rfl rfl (by first | ((try simp only [hq.1]) <;> rfl) | fail) ?_)) | ((with_reducible refine gate_store rfl ?_); (try (refine gate_guard (by rfl) ?_; dsimp only)); (first | refine Ow.s0 Ot.ty HO.out rfl rfl rfl rfl rfl (by first | exact Ow.ev_tmp rfl | rfl) (by first | (refine ⟨?_, ?_, ?_⟩ <;> (first | ((try simp only [hq.1]) <;> rfl) | fail)) | fail) ?_ | refine Ow.sp Ot.ty HO.out rfl rfl rfl rfl rfl (by first | exact Ow.ev_tmp rfl | rfl) (by first | (refine ⟨?_, ?_, ?_⟩ <;> (first | ((try simp only [hq.1]) <;> rfl) | fail)) | fail) ?_); clear HO; intro wz_ HO; simp only [List.set_cons_zero, List.set_cons_succ] at HO))
                        refine' bodyPost_ret (results_cell_row rfl _ _ gb169 53 _ (0, 0) _ rfl ?hb_ Try.underlying53 rfl ?hi_) rfl ?_
                        case hb_ => refine' Ow.Own.get HO.out 1 ?hk_; (case hk_ => rfl)
                        case hi_ => exact (Ot.ty.size 53 rfl).trans (congrArg some (by first | ((try simp only [hq.1]) <;> rfl) | fail))
                        all_goals exact ⟨by first | rfl | (simp only [hq.1]; done) | (simp only [hq.1]; rfl) | (simp [errW_none, errW_some] <;> rfl) | (simp [*, errW_none, errW_some] <;> rfl), Ow.Own.below HO.out⟩
                · rw [if_neg c37] at H
                  have c37b0 : (x3_15.toList == ([48, 48] : List UInt8)) = false := beq_eq_false_iff_ne.mpr c37
                  have c37b1 : (x3_15.toList != ([48, 48] : List UInt8)) = true := bne_iff_ne.mpr c37
                  by_cases c63 : x3_15.toList = ([48, 50] : List UInt8)
                  · rw [if_pos c63] at H
                    have c63b0 : (x3_15.toList == ([48, 50] : List UInt8)) = true := beq_iff_eq.mpr c63
                    have c63b1 : (x3_15.toList != ([48, 50] : List UInt8)) = false := bne_eq_false_iff_eq.mpr c63
                    clear c63
                    by_cases c64 : a0_21 = true
                    · subst c64
                      have H1 : (if a0_16.toList = a0_1.toList then (if a0_20 = true then (if x4_26 = true then ((bursarref22_no.f (⟨#[53, 49]⟩ : ByteArray)).bind fun bt322 => (some (bt322.1, bt322.2.1, bt322.2.2.1, bt322.2.2.2.1, bt322.2.2.2.2.1, bt322.2.2.2.2.2.1, bt322.2.2.2.2.2.2.1, bt322.2.2.2.2.2.2.2.1, bt322.2.2.2.2.2.2.2.2.1, bt322.2.2.2.2.2.2.2.2.2.1, bt322.2.2.2.2.2.2.2.2.2.2.1, bt322.2.2.2.2.2.2.2.2.2.2.2.1, bt322.2.2.2.2.2.2.2.2.2.2.2.2.1, bt322.2.2.2.2.2.2.2.2.2.2.2.2.2.1, bt322.2.2.2.2.2.2.2.2.2.2.2.2.2.2))) else ((bursarref14_More.f kj26 a0_14 a0_15 a0_16 a0_17 a0_18 a0_19 a0_20 a0_3 (wrap64 (a0_22 + 100))).bind fun bt337 => (if bt337.2.2.2.2.2.2.2 = 0 then (if bt337.2.2.2.1 > 9999999999999 then ((bursarref22_no.f (⟨#[57, 54]⟩ : ByteArray)).bind fun bt346 => (some (bt346.1, bt346.2.1, bt346.2.2.1, bt346.2.2.2.1, bt346.2.2.2.2.1, bt346.2.2.2.2.2.1, bt346.2.2.2.2.2.2.1, bt346.2.2.2.2.2.2.2.1, bt346.2.2.2.2.2.2.2.2.1, bt346.2.2.2.2.2.2.2.2.2.1, bt346.2.2.2.2.2.2.2.2.2.2.1, bt346.2.2.2.2.2.2.2.2.2.2.2.1, bt346.2.2.2.2.2.2.2.2.2.2.2.2.1, bt346.2.2.2.2.2.2.2.2.2.2.2.2.2.1, bt346.2.2.2.2.2.2.2.2.2.2.2.2.2.2))) else (some ((⟨#[48, 48]⟩ : ByteArray), bt337.1, bt337.2.1, bt337.2.2.1, bt337.2.2.2.1, bt337.2.2.2.2.1, bt337.2.2.2.2.2.1, bt337.2.2.2.2.2.2.1, true, 0, 0, (⟨#[]⟩ : ByteArray), (⟨#[]⟩ : ByteArray), (⟨#[]⟩ : ByteArray), 0))) else ((bursarref22_no.f (⟨#[57, 54]⟩ : ByteArray)).bind fun bt361 => (some (bt361.1, bt361.2.1, bt361.2.2.1, bt361.2.2.2.1, bt361.2.2.2.2.1, bt361.2.2.2.2.2.1, bt361.2.2.2.2.2.2.1, bt361.2.2.2.2.2.2.2.1, bt361.2.2.2.2.2.2.2.2.1, bt361.2.2.2.2.2.2.2.2.2.1, bt361.2.2.2.2.2.2.2.2.2.2.1, bt361.2.2.2.2.2.2.2.2.2.2.2.1, bt361.2.2.2.2.2.2.2.2.2.2.2.2.1, bt361.2.2.2.2.2.2.2.2.2.2.2.2.2.1, bt361.2.2.2.2.2.2.2.2.2.2.2.2.2.2)))))) else ((bursarref22_no.f (⟨#[53, 52]⟩ : ByteArray)).bind fun bt307 => (some (bt307.1, bt307.2.1, bt307.2.2.1, bt307.2.2.2.1, bt307.2.2.2.2.1, bt307.2.2.2.2.2.1, bt307.2.2.2.2.2.2.1, bt307.2.2.2.2.2.2.2.1, bt307.2.2.2.2.2.2.2.2.1, bt307.2.2.2.2.2.2.2.2.2.1, bt307.2.2.2.2.2.2.2.2.2.2.1, bt307.2.2.2.2.2.2.2.2.2.2.2.1, bt307.2.2.2.2.2.2.2.2.2.2.2.2.1, bt307.2.2.2.2.2.2.2.2.2.2.2.2.2.1, bt307.2.2.2.2.2.2.2.2.2.2.2.2.2.2)))) else ((bursarref22_no.f (⟨#[49, 52]⟩ : ByteArray)).bind fun bt292 => (some (bt292.1, bt292.2.1, bt292.2.2.1, bt292.2.2.2.1, bt292.2.2.2.2.1, bt292.2.2.2.2.2.1, bt292.2.2.2.2.2.2.1, bt292.2.2.2.2.2.2.2.1, bt292.2.2.2.2.2.2.2.2.1, bt292.2.2.2.2.2.2.2.2.2.1, bt292.2.2.2.2.2.2.2.2.2.2.1, bt292.2.2.2.2.2.2.2.2.2.2.2.1, bt292.2.2.2.2.2.2.2.2.2.2.2.2.1, bt292.2.2.2.2.2.2.2.2.2.2.2.2.2.1, bt292.2.2.2.2.2.2.2.2.2.2.2.2.2.2)))) = some (r1, r2, r3, r4, r5, r6, r7, r8, r9, r10, r11, r12, r13, r14, r15) := by rw [if_pos rfl] at H; exact H
                      clear H
                      have H := H1
                      clear H1
                      by_cases c65 : a0_16.toList = a0_1.toList
                      · rw [if_pos c65] at H
                        have c65b0 : (a0_16.toList == a0_1.toList) = true := beq_iff_eq.mpr c65
                        have c65b1 : (a0_16.toList != a0_1.toList) = false := bne_eq_false_iff_eq.mpr c65
                        clear c65
                        by_cases c66 : a0_20 = true
                        · subst c66
                          have H1 : (if x4_26 = true then ((bursarref22_no.f (⟨#[53, 49]⟩ : ByteArray)).bind fun bt322 => (some (bt322.1, bt322.2.1, bt322.2.2.1, bt322.2.2.2.1, bt322.2.2.2.2.1, bt322.2.2.2.2.2.1, bt322.2.2.2.2.2.2.1, bt322.2.2.2.2.2.2.2.1, bt322.2.2.2.2.2.2.2.2.1, bt322.2.2.2.2.2.2.2.2.2.1, bt322.2.2.2.2.2.2.2.2.2.2.1, bt322.2.2.2.2.2.2.2.2.2.2.2.1, bt322.2.2.2.2.2.2.2.2.2.2.2.2.1, bt322.2.2.2.2.2.2.2.2.2.2.2.2.2.1, bt322.2.2.2.2.2.2.2.2.2.2.2.2.2.2))) else ((bursarref14_More.f kj26 a0_14 a0_15 a0_16 a0_17 a0_18 a0_19 true a0_3 (wrap64 (a0_22 + 100))).bind fun bt337 => (if bt337.2.2.2.2.2.2.2 = 0 then (if bt337.2.2.2.1 > 9999999999999 then ((bursarref22_no.f (⟨#[57, 54]⟩ : ByteArray)).bind fun bt346 => (some (bt346.1, bt346.2.1, bt346.2.2.1, bt346.2.2.2.1, bt346.2.2.2.2.1, bt346.2.2.2.2.2.1, bt346.2.2.2.2.2.2.1, bt346.2.2.2.2.2.2.2.1, bt346.2.2.2.2.2.2.2.2.1, bt346.2.2.2.2.2.2.2.2.2.1, bt346.2.2.2.2.2.2.2.2.2.2.1, bt346.2.2.2.2.2.2.2.2.2.2.2.1, bt346.2.2.2.2.2.2.2.2.2.2.2.2.1, bt346.2.2.2.2.2.2.2.2.2.2.2.2.2.1, bt346.2.2.2.2.2.2.2.2.2.2.2.2.2.2))) else (some ((⟨#[48, 48]⟩ : ByteArray), bt337.1, bt337.2.1, bt337.2.2.1, bt337.2.2.2.1, bt337.2.2.2.2.1, bt337.2.2.2.2.2.1, bt337.2.2.2.2.2.2.1, true, 0, 0, (⟨#[]⟩ : ByteArray), (⟨#[]⟩ : ByteArray), (⟨#[]⟩ : ByteArray), 0))) else ((bursarref22_no.f (⟨#[57, 54]⟩ : ByteArray)).bind fun bt361 => (some (bt361.1, bt361.2.1, bt361.2.2.1, bt361.2.2.2.1, bt361.2.2.2.2.1, bt361.2.2.2.2.2.1, bt361.2.2.2.2.2.2.1, bt361.2.2.2.2.2.2.2.1, bt361.2.2.2.2.2.2.2.2.1, bt361.2.2.2.2.2.2.2.2.2.1, bt361.2.2.2.2.2.2.2.2.2.2.1, bt361.2.2.2.2.2.2.2.2.2.2.2.1, bt361.2.2.2.2.2.2.2.2.2.2.2.2.1, bt361.2.2.2.2.2.2.2.2.2.2.2.2.2.1, bt361.2.2.2.2.2.2.2.2.2.2.2.2.2.2)))))) = some (r1, r2, r3, r4, r5, r6, r7, r8, r9, r10, r11, r12, r13, r14, r15) := by rw [if_pos rfl] at H; exact H
                          clear H
                          have H := H1
                          clear H1
                          by_cases c67 : x4_26 = true
                          · subst c67
                            have H1 : ((bursarref22_no.f (⟨#[53, 49]⟩ : ByteArray)).bind fun bt322 => (some (bt322.1, bt322.2.1, bt322.2.2.1, bt322.2.2.2.1, bt322.2.2.2.2.1, bt322.2.2.2.2.2.1, bt322.2.2.2.2.2.2.1, bt322.2.2.2.2.2.2.2.1, bt322.2.2.2.2.2.2.2.2.1, bt322.2.2.2.2.2.2.2.2.2.1, bt322.2.2.2.2.2.2.2.2.2.2.1, bt322.2.2.2.2.2.2.2.2.2.2.2.1, bt322.2.2.2.2.2.2.2.2.2.2.2.2.1, bt322.2.2.2.2.2.2.2.2.2.2.2.2.2.1, bt322.2.2.2.2.2.2.2.2.2.2.2.2.2.2))) = some (r1, r2, r3, r4, r5, r6, r7, r8, r9, r10, r11, r12, r13, r14, r15) := by rw [if_pos rfl] at H; exact H
                            clear H
                            have H := H1
                            clear H1
                            replace H := Option.bind_eq_some_iff.mp H
                            obtain ⟨⟨t322, t323, t324, t325, t326, t327, t328, t329, t330, t331, t332, t333, t334, t335, t336⟩, A680, H⟩ := H
                            replace H : (some (t322, t323, t324, t325, t326, t327, t328, t329, t330, t331, t332, t333, t334, t335, t336)) = some (r1, r2, r3, r4, r5, r6, r7, r8, r9, r10, r11, r12, r13, r14, r15) := H
                            have A68 := Aside0.mk A680
                            clear A680
                            simp only [Option.some.injEq, Prod.mk.injEq] at H
                            obtain ⟨rfl, rfl, rfl, rfl, rfl, rfl, rfl, rfl, rfl, rfl, rfl, rfl, rfl, rfl, rfl⟩ := H
                            obtain ⟨Q8, hQ8_⟩ : ∃ q_ : Array Value, q_ = (#[.string t322, .string t323, .string t324, .string t325, .int .i64 t326, .int .i64 t327, .int .i64 t328, .bool t329, .bool t330, .int .i64 t331, .int .i64 t332, .string t333, .string t334, .string t335, .int .i64 t336] : Array Value) := ⟨_, rfl⟩
                            try rw [← hQ8_]
                            have hQ8 := Aside0.mk hQ8_; replace hq := Aside0.mk (And.intro hQ8_ hq.1); clear hQ8_
                            go_wp2_with (first | ((with_reducible refine gate_callee (f := 62) rfl ?_); refine goesL_ (some 89) rfl rfl Try.func62 (by kernel_rfl) rfl #[.string (⟨#[53, 49]⟩ : ByteArray)] rfl (by (try simp only [List.map_toArray, List.map_cons, List.map_nil]); first | done | rfl | (simp only [hq.1]; done) | (simp only [hq.1]; rfl)) ?_; refine Calls.mono (calls_of_args (by first | ((try simp only [hq.1]) <;> rfl) | fail) (bursarref22_no.calls (⟨#[53, 49]⟩ : ByteArray) t322 t323 t324 t325 t326 t327 t328 t329 t330 t331 t332 t333 t334 t335 t336 _ A68.out)) ?_; rintro e w71 ⟨he_, hb⟩; (try rw [← hQ8.out] at he_); subst he_; refine ⟨_, rfl, ?_⟩; replace HO := Aside0.mk (Ow.Own.call HO.out hb); clear hb) | ((with_reducible refine Ow.gate_build rfl ?_); (try (refine gate_guard (by rfl) ?_; dsimp only)); refine' Ow.tbuild Ot.bd rfl rfl rfl ?hf_ ?_; (case hf_ => repeat (any_goals (first | exact Ow.Fills.nil | (refine' Ow.Fills.c ?hv_ rfl ?hz_ ?_; (case hv_ => first | exact Ow.ev_tmp rfl | rfl); (case hz_ => first | (refine ⟨?_, ?_⟩ <;> (first | ((try simp only [hq.1]) <;> rfl) | fail)) | fail)))))) | ((with_reducible refine Ow.gate_load rfl ?_); (try (refine gate_guard (by rfl) ?_; dsimp only)); (first | refine Ow.l1 Ot.ty HO.out rfl rfl rfl rfl (by first | ((try simp only [hq.1]) <;> rfl) | fail) ?_ | refine Ow.l0 Ot.ty HO.out rfl rfl rfl rfl (by first | ((try simp only [hq.1]) <;> rfl) | fail) ?_ | refine Ow.lp Ot.ty HO.out rfl rfl rfl rfl (by first | ((try simp only [hq.1]) <;> rfl) | fail) ?_)) | ((with_reducible refine gate_store rfl ?_); (try (refine gate_guard (by rfl) ?_; dsimp only)); (first | refine Ow.s0 Ot.ty HO.out rfl rfl rfl rfl rfl (by first | exact Ow.ev_tmp rfl | rfl) (by first | (refine ⟨?_, ?_, ?_⟩ <;> (first | ((try simp only [hq.1]) <;> rfl) | fail)) | fail) ?_ | refine Ow.sp Ot.ty HO.out rfl rfl rfl rfl rfl (by first | exact Ow.ev_tmp rfl | rfl) (by first | (refine ⟨?_, ?_, ?_⟩ <;> (first | ((try simp only [hq.1]) <;> rfl) | fail)) | fail) ?_); clear HO; intro wz_ HO; simp only [List.set_cons_zero, List.set_cons_succ] at HO))
                            refine' bodyPost_ret (results_cell_row rfl _ _ gb169 53 _ (0, 0) _ rfl ?hb_ Try.underlying53 rfl ?hi_) rfl ?_
                            case hb_ => refine' Ow.Own.get HO.out 1 ?hk_; (case hk_ => rfl)
                            case hi_ => exact (Ot.ty.size 53 rfl).trans (congrArg some (by first | ((try simp only [hq.1]) <;> rfl) | fail))
                            all_goals exact ⟨by first | rfl | (simp only [hq.1]; done) | (simp only [hq.1]; rfl) | (simp [errW_none, errW_some] <;> rfl) | (simp [*, errW_none, errW_some] <;> rfl), Ow.Own.below HO.out⟩
                          · replace c67 := Bool.eq_false_iff.mpr c67
                            subst c67
                            have H1 : ((bursarref14_More.f kj26 a0_14 a0_15 a0_16 a0_17 a0_18 a0_19 true a0_3 (wrap64 (a0_22 + 100))).bind fun bt337 => (if bt337.2.2.2.2.2.2.2 = 0 then (if bt337.2.2.2.1 > 9999999999999 then ((bursarref22_no.f (⟨#[57, 54]⟩ : ByteArray)).bind fun bt346 => (some (bt346.1, bt346.2.1, bt346.2.2.1, bt346.2.2.2.1, bt346.2.2.2.2.1, bt346.2.2.2.2.2.1, bt346.2.2.2.2.2.2.1, bt346.2.2.2.2.2.2.2.1, bt346.2.2.2.2.2.2.2.2.1, bt346.2.2.2.2.2.2.2.2.2.1, bt346.2.2.2.2.2.2.2.2.2.2.1, bt346.2.2.2.2.2.2.2.2.2.2.2.1, bt346.2.2.2.2.2.2.2.2.2.2.2.2.1, bt346.2.2.2.2.2.2.2.2.2.2.2.2.2.1, bt346.2.2.2.2.2.2.2.2.2.2.2.2.2.2))) else (some ((⟨#[48, 48]⟩ : ByteArray), bt337.1, bt337.2.1, bt337.2.2.1, bt337.2.2.2.1, bt337.2.2.2.2.1, bt337.2.2.2.2.2.1, bt337.2.2.2.2.2.2.1, true, 0, 0, (⟨#[]⟩ : ByteArray), (⟨#[]⟩ : ByteArray), (⟨#[]⟩ : ByteArray), 0))) else ((bursarref22_no.f (⟨#[57, 54]⟩ : ByteArray)).bind fun bt361 => (some (bt361.1, bt361.2.1, bt361.2.2.1, bt361.2.2.2.1, bt361.2.2.2.2.1, bt361.2.2.2.2.2.1, bt361.2.2.2.2.2.2.1, bt361.2.2.2.2.2.2.2.1, bt361.2.2.2.2.2.2.2.2.1, bt361.2.2.2.2.2.2.2.2.2.1, bt361.2.2.2.2.2.2.2.2.2.2.1, bt361.2.2.2.2.2.2.2.2.2.2.2.1, bt361.2.2.2.2.2.2.2.2.2.2.2.2.1, bt361.2.2.2.2.2.2.2.2.2.2.2.2.2.1, bt361.2.2.2.2.2.2.2.2.2.2.2.2.2.2))))) = some (r1, r2, r3, r4, r5, r6, r7, r8, r9, r10, r11, r12, r13, r14, r15) := by rw [if_neg (show ¬ (false = true) by decide)] at H; exact H
                            clear H
                            have H := H1
                            clear H1
                            replace H := Option.bind_eq_some_iff.mp H
                            obtain ⟨⟨t337, t338, t339, t340, t341, t342, t343, t344⟩, A740, H⟩ := H
                            replace H : (if t344 = 0 then (if t340 > 9999999999999 then ((bursarref22_no.f (⟨#[57, 54]⟩ : ByteArray)).bind fun bt346 => (some (bt346.1, bt346.2.1, bt346.2.2.1, bt346.2.2.2.1, bt346.2.2.2.2.1, bt346.2.2.2.2.2.1, bt346.2.2.2.2.2.2.1, bt346.2.2.2.2.2.2.2.1, bt346.2.2.2.2.2.2.2.2.1, bt346.2.2.2.2.2.2.2.2.2.1, bt346.2.2.2.2.2.2.2.2.2.2.1, bt346.2.2.2.2.2.2.2.2.2.2.2.1, bt346.2.2.2.2.2.2.2.2.2.2.2.2.1, bt346.2.2.2.2.2.2.2.2.2.2.2.2.2.1, bt346.2.2.2.2.2.2.2.2.2.2.2.2.2.2))) else (some ((⟨#[48, 48]⟩ : ByteArray), t337, t338, t339, t340, t341, t342, t343, true, 0, 0, (⟨#[]⟩ : ByteArray), (⟨#[]⟩ : ByteArray), (⟨#[]⟩ : ByteArray), 0))) else ((bursarref22_no.f (⟨#[57, 54]⟩ : ByteArray)).bind fun bt361 => (some (bt361.1, bt361.2.1, bt361.2.2.1, bt361.2.2.2.1, bt361.2.2.2.2.1, bt361.2.2.2.2.2.1, bt361.2.2.2.2.2.2.1, bt361.2.2.2.2.2.2.2.1, bt361.2.2.2.2.2.2.2.2.1, bt361.2.2.2.2.2.2.2.2.2.1, bt361.2.2.2.2.2.2.2.2.2.2.1, bt361.2.2.2.2.2.2.2.2.2.2.2.1, bt361.2.2.2.2.2.2.2.2.2.2.2.2.1, bt361.2.2.2.2.2.2.2.2.2.2.2.2.2.1, bt361.2.2.2.2.2.2.2.2.2.2.2.2.2.2)))) = some (r1, r2, r3, r4, r5, r6, r7, r8, r9, r10, r11, r12, r13, r14, r15) := H
                            have A74 := Aside0.mk A740
                            clear A740
                            by_cases c75 : t344 = 0
                            · rw [if_pos c75] at H
                              have c75b0 : (t344 == 0) = true := beq_iff_eq.mpr c75
                              have c75b1 : (t344 != 0) = false := bne_eq_false_iff_eq.mpr c75
                              clear c75
                              by_cases c76 : t340 > 9999999999999
                              · rw [if_pos c76] at H
                                have c76b0 : decide (9999999999999 < t340) = true := decide_eq_true c76
                                clear c76
                                replace H := Option.bind_eq_some_iff.mp H
                                obtain ⟨⟨t346, t347, t348, t349, t350, t351, t352, t353, t354, t355, t356, t357, t358, t359, t360⟩, A770, H⟩ := H
                                replace H : (some (t346, t347, t348, t349, t350, t351, t352, t353, t354, t355, t356, t357, t358, t359, t360)) = some (r1, r2, r3, r4, r5, r6, r7, r8, r9, r10, r11, r12, r13, r14, r15) := H
                                have A77 := Aside0.mk A770
                                clear A770
                                simp only [Option.some.injEq, Prod.mk.injEq] at H
                                obtain ⟨rfl, rfl, rfl, rfl, rfl, rfl, rfl, rfl, rfl, rfl, rfl, rfl, rfl, rfl, rfl⟩ := H
                                obtain ⟨Q9, hQ9_⟩ : ∃ q_ : Array Value, q_ = (#[.string t346, .string t347, .string t348, .string t349, .int .i64 t350, .int .i64 t351, .int .i64 t352, .bool t353, .bool t354, .int .i64 t355, .int .i64 t356, .string t357, .string t358, .string t359, .int .i64 t360] : Array Value) := ⟨_, rfl⟩
                                try rw [← hQ9_]
                                have hQ9 := Aside0.mk hQ9_; replace hq := Aside0.mk (And.intro hQ9_ hq.1); clear hQ9_
                                go_wp2_with (first | ((with_reducible refine gate_callee (f := 63) rfl ?_); refine goesL_ (some 99) rfl rfl Try.func63 (by kernel_rfl) rfl #[.agg #[.string a0_14, .string a0_15, .string a0_16, .int .i64 a0_17, .int .i64 a0_18, .int .i64 a0_19, .bool true], .int .i64 a0_3, .int .i64 (wrap64 (a0_22 + 100))] rfl (by (try simp only [List.map_toArray, List.map_cons, List.map_nil]); first | done | rfl | (simp only [hq.1]; done) | (simp only [hq.1]; rfl)) ?_; refine Calls.mono (calls_of_args (by first | ((try simp only [hq.1]) <;> rfl) | fail) (bursarref14_More.calls kj26 a0_14 a0_15 a0_16 a0_17 a0_18 a0_19 true a0_3 (wrap64 (a0_22 + 100)) t337 t338 t339 t340 t341 t342 t343 t344 _ A74.out)) ?_; rintro e w80 ⟨he_, hb⟩; subst he_; refine ⟨_, rfl, ?_⟩; replace HO := Aside0.mk (Ow.Own.call HO.out hb); clear hb) | ((with_reducible refine gate_dst (N := 5) rfl ?_); refine Ow.box rfl (N := 5) rfl (cs := bursarref22_Auth.Z7) (t := 25) HO.out (by first | (go_simp; done) | (go_simp; rfl)) ?_; clear HO; intro gb345 w81 HO; simp only [List.cons_append, List.nil_append] at HO) | ((with_reducible refine gate_callee (f := 62) rfl ?_); refine goesL_ (some 109) rfl rfl Try.func62 (by kernel_rfl) rfl #[.string (⟨#[57, 54]⟩ : ByteArray)] rfl (by (try simp only [List.map_toArray, List.map_cons, List.map_nil]); first | done | rfl | (simp only [hq.1]; done) | (simp only [hq.1]; rfl)) ?_; refine Calls.mono (calls_of_args (by first | ((try simp only [hq.1]) <;> rfl) | fail) (bursarref22_no.calls (⟨#[57, 54]⟩ : ByteArray) t346 t347 t348 t349 t350 t351 t352 t353 t354 t355 t356 t357 t358 t359 t360 _ A77.out)) ?_; rintro e w87 ⟨he_, hb⟩; (try rw [← hQ9.out] at he_); subst he_; refine ⟨_, rfl, ?_⟩; replace HO := Aside0.mk (Ow.Own.call HO.out hb); clear hb) | ((with_reducible refine Ow.gate_build rfl ?_); (try (refine gate_guard (by rfl) ?_; dsimp only)); refine' Ow.tbuild Ot.bd rfl rfl rfl ?hf_ ?_; (case hf_ => repeat (any_goals (first | exact Ow.Fills.nil | (refine' Ow.Fills.c ?hv_ rfl ?hz_ ?_; (case hv_ => first | exact Ow.ev_tmp rfl | rfl); (case hz_ => first | (refine ⟨?_, ?_⟩ <;> (first | ((try simp only [hq.1]) <;> rfl) | fail)) | fail)))))) | ((with_reducible refine Ow.gate_load rfl ?_); (try (refine gate_guard (by rfl) ?_; dsimp only)); (first | refine Ow.l1 Ot.ty HO.out rfl rfl rfl rfl (by first | ((try simp only [hq.1]) <;> rfl) | fail) ?_ | refine Ow.l0 Ot.ty HO.out rfl rfl rfl rfl (by first | ((try simp only [hq.1]) <;> rfl) | fail) ?_ | refine Ow.lp Ot.ty HO.out rfl rfl rfl rfl (by first | ((try simp only [hq.1]) <;> rfl) | fail) ?_)) | ((with_reducible refine gate_store rfl ?_); (try (refine gate_guard (by rfl) ?_; dsimp only)); (first | refine Ow.s0 Ot.ty HO.out rfl rfl rfl rfl rfl (by first | exact Ow.ev_tmp rfl | rfl) (by first | (refine ⟨?_, ?_, ?_⟩ <;> (first | ((try simp only [hq.1]) <;> rfl) | fail)) | fail) ?_ | refine Ow.sp Ot.ty HO.out rfl rfl rfl rfl rfl (by first | exact Ow.ev_tmp rfl | rfl) (by first | (refine ⟨?_, ?_, ?_⟩ <;> (first | ((try simp only [hq.1]) <;> rfl) | fail)) | fail) ?_); clear HO; intro wz_ HO; simp only [List.set_cons_zero, List.set_cons_succ] at HO))
                                refine' bodyPost_ret (results_cell_row rfl _ _ gb169 53 _ (0, 0) _ rfl ?hb_ Try.underlying53 rfl ?hi_) rfl ?_
                                case hb_ => refine' Ow.Own.get HO.out 1 ?hk_; (case hk_ => rfl)
                                case hi_ => exact (Ot.ty.size 53 rfl).trans (congrArg some (by first | ((try simp only [hq.1]) <;> rfl) | fail))
                                all_goals exact ⟨by first | rfl | (simp only [hq.1]; done) | (simp only [hq.1]; rfl) | (simp [errW_none, errW_some] <;> rfl) | (simp [*, errW_none, errW_some] <;> rfl), Ow.Own.below HO.out⟩
                              · rw [if_neg c76] at H
                                have c76b0 : decide (9999999999999 < t340) = false := decide_eq_false c76
                                clear c76
                                simp only [Option.some.injEq, Prod.mk.injEq] at H
                                obtain ⟨rfl, rfl, rfl, rfl, rfl, rfl, rfl, rfl, rfl, rfl, rfl, rfl, rfl, rfl, rfl⟩ := H
                                go_wp2_with (first | ((with_reducible refine gate_callee (f := 63) rfl ?_); refine goesL_ (some 99) rfl rfl Try.func63 (by kernel_rfl) rfl #[.agg #[.string a0_14, .string a0_15, .string a0_16, .int .i64 a0_17, .int .i64 a0_18, .int .i64 a0_19, .bool true], .int .i64 a0_3, .int .i64 (wrap64 (a0_22 + 100))] rfl (by (try simp only [List.map_toArray, List.map_cons, List.map_nil]); first | done | rfl | (simp only [hq.1]; done) | (simp only [hq.1]; rfl)) ?_; refine Calls.mono (calls_of_args (by first | ((try simp only [hq.1]) <;> rfl) | fail) (bursarref14_More.calls kj26 a0_14 a0_15 a0_16 a0_17 a0_18 a0_19 true a0_3 (wrap64 (a0_22 + 100)) t337 t338 t339 t340 t341 t342 t343 t344 _ A74.out)) ?_; rintro e w92 ⟨he_, hb⟩; subst he_; refine ⟨_, rfl, ?_⟩; replace HO := Aside0.mk (Ow.Own.call HO.out hb); clear hb) | ((with_reducible refine gate_dst (N := 5) rfl ?_); refine Ow.box rfl (N := 5) rfl (cs := bursarref22_Auth.Z7) (t := 25) HO.out (by first | (go_simp; done) | (go_simp; rfl)) ?_; clear HO; intro gb345 w93 HO; simp only [List.cons_append, List.nil_append] at HO) | ((with_reducible refine Ow.gate_build rfl ?_); (try (refine gate_guard (by rfl) ?_; dsimp only)); refine' Ow.tbuild Ot.bd rfl rfl rfl ?hf_ ?_; (case hf_ => repeat (any_goals (first | exact Ow.Fills.nil | (refine' Ow.Fills.c ?hv_ rfl ?hz_ ?_; (case hv_ => first | exact Ow.ev_tmp rfl | rfl); (case hz_ => first | (refine ⟨?_, ?_⟩ <;> (first | ((try simp only [hq.1]) <;> rfl) | fail)) | fail)))))) | ((with_reducible refine Ow.gate_load rfl ?_); (try (refine gate_guard (by rfl) ?_; dsimp only)); (first | refine Ow.l1 Ot.ty HO.out rfl rfl rfl rfl (by first | ((try simp only [hq.1]) <;> rfl) | fail) ?_ | refine Ow.l0 Ot.ty HO.out rfl rfl rfl rfl (by first | ((try simp only [hq.1]) <;> rfl) | fail) ?_ | refine Ow.lp Ot.ty HO.out rfl rfl rfl rfl (by first | ((try simp only [hq.1]) <;> rfl) | fail) ?_)) | ((with_reducible refine gate_store rfl ?_); (try (refine gate_guard (by rfl) ?_; dsimp only)); (first | refine Ow.s0 Ot.ty HO.out rfl rfl rfl rfl rfl (by first | exact Ow.ev_tmp rfl | rfl) (by first | (refine ⟨?_, ?_, ?_⟩ <;> (first | ((try simp only [hq.1]) <;> rfl) | fail)) | fail) ?_ | refine Ow.sp Ot.ty HO.out rfl rfl rfl rfl rfl (by first | exact Ow.ev_tmp rfl | rfl) (by first | (refine ⟨?_, ?_, ?_⟩ <;> (first | ((try simp only [hq.1]) <;> rfl) | fail)) | fail) ?_); clear HO; intro wz_ HO; simp only [List.set_cons_zero, List.set_cons_succ] at HO))
                                refine' bodyPost_ret (results_cell_row rfl _ _ gb169 53 _ (0, 0) _ rfl ?hb_ Try.underlying53 rfl ?hi_) rfl ?_
                                case hb_ => refine' Ow.Own.get HO.out 1 ?hk_; (case hk_ => rfl)
                                case hi_ => exact (Ot.ty.size 53 rfl).trans (congrArg some (by first | ((try simp only [hq.1]) <;> rfl) | fail))
                                all_goals exact ⟨by first | rfl | (simp only [hq.1]; done) | (simp only [hq.1]; rfl) | (simp [errW_none, errW_some] <;> rfl) | (simp [*, errW_none, errW_some] <;> rfl), Ow.Own.below HO.out⟩
                            · rw [if_neg c75] at H
                              have c75b0 : (t344 == 0) = false := beq_eq_false_iff_ne.mpr c75
                              have c75b1 : (t344 != 0) = true := bne_iff_ne.mpr c75
                              replace H := Option.bind_eq_some_iff.mp H
                              obtain ⟨⟨t361, t362, t363, t364, t365, t366, t367, t368, t369, t370, t371, t372, t373, t374, t375⟩, A1010, H⟩ := H
                              replace H : (some (t361, t362, t363, t364, t365, t366, t367, t368, t369, t370, t371, t372, t373, t374, t375)) = some (r1, r2, r3, r4, r5, r6, r7, r8, r9, r10, r11, r12, r13, r14, r15) := H
                              have A101 := Aside0.mk A1010
                              clear A1010
                              simp only [Option.some.injEq, Prod.mk.injEq] at H
                              obtain ⟨rfl, rfl, rfl, rfl, rfl, rfl, rfl, rfl, rfl, rfl, rfl, rfl, rfl, rfl, rfl⟩ := H
                              obtain ⟨Q10, hQ10_⟩ : ∃ q_ : Array Value, q_ = (#[.string t361, .string t362, .string t363, .string t364, .int .i64 t365, .int .i64 t366, .int .i64 t367, .bool t368, .bool t369, .int .i64 t370, .int .i64 t371, .string t372, .string t373, .string t374, .int .i64 t375] : Array Value) := ⟨_, rfl⟩
                              try rw [← hQ10_]
                              have hQ10 := Aside0.mk hQ10_; replace hq := Aside0.mk (And.intro hQ10_ hq.1); clear hQ10_
                              go_wp2_with (first | ((with_reducible refine gate_callee (f := 63) rfl ?_); refine goesL_ (some 99) rfl rfl Try.func63 (by kernel_rfl) rfl #[.agg #[.string a0_14, .string a0_15, .string a0_16, .int .i64 a0_17, .int .i64 a0_18, .int .i64 a0_19, .bool true], .int .i64 a0_3, .int .i64 (wrap64 (a0_22 + 100))] rfl (by (try simp only [List.map_toArray, List.map_cons, List.map_nil]); first | done | rfl | (simp only [hq.1]; done) | (simp only [hq.1]; rfl)) ?_; refine Calls.mono (calls_of_args (by first | ((try simp only [hq.1]) <;> rfl) | fail) (bursarref14_More.calls kj26 a0_14 a0_15 a0_16 a0_17 a0_18 a0_19 true a0_3 (wrap64 (a0_22 + 100)) t337 t338 t339 t340 t341 t342 t343 t344 _ A74.out)) ?_; rintro e w104 ⟨he_, hb⟩; subst he_; refine ⟨_, rfl, ?_⟩; replace HO := Aside0.mk (Ow.Own.call HO.out hb); clear hb) | ((with_reducible refine gate_dst (N := 5) rfl ?_); refine Ow.box rfl (N := 5) rfl (cs := bursarref22_Auth.Z7) (t := 25) HO.out (by first | (go_simp; done) | (go_simp; rfl)) ?_; clear HO; intro gb345 w105 HO; simp only [List.cons_append, List.nil_append] at HO) | ((with_reducible refine gate_callee (f := 62) rfl ?_); refine goesL_ (some 109) rfl rfl Try.func62 (by kernel_rfl) rfl #[.string (⟨#[57, 54]⟩ : ByteArray)] rfl (by (try simp only [List.map_toArray, List.map_cons, List.map_nil]); first | done | rfl | (simp only [hq.1]; done) | (simp only [hq.1]; rfl)) ?_; refine Calls.mono (calls_of_args (by first | ((try simp only [hq.1]) <;> rfl) | fail) (bursarref22_no.calls (⟨#[57, 54]⟩ : ByteArray) t361 t362 t363 t364 t365 t366 t367 t368 t369 t370 t371 t372 t373 t374 t375 _ A101.out)) ?_; rintro e w110 ⟨he_, hb⟩; (try rw [← hQ10.out] at he_); subst he_; refine ⟨_, rfl, ?_⟩; replace HO := Aside0.mk (Ow.Own.call HO.out hb); clear hb) | ((with_reducible refine Ow.gate_build rfl ?_); (try (refine gate_guard (by rfl) ?_; dsimp only)); refine' Ow.tbuild Ot.bd rfl rfl rfl ?hf_ ?_; (case hf_ => repeat (any_goals (first | exact Ow.Fills.nil | (refine' Ow.Fills.c ?hv_ rfl ?hz_ ?_; (case hv_ => first | exact Ow.ev_tmp rfl | rfl); (case hz_ => first | (refine ⟨?_, ?_⟩ <;> (first | ((try simp only [hq.1]) <;> rfl) | fail)) | fail)))))) | ((with_reducible refine Ow.gate_load rfl ?_); (try (refine gate_guard (by rfl) ?_; dsimp only)); (first | refine Ow.l1 Ot.ty HO.out rfl rfl rfl rfl (by first | ((try simp only [hq.1]) <;> rfl) | fail) ?_ | refine Ow.l0 Ot.ty HO.out rfl rfl rfl rfl (by first | ((try simp only [hq.1]) <;> rfl) | fail) ?_ | refine Ow.lp Ot.ty HO.out rfl rfl rfl rfl (by first | ((try simp only [hq.1]) <;> rfl) | fail) ?_)) | ((with_reducible refine gate_store rfl ?_); (try (refine gate_guard (by rfl) ?_; dsimp only)); (first | refine Ow.s0 Ot.ty HO.out rfl rfl rfl rfl rfl (by first | exact Ow.ev_tmp rfl | rfl) (by first | (refine ⟨?_, ?_, ?_⟩ <;> (first | ((try simp only [hq.1]) <;> rfl) | fail)) | fail) ?_ | refine Ow.sp Ot.ty HO.out rfl rfl rfl rfl rfl (by first | exact Ow.ev_tmp rfl | rfl) (by first | (refine ⟨?_, ?_, ?_⟩ <;> (first | ((try simp only [hq.1]) <;> rfl) | fail)) | fail) ?_); clear HO; intro wz_ HO; simp only [List.set_cons_zero, List.set_cons_succ] at HO))
                              refine' bodyPost_ret (results_cell_row rfl _ _ gb169 53 _ (0, 0) _ rfl ?hb_ Try.underlying53 rfl ?hi_) rfl ?_
                              case hb_ => refine' Ow.Own.get HO.out 1 ?hk_; (case hk_ => rfl)
                              case hi_ => exact (Ot.ty.size 53 rfl).trans (congrArg some (by first | ((try simp only [hq.1]) <;> rfl) | fail))
                              all_goals exact ⟨by first | rfl | (simp only [hq.1]; done) | (simp only [hq.1]; rfl) | (simp [errW_none, errW_some] <;> rfl) | (simp [*, errW_none, errW_some] <;> rfl), Ow.Own.below HO.out⟩
                        · replace c66 := Bool.eq_false_iff.mpr c66
                          subst c66
                          have H1 : ((bursarref22_no.f (⟨#[53, 52]⟩ : ByteArray)).bind fun bt307 => (some (bt307.1, bt307.2.1, bt307.2.2.1, bt307.2.2.2.1, bt307.2.2.2.2.1, bt307.2.2.2.2.2.1, bt307.2.2.2.2.2.2.1, bt307.2.2.2.2.2.2.2.1, bt307.2.2.2.2.2.2.2.2.1, bt307.2.2.2.2.2.2.2.2.2.1, bt307.2.2.2.2.2.2.2.2.2.2.1, bt307.2.2.2.2.2.2.2.2.2.2.2.1, bt307.2.2.2.2.2.2.2.2.2.2.2.2.1, bt307.2.2.2.2.2.2.2.2.2.2.2.2.2.1, bt307.2.2.2.2.2.2.2.2.2.2.2.2.2.2))) = some (r1, r2, r3, r4, r5, r6, r7, r8, r9, r10, r11, r12, r13, r14, r15) := by rw [if_neg (show ¬ (false = true) by decide)] at H; exact H
                          clear H
                          have H := H1
                          clear H1
                          replace H := Option.bind_eq_some_iff.mp H
                          obtain ⟨⟨t307, t308, t309, t310, t311, t312, t313, t314, t315, t316, t317, t318, t319, t320, t321⟩, A1130, H⟩ := H
                          replace H : (some (t307, t308, t309, t310, t311, t312, t313, t314, t315, t316, t317, t318, t319, t320, t321)) = some (r1, r2, r3, r4, r5, r6, r7, r8, r9, r10, r11, r12, r13, r14, r15) := H
                          have A113 := Aside0.mk A1130
                          clear A1130
                          simp only [Option.some.injEq, Prod.mk.injEq] at H
                          obtain ⟨rfl, rfl, rfl, rfl, rfl, rfl, rfl, rfl, rfl, rfl, rfl, rfl, rfl, rfl, rfl⟩ := H
                          obtain ⟨Q11, hQ11_⟩ : ∃ q_ : Array Value, q_ = (#[.string t307, .string t308, .string t309, .string t310, .int .i64 t311, .int .i64 t312, .int .i64 t313, .bool t314, .bool t315, .int .i64 t316, .int .i64 t317, .string t318, .string t319, .string t320, .int .i64 t321] : Array Value) := ⟨_, rfl⟩
                          try rw [← hQ11_]
                          have hQ11 := Aside0.mk hQ11_; replace hq := Aside0.mk (And.intro hQ11_ hq.1); clear hQ11_
                          go_wp2_with (first | ((with_reducible refine gate_callee (f := 62) rfl ?_); refine goesL_ (some 87) rfl rfl Try.func62 (by kernel_rfl) rfl #[.string (⟨#[53, 52]⟩ : ByteArray)] rfl (by (try simp only [List.map_toArray, List.map_cons, List.map_nil]); first | done | rfl | (simp only [hq.1]; done) | (simp only [hq.1]; rfl)) ?_; refine Calls.mono (calls_of_args (by first | ((try simp only [hq.1]) <;> rfl) | fail) (bursarref22_no.calls (⟨#[53, 52]⟩ : ByteArray) t307 t308 t309 t310 t311 t312 t313 t314 t315 t316 t317 t318 t319 t320 t321 _ A113.out)) ?_; rintro e w116 ⟨he_, hb⟩; (try rw [← hQ11.out] at he_); subst he_; refine ⟨_, rfl, ?_⟩; replace HO := Aside0.mk (Ow.Own.call HO.out hb); clear hb) | ((with_reducible refine Ow.gate_build rfl ?_); (try (refine gate_guard (by rfl) ?_; dsimp only)); refine' Ow.tbuild Ot.bd rfl rfl rfl ?hf_ ?_; (case hf_ => repeat (any_goals (first | exact Ow.Fills.nil | (refine' Ow.Fills.c ?hv_ rfl ?hz_ ?_; (case hv_ => first | exact Ow.ev_tmp rfl | rfl); (case hz_ => first | (refine ⟨?_, ?_⟩ <;> (first | ((try simp only [hq.1]) <;> rfl) | fail)) | fail)))))) | ((with_reducible refine Ow.gate_load rfl ?_); (try (refine gate_guard (by rfl) ?_; dsimp only)); (first | refine Ow.l1 Ot.ty HO.out rfl rfl rfl rfl (by first | ((try simp only [hq.1]) <;> rfl) | fail) ?_ | refine Ow.l0 Ot.ty HO.out rfl rfl rfl rfl (by first | ((try simp only [hq.1]) <;> rfl) | fail) ?_ | refine Ow.lp Ot.ty HO.out rfl rfl rfl rfl (by first | ((try simp only [hq.1]) <;> rfl) | fail) ?_)) | ((with_reducible refine gate_store rfl ?_); (try (refine gate_guard (by rfl) ?_; dsimp only)); (first | refine Ow.s0 Ot.ty HO.out rfl rfl rfl rfl rfl (by first | exact Ow.ev_tmp rfl | rfl) (by first | (refine ⟨?_, ?_, ?_⟩ <;> (first | ((try simp only [hq.1]) <;> rfl) | fail)) | fail) ?_ | refine Ow.sp Ot.ty HO.out rfl rfl rfl rfl rfl (by first | exact Ow.ev_tmp rfl | rfl) (by first | (refine ⟨?_, ?_, ?_⟩ <;> (first | ((try simp only [hq.1]) <;> rfl) | fail)) | fail) ?_); clear HO; intro wz_ HO; simp only [List.set_cons_zero, List.set_cons_succ] at HO))
                          refine' bodyPost_ret (results_cell_row rfl _ _ gb169 53 _ (0, 0) _ rfl ?hb_ Try.underlying53 rfl ?hi_) rfl ?_
                          case hb_ => refine' Ow.Own.get HO.out 1 ?hk_; (case hk_ => rfl)
                          case hi_ => exact (Ot.ty.size 53 rfl).trans (congrArg some (by first | ((try simp only [hq.1]) <;> rfl) | fail))
                          all_goals exact ⟨by first | rfl | (simp only [hq.1]; done) | (simp only [hq.1]; rfl) | (simp [errW_none, errW_some] <;> rfl) | (simp [*, errW_none, errW_some] <;> rfl), Ow.Own.below HO.out⟩
                      · rw [if_neg c65] at H
                        have c65b0 : (a0_16.toList == a0_1.toList) = false := beq_eq_false_iff_ne.mpr c65
                        have c65b1 : (a0_16.toList != a0_1.toList) = true := bne_iff_ne.mpr c65
                        replace H := Option.bind_eq_some_iff.mp H
                        obtain ⟨⟨t292, t293, t294, t295, t296, t297, t298, t299, t300, t301, t302, t303, t304, t305, t306⟩, A1190, H⟩ := H
                        replace H : (some (t292, t293, t294, t295, t296, t297, t298, t299, t300, t301, t302, t303, t304, t305, t306)) = some (r1, r2, r3, r4, r5, r6, r7, r8, r9, r10, r11, r12, r13, r14, r15) := H
                        have A119 := Aside0.mk A1190
                        clear A1190
                        simp only [Option.some.injEq, Prod.mk.injEq] at H
                        obtain ⟨rfl, rfl, rfl, rfl, rfl, rfl, rfl, rfl, rfl, rfl, rfl, rfl, rfl, rfl, rfl⟩ := H
                        obtain ⟨Q12, hQ12_⟩ : ∃ q_ : Array Value, q_ = (#[.string t292, .string t293, .string t294, .string t295, .int .i64 t296, .int .i64 t297, .int .i64 t298, .bool t299, .bool t300, .int .i64 t301, .int .i64 t302, .string t303, .string t304, .string t305, .int .i64 t306] : Array Value) := ⟨_, rfl⟩
                        try rw [← hQ12_]
                        have hQ12 := Aside0.mk hQ12_; replace hq := Aside0.mk (And.intro hQ12_ hq.1); clear hQ12_
                        go_wp2_with (first | ((with_reducible refine gate_callee (f := 62) rfl ?_); refine goesL_ (some 82) rfl rfl Try.func62 (by kernel_rfl) rfl #[.string (⟨#[49, 52]⟩ : ByteArray)] rfl (by (try simp only [List.map_toArray, List.map_cons, List.map_nil]); first | done | rfl | (simp only [hq.1]; done) | (simp only [hq.1]; rfl)) ?_; refine Calls.mono (calls_of_args (by first | ((try simp only [hq.1]) <;> rfl) | fail) (bursarref22_no.calls (⟨#[49, 52]⟩ : ByteArray) t292 t293 t294 t295 t296 t297 t298 t299 t300 t301 t302 t303 t304 t305 t306 _ A119.out)) ?_; rintro e w122 ⟨he_, hb⟩; (try rw [← hQ12.out] at he_); subst he_; refine ⟨_, rfl, ?_⟩; replace HO := Aside0.mk (Ow.Own.call HO.out hb); clear hb) | ((with_reducible refine Ow.gate_build rfl ?_); (try (refine gate_guard (by rfl) ?_; dsimp only)); refine' Ow.tbuild Ot.bd rfl rfl rfl ?hf_ ?_; (case hf_ => repeat (any_goals (first | exact Ow.Fills.nil | (refine' Ow.Fills.c ?hv_ rfl ?hz_ ?_; (case hv_ => first | exact Ow.ev_tmp rfl | rfl); (case hz_ => first | (refine ⟨?_, ?_⟩ <;> (first | ((try simp only [hq.1]) <;> rfl) | fail)) | fail)))))) | ((with_reducible refine Ow.gate_load rfl ?_); (try (refine gate_guard (by rfl) ?_; dsimp only)); (first | refine Ow.l1 Ot.ty HO.out rfl rfl rfl rfl (by first | ((try simp only [hq.1]) <;> rfl) | fail) ?_ | refine Ow.l0 Ot.ty HO.out rfl rfl rfl rfl (by first | ((try simp only [hq.1]) <;> rfl) | fail) ?_ | refine Ow.lp Ot.ty HO.out rfl rfl rfl rfl (by first | ((try simp only [hq.1]) <;> rfl) | fail) ?_)) | ((with_reducible refine gate_store rfl ?_); (try (refine gate_guard (by rfl) ?_; dsimp only)); (first | refine Ow.s0 Ot.ty HO.out rfl rfl rfl rfl rfl (by first | exact Ow.ev_tmp rfl | rfl) (by first | (refine ⟨?_, ?_, ?_⟩ <;> (first | ((try simp only [hq.1]) <;> rfl) | fail)) | fail) ?_ | refine Ow.sp Ot.ty HO.out rfl rfl rfl rfl rfl (by first | exact Ow.ev_tmp rfl | rfl) (by first | (refine ⟨?_, ?_, ?_⟩ <;> (first | ((try simp only [hq.1]) <;> rfl) | fail)) | fail) ?_); clear HO; intro wz_ HO; simp only [List.set_cons_zero, List.set_cons_succ] at HO))
                        refine' bodyPost_ret (results_cell_row rfl _ _ gb169 53 _ (0, 0) _ rfl ?hb_ Try.underlying53 rfl ?hi_) rfl ?_
                        case hb_ => refine' Ow.Own.get HO.out 1 ?hk_; (case hk_ => rfl)
                        case hi_ => exact (Ot.ty.size 53 rfl).trans (congrArg some (by first | ((try simp only [hq.1]) <;> rfl) | fail))
                        all_goals exact ⟨by first | rfl | (simp only [hq.1]; done) | (simp only [hq.1]; rfl) | (simp [errW_none, errW_some] <;> rfl) | (simp [*, errW_none, errW_some] <;> rfl), Ow.Own.below HO.out⟩
                    · replace c64 := Bool.eq_false_iff.mpr c64
                      subst c64
                      have H1 : ((bursarref22_no.f (⟨#[50, 53]⟩ : ByteArray)).bind fun bt277 => (some (bt277.1, bt277.2.1, bt277.2.2.1, bt277.2.2.2.1, bt277.2.2.2.2.1, bt277.2.2.2.2.2.1, bt277.2.2.2.2.2.2.1, bt277.2.2.2.2.2.2.2.1, bt277.2.2.2.2.2.2.2.2.1, bt277.2.2.2.2.2.2.2.2.2.1, bt277.2.2.2.2.2.2.2.2.2.2.1, bt277.2.2.2.2.2.2.2.2.2.2.2.1, bt277.2.2.2.2.2.2.2.2.2.2.2.2.1, bt277.2.2.2.2.2.2.2.2.2.2.2.2.2.1, bt277.2.2.2.2.2.2.2.2.2.2.2.2.2.2))) = some (r1, r2, r3, r4, r5, r6, r7, r8, r9, r10, r11, r12, r13, r14, r15) := by rw [if_neg (show ¬ (false = true) by decide)] at H; exact H
                      clear H
                      have H := H1
                      clear H1
                      replace H := Option.bind_eq_some_iff.mp H
                      obtain ⟨⟨t277, t278, t279, t280, t281, t282, t283, t284, t285, t286, t287, t288, t289, t290, t291⟩, A1250, H⟩ := H
                      replace H : (some (t277, t278, t279, t280, t281, t282, t283, t284, t285, t286, t287, t288, t289, t290, t291)) = some (r1, r2, r3, r4, r5, r6, r7, r8, r9, r10, r11, r12, r13, r14, r15) := H
                      have A125 := Aside0.mk A1250
                      clear A1250
                      simp only [Option.some.injEq, Prod.mk.injEq] at H
                      obtain ⟨rfl, rfl, rfl, rfl, rfl, rfl, rfl, rfl, rfl, rfl, rfl, rfl, rfl, rfl, rfl⟩ := H
                      obtain ⟨Q13, hQ13_⟩ : ∃ q_ : Array Value, q_ = (#[.string t277, .string t278, .string t279, .string t280, .int .i64 t281, .int .i64 t282, .int .i64 t283, .bool t284, .bool t285, .int .i64 t286, .int .i64 t287, .string t288, .string t289, .string t290, .int .i64 t291] : Array Value) := ⟨_, rfl⟩
                      try rw [← hQ13_]
                      have hQ13 := Aside0.mk hQ13_; replace hq := Aside0.mk (And.intro hQ13_ hq.1); clear hQ13_
                      go_wp2_with (first | ((with_reducible refine gate_callee (f := 62) rfl ?_); refine goesL_ (some 74) rfl rfl Try.func62 (by kernel_rfl) rfl #[.string (⟨#[50, 53]⟩ : ByteArray)] rfl (by (try simp only [List.map_toArray, List.map_cons, List.map_nil]); first | done | rfl | (simp only [hq.1]; done) | (simp only [hq.1]; rfl)) ?_; refine Calls.mono (calls_of_args (by first | ((try simp only [hq.1]) <;> rfl) | fail) (bursarref22_no.calls (⟨#[50, 53]⟩ : ByteArray) t277 t278 t279 t280 t281 t282 t283 t284 t285 t286 t287 t288 t289 t290 t291 _ A125.out)) ?_; rintro e w128 ⟨he_, hb⟩; (try rw [← hQ13.out] at he_); subst he_; refine ⟨_, rfl, ?_⟩; replace HO := Aside0.mk (Ow.Own.call HO.out hb); clear hb) | ((with_reducible refine Ow.gate_build rfl ?_); (try (refine gate_guard (by rfl) ?_; dsimp only)); refine' Ow.tbuild Ot.bd rfl rfl rfl ?hf_ ?_; (case hf_ => repeat (any_goals (first | exact Ow.Fills.nil | (refine' Ow.Fills.c ?hv_ rfl ?hz_ ?_; (case hv_ => first | exact Ow.ev_tmp rfl | rfl); (case hz_ => first | (refine ⟨?_, ?_⟩ <;> (first | ((try simp only [hq.1]) <;> rfl) | fail)) | fail)))))) | ((with_reducible refine Ow.gate_load rfl ?_); (try (refine gate_guard (by rfl) ?_; dsimp only)); (first | refine Ow.l1 Ot.ty HO.out rfl rfl rfl rfl (by first | ((try simp only [hq.1]) <;> rfl) | fail) ?_ | refine Ow.l0 Ot.ty HO.out rfl rfl rfl rfl (by first | ((try simp only [hq.1]) <;> rfl) | fail) ?_ | refine Ow.lp Ot.ty HO.out rfl rfl rfl rfl (by first | ((try simp only [hq.1]) <;> rfl) | fail) ?_)) | ((with_reducible refine gate_store rfl ?_); (try (refine gate_guard (by rfl) ?_; dsimp only)); (first | refine Ow.s0 Ot.ty HO.out rfl rfl rfl rfl rfl (by first | exact Ow.ev_tmp rfl | rfl) (by first | (refine ⟨?_, ?_, ?_⟩ <;> (first | ((try simp only [hq.1]) <;> rfl) | fail)) | fail) ?_ | refine Ow.sp Ot.ty HO.out rfl rfl rfl rfl rfl (by first | exact Ow.ev_tmp rfl | rfl) (by first | (refine ⟨?_, ?_, ?_⟩ <;> (first | ((try simp only [hq.1]) <;> rfl) | fail)) | fail) ?_); clear HO; intro wz_ HO; simp only [List.set_cons_zero, List.set_cons_succ] at HO))
                      refine' bodyPost_ret (results_cell_row rfl _ _ gb169 53 _ (0, 0) _ rfl ?hb_ Try.underlying53 rfl ?hi_) rfl ?_
                      case hb_ => refine' Ow.Own.get HO.out 1 ?hk_; (case hk_ => rfl)
                      case hi_ => exact (Ot.ty.size 53 rfl).trans (congrArg some (by first | ((try simp only [hq.1]) <;> rfl) | fail))
                      all_goals exact ⟨by first | rfl | (simp only [hq.1]; done) | (simp only [hq.1]; rfl) | (simp [errW_none, errW_some] <;> rfl) | (simp [*, errW_none, errW_some] <;> rfl), Ow.Own.below HO.out⟩
                  · rw [if_neg c63] at H
                    have c63b0 : (x3_15.toList == ([48, 50] : List UInt8)) = false := beq_eq_false_iff_ne.mpr c63
                    have c63b1 : (x3_15.toList != ([48, 50] : List UInt8)) = true := bne_iff_ne.mpr c63
                    replace H := Option.bind_eq_some_iff.mp H
                    obtain ⟨⟨t262, t263, t264, t265, t266, t267, t268, t269, t270, t271, t272, t273, t274, t275, t276⟩, A1310, H⟩ := H
                    replace H : (some (t262, t263, t264, t265, t266, t267, t268, t269, t270, t271, t272, t273, t274, t275, t276)) = some (r1, r2, r3, r4, r5, r6, r7, r8, r9, r10, r11, r12, r13, r14, r15) := H
                    have A131 := Aside0.mk A1310
                    clear A1310
                    simp only [Option.some.injEq, Prod.mk.injEq] at H
                    obtain ⟨rfl, rfl, rfl, rfl, rfl, rfl, rfl, rfl, rfl, rfl, rfl, rfl, rfl, rfl, rfl⟩ := H
                    obtain ⟨Q14, hQ14_⟩ : ∃ q_ : Array Value, q_ = (#[.string t262, .string t263, .string t264, .string t265, .int .i64 t266, .int .i64 t267, .int .i64 t268, .bool t269, .bool t270, .int .i64 t271, .int .i64 t272, .string t273, .string t274, .string t275, .int .i64 t276] : Array Value) := ⟨_, rfl⟩
                    try rw [← hQ14_]
                    have hQ14 := Aside0.mk hQ14_; replace hq := Aside0.mk (And.intro hQ14_ hq.1); clear hQ14_
                    go_wp2_with (first | ((with_reducible refine gate_callee (f := 62) rfl ?_); refine goesL_ (some 70) rfl rfl Try.func62 (by kernel_rfl) rfl #[.string (⟨#[49, 50]⟩ : ByteArray)] rfl (by (try simp only [List.map_toArray, List.map_cons, List.map_nil]); first | done | rfl | (simp only [hq.1]; done) | (simp only [hq.1]; rfl)) ?_; refine Calls.mono (calls_of_args (by first | ((try simp only [hq.1]) <;> rfl) | fail) (bursarref22_no.calls (⟨#[49, 50]⟩ : ByteArray) t262 t263 t264 t265 t266 t267 t268 t269 t270 t271 t272 t273 t274 t275 t276 _ A131.out)) ?_; rintro e w132 ⟨he_, hb⟩; (try rw [← hQ14.out] at he_); subst he_; refine ⟨_, rfl, ?_⟩; replace HO := Aside0.mk (Ow.Own.call HO.out hb); clear hb) | ((with_reducible refine Ow.gate_build rfl ?_); (try (refine gate_guard (by rfl) ?_; dsimp only)); refine' Ow.tbuild Ot.bd rfl rfl rfl ?hf_ ?_; (case hf_ => repeat (any_goals (first | exact Ow.Fills.nil | (refine' Ow.Fills.c ?hv_ rfl ?hz_ ?_; (case hv_ => first | exact Ow.ev_tmp rfl | rfl); (case hz_ => first | (refine ⟨?_, ?_⟩ <;> (first | ((try simp only [hq.1]) <;> rfl) | fail)) | fail)))))) | ((with_reducible refine Ow.gate_load rfl ?_); (try (refine gate_guard (by rfl) ?_; dsimp only)); (first | refine Ow.l1 Ot.ty HO.out rfl rfl rfl rfl (by first | ((try simp only [hq.1]) <;> rfl) | fail) ?_ | refine Ow.l0 Ot.ty HO.out rfl rfl rfl rfl (by first | ((try simp only [hq.1]) <;> rfl) | fail) ?_ | refine Ow.lp Ot.ty HO.out rfl rfl rfl rfl (by first | ((try simp only [hq.1]) <;> rfl) | fail) ?_)) | ((with_reducible refine gate_store rfl ?_); (try (refine gate_guard (by rfl) ?_; dsimp only)); (first | refine Ow.s0 Ot.ty HO.out rfl rfl rfl rfl rfl (by first | exact Ow.ev_tmp rfl | rfl) (by first | (refine ⟨?_, ?_, ?_⟩ <;> (first | ((try simp only [hq.1]) <;> rfl) | fail)) | fail) ?_ | refine Ow.sp Ot.ty HO.out rfl rfl rfl rfl rfl (by first | exact Ow.ev_tmp rfl | rfl) (by first | (refine ⟨?_, ?_, ?_⟩ <;> (first | ((try simp only [hq.1]) <;> rfl) | fail)) | fail) ?_); clear HO; intro wz_ HO; simp only [List.set_cons_zero, List.set_cons_succ] at HO))
                    refine' bodyPost_ret (results_cell_row rfl _ _ gb169 53 _ (0, 0) _ rfl ?hb_ Try.underlying53 rfl ?hi_) rfl ?_
                    case hb_ => refine' Ow.Own.get HO.out 1 ?hk_; (case hk_ => rfl)
                    case hi_ => exact (Ot.ty.size 53 rfl).trans (congrArg some (by first | ((try simp only [hq.1]) <;> rfl) | fail))
                    all_goals exact ⟨by first | rfl | (simp only [hq.1]; done) | (simp only [hq.1]; rfl) | (simp [errW_none, errW_some] <;> rfl) | (simp [*, errW_none, errW_some] <;> rfl), Ow.Own.below HO.out⟩
      · replace c15 := Bool.eq_false_iff.mpr c15
        subst c15
        have H1 : ((bursarref22_no.f (⟨#[49, 52]⟩ : ByteArray)).bind fun bt201 => (some (bt201.1, bt201.2.1, bt201.2.2.1, bt201.2.2.2.1, bt201.2.2.2.2.1, bt201.2.2.2.2.2.1, bt201.2.2.2.2.2.2.1, bt201.2.2.2.2.2.2.2.1, bt201.2.2.2.2.2.2.2.2.1, bt201.2.2.2.2.2.2.2.2.2.1, bt201.2.2.2.2.2.2.2.2.2.2.1, bt201.2.2.2.2.2.2.2.2.2.2.2.1, bt201.2.2.2.2.2.2.2.2.2.2.2.2.1, bt201.2.2.2.2.2.2.2.2.2.2.2.2.2.1, bt201.2.2.2.2.2.2.2.2.2.2.2.2.2.2))) = some (r1, r2, r3, r4, r5, r6, r7, r8, r9, r10, r11, r12, r13, r14, r15) := by rw [if_neg (show ¬ (false = true) by decide)] at H; exact H
        clear H
        have H := H1
        clear H1
        replace H := Option.bind_eq_some_iff.mp H
        obtain ⟨⟨t201, t202, t203, t204, t205, t206, t207, t208, t209, t210, t211, t212, t213, t214, t215⟩, A1360, H⟩ := H
        replace H : (some (t201, t202, t203, t204, t205, t206, t207, t208, t209, t210, t211, t212, t213, t214, t215)) = some (r1, r2, r3, r4, r5, r6, r7, r8, r9, r10, r11, r12, r13, r14, r15) := H
        have A136 := Aside0.mk A1360
        clear A1360
        simp only [Option.some.injEq, Prod.mk.injEq] at H
        obtain ⟨rfl, rfl, rfl, rfl, rfl, rfl, rfl, rfl, rfl, rfl, rfl, rfl, rfl, rfl, rfl⟩ := H
        obtain ⟨Q15, hQ15_⟩ : ∃ q_ : Array Value, q_ = (#[.string a0_0, .string a0_1, .string a0_2, .int .i64 a0_3, .string a0_4, .string a0_5, .string a0_6, .string a0_7, .string a0_8, .int .i64 a0_9, .int .i64 a0_10, .string a0_11, .bool false, .int .i64 a0_13, .string a0_14, .string a0_15, .string a0_16, .int .i64 a0_17, .int .i64 a0_18, .int .i64 a0_19, .bool a0_20, .bool a0_21, .int .i64 a0_22, .int .i64 a0_23, .bool false] : Array Value) := ⟨_, rfl⟩
        try rw [← hQ15_]
        have hQ15 := Aside0.mk hQ15_; have hq := Aside0.mk hQ15_; clear hQ15_
        go_enter Try.func33, Try.ntmps33
        obtain ⟨Q16, hQ16_⟩ : ∃ q_ : Array Value, q_ = (#[.string t201, .string t202, .string t203, .string t204, .int .i64 t205, .int .i64 t206, .int .i64 t207, .bool t208, .bool t209, .int .i64 t210, .int .i64 t211, .string t212, .string t213, .string t214, .int .i64 t215] : Array Value) := ⟨_, rfl⟩
        try rw [← hQ16_]
        have hQ16 := Aside0.mk hQ16_; replace hq := Aside0.mk (And.intro hQ16_ hq.1); clear hQ16_
        go_wp2_with (first | ((with_reducible refine gate_dst (N := 1) rfl ?_); refine Ow.box rfl (N := 1) rfl (cs := Q15) (t := 27) HO.out (by first | (go_simp; done) | (go_simp; rfl)) ?_; clear HO; intro gb168 w137 HO; simp only [List.cons_append, List.nil_append] at HO) | ((with_reducible refine gate_dst (N := 2) rfl ?_); refine Ow.box rfl (N := 2) rfl (cs := bursarref22_Auth.Z15) (t := 53) HO.out (by first | (go_simp; done) | (go_simp; rfl)) ?_; clear HO; intro gb169 w138 HO; simp only [List.cons_append, List.nil_append] at HO) | ((with_reducible refine gate_callee (f := 35) rfl ?_); refine goesL_ (some 8) rfl rfl Try.func35 (by kernel_rfl) rfl #[.agg Q15] rfl (by (try simp only [List.map_toArray, List.map_cons, List.map_nil]); first | done | rfl | (simp only [hq.1]; done) | (simp only [hq.1]; rfl)) ?_; refine Calls.mono (calls_of_args (by first | ((try simp only [hq.1]) <;> rfl) | fail) (bursarref22_May.calls k a0_0 a0_1 a0_2 a0_3 a0_4 a0_5 a0_6 a0_7 a0_8 a0_9 a0_10 a0_11 false a0_13 a0_14 a0_15 a0_16 a0_17 a0_18 a0_19 a0_20 a0_21 a0_22 a0_23 false true _ A2.out)) ?_; rintro e w141 ⟨he_, hb⟩; subst he_; refine ⟨_, rfl, ?_⟩; replace HO := Aside0.mk (Ow.Own.call HO.out hb); clear hb) | ((with_reducible refine gate_callee (f := 62) rfl ?_); refine goesL_ (some 17) rfl rfl Try.func62 (by kernel_rfl) rfl #[.string (⟨#[49, 52]⟩ : ByteArray)] rfl (by (try simp only [List.map_toArray, List.map_cons, List.map_nil]); first | done | rfl | (simp only [hq.1]; done) | (simp only [hq.1]; rfl)) ?_; refine Calls.mono (calls_of_args (by first | ((try simp only [hq.1]) <;> rfl) | fail) (bursarref22_no.calls (⟨#[49, 52]⟩ : ByteArray) t201 t202 t203 t204 t205 t206 t207 t208 t209 t210 t211 t212 t213 t214 t215 _ A136.out)) ?_; rintro e w143 ⟨he_, hb⟩; (try rw [← hQ16.out] at he_); subst he_; refine ⟨_, rfl, ?_⟩; replace HO := Aside0.mk (Ow.Own.call HO.out hb); clear hb) | ((with_reducible refine Ow.gate_build rfl ?_); (try (refine gate_guard (by rfl) ?_; dsimp only)); refine' Ow.tbuild Ot.bd rfl rfl rfl ?hf_ ?_; (case hf_ => repeat (any_goals (first | exact Ow.Fills.nil | (refine' Ow.Fills.c ?hv_ rfl ?hz_ ?_; (case hv_ => first | exact Ow.ev_tmp rfl | rfl); (case hz_ => first | (refine ⟨?_, ?_⟩ <;> (first | ((try simp only [hq.1]) <;> rfl) | fail)) | fail)))))) | ((with_reducible refine Ow.gate_load rfl ?_); (try (refine gate_guard (by rfl) ?_; dsimp only)); (first | refine Ow.l1 Ot.ty HO.out rfl rfl rfl rfl (by first | ((try simp only [hq.1]) <;> rfl) | fail) ?_ | refine Ow.l0 Ot.ty HO.out rfl rfl rfl rfl (by first | ((try simp only [hq.1]) <;> rfl) | fail) ?_ | refine Ow.lp Ot.ty HO.out rfl rfl rfl rfl (by first | ((try simp only [hq.1]) <;> rfl) | fail) ?_)) | ((with_reducible refine gate_store rfl ?_); (try (refine gate_guard (by rfl) ?_; dsimp only)); (first | refine Ow.s0 Ot.ty HO.out rfl rfl rfl rfl rfl (by first | exact Ow.ev_tmp rfl | rfl) (by first | (refine ⟨?_, ?_, ?_⟩ <;> (first | ((try simp only [hq.1]) <;> rfl) | fail)) | fail) ?_ | refine Ow.sp Ot.ty HO.out rfl rfl rfl rfl rfl (by first | exact Ow.ev_tmp rfl | rfl) (by first | (refine ⟨?_, ?_, ?_⟩ <;> (first | ((try simp only [hq.1]) <;> rfl) | fail)) | fail) ?_); clear HO; intro wz_ HO; simp only [List.set_cons_zero, List.set_cons_succ] at HO))
        refine' bodyPost_ret (results_cell_row rfl _ _ gb169 53 _ (0, 0) _ rfl ?hb_ Try.underlying53 rfl ?hi_) rfl ?_
        case hb_ => refine' Ow.Own.get HO.out 1 ?hk_; (case hk_ => rfl)
        case hi_ => exact (Ot.ty.size 53 rfl).trans (congrArg some (by first | ((try simp only [hq.1]) <;> rfl) | fail))
        all_goals exact ⟨by first | rfl | (simp only [hq.1]; done) | (simp only [hq.1]; rfl) | (simp [errW_none, errW_some] <;> rfl) | (simp [*, errW_none, errW_some] <;> rfl), Ow.Own.below HO.out⟩
  · replace c3 := Bool.eq_false_iff.mpr c3
    subst c3
    have H1 : ((bursarref22_no.f (⟨#[51, 48]⟩ : ByteArray)).bind fun bt171 => (some (bt171.1, bt171.2.1, bt171.2.2.1, bt171.2.2.2.1, bt171.2.2.2.2.1, bt171.2.2.2.2.2.1, bt171.2.2.2.2.2.2.1, bt171.2.2.2.2.2.2.2.1, bt171.2.2.2.2.2.2.2.2.1, bt171.2.2.2.2.2.2.2.2.2.1, bt171.2.2.2.2.2.2.2.2.2.2.1, bt171.2.2.2.2.2.2.2.2.2.2.2.1, bt171.2.2.2.2.2.2.2.2.2.2.2.2.1, bt171.2.2.2.2.2.2.2.2.2.2.2.2.2.1, bt171.2.2.2.2.2.2.2.2.2.2.2.2.2.2))) = some (r1, r2, r3, r4, r5, r6, r7, r8, r9, r10, r11, r12, r13, r14, r15) := by rw [if_neg (show ¬ (false = true) by decide)] at H; exact H
    clear H
    have H := H1
    clear H1
    replace H := Option.bind_eq_some_iff.mp H
    obtain ⟨⟨t171, t172, t173, t174, t175, t176, t177, t178, t179, t180, t181, t182, t183, t184, t185⟩, A1460, H⟩ := H
    replace H : (some (t171, t172, t173, t174, t175, t176, t177, t178, t179, t180, t181, t182, t183, t184, t185)) = some (r1, r2, r3, r4, r5, r6, r7, r8, r9, r10, r11, r12, r13, r14, r15) := H
    have A146 := Aside0.mk A1460
    clear A1460
    simp only [Option.some.injEq, Prod.mk.injEq] at H
    obtain ⟨rfl, rfl, rfl, rfl, rfl, rfl, rfl, rfl, rfl, rfl, rfl, rfl, rfl, rfl, rfl⟩ := H
    obtain ⟨Q17, hQ17_⟩ : ∃ q_ : Array Value, q_ = (#[.string a0_0, .string a0_1, .string a0_2, .int .i64 a0_3, .string a0_4, .string a0_5, .string a0_6, .string a0_7, .string a0_8, .int .i64 a0_9, .int .i64 a0_10, .string a0_11, .bool a0_12, .int .i64 a0_13, .string a0_14, .string a0_15, .string a0_16, .int .i64 a0_17, .int .i64 a0_18, .int .i64 a0_19, .bool a0_20, .bool a0_21, .int .i64 a0_22, .int .i64 a0_23, .bool a0_24] : Array Value) := ⟨_, rfl⟩
    try rw [← hQ17_]
    have hQ17 := Aside0.mk hQ17_; have hq := Aside0.mk hQ17_; clear hQ17_
    go_enter Try.func33, Try.ntmps33
    obtain ⟨Q18, hQ18_⟩ : ∃ q_ : Array Value, q_ = (#[.string t171, .string t172, .string t173, .string t174, .int .i64 t175, .int .i64 t176, .int .i64 t177, .bool t178, .bool t179, .int .i64 t180, .int .i64 t181, .string t182, .string t183, .string t184, .int .i64 t185] : Array Value) := ⟨_, rfl⟩
    try rw [← hQ18_]
    have hQ18 := Aside0.mk hQ18_; replace hq := Aside0.mk (And.intro hQ18_ hq.1); clear hQ18_
    go_wp2_with (first | ((with_reducible refine gate_dst (N := 1) rfl ?_); refine Ow.box rfl (N := 1) rfl (cs := Q17) (t := 27) HO.out (by first | (go_simp; done) | (go_simp; rfl)) ?_; clear HO; intro gb168 w147 HO; simp only [List.cons_append, List.nil_append] at HO) | ((with_reducible refine gate_dst (N := 2) rfl ?_); refine Ow.box rfl (N := 2) rfl (cs := bursarref22_Auth.Z15) (t := 53) HO.out (by first | (go_simp; done) | (go_simp; rfl)) ?_; clear HO; intro gb169 w148 HO; simp only [List.cons_append, List.nil_append] at HO) | ((with_reducible refine gate_callee (f := 35) rfl ?_); refine goesL_ (some 8) rfl rfl Try.func35 (by kernel_rfl) rfl #[.agg Q17] rfl (by (try simp only [List.map_toArray, List.map_cons, List.map_nil]); first | done | rfl | (simp only [hq.1]; done) | (simp only [hq.1]; rfl)) ?_; refine Calls.mono (calls_of_args (by first | ((try simp only [hq.1]) <;> rfl) | fail) (bursarref22_May.calls k a0_0 a0_1 a0_2 a0_3 a0_4 a0_5 a0_6 a0_7 a0_8 a0_9 a0_10 a0_11 a0_12 a0_13 a0_14 a0_15 a0_16 a0_17 a0_18 a0_19 a0_20 a0_21 a0_22 a0_23 a0_24 false _ A2.out)) ?_; rintro e w151 ⟨he_, hb⟩; subst he_; refine ⟨_, rfl, ?_⟩; replace HO := Aside0.mk (Ow.Own.call HO.out hb); clear hb) | ((with_reducible refine gate_callee (f := 62) rfl ?_); refine goesL_ (some 10) rfl rfl Try.func62 (by kernel_rfl) rfl #[.string (⟨#[51, 48]⟩ : ByteArray)] rfl (by (try simp only [List.map_toArray, List.map_cons, List.map_nil]); first | done | rfl | (simp only [hq.1]; done) | (simp only [hq.1]; rfl)) ?_; refine Calls.mono (calls_of_args (by first | ((try simp only [hq.1]) <;> rfl) | fail) (bursarref22_no.calls (⟨#[51, 48]⟩ : ByteArray) t171 t172 t173 t174 t175 t176 t177 t178 t179 t180 t181 t182 t183 t184 t185 _ A146.out)) ?_; rintro e w152 ⟨he_, hb⟩; (try rw [← hQ18.out] at he_); subst he_; refine ⟨_, rfl, ?_⟩; replace HO := Aside0.mk (Ow.Own.call HO.out hb); clear hb) | ((with_reducible refine Ow.gate_build rfl ?_); (try (refine gate_guard (by rfl) ?_; dsimp only)); refine' Ow.tbuild Ot.bd rfl rfl rfl ?hf_ ?_; (case hf_ => repeat (any_goals (first | exact Ow.Fills.nil | (refine' Ow.Fills.c ?hv_ rfl ?hz_ ?_; (case hv_ => first | exact Ow.ev_tmp rfl | rfl); (case hz_ => first | (refine ⟨?_, ?_⟩ <;> (first | ((try simp only [hq.1]) <;> rfl) | fail)) | fail)))))) | ((with_reducible refine Ow.gate_load rfl ?_); (try (refine gate_guard (by rfl) ?_; dsimp only)); (first | refine Ow.l1 Ot.ty HO.out rfl rfl rfl rfl (by first | ((try simp only [hq.1]) <;> rfl) | fail) ?_ | refine Ow.l0 Ot.ty HO.out rfl rfl rfl rfl (by first | ((try simp only [hq.1]) <;> rfl) | fail) ?_ | refine Ow.lp Ot.ty HO.out rfl rfl rfl rfl (by first | ((try simp only [hq.1]) <;> rfl) | fail) ?_)) | ((with_reducible refine gate_store rfl ?_); (try (refine gate_guard (by rfl) ?_; dsimp only)); (first | refine Ow.s0 Ot.ty HO.out rfl rfl rfl rfl rfl (by first | exact Ow.ev_tmp rfl | rfl) (by first | (refine ⟨?_, ?_, ?_⟩ <;> (first | ((try simp only [hq.1]) <;> rfl) | fail)) | fail) ?_ | refine Ow.sp Ot.ty HO.out rfl rfl rfl rfl rfl (by first | exact Ow.ev_tmp rfl | rfl) (by first | (refine ⟨?_, ?_, ?_⟩ <;> (first | ((try simp only [hq.1]) <;> rfl) | fail)) | fail) ?_); clear HO; intro wz_ HO; simp only [List.set_cons_zero, List.set_cons_succ] at HO))
    refine' bodyPost_ret (results_cell_row rfl _ _ gb169 53 _ (0, 0) _ rfl ?hb_ Try.underlying53 rfl ?hi_) rfl ?_
    case hb_ => refine' Ow.Own.get HO.out 1 ?hk_; (case hk_ => rfl)
    case hi_ => exact (Ot.ty.size 53 rfl).trans (congrArg some (by first | ((try simp only [hq.1]) <;> rfl) | fail))
    all_goals exact ⟨by first | rfl | (simp only [hq.1]; done) | (simp only [hq.1]; rfl) | (simp [errW_none, errW_some] <;> rfl) | (simp [*, errW_none, errW_some] <;> rfl), Ow.Own.below HO.out⟩

end Go.Proofs.Ytddlmcaclbkopaa.XAU
