-- Written by wip/xprint.py, a session's program: printed out of the translation, with hand-written functions. Lean checks it.
import Derived.Test.YtddlmcaclbkopaaXDG0
import Derived.Test.YtddlmcaclbkopaaXDG1
import Derived.Test.YtddlmcaclbkopaaXDG2
import Derived.Test.YtddlmcaclbkopaaXDG3
import Derived.Test.YtddlmcaclbkopaaXDG8
import Derived.Test.YtddlmcaclbkopaaXDG9
import Derived.Test.YtddlmcaclbkopaaXDG10
import Derived.Test.YtddlmcaclbkopaaXDG12
namespace Go.Proofs.Ytddlmcaclbkopaa.XDG
open Go.RowKit Go.Proofs.YtddlmcaclbkopaaW.PrintWords Go.Proofs.YtddlmcaclbkopaaW.PrintLast Go.Proofs.YtddlmcaclbkopaaW.PrintMore
attribute [local go_sem] max2_int min2_int max_two min_two max_three min_three max_four min_four   -- for this text's walks alone
set_option linter.unusedVariables false
set_option linter.unusedSimpArgs false

attribute [local go_sem high] eqA29 eqA36
/-! ### bursarlaw26_DisputeGoes: function 5 -/
mutual
def bursarlaw26_DisputeGoes.l0 : Nat → List (S23) → List Int → Bool → Int → Int → Int → ByteArray → ByteArray → ByteArray → Int → ByteArray → ByteArray → ByteArray → ByteArray → ByteArray → Int → Int → ByteArray → Bool → Int → ByteArray → ByteArray → ByteArray → Int → Int → Int → Bool → Bool → Int → Int → Bool → ByteArray → ByteArray → ByteArray → Int → Int → Int → Option (Bool)
  | 0, _, _, _, _, _, _, _, _, _, _, _, _, _, _, _, _, _, _, _, _, _, _, _, _, _, _, _, _, _, _, _, _, _, _, _, _, _ => none
  | k + 1, x1, x2, x8, x9, x10, x11, x308000, x308001, x308002, x308003, x308004, x308005, x308006, x308007, x308008, x308009, x308010, x308011, x308012, x308013, x308014, x308015, x308016, x308017, x308018, x308019, x308020, x308021, x308022, x308023, x308024, x334000, x334001, x334002, x334003, x334004, x334005 => if x11 < (x1.length : Int) then (bursarlaw26_DisputeGoes.j1 k x1 x2 x8 x9 x10 x11 (decide (x11 < 20)) x308000 x308001 x308002 x308003 x308004 x308005 x308006 x308007 x308008 x308009 x308010 x308011 x308012 x308013 x308014 x308015 x308016 x308017 x308018 x308019 x308020 x308021 x308022 x308023 x308024 x334000 x334001 x334002 x334003 x334004 x334005) else (bursarlaw26_DisputeGoes.j1 k x1 x2 x8 x9 x10 x11 false x308000 x308001 x308002 x308003 x308004 x308005 x308006 x308007 x308008 x308009 x308010 x308011 x308012 x308013 x308014 x308015 x308016 x308017 x308018 x308019 x308020 x308021 x308022 x308023 x308024 x334000 x334001 x334002 x334003 x334004 x334005)
def bursarlaw26_DisputeGoes.j1 : Nat → List (S23) → List Int → Bool → Int → Int → Int → Bool → ByteArray → ByteArray → ByteArray → Int → ByteArray → ByteArray → ByteArray → ByteArray → ByteArray → Int → Int → ByteArray → Bool → Int → ByteArray → ByteArray → ByteArray → Int → Int → Int → Bool → Bool → Int → Int → Bool → ByteArray → ByteArray → ByteArray → Int → Int → Int → Option (Bool)
  | 0, _, _, _, _, _, _, _, _, _, _, _, _, _, _, _, _, _, _, _, _, _, _, _, _, _, _, _, _, _, _, _, _, _, _, _, _, _, _ => none
  | k + 1, x1, x2, x8, x9, x10, x11, x26, x308000, x308001, x308002, x308003, x308004, x308005, x308006, x308007, x308008, x308009, x308010, x308011, x308012, x308013, x308014, x308015, x308016, x308017, x308018, x308019, x308020, x308021, x308022, x308023, x308024, x334000, x334001, x334002, x334003, x334004, x334005 => if x26 = true then (if x11 < (x2.length : Int) then (if 0 ≤ x11 then (bursarlaw26_DisputeGoes.j2 k x1 x2 x8 x9 (wrap64 (x10 + (wrap64 (rd x2 x11)))) x11 x308000 x308001 x308002 x308003 x308004 x308005 x308006 x308007 x308008 x308009 x308010 x308011 x308012 x308013 x308014 x308015 x308016 x308017 x308018 x308019 x308020 x308021 x308022 x308023 x308024 x334000 x334001 x334002 x334003 x334004 x334005) else (none)) else (bursarlaw26_DisputeGoes.j2 k x1 x2 x8 x9 x10 x11 x308000 x308001 x308002 x308003 x308004 x308005 x308006 x308007 x308008 x308009 x308010 x308011 x308012 x308013 x308014 x308015 x308016 x308017 x308018 x308019 x308020 x308021 x308022 x308023 x308024 x334000 x334001 x334002 x334003 x334004 x334005)) else ((bursarlaw26_awake.f k).bind fun t334 => (some t334))
def bursarlaw26_DisputeGoes.j2 : Nat → List (S23) → List Int → Bool → Int → Int → Int → ByteArray → ByteArray → ByteArray → Int → ByteArray → ByteArray → ByteArray → ByteArray → ByteArray → Int → Int → ByteArray → Bool → Int → ByteArray → ByteArray → ByteArray → Int → Int → Int → Bool → Bool → Int → Int → Bool → ByteArray → ByteArray → ByteArray → Int → Int → Int → Option (Bool)
  | 0, _, _, _, _, _, _, _, _, _, _, _, _, _, _, _, _, _, _, _, _, _, _, _, _, _, _, _, _, _, _, _, _, _, _, _, _, _ => none
  | k + 1, x1, x2, x8, x9, x10, x11, x308000, x308001, x308002, x308003, x308004, x308005, x308006, x308007, x308008, x308009, x308010, x308011, x308012, x308013, x308014, x308015, x308016, x308017, x308018, x308019, x308020, x308021, x308022, x308023, x308024, x334000, x334001, x334002, x334003, x334004, x334005 => if 0 ≤ x11 then (if x11 < (x1.length : Int) then ((bursarlaw26_text.f ((rd_T23 x1 x11).f2)).bind fun t338 => ((dispute_Decide.f k x308000 x308001 t338 ((rd_T23 x1 x11).f3) x308004 x308005 x308006 x308007 x308008 x308009 x308010 x308011 x308012 x308013 x308014 x308015 x308016 x308017 x308018 x308019 x308020 x308021 x10 x308023 x308024 x334000 x334001 x334002 x334003 x334004 x334005 x8).bind fun bt340 => (if bt340.2.2.2.2.2.2.2.2.2.2.2.2.toList = ([48, 48] : List UInt8) then ((bursarref20_May.f k bt340.2.2.2.2.2.2.1 bt340.2.2.2.2.2.2.2.1 bt340.2.2.2.2.2.2.2.2.1 bt340.2.2.2.2.2.2.2.2.2.1 bt340.2.2.2.2.2.2.2.2.2.2.1 bt340.2.2.2.2.2.2.2.2.2.2.2.1).bind fun t355 => (if t355 = true then (if bt340.2.2.2.2.2.2.2.2.2.2.2.1 = bt340.2.2.2.2.1 then (if bt340.2.2.2.1 = (wrap64 (x334003 + 1)) then (bursarlaw26_DisputeGoes.j3 k x1 x2 x9 x10 x11 (bt340.2.2.2.2.2.1 != (wrap64 (x10 + 200))) x308000 x308001 x308002 x308003 x308004 x308005 x308006 x308007 x308008 x308009 x308010 x308011 x308012 x308013 x308014 x308015 x308016 x308017 x308018 x308019 x308020 x308021 x308022 x308023 x308024 bt340.1 bt340.2.1 bt340.2.2.1 bt340.2.2.2.1 bt340.2.2.2.2.1 bt340.2.2.2.2.2.1 bt340.2.2.2.2.2.2.1 bt340.2.2.2.2.2.2.2.1 bt340.2.2.2.2.2.2.2.2.1 bt340.2.2.2.2.2.2.2.2.2.1 bt340.2.2.2.2.2.2.2.2.2.2.1 bt340.2.2.2.2.2.2.2.2.2.2.2.1) else (bursarlaw26_DisputeGoes.j3 k x1 x2 x9 x10 x11 true x308000 x308001 x308002 x308003 x308004 x308005 x308006 x308007 x308008 x308009 x308010 x308011 x308012 x308013 x308014 x308015 x308016 x308017 x308018 x308019 x308020 x308021 x308022 x308023 x308024 bt340.1 bt340.2.1 bt340.2.2.1 bt340.2.2.2.1 bt340.2.2.2.2.1 bt340.2.2.2.2.2.1 bt340.2.2.2.2.2.2.1 bt340.2.2.2.2.2.2.2.1 bt340.2.2.2.2.2.2.2.2.1 bt340.2.2.2.2.2.2.2.2.2.1 bt340.2.2.2.2.2.2.2.2.2.2.1 bt340.2.2.2.2.2.2.2.2.2.2.2.1)) else (bursarlaw26_DisputeGoes.j3 k x1 x2 x9 x10 x11 true x308000 x308001 x308002 x308003 x308004 x308005 x308006 x308007 x308008 x308009 x308010 x308011 x308012 x308013 x308014 x308015 x308016 x308017 x308018 x308019 x308020 x308021 x308022 x308023 x308024 bt340.1 bt340.2.1 bt340.2.2.1 bt340.2.2.2.1 bt340.2.2.2.2.1 bt340.2.2.2.2.2.1 bt340.2.2.2.2.2.2.1 bt340.2.2.2.2.2.2.2.1 bt340.2.2.2.2.2.2.2.2.1 bt340.2.2.2.2.2.2.2.2.2.1 bt340.2.2.2.2.2.2.2.2.2.2.1 bt340.2.2.2.2.2.2.2.2.2.2.2.1)) else (bursarlaw26_DisputeGoes.j3 k x1 x2 x9 x10 x11 true x308000 x308001 x308002 x308003 x308004 x308005 x308006 x308007 x308008 x308009 x308010 x308011 x308012 x308013 x308014 x308015 x308016 x308017 x308018 x308019 x308020 x308021 x308022 x308023 x308024 bt340.1 bt340.2.1 bt340.2.2.1 bt340.2.2.2.1 bt340.2.2.2.2.1 bt340.2.2.2.2.2.1 bt340.2.2.2.2.2.2.1 bt340.2.2.2.2.2.2.2.1 bt340.2.2.2.2.2.2.2.2.1 bt340.2.2.2.2.2.2.2.2.2.1 bt340.2.2.2.2.2.2.2.2.2.2.1 bt340.2.2.2.2.2.2.2.2.2.2.2.1))) else (if (!(bt340.1.toList == ([] : List UInt8)) || (!(bt340.2.1.toList == ([] : List UInt8)) || (!(bt340.2.2.1.toList == ([] : List UInt8)) || (!(bt340.2.2.2.1 == 0) || (!(bt340.2.2.2.2.1 == 0) || (!(bt340.2.2.2.2.2.1 == 0))))))) = true then (none) else (if (!(bt340.2.2.2.2.2.2.1 == 0) || (!(bt340.2.2.2.2.2.2.2.1 == 0) || (!(bt340.2.2.2.2.2.2.2.2.1.toList == ([] : List UInt8)) || (!(bt340.2.2.2.2.2.2.2.2.2.1.toList == ([] : List UInt8)) || (!(bt340.2.2.2.2.2.2.2.2.2.2.1.toList == ([] : List UInt8)) || (!(bt340.2.2.2.2.2.2.2.2.2.2.2.1 == 0))))))) = true then (none) else (bursarlaw26_DisputeGoes.l0 k x1 x2 x8 x9 x10 (wrap64 (x11 + 1)) x308000 x308001 x308002 x308003 x308004 x308005 x308006 x308007 x308008 x308009 x308010 x308011 x308012 x308013 x308014 x308015 x308016 x308017 x308018 x308019 x308020 x308021 x308022 x308023 x308024 x334000 x334001 x334002 x334003 x334004 x334005)))))) else (none)) else (none)
def bursarlaw26_DisputeGoes.j3 : Nat → List (S23) → List Int → Int → Int → Int → Bool → ByteArray → ByteArray → ByteArray → Int → ByteArray → ByteArray → ByteArray → ByteArray → ByteArray → Int → Int → ByteArray → Bool → Int → ByteArray → ByteArray → ByteArray → Int → Int → Int → Bool → Bool → Int → Int → Bool → ByteArray → ByteArray → ByteArray → Int → Int → Int → Int → Int → ByteArray → ByteArray → ByteArray → Int → Option (Bool)
  | 0, _, _, _, _, _, _, _, _, _, _, _, _, _, _, _, _, _, _, _, _, _, _, _, _, _, _, _, _, _, _, _, _, _, _, _, _, _, _, _, _, _, _, _ => none
  | k + 1, x1, x2, x9, x10, x11, x100, x308000, x308001, x308002, x308003, x308004, x308005, x308006, x308007, x308008, x308009, x308010, x308011, x308012, x308013, x308014, x308015, x308016, x308017, x308018, x308019, x308020, x308021, x308022, x308023, x308024, x354000, x354001, x354002, x354003, x354004, x354005, x355000, x355001, x355002, x355003, x355004, x355005 => if x100 = true then (none) else (if x355000 = 3 then ((dispute_Against.f x354000 x354001 x354002 x354003 x354004 x354005).bind fun t356 => (if t356 = (wrap64 (x9 + x355005)) then (if (wrap64 (x9 + x355005)) > x308018 then (none) else (if (wrap64 (x9 + x355005)) < 0 then (none) else (bursarlaw26_DisputeGoes.l0 k x1 x2 true (wrap64 (x9 + x355005)) x10 (wrap64 (x11 + 1)) x308000 x308001 x308002 x308003 x308004 x308005 x308006 x308007 x308008 x308009 x308010 x308011 x308012 x308013 x308014 x308015 x308016 x308017 x308018 x308019 x308020 x308021 x308022 x308023 x308024 x354000 x354001 x354002 x354003 x354004 x354005))) else (none))) else ((dispute_Against.f x354000 x354001 x354002 x354003 x354004 x354005).bind fun t357 => (if t357 = (wrap64 (x9 - x355005)) then (if (wrap64 (x9 - x355005)) > x308018 then (none) else (if (wrap64 (x9 - x355005)) < 0 then (none) else (bursarlaw26_DisputeGoes.l0 k x1 x2 true (wrap64 (x9 - x355005)) x10 (wrap64 (x11 + 1)) x308000 x308001 x308002 x308003 x308004 x308005 x308006 x308007 x308008 x308009 x308010 x308011 x308012 x308013 x308014 x308015 x308016 x308017 x308018 x308019 x308020 x308021 x308022 x308023 x308024 x354000 x354001 x354002 x354003 x354004 x354005))) else (none))))
end
def bursarlaw26_DisputeGoes.f (k : Nat) (a0_0 : ByteArray) (a0_1 : ByteArray) (a0_2 : ByteArray) (a0_3 : Int) (a0_4 : ByteArray) (a0_5 : ByteArray) (a0_6 : ByteArray) (a0_7 : ByteArray) (a0_8 : ByteArray) (a0_9 : Int) (a0_10 : Int) (a0_11 : ByteArray) (a0_12 : Bool) (a0_13 : Int) (a0_14 : ByteArray) (a0_15 : ByteArray) (a0_16 : ByteArray) (a0_17 : Int) (a0_18 : Int) (a0_19 : Int) (a0_20 : Bool) (a0_21 : Bool) (a0_22 : Int) (a0_23 : Int) (a0_24 : Bool) (l1 : List (S23)) (l2 : List Int) : Option (Bool) := (bursarlaw22_Few.f a0_0 a0_1 a0_2 a0_3 a0_4 a0_5 a0_6 a0_7 a0_8 a0_9 a0_10 a0_11 a0_12 a0_13 a0_14 a0_15 a0_16 a0_17 a0_18 a0_19 a0_20 a0_21 a0_22 a0_23 a0_24).bind fun bt308 => (bursarlaw26_DisputeGoes.l0 k l1 l2 false 0 0 0 bt308.1 bt308.2.1 bt308.2.2.1 bt308.2.2.2.1 bt308.2.2.2.2.1 bt308.2.2.2.2.2.1 bt308.2.2.2.2.2.2.1 bt308.2.2.2.2.2.2.2.1 bt308.2.2.2.2.2.2.2.2.1 bt308.2.2.2.2.2.2.2.2.2.1 bt308.2.2.2.2.2.2.2.2.2.2.1 bt308.2.2.2.2.2.2.2.2.2.2.2.1 bt308.2.2.2.2.2.2.2.2.2.2.2.2.1 bt308.2.2.2.2.2.2.2.2.2.2.2.2.2.1 bt308.2.2.2.2.2.2.2.2.2.2.2.2.2.2.1 bt308.2.2.2.2.2.2.2.2.2.2.2.2.2.2.2.1 bt308.2.2.2.2.2.2.2.2.2.2.2.2.2.2.2.2.1 bt308.2.2.2.2.2.2.2.2.2.2.2.2.2.2.2.2.2.1 bt308.2.2.2.2.2.2.2.2.2.2.2.2.2.2.2.2.2.2.1 bt308.2.2.2.2.2.2.2.2.2.2.2.2.2.2.2.2.2.2.2.1 bt308.2.2.2.2.2.2.2.2.2.2.2.2.2.2.2.2.2.2.2.2.1 bt308.2.2.2.2.2.2.2.2.2.2.2.2.2.2.2.2.2.2.2.2.2.1 bt308.2.2.2.2.2.2.2.2.2.2.2.2.2.2.2.2.2.2.2.2.2.2.1 bt308.2.2.2.2.2.2.2.2.2.2.2.2.2.2.2.2.2.2.2.2.2.2.2.1 bt308.2.2.2.2.2.2.2.2.2.2.2.2.2.2.2.2.2.2.2.2.2.2.2.2 (⟨#[]⟩ : ByteArray) (⟨#[]⟩ : ByteArray) (⟨#[]⟩ : ByteArray) 0 0 0)
theorem bursarlaw26_DisputeGoes.mono_l : ∀ k, (∀ y0 y1 y2 y3 y4 y5 y6 y7 y8 y9 y10 y11 y12 y13 y14 y15 y16 y17 y18 y19 y20 y21 y22 y23 y24 y25 y26 y27 y28 y29 y30 y31 y32 y33 y34 y35 y36, LeO (bursarlaw26_DisputeGoes.l0 k y0 y1 y2 y3 y4 y5 y6 y7 y8 y9 y10 y11 y12 y13 y14 y15 y16 y17 y18 y19 y20 y21 y22 y23 y24 y25 y26 y27 y28 y29 y30 y31 y32 y33 y34 y35 y36) (bursarlaw26_DisputeGoes.l0 (k + 1) y0 y1 y2 y3 y4 y5 y6 y7 y8 y9 y10 y11 y12 y13 y14 y15 y16 y17 y18 y19 y20 y21 y22 y23 y24 y25 y26 y27 y28 y29 y30 y31 y32 y33 y34 y35 y36)) ∧ (∀ y0 y1 y2 y3 y4 y5 y6 y7 y8 y9 y10 y11 y12 y13 y14 y15 y16 y17 y18 y19 y20 y21 y22 y23 y24 y25 y26 y27 y28 y29 y30 y31 y32 y33 y34 y35 y36 y37, LeO (bursarlaw26_DisputeGoes.j1 k y0 y1 y2 y3 y4 y5 y6 y7 y8 y9 y10 y11 y12 y13 y14 y15 y16 y17 y18 y19 y20 y21 y22 y23 y24 y25 y26 y27 y28 y29 y30 y31 y32 y33 y34 y35 y36 y37) (bursarlaw26_DisputeGoes.j1 (k + 1) y0 y1 y2 y3 y4 y5 y6 y7 y8 y9 y10 y11 y12 y13 y14 y15 y16 y17 y18 y19 y20 y21 y22 y23 y24 y25 y26 y27 y28 y29 y30 y31 y32 y33 y34 y35 y36 y37)) ∧ (∀ y0 y1 y2 y3 y4 y5 y6 y7 y8 y9 y10 y11 y12 y13 y14 y15 y16 y17 y18 y19 y20 y21 y22 y23 y24 y25 y26 y27 y28 y29 y30 y31 y32 y33 y34 y35 y36, LeO (bursarlaw26_DisputeGoes.j2 k y0 y1 y2 y3 y4 y5 y6 y7 y8 y9 y10 y11 y12 y13 y14 y15 y16 y17 y18 y19 y20 y21 y22 y23 y24 y25 y26 y27 y28 y29 y30 y31 y32 y33 y34 y35 y36) (bursarlaw26_DisputeGoes.j2 (k + 1) y0 y1 y2 y3 y4 y5 y6 y7 y8 y9 y10 y11 y12 y13 y14 y15 y16 y17 y18 y19 y20 y21 y22 y23 y24 y25 y26 y27 y28 y29 y30 y31 y32 y33 y34 y35 y36)) ∧ (∀ y0 y1 y2 y3 y4 y5 y6 y7 y8 y9 y10 y11 y12 y13 y14 y15 y16 y17 y18 y19 y20 y21 y22 y23 y24 y25 y26 y27 y28 y29 y30 y31 y32 y33 y34 y35 y36 y37 y38 y39 y40 y41 y42, LeO (bursarlaw26_DisputeGoes.j3 k y0 y1 y2 y3 y4 y5 y6 y7 y8 y9 y10 y11 y12 y13 y14 y15 y16 y17 y18 y19 y20 y21 y22 y23 y24 y25 y26 y27 y28 y29 y30 y31 y32 y33 y34 y35 y36 y37 y38 y39 y40 y41 y42) (bursarlaw26_DisputeGoes.j3 (k + 1) y0 y1 y2 y3 y4 y5 y6 y7 y8 y9 y10 y11 y12 y13 y14 y15 y16 y17 y18 y19 y20 y21 y22 y23 y24 y25 y26 y27 y28 y29 y30 y31 y32 y33 y34 y35 y36 y37 y38 y39 y40 y41 y42))
  | 0 => ⟨fun _ _ _ _ _ _ _ _ _ _ _ _ _ _ _ _ _ _ _ _ _ _ _ _ _ _ _ _ _ _ _ _ _ _ _ _ _ r h => by simp [bursarlaw26_DisputeGoes.l0] at h, fun _ _ _ _ _ _ _ _ _ _ _ _ _ _ _ _ _ _ _ _ _ _ _ _ _ _ _ _ _ _ _ _ _ _ _ _ _ _ r h => by simp [bursarlaw26_DisputeGoes.j1] at h, fun _ _ _ _ _ _ _ _ _ _ _ _ _ _ _ _ _ _ _ _ _ _ _ _ _ _ _ _ _ _ _ _ _ _ _ _ _ r h => by simp [bursarlaw26_DisputeGoes.j2] at h, fun _ _ _ _ _ _ _ _ _ _ _ _ _ _ _ _ _ _ _ _ _ _ _ _ _ _ _ _ _ _ _ _ _ _ _ _ _ _ _ _ _ _ _ r h => by simp [bursarlaw26_DisputeGoes.j3] at h⟩
  | k + 1 => by
    obtain ⟨ih0, ih1, ih2, ih3⟩ := bursarlaw26_DisputeGoes.mono_l k
    refine ⟨?_, ?_, ?_, ?_⟩
    all_goals
      intros
      first
      | unfold bursarlaw26_DisputeGoes.l0
      | unfold bursarlaw26_DisputeGoes.j1
      | unfold bursarlaw26_DisputeGoes.j2
      | unfold bursarlaw26_DisputeGoes.j3
      repeat' first
      | (with_reducible exact ih0 _ _ _ _ _ _ _ _ _ _ _ _ _ _ _ _ _ _ _ _ _ _ _ _ _ _ _ _ _ _ _ _ _ _ _ _ _)
      | (with_reducible exact ih1 _ _ _ _ _ _ _ _ _ _ _ _ _ _ _ _ _ _ _ _ _ _ _ _ _ _ _ _ _ _ _ _ _ _ _ _ _ _)
      | (with_reducible exact ih2 _ _ _ _ _ _ _ _ _ _ _ _ _ _ _ _ _ _ _ _ _ _ _ _ _ _ _ _ _ _ _ _ _ _ _ _ _)
      | (with_reducible exact ih3 _ _ _ _ _ _ _ _ _ _ _ _ _ _ _ _ _ _ _ _ _ _ _ _ _ _ _ _ _ _ _ _ _ _ _ _ _ _ _ _ _ _ _)
      | (with_reducible exact bursarlaw26_awake.mono _)
      | (with_reducible exact bursarref20_May.mono _ _ _ _ _ _ _)
      | (with_reducible exact dispute_Decide.mono _ _ _ _ _ _ _ _ _ _ _ _ _ _ _ _ _ _ _ _ _ _ _ _ _ _ _ _ _ _ _ _ _)
      | (with_reducible exact LeO.refl _)
      | (with_reducible exact LeO.none _)
      | (with_reducible refine LeO.ite ?_ ?_)
      | (with_reducible refine LeO.bind ?_ (fun _ => ?_))
      | exact ih0 _ _ _ _ _ _ _ _ _ _ _ _ _ _ _ _ _ _ _ _ _ _ _ _ _ _ _ _ _ _ _ _ _ _ _ _ _
      | exact ih1 _ _ _ _ _ _ _ _ _ _ _ _ _ _ _ _ _ _ _ _ _ _ _ _ _ _ _ _ _ _ _ _ _ _ _ _ _ _
      | exact ih2 _ _ _ _ _ _ _ _ _ _ _ _ _ _ _ _ _ _ _ _ _ _ _ _ _ _ _ _ _ _ _ _ _ _ _ _ _
      | exact ih3 _ _ _ _ _ _ _ _ _ _ _ _ _ _ _ _ _ _ _ _ _ _ _ _ _ _ _ _ _ _ _ _ _ _ _ _ _ _ _ _ _ _ _
      | exact bursarlaw26_awake.mono _
      | exact bursarref20_May.mono _ _ _ _ _ _ _
      | exact dispute_Decide.mono _ _ _ _ _ _ _ _ _ _ _ _ _ _ _ _ _ _ _ _ _ _ _ _ _ _ _ _ _ _ _ _ _
      | exact LeO.none _
      | refine LeO.ite ?_ ?_
      | refine LeO.bind ?_ (fun _ => ?_)
theorem bursarlaw26_DisputeGoes.mono : ∀ a0 a1 a2 a3 a4 a5 a6 a7 a8 a9 a10 a11 a12 a13 a14 a15 a16 a17 a18 a19 a20 a21 a22 a23 a24 a25 a26 k, LeO (bursarlaw26_DisputeGoes.f k a0 a1 a2 a3 a4 a5 a6 a7 a8 a9 a10 a11 a12 a13 a14 a15 a16 a17 a18 a19 a20 a21 a22 a23 a24 a25 a26) (bursarlaw26_DisputeGoes.f (k + 1) a0 a1 a2 a3 a4 a5 a6 a7 a8 a9 a10 a11 a12 a13 a14 a15 a16 a17 a18 a19 a20 a21 a22 a23 a24 a25 a26) := by
  intro a0 a1 a2 a3 a4 a5 a6 a7 a8 a9 a10 a11 a12 a13 a14 a15 a16 a17 a18 a19 a20 a21 a22 a23 a24 a25 a26 k
  obtain ⟨ih0, ih1, ih2, ih3⟩ := bursarlaw26_DisputeGoes.mono_l k
  unfold bursarlaw26_DisputeGoes.f
  repeat' first
      | (with_reducible exact ih0 _ _ _ _ _ _ _ _ _ _ _ _ _ _ _ _ _ _ _ _ _ _ _ _ _ _ _ _ _ _ _ _ _ _ _ _ _)
      | (with_reducible exact ih1 _ _ _ _ _ _ _ _ _ _ _ _ _ _ _ _ _ _ _ _ _ _ _ _ _ _ _ _ _ _ _ _ _ _ _ _ _ _)
      | (with_reducible exact ih2 _ _ _ _ _ _ _ _ _ _ _ _ _ _ _ _ _ _ _ _ _ _ _ _ _ _ _ _ _ _ _ _ _ _ _ _ _)
      | (with_reducible exact ih3 _ _ _ _ _ _ _ _ _ _ _ _ _ _ _ _ _ _ _ _ _ _ _ _ _ _ _ _ _ _ _ _ _ _ _ _ _ _ _ _ _ _ _)
      | (with_reducible exact bursarlaw26_awake.mono _)
      | (with_reducible exact bursarref20_May.mono _ _ _ _ _ _ _)
      | (with_reducible exact dispute_Decide.mono _ _ _ _ _ _ _ _ _ _ _ _ _ _ _ _ _ _ _ _ _ _ _ _ _ _ _ _ _ _ _ _ _)
      | (with_reducible exact LeO.refl _)
      | (with_reducible exact LeO.none _)
      | (with_reducible refine LeO.ite ?_ ?_)
      | (with_reducible refine LeO.bind ?_ (fun _ => ?_))
      | exact ih0 _ _ _ _ _ _ _ _ _ _ _ _ _ _ _ _ _ _ _ _ _ _ _ _ _ _ _ _ _ _ _ _ _ _ _ _ _
      | exact ih1 _ _ _ _ _ _ _ _ _ _ _ _ _ _ _ _ _ _ _ _ _ _ _ _ _ _ _ _ _ _ _ _ _ _ _ _ _ _
      | exact ih2 _ _ _ _ _ _ _ _ _ _ _ _ _ _ _ _ _ _ _ _ _ _ _ _ _ _ _ _ _ _ _ _ _ _ _ _ _
      | exact ih3 _ _ _ _ _ _ _ _ _ _ _ _ _ _ _ _ _ _ _ _ _ _ _ _ _ _ _ _ _ _ _ _ _ _ _ _ _ _ _ _ _ _ _
      | exact bursarlaw26_awake.mono _
      | exact bursarref20_May.mono _ _ _ _ _ _ _
      | exact dispute_Decide.mono _ _ _ _ _ _ _ _ _ _ _ _ _ _ _ _ _ _ _ _ _ _ _ _ _ _ _ _ _ _ _ _ _
      | exact LeO.none _
      | refine LeO.ite ?_ ?_
      | refine LeO.bind ?_ (fun _ => ?_)
def bursarlaw26_DisputeGoes.T11 : Bool × List (List Nat × List Nat) := (true, [([], []), ([], []), ([0, 1], [0, 1]), ([2], [2]), ([3], [3]), ([4], [4]), ([], []), ([], []), ([6, 7], [6, 7]), ([8], [8]), ([9], [9]), ([], []), ([0, 1, 2, 3, 4, 5], []), ([12, 0, 1, 2, 3, 4, 5], [12]), ([13, 5, 5, 0, 1, 2, 3, 4, 5], [5, 13]), ([0, 1, 2, 3, 4, 5, 6, 7, 8, 9, 10, 12, 13, 14], []), ([15, 0, 1, 2, 3, 4, 5, 6, 7, 8, 9, 10, 12, 13, 14], [15]), ([16, 10, 14, 0, 1, 2, 3, 4, 5, 6, 7, 8, 9, 10, 12, 13, 14], [10, 16]), ([0, 1, 2, 3, 4, 5, 6, 7, 8, 9, 10, 11, 12, 13, 14, 15, 16, 17], []), ([18, 11, 17, 0, 1, 2, 3, 4, 5, 6, 7, 8, 9, 10, 11, 12, 13, 14, 15, 16, 17], [11, 18])])
def bursarlaw26_DisputeGoes.B11 : List Nat := [0, 0, 3, 7, 15, 31, 0, 0, 192, 448, 960, 0, 63, 4159, 12351, 30719, 63487, 129023, 262143, 524287]
theorem bursarlaw26_DisputeGoes.tab11 : rtab .any (opsOf Try.f5 11) = bursarlaw26_DisputeGoes.T11 := by kernel_rfl
theorem bursarlaw26_DisputeGoes.bits11 : waitsOk bursarlaw26_DisputeGoes.T11.2 bursarlaw26_DisputeGoes.B11 = true := by kernel_rfl
def bursarlaw26_DisputeGoes.Z6 : Array Value := #[.string (⟨#[]⟩ : ByteArray), .string (⟨#[]⟩ : ByteArray), .string (⟨#[]⟩ : ByteArray), .int .i64 0, .int .i64 0, .int .i64 0]
def bursarlaw26_DisputeGoes.Z25 : Array Value := #[.string (⟨#[]⟩ : ByteArray), .string (⟨#[]⟩ : ByteArray), .string (⟨#[]⟩ : ByteArray), .int .i64 0, .string (⟨#[]⟩ : ByteArray), .string (⟨#[]⟩ : ByteArray), .string (⟨#[]⟩ : ByteArray), .string (⟨#[]⟩ : ByteArray), .string (⟨#[]⟩ : ByteArray), .int .i64 0, .int .i64 0, .string (⟨#[]⟩ : ByteArray), .bool false, .int .i64 0, .string (⟨#[]⟩ : ByteArray), .string (⟨#[]⟩ : ByteArray), .string (⟨#[]⟩ : ByteArray), .int .i64 0, .int .i64 0, .int .i64 0, .bool false, .bool false, .int .i64 0, .int .i64 0, .bool false]
def bursarlaw26_DisputeGoes.Z6_2 : Array Value := #[.int .i64 0, .int .i64 0, .string (⟨#[]⟩ : ByteArray), .string (⟨#[]⟩ : ByteArray), .string (⟨#[]⟩ : ByteArray), .int .i64 0]
set_option maxHeartbeats 8000000 in
set_option maxRecDepth 100000 in
theorem bursarlaw26_DisputeGoes.calls (k : Nat) (a0_0 : ByteArray) (a0_1 : ByteArray) (a0_2 : ByteArray) (a0_3 : Int) (a0_4 : ByteArray) (a0_5 : ByteArray) (a0_6 : ByteArray) (a0_7 : ByteArray) (a0_8 : ByteArray) (a0_9 : Int) (a0_10 : Int) (a0_11 : ByteArray) (a0_12 : Bool) (a0_13 : Int) (a0_14 : ByteArray) (a0_15 : ByteArray) (a0_16 : ByteArray) (a0_17 : Int) (a0_18 : Int) (a0_19 : Int) (a0_20 : Bool) (a0_21 : Bool) (a0_22 : Int) (a0_23 : Int) (a0_24 : Bool) (A1 : Option Addr) (c1 : Nat) (l1 : List (S23)) (A2 : Option Addr) (c2 : Nat) (l2 : List Int) (r : Bool) (w : World) (hr1 : Kd.C k23 w A1 l1.length l1) (hc1 : l1.length ≤ c1) (hr2 : Kd.C (Kd.int .u16) w A2 l2.length l2) (hc2 : l2.length ≤ c2) (h : bursarlaw26_DisputeGoes.f k a0_0 a0_1 a0_2 a0_3 a0_4 a0_5 a0_6 a0_7 a0_8 a0_9 a0_10 a0_11 a0_12 a0_13 a0_14 a0_15 a0_16 a0_17 a0_18 a0_19 a0_20 a0_21 a0_22 a0_23 a0_24 l1 l2 = some r) :
    Calls Try.prog 5 #[.agg #[.string a0_0, .string a0_1, .string a0_2, .int .i64 a0_3, .string a0_4, .string a0_5, .string a0_6, .string a0_7, .string a0_8, .int .i64 a0_9, .int .i64 a0_10, .string a0_11, .bool a0_12, .int .i64 a0_13, .string a0_14, .string a0_15, .string a0_16, .int .i64 a0_17, .int .i64 a0_18, .int .i64 a0_19, .bool a0_20, .bool a0_21, .int .i64 a0_22, .int .i64 a0_23, .bool a0_24], .slice A1 l1.length c1, .slice A2 l2.length c2] w fun e w' => e = .returned (.bool r) ∧ Below w.heap.size w w' := by
 have hu27 := Try.underlying27
 have hu29 := Try.underlying29
 have hu36 := Try.underlying36
 have HR1 := Aside0.mk hr1
 have HC1 := Aside0.mk hc1
 clear hr1 hc1
 have HR2 := Aside0.mk hr2
 have HC2 := Aside0.mk hc2
 clear hr2 hc2
 have HO := Aside0.mk (Ow.Own.nil w)
 have hmf : ∀ (fn : Fn) (first cap : Array Value) (w : World), (Instr.makeFunc fn first cap).run Try.prog w = .ok (.func fn first cap) w := fun _ _ _ _ => rfl
 have H : ((bursarlaw22_Few.f a0_0 a0_1 a0_2 a0_3 a0_4 a0_5 a0_6 a0_7 a0_8 a0_9 a0_10 a0_11 a0_12 a0_13 a0_14 a0_15 a0_16 a0_17 a0_18 a0_19 a0_20 a0_21 a0_22 a0_23 a0_24).bind fun bt308 => (bursarlaw26_DisputeGoes.l0 k l1 l2 false 0 0 0 bt308.1 bt308.2.1 bt308.2.2.1 bt308.2.2.2.1 bt308.2.2.2.2.1 bt308.2.2.2.2.2.1 bt308.2.2.2.2.2.2.1 bt308.2.2.2.2.2.2.2.1 bt308.2.2.2.2.2.2.2.2.1 bt308.2.2.2.2.2.2.2.2.2.1 bt308.2.2.2.2.2.2.2.2.2.2.1 bt308.2.2.2.2.2.2.2.2.2.2.2.1 bt308.2.2.2.2.2.2.2.2.2.2.2.2.1 bt308.2.2.2.2.2.2.2.2.2.2.2.2.2.1 bt308.2.2.2.2.2.2.2.2.2.2.2.2.2.2.1 bt308.2.2.2.2.2.2.2.2.2.2.2.2.2.2.2.1 bt308.2.2.2.2.2.2.2.2.2.2.2.2.2.2.2.2.1 bt308.2.2.2.2.2.2.2.2.2.2.2.2.2.2.2.2.2.1 bt308.2.2.2.2.2.2.2.2.2.2.2.2.2.2.2.2.2.2.1 bt308.2.2.2.2.2.2.2.2.2.2.2.2.2.2.2.2.2.2.2.1 bt308.2.2.2.2.2.2.2.2.2.2.2.2.2.2.2.2.2.2.2.2.1 bt308.2.2.2.2.2.2.2.2.2.2.2.2.2.2.2.2.2.2.2.2.2.1 bt308.2.2.2.2.2.2.2.2.2.2.2.2.2.2.2.2.2.2.2.2.2.2.1 bt308.2.2.2.2.2.2.2.2.2.2.2.2.2.2.2.2.2.2.2.2.2.2.2.1 bt308.2.2.2.2.2.2.2.2.2.2.2.2.2.2.2.2.2.2.2.2.2.2.2.2 (⟨#[]⟩ : ByteArray) (⟨#[]⟩ : ByteArray) (⟨#[]⟩ : ByteArray) 0 0 0)) = some r := h
 clear h
 replace H := Option.bind_eq_some_iff.mp H
 obtain ⟨⟨t308, t309, t310, t311, t312, t313, t314, t315, t316, t317, t318, t319, t320, t321, t322, t323, t324, t325, t326, t327, t328, t329, t330, t331, t332⟩, A40, H⟩ := H
 replace H : (bursarlaw26_DisputeGoes.l0 k l1 l2 false 0 0 0 t308 t309 t310 t311 t312 t313 t314 t315 t316 t317 t318 t319 t320 t321 t322 t323 t324 t325 t326 t327 t328 t329 t330 t331 t332 (⟨#[]⟩ : ByteArray) (⟨#[]⟩ : ByteArray) (⟨#[]⟩ : ByteArray) 0 0 0) = some r := H
 have A4 := Aside0.mk A40
 clear A40
 have H' := Aside0.mk H
 clear H
 obtain ⟨Q0, hQ0_⟩ : ∃ q_ : Array Value, q_ = (#[.string a0_0, .string a0_1, .string a0_2, .int .i64 a0_3, .string a0_4, .string a0_5, .string a0_6, .string a0_7, .string a0_8, .int .i64 a0_9, .int .i64 a0_10, .string a0_11, .bool a0_12, .int .i64 a0_13, .string a0_14, .string a0_15, .string a0_16, .int .i64 a0_17, .int .i64 a0_18, .int .i64 a0_19, .bool a0_20, .bool a0_21, .int .i64 a0_22, .int .i64 a0_23, .bool a0_24] : Array Value) := ⟨_, rfl⟩
 try rw [← hQ0_]
 have hQ0 := Aside0.mk hQ0_; have hq := Aside0.mk hQ0_; clear hQ0_
 go_enter Try.func5, Try.ntmps5
 obtain ⟨Q1, hQ1_⟩ : ∃ q_ : Array Value, q_ = (#[.string t308, .string t309, .string t310, .int .i64 t311, .string t312, .string t313, .string t314, .string t315, .string t316, .int .i64 t317, .int .i64 t318, .string t319, .bool t320, .int .i64 t321, .string t322, .string t323, .string t324, .int .i64 t325, .int .i64 t326, .int .i64 t327, .bool t328, .bool t329, .int .i64 t330, .int .i64 t331, .bool t332] : Array Value) := ⟨_, rfl⟩
 try rw [← hQ1_]
 have hQ1 := Aside0.mk hQ1_; replace hq := Aside0.mk (And.intro hQ1_ hq.1); clear hQ1_
 go_wp2_with (first | ((with_reducible refine gate_dst (N := 3) rfl ?_); refine Ow.box rfl (N := 3) rfl (cs := Q0) (t := 27) HO.out (by first | (go_simp; done) | (go_simp; rfl)) ?_; clear HO; intro gb307 w5 HO; simp only [List.cons_append, List.nil_append] at HO) | ((with_reducible refine gate_callee (f := 15) rfl ?_); refine goesL_ (some 17) rfl rfl Try.func15 (by kernel_rfl) rfl #[.agg Q0] rfl (by (try simp only [List.map_toArray, List.map_cons, List.map_nil]); first | done | rfl | (simp only [hq.1]; done) | (simp only [hq.1]; rfl)) ?_; refine Calls.mono (calls_of_args (by first | ((try simp only [hq.1]) <;> rfl) | fail) (bursarlaw22_Few.calls a0_0 a0_1 a0_2 a0_3 a0_4 a0_5 a0_6 a0_7 a0_8 a0_9 a0_10 a0_11 a0_12 a0_13 a0_14 a0_15 a0_16 a0_17 a0_18 a0_19 a0_20 a0_21 a0_22 a0_23 a0_24 t308 t309 t310 t311 t312 t313 t314 t315 t316 t317 t318 t319 t320 t321 t322 t323 t324 t325 t326 t327 t328 t329 t330 t331 t332 _ A4.out)) ?_; rintro e w7 ⟨he_, hb⟩; (try rw [← hQ1.out] at he_); subst he_; refine ⟨_, rfl, ?_⟩; replace HO := Aside0.mk (Ow.Own.call HO.out hb); clear hb) | ((with_reducible refine gate_dst (N := 7) rfl ?_); refine Ow.box rfl (N := 7) rfl (cs := bursarlaw26_DisputeGoes.Z6) (t := 29) HO.out (by first | (go_simp; done) | (go_simp; rfl)) ?_; clear HO; intro gb333 w10 HO; simp only [List.cons_append, List.nil_append] at HO) | ((with_reducible refine Ow.gate_eqs (t := 29) (by first | exact Or.inl rfl | exact Or.inr rfl) rfl ?_); simp only [hq.1, Ow.part, Ot.sz, Ot.zero, Ow.over, Ow.overL, List.drop_succ_cons, List.drop_zero, List.take_succ_cons, List.take_zero]) | ((with_reducible refine Ow.gate_eqs (t := 36) (by first | exact Or.inl rfl | exact Or.inr rfl) rfl ?_); simp only [hq.1, Ow.part, Ot.sz, Ot.zero, Ow.over, Ow.overL, List.drop_succ_cons, List.drop_zero, List.take_succ_cons, List.take_zero]) | ((with_reducible refine Ow.gate_build rfl ?_); (try (refine gate_guard (by rfl) ?_; dsimp only)); refine' Ow.tbuild Ot.bd rfl rfl rfl ?hf_ ?_; (case hf_ => repeat (any_goals (first | exact Ow.Fills.nil | (refine' Ow.Fills.c ?hv_ rfl ?hz_ ?_; (case hv_ => first | exact Ow.ev_tmp rfl | rfl); (case hz_ => first | (refine ⟨?_, ?_⟩ <;> (first | ((try simp only [hq.1]) <;> rfl) | fail)) | fail)))))) | ((with_reducible refine Ow.gate_load rfl ?_); (try (refine gate_guard (by rfl) ?_; dsimp only)); (first | refine Ow.l1 Ot.ty HO.out rfl rfl rfl rfl (by first | ((try simp only [hq.1]) <;> rfl) | fail) ?_ | refine Ow.l0 Ot.ty HO.out rfl rfl rfl rfl (by first | ((try simp only [hq.1]) <;> rfl) | fail) ?_ | refine Ow.lp Ot.ty HO.out rfl rfl rfl rfl (by first | ((try simp only [hq.1]) <;> rfl) | fail) ?_)) | ((with_reducible refine gate_store rfl ?_); (try (refine gate_guard (by rfl) ?_; dsimp only)); (first | refine Ow.s0 Ot.ty HO.out rfl rfl rfl rfl rfl (by first | exact Ow.ev_tmp rfl | rfl) (by first | (refine ⟨?_, ?_, ?_⟩ <;> (first | ((try simp only [hq.1]) <;> rfl) | fail)) | fail) ?_ | refine Ow.sp Ot.ty HO.out rfl rfl rfl rfl rfl (by first | exact Ow.ev_tmp rfl | rfl) (by first | (refine ⟨?_, ?_, ?_⟩ <;> (first | ((try simp only [hq.1]) <;> rfl) | fail)) | fail) ?_); clear HO; intro wz_ HO; simp only [List.set_cons_zero, List.set_cons_succ] at HO))
 (try simp only [Act.put, List.setIfInBounds_toArray, List.set_cons_zero, List.set_cons_succ])
 go_loopg [8, 9, 10, 11] k (fun kq v8 v9 v10 v11 w' => ∃ (x8_1 : Bool) (x9_1 : Int) (x10_1 : Int) (x11_1 : Int) (x334000_1 : ByteArray) (x334001_1 : ByteArray) (x334002_1 : ByteArray) (x334003_1 : Int) (x334004_1 : Int) (x334005_1 : Int), v8 = .bool x8_1 ∧ v9 = .int .i64 x9_1 ∧ v10 = .int .i64 x10_1 ∧ v11 = .int .i64 x11_1 ∧ Aside0 (bursarlaw26_DisputeGoes.l0 kq l1 l2 x8_1 x9_1 x10_1 x11_1 t308 t309 t310 t311 t312 t313 t314 t315 t316 t317 t318 t319 t320 t321 t322 t323 t324 t325 t326 t327 t328 t329 t330 t331 t332 x334000_1 x334001_1 x334002_1 x334003_1 x334004_1 x334005_1 = some r) ∧ Aside0 (kq ≤ k) ∧ Aside0 (Ow.Own w w' [(gb307, #[.string t308, .string t309, .string t310, .int .i64 t311, .string t312, .string t313, .string t314, .string t315, .string t316, .int .i64 t317, .int .i64 t318, .string t319, .bool t320, .int .i64 t321, .string t322, .string t323, .string t324, .int .i64 t325, .int .i64 t326, .int .i64 t327, .bool t328, .bool t329, .int .i64 t330, .int .i64 t331, .bool t332], 27), (gb333, #[.string x334000_1, .string x334001_1, .string x334002_1, .int .i64 x334003_1, .int .i64 x334004_1, .int .i64 x334005_1], 29)]))
 case atStart => exact ⟨(false), (0), (0), (0), ((⟨#[]⟩ : ByteArray)), ((⟨#[]⟩ : ByteArray)), ((⟨#[]⟩ : ByteArray)), (0), (0), (0), (by first | rfl | (simp; done) | (simp [*]; done) | (simp [Pu.bne_nil, Pu.beq_nil]; done)), (by first | rfl | (simp; done) | (simp [*]; done) | (simp [Pu.bne_nil, Pu.beq_nil]; done)), (by first | rfl | (simp; done) | (simp [*]; done) | (simp [Pu.bne_nil, Pu.beq_nil]; done)), (by first | rfl | (simp; done) | (simp [*]; done) | (simp [Pu.bne_nil, Pu.beq_nil]; done)), H', ⟨Nat.le_refl _⟩, ⟨Ow.Own.cong (by first | exact HO.out | (have h_ := HO.out; simp only [World.drewN_drewN] at h_; exact h_)) (by first | ((try simp only [hq.1]) <;> rfl) | fail)⟩⟩
 case round =>
  clear H'
  try clear c1
  try clear c2
  try clear p2
  try clear c5
  try clear c11
  try clear hcz12_0
  try clear hcz6_0
  try clear hcz8_0
  try clear hfz12_0
  try clear hfz6_0
  try clear hfz8_0
  clear HO
  obtain ⟨x8_1, x9_1, x10_1, x11_1, x334000_1, x334001_1, x334002_1, x334003_1, x334004_1, x334005_1, rfl, rfl, rfl, rfl, HA, HK1, HO⟩ := hrel
  obtain ⟨Q2, hQ2_⟩ : ∃ q_ : Array Value, q_ = (#[.string x334000_1, .string x334001_1, .string x334002_1, .int .i64 x334003_1, .int .i64 x334004_1, .int .i64 x334005_1] : Array Value) := ⟨_, rfl⟩
  try rw [← hQ2_]
  have hQ2 := Aside0.mk hQ2_; replace hq := Aside0.mk (And.intro hQ2_ hq.1); clear hQ2_
  rw [← hQ1.out] at HO
  rw [← hQ2.out] at HO
  cases gk with
  | zero => exact absurd HA.out (by simp [bursarlaw26_DisputeGoes.l0])
  | succ k1 =>
   have H := HA.out
   clear HA
   simp only [bursarlaw26_DisputeGoes.l0] at H
   have HC14 := Aside0.mk H
   clear H
   go_upto_region 6 with (first | ((with_reducible refine Ow.gate_eqs (t := 29) (by first | exact Or.inl rfl | exact Or.inr rfl) rfl ?_); simp only [hq.1, Ow.part, Ot.sz, Ot.zero, Ow.over, Ow.overL, List.drop_succ_cons, List.drop_zero, List.take_succ_cons, List.take_zero]) | ((with_reducible refine Ow.gate_eqs (t := 36) (by first | exact Or.inl rfl | exact Or.inr rfl) rfl ?_); simp only [hq.1, Ow.part, Ot.sz, Ot.zero, Ow.over, Ow.overL, List.drop_succ_cons, List.drop_zero, List.take_succ_cons, List.take_zero]) | ((with_reducible refine Ow.gate_build rfl ?_); (try (refine gate_guard (by rfl) ?_; dsimp only)); refine' Ow.tbuild Ot.bd rfl rfl rfl ?hf_ ?_; (case hf_ => repeat (any_goals (first | exact Ow.Fills.nil | (refine' Ow.Fills.c ?hv_ rfl ?hz_ ?_; (case hv_ => first | exact Ow.ev_tmp rfl | rfl); (case hz_ => first | (refine ⟨?_, ?_⟩ <;> (first | ((try simp only [hq.1]) <;> rfl) | fail)) | fail)))))) | ((with_reducible refine Ow.gate_load rfl ?_); (try (refine gate_guard (by rfl) ?_; dsimp only)); (first | refine Ow.l1 Ot.ty HO.out rfl rfl rfl rfl (by first | ((try simp only [hq.1]) <;> rfl) | fail) ?_ | refine Ow.l0 Ot.ty HO.out rfl rfl rfl rfl (by first | ((try simp only [hq.1]) <;> rfl) | fail) ?_ | refine Ow.lp Ot.ty HO.out rfl rfl rfl rfl (by first | ((try simp only [hq.1]) <;> rfl) | fail) ?_)) | ((with_reducible refine gate_store rfl ?_); (try (refine gate_guard (by rfl) ?_; dsimp only)); (first | refine Ow.s0 Ot.ty HO.out rfl rfl rfl rfl rfl (by first | exact Ow.ev_tmp rfl | rfl) (by first | (refine ⟨?_, ?_, ?_⟩ <;> (first | ((try simp only [hq.1]) <;> rfl) | fail)) | fail) ?_ | refine Ow.sp Ot.ty HO.out rfl rfl rfl rfl rfl (by first | exact Ow.ev_tmp rfl | rfl) (by first | (refine ⟨?_, ?_, ?_⟩ <;> (first | ((try simp only [hq.1]) <;> rfl) | fail)) | fail) ?_); clear HO; intro wz_ HO; simp only [List.set_cons_zero, List.set_cons_succ] at HO))
   (try simp only [Act.put, List.setIfInBounds_toArray, List.set_cons_zero, List.set_cons_succ])
   go_cut [26] (fun v26 wc => ∃ (kq : Nat) (x26_13 : Bool), v26 = .bool x26_13 ∧ Aside0 (bursarlaw26_DisputeGoes.j1 kq l1 l2 x8_1 x9_1 x10_1 x11_1 x26_13 t308 t309 t310 t311 t312 t313 t314 t315 t316 t317 t318 t319 t320 t321 t322 t323 t324 t325 t326 t327 t328 t329 t330 t331 t332 x334000_1 x334001_1 x334002_1 x334003_1 x334004_1 x334005_1 = some r) ∧ Aside0 (kq ≤ k1) ∧ Aside0 (Ow.Own w wc [(gb307, Q1, 27), (gb333, Q2, 29)]))
   case first => as_aux_lemma =>
    have H := HC14.out
    clear HC14
    by_cases c15 : x11_1 < (l1.length : Int)
    ·rw [if_pos c15] at H
     have c15b0 : decide (x11_1 < (l1.length : Int)) = true := decide_eq_true c15
     clear c15
     (first | rw [c15b0] | (simp only [i64_w, i32_w]; rw [c15b0]) | skip)
     have H' := Aside0.mk H
     clear H
     go_wp2_with (first | ((with_reducible refine Ow.gate_eqs (t := 29) (by first | exact Or.inl rfl | exact Or.inr rfl) rfl ?_); simp only [hq.1, Ow.part, Ot.sz, Ot.zero, Ow.over, Ow.overL, List.drop_succ_cons, List.drop_zero, List.take_succ_cons, List.take_zero]) | ((with_reducible refine Ow.gate_eqs (t := 36) (by first | exact Or.inl rfl | exact Or.inr rfl) rfl ?_); simp only [hq.1, Ow.part, Ot.sz, Ot.zero, Ow.over, Ow.overL, List.drop_succ_cons, List.drop_zero, List.take_succ_cons, List.take_zero]) | ((with_reducible refine Ow.gate_build rfl ?_); (try (refine gate_guard (by rfl) ?_; dsimp only)); refine' Ow.tbuild Ot.bd rfl rfl rfl ?hf_ ?_; (case hf_ => repeat (any_goals (first | exact Ow.Fills.nil | (refine' Ow.Fills.c ?hv_ rfl ?hz_ ?_; (case hv_ => first | exact Ow.ev_tmp rfl | rfl); (case hz_ => first | (refine ⟨?_, ?_⟩ <;> (first | ((try simp only [hq.1]) <;> rfl) | fail)) | fail)))))) | ((with_reducible refine Ow.gate_load rfl ?_); (try (refine gate_guard (by rfl) ?_; dsimp only)); (first | refine Ow.l1 Ot.ty HO.out rfl rfl rfl rfl (by first | ((try simp only [hq.1]) <;> rfl) | fail) ?_ | refine Ow.l0 Ot.ty HO.out rfl rfl rfl rfl (by first | ((try simp only [hq.1]) <;> rfl) | fail) ?_ | refine Ow.lp Ot.ty HO.out rfl rfl rfl rfl (by first | ((try simp only [hq.1]) <;> rfl) | fail) ?_)) | ((with_reducible refine gate_store rfl ?_); (try (refine gate_guard (by rfl) ?_; dsimp only)); (first | refine Ow.s0 Ot.ty HO.out rfl rfl rfl rfl rfl (by first | exact Ow.ev_tmp rfl | rfl) (by first | (refine ⟨?_, ?_, ?_⟩ <;> (first | ((try simp only [hq.1]) <;> rfl) | fail)) | fail) ?_ | refine Ow.sp Ot.ty HO.out rfl rfl rfl rfl rfl (by first | exact Ow.ev_tmp rfl | rfl) (by first | (refine ⟨?_, ?_, ?_⟩ <;> (first | ((try simp only [hq.1]) <;> rfl) | fail)) | fail) ?_); clear HO; intro wz_ HO; simp only [List.set_cons_zero, List.set_cons_succ] at HO))
     (try simp only [← hQ0.out, ← hQ1.out, ← hQ2.out])
     go_meet
     case rel => exact ⟨_, (decide (x11_1 < 20)), (by first | rfl | (simp; done) | (simp [*]; done) | (simp [Pu.bne_nil, Pu.beq_nil]; done)), H', ⟨by have := HK1.out; first | omega | exact Nat.le_refl _⟩, ⟨Ow.Own.cong (by first | exact HO.out | (have h_ := HO.out; simp only [World.drewN_drewN] at h_; exact h_)) (by first | ((try simp only [hq.1]) <;> rfl) | fail)⟩⟩
    ·rw [if_neg c15] at H
     have c15b0 : decide (x11_1 < (l1.length : Int)) = false := decide_eq_false c15
     clear c15
     (first | rw [c15b0] | (simp only [i64_w, i32_w]; rw [c15b0]) | skip)
     have H' := Aside0.mk H
     clear H
     go_wp2_with (first | ((with_reducible refine Ow.gate_eqs (t := 29) (by first | exact Or.inl rfl | exact Or.inr rfl) rfl ?_); simp only [hq.1, Ow.part, Ot.sz, Ot.zero, Ow.over, Ow.overL, List.drop_succ_cons, List.drop_zero, List.take_succ_cons, List.take_zero]) | ((with_reducible refine Ow.gate_eqs (t := 36) (by first | exact Or.inl rfl | exact Or.inr rfl) rfl ?_); simp only [hq.1, Ow.part, Ot.sz, Ot.zero, Ow.over, Ow.overL, List.drop_succ_cons, List.drop_zero, List.take_succ_cons, List.take_zero]) | ((with_reducible refine Ow.gate_build rfl ?_); (try (refine gate_guard (by rfl) ?_; dsimp only)); refine' Ow.tbuild Ot.bd rfl rfl rfl ?hf_ ?_; (case hf_ => repeat (any_goals (first | exact Ow.Fills.nil | (refine' Ow.Fills.c ?hv_ rfl ?hz_ ?_; (case hv_ => first | exact Ow.ev_tmp rfl | rfl); (case hz_ => first | (refine ⟨?_, ?_⟩ <;> (first | ((try simp only [hq.1]) <;> rfl) | fail)) | fail)))))) | ((with_reducible refine Ow.gate_load rfl ?_); (try (refine gate_guard (by rfl) ?_; dsimp only)); (first | refine Ow.l1 Ot.ty HO.out rfl rfl rfl rfl (by first | ((try simp only [hq.1]) <;> rfl) | fail) ?_ | refine Ow.l0 Ot.ty HO.out rfl rfl rfl rfl (by first | ((try simp only [hq.1]) <;> rfl) | fail) ?_ | refine Ow.lp Ot.ty HO.out rfl rfl rfl rfl (by first | ((try simp only [hq.1]) <;> rfl) | fail) ?_)) | ((with_reducible refine gate_store rfl ?_); (try (refine gate_guard (by rfl) ?_; dsimp only)); (first | refine Ow.s0 Ot.ty HO.out rfl rfl rfl rfl rfl (by first | exact Ow.ev_tmp rfl | rfl) (by first | (refine ⟨?_, ?_, ?_⟩ <;> (first | ((try simp only [hq.1]) <;> rfl) | fail)) | fail) ?_ | refine Ow.sp Ot.ty HO.out rfl rfl rfl rfl rfl (by first | exact Ow.ev_tmp rfl | rfl) (by first | (refine ⟨?_, ?_, ?_⟩ <;> (first | ((try simp only [hq.1]) <;> rfl) | fail)) | fail) ?_); clear HO; intro wz_ HO; simp only [List.set_cons_zero, List.set_cons_succ] at HO))
     (try simp only [← hQ0.out, ← hQ1.out, ← hQ2.out])
     go_meet
     case rel => exact ⟨_, (false), (by first | rfl | (simp; done) | (simp [*]; done) | (simp [Pu.bne_nil, Pu.beq_nil]; done)), H', ⟨by have := HK1.out; first | omega | exact Nat.le_refl _⟩, ⟨Ow.Own.cong (by first | exact HO.out | (have h_ := HO.out; simp only [World.drewN_drewN] at h_; exact h_)) (by first | ((try simp only [hq.1]) <;> rfl) | fail)⟩⟩
   case rest => as_aux_lemma =>
    clear HC14
    try clear c1
    try clear c2
    try clear p2
    try clear c5
    try clear c11
    try clear c15
    try clear c15b0
    try clear hcz12_0
    try clear hcz6_0
    try clear hcz8_0
    try clear hfz12_0
    try clear hfz6_0
    try clear hfz8_0
    try clear p2
    clear HO
    obtain ⟨kq, x26_13, rfl, HA, HJ13, HO⟩ := hcut
    cases kq with
    | zero => exact absurd HA.out (by simp [bursarlaw26_DisputeGoes.j1])
    | succ kj13 =>
     have H := HA.out
     clear HA
     simp only [bursarlaw26_DisputeGoes.j1] at H
     by_cases c16 : x26_13 = true
     ·subst c16
      have H1 : (if x11_1 < (l2.length : Int) then (if 0 ≤ x11_1 then (bursarlaw26_DisputeGoes.j2 kj13 l1 l2 x8_1 x9_1 (wrap64 (x10_1 + (wrap64 (rd l2 x11_1)))) x11_1 t308 t309 t310 t311 t312 t313 t314 t315 t316 t317 t318 t319 t320 t321 t322 t323 t324 t325 t326 t327 t328 t329 t330 t331 t332 x334000_1 x334001_1 x334002_1 x334003_1 x334004_1 x334005_1) else (none)) else (bursarlaw26_DisputeGoes.j2 kj13 l1 l2 x8_1 x9_1 x10_1 x11_1 t308 t309 t310 t311 t312 t313 t314 t315 t316 t317 t318 t319 t320 t321 t322 t323 t324 t325 t326 t327 t328 t329 t330 t331 t332 x334000_1 x334001_1 x334002_1 x334003_1 x334004_1 x334005_1)) = some r := by rw [if_pos rfl] at H; exact H
      clear H
      have H := H1
      clear H1
      have HC17 := Aside0.mk H
      clear H
      go_upto_if 32 with (first | ((with_reducible refine Ow.gate_eqs (t := 29) (by first | exact Or.inl rfl | exact Or.inr rfl) rfl ?_); simp only [hq.1, Ow.part, Ot.sz, Ot.zero, Ow.over, Ow.overL, List.drop_succ_cons, List.drop_zero, List.take_succ_cons, List.take_zero]) | ((with_reducible refine Ow.gate_eqs (t := 36) (by first | exact Or.inl rfl | exact Or.inr rfl) rfl ?_); simp only [hq.1, Ow.part, Ot.sz, Ot.zero, Ow.over, Ow.overL, List.drop_succ_cons, List.drop_zero, List.take_succ_cons, List.take_zero]) | ((with_reducible refine Ow.gate_build rfl ?_); (try (refine gate_guard (by rfl) ?_; dsimp only)); refine' Ow.tbuild Ot.bd rfl rfl rfl ?hf_ ?_; (case hf_ => repeat (any_goals (first | exact Ow.Fills.nil | (refine' Ow.Fills.c ?hv_ rfl ?hz_ ?_; (case hv_ => first | exact Ow.ev_tmp rfl | rfl); (case hz_ => first | (refine ⟨?_, ?_⟩ <;> (first | ((try simp only [hq.1]) <;> rfl) | fail)) | fail)))))) | ((with_reducible refine Ow.gate_load rfl ?_); (try (refine gate_guard (by rfl) ?_; dsimp only)); (first | refine Ow.l1 Ot.ty HO.out rfl rfl rfl rfl (by first | ((try simp only [hq.1]) <;> rfl) | fail) ?_ | refine Ow.l0 Ot.ty HO.out rfl rfl rfl rfl (by first | ((try simp only [hq.1]) <;> rfl) | fail) ?_ | refine Ow.lp Ot.ty HO.out rfl rfl rfl rfl (by first | ((try simp only [hq.1]) <;> rfl) | fail) ?_)) | ((with_reducible refine gate_store rfl ?_); (try (refine gate_guard (by rfl) ?_; dsimp only)); (first | refine Ow.s0 Ot.ty HO.out rfl rfl rfl rfl rfl (by first | exact Ow.ev_tmp rfl | rfl) (by first | (refine ⟨?_, ?_, ?_⟩ <;> (first | ((try simp only [hq.1]) <;> rfl) | fail)) | fail) ?_ | refine Ow.sp Ot.ty HO.out rfl rfl rfl rfl rfl (by first | exact Ow.ev_tmp rfl | rfl) (by first | (refine ⟨?_, ?_, ?_⟩ <;> (first | ((try simp only [hq.1]) <;> rfl) | fail)) | fail) ?_); clear HO; intro wz_ HO; simp only [List.set_cons_zero, List.set_cons_succ] at HO))
      (try simp only [Act.put, List.setIfInBounds_toArray, List.set_cons_zero, List.set_cons_succ])
      go_cut [10] (fun v10 wc => ∃ (kq : Nat) (x10_16 : Int), v10 = .int .i64 x10_16 ∧ Aside0 (bursarlaw26_DisputeGoes.j2 kq l1 l2 x8_1 x9_1 x10_16 x11_1 t308 t309 t310 t311 t312 t313 t314 t315 t316 t317 t318 t319 t320 t321 t322 t323 t324 t325 t326 t327 t328 t329 t330 t331 t332 x334000_1 x334001_1 x334002_1 x334003_1 x334004_1 x334005_1 = some r) ∧ Aside0 (kq ≤ kj13) ∧ Aside0 (Ow.Own w wc [(gb307, Q1, 27), (gb333, Q2, 29)]))
      case first => as_aux_lemma =>
       have H := HC17.out
       clear HC17
       by_cases c18 : x11_1 < (l2.length : Int)
       ·rw [if_pos c18] at H
        have c18b0 : decide (x11_1 < (l2.length : Int)) = true := decide_eq_true c18
        clear c18
        (first | rw [c18b0] | (simp only [i64_w, i32_w]; rw [c18b0]) | skip)
        by_cases c19 : 0 ≤ x11_1
        ·rw [if_pos c19] at H
         have c19b0 : decide (0 ≤ x11_1) = true := decide_eq_true c19
         clear c19
         have H' := Aside0.mk H
         clear H
         have p335 : 0 ≤ (x11_1 : Int) := of_decide_eq_true (by first | (with_reducible assumption) | assumption)
         have q335 : x11_1 < (l2.length : Int) := of_decide_eq_true (by first | (with_reducible assumption) | assumption)
         obtain ⟨ad335, e335, hx335_0⟩ := Kd.at_int HR2.out x11_1 p335 q335
         cases e335
         replace hx335_0 := ((Ow.Own.below HO.out).cell (World.block_lt_of_cell? w _ hx335_0)).trans hx335_0
         replace p335 := eq_true p335
         replace q335 := eq_true q335
         go_wp2_with (first | ((with_reducible refine Ow.gate_eqs (t := 29) (by first | exact Or.inl rfl | exact Or.inr rfl) rfl ?_); simp only [hq.1, Ow.part, Ot.sz, Ot.zero, Ow.over, Ow.overL, List.drop_succ_cons, List.drop_zero, List.take_succ_cons, List.take_zero]) | ((with_reducible refine Ow.gate_eqs (t := 36) (by first | exact Or.inl rfl | exact Or.inr rfl) rfl ?_); simp only [hq.1, Ow.part, Ot.sz, Ot.zero, Ow.over, Ow.overL, List.drop_succ_cons, List.drop_zero, List.take_succ_cons, List.take_zero]) | ((with_reducible refine Ow.gate_build rfl ?_); (try (refine gate_guard (by rfl) ?_; dsimp only)); refine' Ow.tbuild Ot.bd rfl rfl rfl ?hf_ ?_; (case hf_ => repeat (any_goals (first | exact Ow.Fills.nil | (refine' Ow.Fills.c ?hv_ rfl ?hz_ ?_; (case hv_ => first | exact Ow.ev_tmp rfl | rfl); (case hz_ => first | (refine ⟨?_, ?_⟩ <;> (first | ((try simp only [hq.1]) <;> rfl) | fail)) | fail)))))) | ((with_reducible refine Ow.gate_load rfl ?_); (try (refine gate_guard (by rfl) ?_; dsimp only)); (first | refine Ow.l1 Ot.ty HO.out rfl rfl rfl rfl (by first | ((try simp only [hq.1]) <;> rfl) | fail) ?_ | refine Ow.l0 Ot.ty HO.out rfl rfl rfl rfl (by first | ((try simp only [hq.1]) <;> rfl) | fail) ?_ | refine Ow.lp Ot.ty HO.out rfl rfl rfl rfl (by first | ((try simp only [hq.1]) <;> rfl) | fail) ?_)) | ((with_reducible refine gate_store rfl ?_); (try (refine gate_guard (by rfl) ?_; dsimp only)); (first | refine Ow.s0 Ot.ty HO.out rfl rfl rfl rfl rfl (by first | exact Ow.ev_tmp rfl | rfl) (by first | (refine ⟨?_, ?_, ?_⟩ <;> (first | ((try simp only [hq.1]) <;> rfl) | fail)) | fail) ?_ | refine Ow.sp Ot.ty HO.out rfl rfl rfl rfl rfl (by first | exact Ow.ev_tmp rfl | rfl) (by first | (refine ⟨?_, ?_, ?_⟩ <;> (first | ((try simp only [hq.1]) <;> rfl) | fail)) | fail) ?_); clear HO; intro wz_ HO; simp only [List.set_cons_zero, List.set_cons_succ] at HO))
         (try simp only [← hQ0.out, ← hQ1.out, ← hQ2.out])
         go_meet
         case rel => exact ⟨_, (wrap64 (x10_1 + (wrap64 (rd l2 x11_1)))), (by first | rfl | (simp; done) | (simp [*]; done) | (simp [Pu.bne_nil, Pu.beq_nil]; done)), H', ⟨by have := HK1.out; have := HJ13.out; first | omega | exact Nat.le_refl _⟩, ⟨Ow.Own.cong (by first | exact HO.out | (have h_ := HO.out; simp only [World.drewN_drewN] at h_; exact h_)) (by first | ((try simp only [hq.1]) <;> rfl) | fail)⟩⟩
        ·rw [if_neg c19] at H
         exact absurd H (by simp)
       ·rw [if_neg c18] at H
        have c18b0 : decide (x11_1 < (l2.length : Int)) = false := decide_eq_false c18
        clear c18
        (first | rw [c18b0] | (simp only [i64_w, i32_w]; rw [c18b0]) | skip)
        have H' := Aside0.mk H
        clear H
        go_wp2_with (first | ((with_reducible refine Ow.gate_eqs (t := 29) (by first | exact Or.inl rfl | exact Or.inr rfl) rfl ?_); simp only [hq.1, Ow.part, Ot.sz, Ot.zero, Ow.over, Ow.overL, List.drop_succ_cons, List.drop_zero, List.take_succ_cons, List.take_zero]) | ((with_reducible refine Ow.gate_eqs (t := 36) (by first | exact Or.inl rfl | exact Or.inr rfl) rfl ?_); simp only [hq.1, Ow.part, Ot.sz, Ot.zero, Ow.over, Ow.overL, List.drop_succ_cons, List.drop_zero, List.take_succ_cons, List.take_zero]) | ((with_reducible refine Ow.gate_build rfl ?_); (try (refine gate_guard (by rfl) ?_; dsimp only)); refine' Ow.tbuild Ot.bd rfl rfl rfl ?hf_ ?_; (case hf_ => repeat (any_goals (first | exact Ow.Fills.nil | (refine' Ow.Fills.c ?hv_ rfl ?hz_ ?_; (case hv_ => first | exact Ow.ev_tmp rfl | rfl); (case hz_ => first | (refine ⟨?_, ?_⟩ <;> (first | ((try simp only [hq.1]) <;> rfl) | fail)) | fail)))))) | ((with_reducible refine Ow.gate_load rfl ?_); (try (refine gate_guard (by rfl) ?_; dsimp only)); (first | refine Ow.l1 Ot.ty HO.out rfl rfl rfl rfl (by first | ((try simp only [hq.1]) <;> rfl) | fail) ?_ | refine Ow.l0 Ot.ty HO.out rfl rfl rfl rfl (by first | ((try simp only [hq.1]) <;> rfl) | fail) ?_ | refine Ow.lp Ot.ty HO.out rfl rfl rfl rfl (by first | ((try simp only [hq.1]) <;> rfl) | fail) ?_)) | ((with_reducible refine gate_store rfl ?_); (try (refine gate_guard (by rfl) ?_; dsimp only)); (first | refine Ow.s0 Ot.ty HO.out rfl rfl rfl rfl rfl (by first | exact Ow.ev_tmp rfl | rfl) (by first | (refine ⟨?_, ?_, ?_⟩ <;> (first | ((try simp only [hq.1]) <;> rfl) | fail)) | fail) ?_ | refine Ow.sp Ot.ty HO.out rfl rfl rfl rfl rfl (by first | exact Ow.ev_tmp rfl | rfl) (by first | (refine ⟨?_, ?_, ?_⟩ <;> (first | ((try simp only [hq.1]) <;> rfl) | fail)) | fail) ?_); clear HO; intro wz_ HO; simp only [List.set_cons_zero, List.set_cons_succ] at HO))
        (try simp only [← hQ0.out, ← hQ1.out, ← hQ2.out])
        go_meet
        case rel => exact ⟨_, (x10_1), (by first | rfl | (simp; done) | (simp [*]; done) | (simp [Pu.bne_nil, Pu.beq_nil]; done)), H', ⟨by have := HK1.out; have := HJ13.out; first | omega | exact Nat.le_refl _⟩, ⟨Ow.Own.cong (by first | exact HO.out | (have h_ := HO.out; simp only [World.drewN_drewN] at h_; exact h_)) (by first | ((try simp only [hq.1]) <;> rfl) | fail)⟩⟩
      case rest => as_aux_lemma =>
       clear HC17
       try clear c1
       try clear c2
       try clear p2
       try clear p3
       try clear q3
       try clear hx3
       try clear c5
       try clear p6
       try clear c11
       try clear c15
       try clear c15b0
       try clear c16
       try clear c18
       try clear c18b0
       try clear c19
       try clear c19b0
       try clear hcz12_0
       try clear hcz6_0
       try clear hcz8_0
       try clear hfz12_0
       try clear hfz6_0
       try clear hfz8_0
       try clear hx335_0
       try clear p2
       try clear p335
       try clear q335
       clear HO
       obtain ⟨kq, x10_16, rfl, HA, HJ16, HO⟩ := hcut
       cases kq with
       | zero => exact absurd HA.out (by simp [bursarlaw26_DisputeGoes.j2])
       | succ kj16 =>
        have H := HA.out
        clear HA
        simp only [bursarlaw26_DisputeGoes.j2] at H
        by_cases c20 : 0 ≤ x11_1
        ·rw [if_pos c20] at H
         have c20b0 : decide (0 ≤ x11_1) = true := decide_eq_true c20
         clear c20
         by_cases c21 : x11_1 < (l1.length : Int)
         ·rw [if_pos c21] at H
          have c21b0 : decide (x11_1 < (l1.length : Int)) = true := decide_eq_true c21
          clear c21
          replace H := Option.bind_eq_some_iff.mp H
          obtain ⟨t338, A220, H⟩ := H
          replace H : ((dispute_Decide.f kj16 t308 t309 t338 ((rd_T23 l1 x11_1).f3) t312 t313 t314 t315 t316 t317 t318 t319 t320 t321 t322 t323 t324 t325 t326 t327 t328 t329 x10_16 t331 t332 x334000_1 x334001_1 x334002_1 x334003_1 x334004_1 x334005_1 x8_1).bind fun bt340 => (if bt340.2.2.2.2.2.2.2.2.2.2.2.2.toList = ([48, 48] : List UInt8) then ((bursarref20_May.f kj16 bt340.2.2.2.2.2.2.1 bt340.2.2.2.2.2.2.2.1 bt340.2.2.2.2.2.2.2.2.1 bt340.2.2.2.2.2.2.2.2.2.1 bt340.2.2.2.2.2.2.2.2.2.2.1 bt340.2.2.2.2.2.2.2.2.2.2.2.1).bind fun t355 => (if t355 = true then (if bt340.2.2.2.2.2.2.2.2.2.2.2.1 = bt340.2.2.2.2.1 then (if bt340.2.2.2.1 = (wrap64 (x334003_1 + 1)) then (bursarlaw26_DisputeGoes.j3 kj16 l1 l2 x9_1 x10_16 x11_1 (bt340.2.2.2.2.2.1 != (wrap64 (x10_16 + 200))) t308 t309 t310 t311 t312 t313 t314 t315 t316 t317 t318 t319 t320 t321 t322 t323 t324 t325 t326 t327 t328 t329 t330 t331 t332 bt340.1 bt340.2.1 bt340.2.2.1 bt340.2.2.2.1 bt340.2.2.2.2.1 bt340.2.2.2.2.2.1 bt340.2.2.2.2.2.2.1 bt340.2.2.2.2.2.2.2.1 bt340.2.2.2.2.2.2.2.2.1 bt340.2.2.2.2.2.2.2.2.2.1 bt340.2.2.2.2.2.2.2.2.2.2.1 bt340.2.2.2.2.2.2.2.2.2.2.2.1) else (bursarlaw26_DisputeGoes.j3 kj16 l1 l2 x9_1 x10_16 x11_1 true t308 t309 t310 t311 t312 t313 t314 t315 t316 t317 t318 t319 t320 t321 t322 t323 t324 t325 t326 t327 t328 t329 t330 t331 t332 bt340.1 bt340.2.1 bt340.2.2.1 bt340.2.2.2.1 bt340.2.2.2.2.1 bt340.2.2.2.2.2.1 bt340.2.2.2.2.2.2.1 bt340.2.2.2.2.2.2.2.1 bt340.2.2.2.2.2.2.2.2.1 bt340.2.2.2.2.2.2.2.2.2.1 bt340.2.2.2.2.2.2.2.2.2.2.1 bt340.2.2.2.2.2.2.2.2.2.2.2.1)) else (bursarlaw26_DisputeGoes.j3 kj16 l1 l2 x9_1 x10_16 x11_1 true t308 t309 t310 t311 t312 t313 t314 t315 t316 t317 t318 t319 t320 t321 t322 t323 t324 t325 t326 t327 t328 t329 t330 t331 t332 bt340.1 bt340.2.1 bt340.2.2.1 bt340.2.2.2.1 bt340.2.2.2.2.1 bt340.2.2.2.2.2.1 bt340.2.2.2.2.2.2.1 bt340.2.2.2.2.2.2.2.1 bt340.2.2.2.2.2.2.2.2.1 bt340.2.2.2.2.2.2.2.2.2.1 bt340.2.2.2.2.2.2.2.2.2.2.1 bt340.2.2.2.2.2.2.2.2.2.2.2.1)) else (bursarlaw26_DisputeGoes.j3 kj16 l1 l2 x9_1 x10_16 x11_1 true t308 t309 t310 t311 t312 t313 t314 t315 t316 t317 t318 t319 t320 t321 t322 t323 t324 t325 t326 t327 t328 t329 t330 t331 t332 bt340.1 bt340.2.1 bt340.2.2.1 bt340.2.2.2.1 bt340.2.2.2.2.1 bt340.2.2.2.2.2.1 bt340.2.2.2.2.2.2.1 bt340.2.2.2.2.2.2.2.1 bt340.2.2.2.2.2.2.2.2.1 bt340.2.2.2.2.2.2.2.2.2.1 bt340.2.2.2.2.2.2.2.2.2.2.1 bt340.2.2.2.2.2.2.2.2.2.2.2.1))) else (if (!(bt340.1.toList == ([] : List UInt8)) || (!(bt340.2.1.toList == ([] : List UInt8)) || (!(bt340.2.2.1.toList == ([] : List UInt8)) || (!(bt340.2.2.2.1 == 0) || (!(bt340.2.2.2.2.1 == 0) || (!(bt340.2.2.2.2.2.1 == 0))))))) = true then (none) else (if (!(bt340.2.2.2.2.2.2.1 == 0) || (!(bt340.2.2.2.2.2.2.2.1 == 0) || (!(bt340.2.2.2.2.2.2.2.2.1.toList == ([] : List UInt8)) || (!(bt340.2.2.2.2.2.2.2.2.2.1.toList == ([] : List UInt8)) || (!(bt340.2.2.2.2.2.2.2.2.2.2.1.toList == ([] : List UInt8)) || (!(bt340.2.2.2.2.2.2.2.2.2.2.2.1 == 0))))))) = true then (none) else (bursarlaw26_DisputeGoes.l0 kj16 l1 l2 x8_1 x9_1 x10_16 (wrap64 (x11_1 + 1)) t308 t309 t310 t311 t312 t313 t314 t315 t316 t317 t318 t319 t320 t321 t322 t323 t324 t325 t326 t327 t328 t329 t330 t331 t332 x334000_1 x334001_1 x334002_1 x334003_1 x334004_1 x334005_1))))) = some r := H
          have A22 := Aside0.mk A220
          clear A220
          replace H := Option.bind_eq_some_iff.mp H
          obtain ⟨⟨t340, t341, t342, t343, t344, t345, t346, t347, t348, t349, t350, t351, t352⟩, A230, H⟩ := H
          replace H : (if t352.toList = ([48, 48] : List UInt8) then ((bursarref20_May.f kj16 t346 t347 t348 t349 t350 t351).bind fun t355 => (if t355 = true then (if t351 = t344 then (if t343 = (wrap64 (x334003_1 + 1)) then (bursarlaw26_DisputeGoes.j3 kj16 l1 l2 x9_1 x10_16 x11_1 (t345 != (wrap64 (x10_16 + 200))) t308 t309 t310 t311 t312 t313 t314 t315 t316 t317 t318 t319 t320 t321 t322 t323 t324 t325 t326 t327 t328 t329 t330 t331 t332 t340 t341 t342 t343 t344 t345 t346 t347 t348 t349 t350 t351) else (bursarlaw26_DisputeGoes.j3 kj16 l1 l2 x9_1 x10_16 x11_1 true t308 t309 t310 t311 t312 t313 t314 t315 t316 t317 t318 t319 t320 t321 t322 t323 t324 t325 t326 t327 t328 t329 t330 t331 t332 t340 t341 t342 t343 t344 t345 t346 t347 t348 t349 t350 t351)) else (bursarlaw26_DisputeGoes.j3 kj16 l1 l2 x9_1 x10_16 x11_1 true t308 t309 t310 t311 t312 t313 t314 t315 t316 t317 t318 t319 t320 t321 t322 t323 t324 t325 t326 t327 t328 t329 t330 t331 t332 t340 t341 t342 t343 t344 t345 t346 t347 t348 t349 t350 t351)) else (bursarlaw26_DisputeGoes.j3 kj16 l1 l2 x9_1 x10_16 x11_1 true t308 t309 t310 t311 t312 t313 t314 t315 t316 t317 t318 t319 t320 t321 t322 t323 t324 t325 t326 t327 t328 t329 t330 t331 t332 t340 t341 t342 t343 t344 t345 t346 t347 t348 t349 t350 t351))) else (if (!(t340.toList == ([] : List UInt8)) || (!(t341.toList == ([] : List UInt8)) || (!(t342.toList == ([] : List UInt8)) || (!(t343 == 0) || (!(t344 == 0) || (!(t345 == 0))))))) = true then (none) else (if (!(t346 == 0) || (!(t347 == 0) || (!(t348.toList == ([] : List UInt8)) || (!(t349.toList == ([] : List UInt8)) || (!(t350.toList == ([] : List UInt8)) || (!(t351 == 0))))))) = true then (none) else (bursarlaw26_DisputeGoes.l0 kj16 l1 l2 x8_1 x9_1 x10_16 (wrap64 (x11_1 + 1)) t308 t309 t310 t311 t312 t313 t314 t315 t316 t317 t318 t319 t320 t321 t322 t323 t324 t325 t326 t327 t328 t329 t330 t331 t332 x334000_1 x334001_1 x334002_1 x334003_1 x334004_1 x334005_1)))) = some r := H
          have A23 := Aside0.mk A230
          clear A230
          by_cases c24 : t352.toList = ([48, 48] : List UInt8)
          ·rw [if_pos c24] at H
           have c24b0 : (t352.toList == ([48, 48] : List UInt8)) = true := beq_iff_eq.mpr c24
           have c24b1 : (t352.toList != ([48, 48] : List UInt8)) = false := bne_eq_false_iff_eq.mpr c24
           clear c24
           have HC25 := Aside0.mk H
           clear H
           try go_wp2_with (first | ((with_reducible refine gate_dst (N := 12) rfl ?_); refine Ow.box rfl (N := 12) rfl (cs := bursarlaw26_DisputeGoes.Z25) (t := 27) HO.out (by first | (go_simp; done) | (go_simp; rfl)) ?_; clear HO; intro gb336 w28 HO; simp only [List.cons_append, List.nil_append] at HO) | ((with_reducible refine Ow.gate_eqs (t := 29) (by first | exact Or.inl rfl | exact Or.inr rfl) rfl ?_); simp only [hq.1, Ow.part, Ot.sz, Ot.zero, Ow.over, Ow.overL, List.drop_succ_cons, List.drop_zero, List.take_succ_cons, List.take_zero]) | ((with_reducible refine Ow.gate_eqs (t := 36) (by first | exact Or.inl rfl | exact Or.inr rfl) rfl ?_); simp only [hq.1, Ow.part, Ot.sz, Ot.zero, Ow.over, Ow.overL, List.drop_succ_cons, List.drop_zero, List.take_succ_cons, List.take_zero]) | ((with_reducible refine Ow.gate_build rfl ?_); (try (refine gate_guard (by rfl) ?_; dsimp only)); refine' Ow.tbuild Ot.bd rfl rfl rfl ?hf_ ?_; (case hf_ => repeat (any_goals (first | exact Ow.Fills.nil | (refine' Ow.Fills.c ?hv_ rfl ?hz_ ?_; (case hv_ => first | exact Ow.ev_tmp rfl | rfl); (case hz_ => first | (refine ⟨?_, ?_⟩ <;> (first | ((try simp only [hq.1]) <;> rfl) | fail)) | fail)))))) | ((with_reducible refine Ow.gate_load rfl ?_); (try (refine gate_guard (by rfl) ?_; dsimp only)); (first | refine Ow.l1 Ot.ty HO.out rfl rfl rfl rfl (by first | ((try simp only [hq.1]) <;> rfl) | fail) ?_ | refine Ow.l0 Ot.ty HO.out rfl rfl rfl rfl (by first | ((try simp only [hq.1]) <;> rfl) | fail) ?_ | refine Ow.lp Ot.ty HO.out rfl rfl rfl rfl (by first | ((try simp only [hq.1]) <;> rfl) | fail) ?_)) | ((with_reducible refine gate_store rfl ?_); (try (refine gate_guard (by rfl) ?_; dsimp only)); (first | refine Ow.s0 Ot.ty HO.out rfl rfl rfl rfl rfl (by first | exact Ow.ev_tmp rfl | rfl) (by first | (refine ⟨?_, ?_, ?_⟩ <;> (first | ((try simp only [hq.1]) <;> rfl) | fail)) | fail) ?_ | refine Ow.sp Ot.ty HO.out rfl rfl rfl rfl rfl (by first | exact Ow.ev_tmp rfl | rfl) (by first | (refine ⟨?_, ?_, ?_⟩ <;> (first | ((try simp only [hq.1]) <;> rfl) | fail)) | fail) ?_); clear HO; intro wz_ HO; simp only [List.set_cons_zero, List.set_cons_succ] at HO))
           have p337 : 0 ≤ (x11_1 : Int) := of_decide_eq_true (by first | (with_reducible assumption) | assumption)
           have q337 : x11_1 < (l1.length : Int) := of_decide_eq_true (by first | (with_reducible assumption) | assumption)
           obtain ⟨ad337, e337, hx337_0, hx337_1, hx337_2, hx337_3, hx337_4, hx337_5, hx337_6, hx337_7, hx337_8, hx337_9, hx337_10, hx337_11⟩ := at_T23 HR1.out x11_1 p337 q337
           have hw337_11 := hx337_11
           have hw337_10 := hx337_10
           have hw337_9 := hx337_9
           have hw337_8 := hx337_8
           have hw337_7 := hx337_7
           have hw337_6 := hx337_6
           have hw337_5 := hx337_5
           have hw337_4 := hx337_4
           have hw337_3 := hx337_3
           have hw337_2 := hx337_2
           have hw337_1 := hx337_1
           have hw337_0 := hx337_0
           cases e337
           replace hx337_0 := ((Ow.Own.below HO.out).cell (World.block_lt_of_cell? w _ hx337_0)).trans hx337_0
           replace hx337_1 := ((Ow.Own.below HO.out).cell (World.block_lt_of_cell? w _ hx337_1)).trans hx337_1
           replace hx337_2 := ((Ow.Own.below HO.out).cell (World.block_lt_of_cell? w _ hx337_2)).trans hx337_2
           replace hx337_3 := ((Ow.Own.below HO.out).cell (World.block_lt_of_cell? w _ hx337_3)).trans hx337_3
           replace hx337_4 := ((Ow.Own.below HO.out).cell (World.block_lt_of_cell? w _ hx337_4)).trans hx337_4
           replace hx337_5 := ((Ow.Own.below HO.out).cell (World.block_lt_of_cell? w _ hx337_5)).trans hx337_5
           replace hx337_6 := ((Ow.Own.below HO.out).cell (World.block_lt_of_cell? w _ hx337_6)).trans hx337_6
           replace hx337_7 := ((Ow.Own.below HO.out).cell (World.block_lt_of_cell? w _ hx337_7)).trans hx337_7
           replace hx337_8 := ((Ow.Own.below HO.out).cell (World.block_lt_of_cell? w _ hx337_8)).trans hx337_8
           replace hx337_9 := ((Ow.Own.below HO.out).cell (World.block_lt_of_cell? w _ hx337_9)).trans hx337_9
           replace hx337_10 := ((Ow.Own.below HO.out).cell (World.block_lt_of_cell? w _ hx337_10)).trans hx337_10
           replace hx337_11 := ((Ow.Own.below HO.out).cell (World.block_lt_of_cell? w _ hx337_11)).trans hx337_11
           replace p337 := eq_true p337
           replace q337 := eq_true q337
           have p339 : 0 ≤ (x11_1 : Int) := of_decide_eq_true (by first | (with_reducible assumption) | assumption)
           have q339 : x11_1 < (l1.length : Int) := of_decide_eq_true (by first | (with_reducible assumption) | assumption)
           obtain ⟨ad339, e339, hx339_0, hx339_1, hx339_2, hx339_3, hx339_4, hx339_5, hx339_6, hx339_7, hx339_8, hx339_9, hx339_10, hx339_11⟩ := at_T23 HR1.out x11_1 p339 q339
           have hw339_11 := hx339_11
           have hw339_10 := hx339_10
           have hw339_9 := hx339_9
           have hw339_8 := hx339_8
           have hw339_7 := hx339_7
           have hw339_6 := hx339_6
           have hw339_5 := hx339_5
           have hw339_4 := hx339_4
           have hw339_3 := hx339_3
           have hw339_2 := hx339_2
           have hw339_1 := hx339_1
           have hw339_0 := hx339_0
           obtain rfl : ad337 = ad339 := (by injection e339)
           replace hx339_0 := ((Ow.Own.below HO.out).cell (World.block_lt_of_cell? w _ hx339_0)).trans hx339_0
           replace hx339_1 := ((Ow.Own.below HO.out).cell (World.block_lt_of_cell? w _ hx339_1)).trans hx339_1
           replace hx339_2 := ((Ow.Own.below HO.out).cell (World.block_lt_of_cell? w _ hx339_2)).trans hx339_2
           replace hx339_3 := ((Ow.Own.below HO.out).cell (World.block_lt_of_cell? w _ hx339_3)).trans hx339_3
           replace hx339_4 := ((Ow.Own.below HO.out).cell (World.block_lt_of_cell? w _ hx339_4)).trans hx339_4
           replace hx339_5 := ((Ow.Own.below HO.out).cell (World.block_lt_of_cell? w _ hx339_5)).trans hx339_5
           replace hx339_6 := ((Ow.Own.below HO.out).cell (World.block_lt_of_cell? w _ hx339_6)).trans hx339_6
           replace hx339_7 := ((Ow.Own.below HO.out).cell (World.block_lt_of_cell? w _ hx339_7)).trans hx339_7
           replace hx339_8 := ((Ow.Own.below HO.out).cell (World.block_lt_of_cell? w _ hx339_8)).trans hx339_8
           replace hx339_9 := ((Ow.Own.below HO.out).cell (World.block_lt_of_cell? w _ hx339_9)).trans hx339_9
           replace hx339_10 := ((Ow.Own.below HO.out).cell (World.block_lt_of_cell? w _ hx339_10)).trans hx339_10
           replace hx339_11 := ((Ow.Own.below HO.out).cell (World.block_lt_of_cell? w _ hx339_11)).trans hx339_11
           replace p339 := eq_true p339
           replace q339 := eq_true q339
           refine Ow.ostartk (n := 20) (ds := []) [0, 1] (Ow.B 20 0) HO.out (by decide) (by kernel_rfl) rfl (by kernel_rfl) ?_
           intro HO3_ hHeld; replace HO := Aside0.mk HO3_; clear HO3_; refine with_tabW bursarlaw26_DisputeGoes.tab11 bursarlaw26_DisputeGoes.bits11 (fun HT_ HW_ => ?_)
           refine' Ow.pu (i := 0) (N := some 41) (Ow.B 20 1) HT_.out ?hv_ ?ha_ ?_; (case hv_ => intro w'; go_simp; with_reducible rfl); (case ha_ => simp only [Ow.Sl, i64_w, i32_w]; rfl)
           refine' Ow.pu (i := 1) (N := some 42) (Ow.B 20 3) HT_.out ?hv_ ?ha_ ?_; (case hv_ => intro w'; go_simp; with_reducible rfl); (case ha_ => simp only [Ow.Sl, i64_w, i32_w]; rfl)
           refine' Ow.pu (i := 2) (N := some 43) (Ow.B 20 7) HT_.out ?hv_ ?ha_ ?_; (case hv_ => intro w'; go_simp; with_reducible rfl); (case ha_ => simp only [Ow.Sl, i64_w, i32_w]; rfl)
           refine' Ow.pu (i := 3) (N := some 44) (Ow.B 20 15) HT_.out ?hv_ ?ha_ ?_; (case hv_ => intro w'; go_simp; with_reducible rfl); (case ha_ => simp only [Ow.Sl, i64_w, i32_w]; rfl)
           refine' Ow.pu (i := 6) (N := some 47) (Ow.B 20 79) HT_.out ?hv_ ?ha_ ?_; (case hv_ => intro w'; go_simp; with_reducible rfl); (case ha_ => simp only [Ow.Sl, i64_w, i32_w]; rfl)
           refine' Ow.pu (i := 7) (N := some 48) (Ow.B 20 207) HT_.out ?hv_ ?ha_ ?_; (case hv_ => intro w'; go_simp; with_reducible rfl); (case ha_ => simp only [Ow.Sl, i64_w, i32_w]; rfl)
           refine' Ow.pu (i := 8) (N := some 49) (Ow.B 20 463) HT_.out ?hv_ ?ha_ ?_; (case hv_ => intro w'; go_simp; with_reducible rfl); (case ha_ => simp only [Ow.Sl, i64_w, i32_w]; rfl)
           refine' Ow.pu (i := 9) (N := some 50) (Ow.B 20 975) HT_.out ?hv_ ?ha_ ?_; (case hv_ => intro w'; go_simp; with_reducible rfl); (case ha_ => simp only [Ow.Sl, i64_w, i32_w]; rfl)
           refine' Ow.pu (i := 11) (N := some 52) (Ow.B 20 3023) HT_.out ?hv_ ?ha_ ?_; (case hv_ => intro w'; go_simp; with_reducible rfl); (case ha_ => simp only [Ow.Sl, i64_w, i32_w]; rfl)
           refine take_ (i := 4) (N := some 45) (v := ?_) (a' := ?_) (Ow.B 20 3039) rfl rfl (take_ofW HT_.out HW_.out (by kernel_rfl)) (fun _ _ _ h => h) (Or.inl ⟨by rfl, ?_⟩) hHeld ?_ ?_
           rotate_left
           ·intro w' s_
            first | (refine' Ow.rload1 Ot.ty s_ rfl rfl rfl ?hk_ ?hs_; (case hk_ => exact (by first | exact Ow.at0 | exact Ow.at1)); (case hs_ => first | ((try simp only [hq.1]) <;> rfl) | fail)) | (refine' Ow.rload0 Ot.ty s_ rfl rfl rfl ?hk_ ?hs_; (case hk_ => exact (by first | exact Ow.at0 | exact Ow.at1)); (case hs_ => first | ((try simp only [hq.1]) <;> rfl) | fail)) | (refine' Ow.rloadp Ot.ty s_ rfl rfl rfl ?hk_ ?hs_; (case hk_ => exact (by first | exact Ow.at0 | exact Ow.at1)); (case hs_ => first | ((try simp only [hq.1]) <;> rfl) | fail)) | (go_simp; first | (with_reducible rfl) | (rw [((Ow.Own.below s_).cell (World.block_lt_of_cell? w _ hw337_2)).trans hw337_2]; rfl) | (rw [((Ow.Own.below s_).cell (World.block_lt_of_cell? w _ hw337_3)).trans hw337_3]; rfl))
           rotate_left
           ·simp only [Act.put, List.setIfInBounds_toArray, List.set_cons_zero, List.set_cons_succ, i64_w, i32_w]
            rfl
           refine take_ (i := 10) (N := some 51) (v := ?_) (a' := ?_) (Ow.B 20 4063) rfl rfl (take_ofW HT_.out HW_.out (by kernel_rfl)) (fun _ _ _ h => h) (Or.inl ⟨by rfl, ?_⟩) hHeld ?_ ?_
           rotate_left
           ·intro w' s_
            first | (refine' Ow.rload1 Ot.ty s_ rfl rfl rfl ?hk_ ?hs_; (case hk_ => exact (by first | exact Ow.at0 | exact Ow.at1)); (case hs_ => first | ((try simp only [hq.1]) <;> rfl) | fail)) | (refine' Ow.rload0 Ot.ty s_ rfl rfl rfl ?hk_ ?hs_; (case hk_ => exact (by first | exact Ow.at0 | exact Ow.at1)); (case hs_ => first | ((try simp only [hq.1]) <;> rfl) | fail)) | (refine' Ow.rloadp Ot.ty s_ rfl rfl rfl ?hk_ ?hs_; (case hk_ => exact (by first | exact Ow.at0 | exact Ow.at1)); (case hs_ => first | ((try simp only [hq.1]) <;> rfl) | fail)) | (go_simp; first | (with_reducible rfl) | (rw [((Ow.Own.below s_).cell (World.block_lt_of_cell? w _ hw337_2)).trans hw337_2]; rfl) | (rw [((Ow.Own.below s_).cell (World.block_lt_of_cell? w _ hw337_3)).trans hw337_3]; rfl))
           rotate_left
           ·simp only [Act.put, List.setIfInBounds_toArray, List.set_cons_zero, List.set_cons_succ, i64_w, i32_w]
            rfl
           refine one_ (i := 5) (N := some 46) (Ow.B 20 4095) rfl rfl (one_of HT_.out (by kernel_rfl)) (by decide) (fun K hK => ?_)
           refine goes_ Try.func25 (by kernel_rfl) rfl #[.string ((rd_T23 l1 x11_1).f2)] (by rfl) rfl rfl (by (try simp only [List.map_toArray, List.map_cons, List.map_nil]); first | done | rfl | (simp only [hq.1]; done) | (simp only [hq.1]; rfl) | (simp only [List.length_drop, List.length_take]; rfl)) ?_
           refine Calls.mono (calls_of_args (by first | ((try simp only [hq.1]) <;> rfl) | fail) (bursarlaw26_text.calls ((rd_T23 l1 x11_1).f2) t338 _ A22.out)) ?_
           rintro e w' ⟨he_, ⟨nd, rfl⟩⟩
           subst he_
           replace HO := Aside0.mk (Ow.Own.drewN HO.out nd); (try simp only [World.drewN_drewN] at HO)
           refine ⟨_, rfl, ?_⟩
           refine hK.out _ _ (by have h_ := Ow.Own.pick [0, 1] HO.out (by decide); first | exact h_ | exact Ow.Own.cong h_ (by first | ((try simp only [hq.1]) <;> rfl) | fail)) (fun hHeld => ?_)
           clear hK K
           refine norm_ (a' := ?_) ?_ ?_
           rotate_left
           ·show Act.put _ (some 46) _ = _
            simp only [Act.put, List.setIfInBounds_toArray, List.set_cons_zero, List.set_cons_succ, i64_w, i32_w]
            rfl
           refine' Ow.pu (i := 12) (N := some 53) (Ow.B 20 8191) HT_.out ?hv_ ?ha_ ?_; (case hv_ => intro w'; go_simp; with_reducible rfl); (case ha_ => simp only [Ow.Sl, i64_w, i32_w]; rfl)
           refine' Ow.pu (i := 13) (N := some 54) (Ow.B 20 16383) HT_.out ?hv_ ?ha_ ?_; (case hv_ => intro w'; go_simp; with_reducible rfl); (case ha_ => simp only [Ow.Sl, i64_w, i32_w]; rfl)
           refine one_ (i := 14) (N := none) (Ow.B 20 32767) rfl rfl (one_of HT_.out (by kernel_rfl)) (by decide) (fun K hK => ?_)
           refine Ow.oskip Ot.ty HO.out (by rfl) rfl rfl rfl rfl (by with_reducible first | exact Ow.at0 | exact Ow.at1 | exact Ow.at2) (by first | exact Ow.ev_tmp rfl | rfl) (by first | ((try simp only [hq.1]) <;> rfl) | fail) (by first | ((try simp only [hq.1]) <;> rfl) | fail) (by first | ((try simp only [hq.1]) <;> rfl) | fail) ?_
           clear HO; intro wz_ HO; simp only [List.set_cons_zero, List.set_cons_succ] at HO
           refine hK.out _ _ (by have h_ := Ow.Own.pick [0, 1] HO.out (by decide); first | exact h_ | exact Ow.Own.cong h_ (by first | ((try simp only [hq.1]) <;> rfl) | fail)) (fun hHeld => ?_)
           clear hK K
           refine' Ow.pu (i := 15) (N := some 55) (Ow.B 20 65535) HT_.out ?hv_ ?ha_ ?_; (case hv_ => intro w'; go_simp; with_reducible rfl); (case ha_ => simp only [Ow.Sl, i64_w, i32_w]; rfl)
           refine' Ow.pu (i := 16) (N := some 56) (Ow.B 20 131071) HT_.out ?hv_ ?ha_ ?_; (case hv_ => intro w'; go_simp; with_reducible rfl); (case ha_ => simp only [Ow.Sl, i64_w, i32_w]; rfl)
           refine one_ (i := 17) (N := none) (Ow.B 20 262143) rfl rfl (one_of HT_.out (by kernel_rfl)) (by decide) (fun K hK => ?_)
           refine Ow.oskip Ot.ty HO.out (by rfl) rfl rfl rfl rfl (by with_reducible first | exact Ow.at0 | exact Ow.at1 | exact Ow.at2) (by first | exact Ow.ev_tmp rfl | rfl) (by first | ((try simp only [hq.1]) <;> rfl) | fail) (by first | ((try simp only [hq.1]) <;> rfl) | fail) (by first | ((try simp only [hq.1]) <;> rfl) | fail) ?_
           clear HO; intro wz_ HO; simp only [List.set_cons_zero, List.set_cons_succ] at HO
           refine hK.out _ _ (by have h_ := Ow.Own.pick [0, 1] HO.out (by decide); first | exact h_ | exact Ow.Own.cong h_ (by first | ((try simp only [hq.1]) <;> rfl) | fail)) (fun hHeld => ?_)
           clear hK K
           refine' Ow.pu (i := 18) (N := some 57) (Ow.B 20 524287) HT_.out ?hv_ ?ha_ ?_; (case hv_ => intro w'; go_simp; with_reducible rfl); (case ha_ => simp only [Ow.Sl, i64_w, i32_w]; rfl)
           refine one_ (i := 19) (N := none) (Ow.B 20 1048575) rfl rfl (one_of HT_.out (by kernel_rfl)) (by decide) (fun K hK => ?_)
           refine Ow.oskip Ot.ty HO.out (by rfl) rfl rfl rfl rfl (by with_reducible first | exact Ow.at0 | exact Ow.at1 | exact Ow.at2) (by first | exact Ow.ev_tmp rfl | rfl) (by first | ((try simp only [hq.1]) <;> rfl) | fail) (by first | ((try simp only [hq.1]) <;> rfl) | fail) (by first | ((try simp only [hq.1]) <;> rfl) | fail) ?_
           clear HO; intro wz_ HO; simp only [List.set_cons_zero, List.set_cons_succ] at HO
           refine hK.out _ _ (by have h_ := Ow.Own.pick [0, 1] HO.out (by decide); first | exact h_ | exact Ow.Own.cong h_ (by first | ((try simp only [hq.1]) <;> rfl) | fail)) (fun hHeld => ?_)
           clear hK K
           refine done_ (done_of HT_.out (by kernel_rfl)) ?_
           obtain ⟨Q3, hQ3_⟩ : ∃ q_ : Array Value, q_ = (#[.string t308, .string t309, .string t338, .int .i64 ((rd_T23 l1 x11_1).f3), .string t312, .string t313, .string t314, .string t315, .string t316, .int .i64 t317, .int .i64 t318, .string t319, .bool t320, .int .i64 t321, .string t322, .string t323, .string t324, .int .i64 t325, .int .i64 t326, .int .i64 t327, .bool t328, .bool t329, .int .i64 x10_16, .int .i64 t331, .bool t332] : Array Value) := ⟨_, rfl⟩
           try rw [← hQ3_]
           have hQ3 := Aside0.mk hQ3_; replace hq := Aside0.mk (And.intro hQ3_ hq.1); clear hQ3_
           go_upto_region 16 with (first | ((with_reducible refine gate_callee (f := 17) rfl ?_); refine goesL_ (some 62) rfl rfl Try.func17 (by kernel_rfl) rfl #[.agg Q3, .agg #[.string x334000_1, .string x334001_1, .string x334002_1, .int .i64 x334003_1, .int .i64 x334004_1, .int .i64 x334005_1], .bool x8_1] rfl (by (try simp only [List.map_toArray, List.map_cons, List.map_nil]); first | done | rfl | (simp only [hq.1]; done) | (simp only [hq.1]; rfl)) ?_; refine Calls.mono (calls_of_args (by first | ((try simp only [hq.1]) <;> rfl) | fail) (dispute_Decide.calls kj16 t308 t309 t338 ((rd_T23 l1 x11_1).f3) t312 t313 t314 t315 t316 t317 t318 t319 t320 t321 t322 t323 t324 t325 t326 t327 t328 t329 x10_16 t331 t332 x334000_1 x334001_1 x334002_1 x334003_1 x334004_1 x334005_1 x8_1 t340 t341 t342 t343 t344 t345 t346 t347 t348 t349 t350 t351 t352 _ A23.out)) ?_; rintro e w39 ⟨he_, hb⟩; subst he_; refine ⟨_, rfl, ?_⟩; replace HO := Aside0.mk (Ow.Own.call HO.out hb); clear hb) | ((with_reducible refine gate_dst (N := 13) rfl ?_); refine Ow.box rfl (N := 13) rfl (cs := bursarlaw26_DisputeGoes.Z6) (t := 29) HO.out (by first | (go_simp; done) | (go_simp; rfl)) ?_; clear HO; intro gb353 w40 HO; simp only [List.cons_append, List.nil_append] at HO) | ((with_reducible refine gate_dst (N := 14) rfl ?_); refine Ow.box rfl (N := 14) rfl (cs := bursarlaw26_DisputeGoes.Z6_2) (t := 36) HO.out (by first | (go_simp; done) | (go_simp; rfl)) ?_; clear HO; intro gb354 w41 HO; simp only [List.cons_append, List.nil_append] at HO) | ((with_reducible refine Ow.gate_eqs (t := 29) (by first | exact Or.inl rfl | exact Or.inr rfl) rfl ?_); simp only [hq.1, Ow.part, Ot.sz, Ot.zero, Ow.over, Ow.overL, List.drop_succ_cons, List.drop_zero, List.take_succ_cons, List.take_zero]) | ((with_reducible refine Ow.gate_eqs (t := 36) (by first | exact Or.inl rfl | exact Or.inr rfl) rfl ?_); simp only [hq.1, Ow.part, Ot.sz, Ot.zero, Ow.over, Ow.overL, List.drop_succ_cons, List.drop_zero, List.take_succ_cons, List.take_zero]) | ((with_reducible refine Ow.gate_build rfl ?_); (try (refine gate_guard (by rfl) ?_; dsimp only)); refine' Ow.tbuild Ot.bd rfl rfl rfl ?hf_ ?_; (case hf_ => repeat (any_goals (first | exact Ow.Fills.nil | (refine' Ow.Fills.c ?hv_ rfl ?hz_ ?_; (case hv_ => first | exact Ow.ev_tmp rfl | rfl); (case hz_ => first | (refine ⟨?_, ?_⟩ <;> (first | ((try simp only [hq.1]) <;> rfl) | fail)) | fail)))))) | ((with_reducible refine Ow.gate_load rfl ?_); (try (refine gate_guard (by rfl) ?_; dsimp only)); (first | refine Ow.l1 Ot.ty HO.out rfl rfl rfl rfl (by first | ((try simp only [hq.1]) <;> rfl) | fail) ?_ | refine Ow.l0 Ot.ty HO.out rfl rfl rfl rfl (by first | ((try simp only [hq.1]) <;> rfl) | fail) ?_ | refine Ow.lp Ot.ty HO.out rfl rfl rfl rfl (by first | ((try simp only [hq.1]) <;> rfl) | fail) ?_)) | ((with_reducible refine gate_store rfl ?_); (try (refine gate_guard (by rfl) ?_; dsimp only)); (first | refine Ow.s0 Ot.ty HO.out rfl rfl rfl rfl rfl (by first | exact Ow.ev_tmp rfl | rfl) (by first | (refine ⟨?_, ?_, ?_⟩ <;> (first | ((try simp only [hq.1]) <;> rfl) | fail)) | fail) ?_ | refine Ow.sp Ot.ty HO.out rfl rfl rfl rfl rfl (by first | exact Ow.ev_tmp rfl | rfl) (by first | (refine ⟨?_, ?_, ?_⟩ <;> (first | ((try simp only [hq.1]) <;> rfl) | fail)) | fail) ?_); clear HO; intro wz_ HO; simp only [List.set_cons_zero, List.set_cons_succ] at HO))
           (try simp only [Act.put, List.setIfInBounds_toArray, List.set_cons_zero, List.set_cons_succ])
           obtain ⟨Q4, hQ4_⟩ : ∃ q_ : Array Value, q_ = (#[.string t340, .string t341, .string t342, .int .i64 t343, .int .i64 t344, .int .i64 t345] : Array Value) := ⟨_, rfl⟩
           try rw [← hQ4_]
           have hQ4 := Aside0.mk hQ4_; replace hq := Aside0.mk (And.intro hQ4_ hq.1); clear hQ4_
           obtain ⟨Q5, hQ5_⟩ : ∃ q_ : Array Value, q_ = (#[.int .i64 t346, .int .i64 t347, .string t348, .string t349, .string t350, .int .i64 t351] : Array Value) := ⟨_, rfl⟩
           try rw [← hQ5_]
           have hQ5 := Aside0.mk hQ5_; replace hq := Aside0.mk (And.intro hQ5_ hq.1); clear hQ5_
           (try simp only [Act.put, List.setIfInBounds_toArray, List.set_cons_zero, List.set_cons_succ])
           go_cut [100] (fun v100 wc => ∃ (kq : Nat) (x100_24 : Bool), v100 = .bool x100_24 ∧ Aside0 (bursarlaw26_DisputeGoes.j3 kq l1 l2 x9_1 x10_16 x11_1 x100_24 t308 t309 t310 t311 t312 t313 t314 t315 t316 t317 t318 t319 t320 t321 t322 t323 t324 t325 t326 t327 t328 t329 t330 t331 t332 t340 t341 t342 t343 t344 t345 t346 t347 t348 t349 t350 t351 = some r) ∧ Aside0 (kq ≤ kj16) ∧ Aside0 (Ow.Own w wc [(gb307, Q1, 27), (gb333, Q2, 29), (gb336, Q3, 27), (gb353, Q4, 29), (gb354, Q5, 36)]))
           case first => as_aux_lemma =>
            have H := HC25.out
            clear HC25
            replace H := Option.bind_eq_some_iff.mp H
            obtain ⟨t355, A530, H⟩ := H
            replace H : (if t355 = true then (if t351 = t344 then (if t343 = (wrap64 (x334003_1 + 1)) then (bursarlaw26_DisputeGoes.j3 kj16 l1 l2 x9_1 x10_16 x11_1 (t345 != (wrap64 (x10_16 + 200))) t308 t309 t310 t311 t312 t313 t314 t315 t316 t317 t318 t319 t320 t321 t322 t323 t324 t325 t326 t327 t328 t329 t330 t331 t332 t340 t341 t342 t343 t344 t345 t346 t347 t348 t349 t350 t351) else (bursarlaw26_DisputeGoes.j3 kj16 l1 l2 x9_1 x10_16 x11_1 true t308 t309 t310 t311 t312 t313 t314 t315 t316 t317 t318 t319 t320 t321 t322 t323 t324 t325 t326 t327 t328 t329 t330 t331 t332 t340 t341 t342 t343 t344 t345 t346 t347 t348 t349 t350 t351)) else (bursarlaw26_DisputeGoes.j3 kj16 l1 l2 x9_1 x10_16 x11_1 true t308 t309 t310 t311 t312 t313 t314 t315 t316 t317 t318 t319 t320 t321 t322 t323 t324 t325 t326 t327 t328 t329 t330 t331 t332 t340 t341 t342 t343 t344 t345 t346 t347 t348 t349 t350 t351)) else (bursarlaw26_DisputeGoes.j3 kj16 l1 l2 x9_1 x10_16 x11_1 true t308 t309 t310 t311 t312 t313 t314 t315 t316 t317 t318 t319 t320 t321 t322 t323 t324 t325 t326 t327 t328 t329 t330 t331 t332 t340 t341 t342 t343 t344 t345 t346 t347 t348 t349 t350 t351)) = some r := H
            have A53 := Aside0.mk A530
            clear A530
            by_cases c54 : t355 = true
            ·subst c54
             have H1 : (if t351 = t344 then (if t343 = (wrap64 (x334003_1 + 1)) then (bursarlaw26_DisputeGoes.j3 kj16 l1 l2 x9_1 x10_16 x11_1 (t345 != (wrap64 (x10_16 + 200))) t308 t309 t310 t311 t312 t313 t314 t315 t316 t317 t318 t319 t320 t321 t322 t323 t324 t325 t326 t327 t328 t329 t330 t331 t332 t340 t341 t342 t343 t344 t345 t346 t347 t348 t349 t350 t351) else (bursarlaw26_DisputeGoes.j3 kj16 l1 l2 x9_1 x10_16 x11_1 true t308 t309 t310 t311 t312 t313 t314 t315 t316 t317 t318 t319 t320 t321 t322 t323 t324 t325 t326 t327 t328 t329 t330 t331 t332 t340 t341 t342 t343 t344 t345 t346 t347 t348 t349 t350 t351)) else (bursarlaw26_DisputeGoes.j3 kj16 l1 l2 x9_1 x10_16 x11_1 true t308 t309 t310 t311 t312 t313 t314 t315 t316 t317 t318 t319 t320 t321 t322 t323 t324 t325 t326 t327 t328 t329 t330 t331 t332 t340 t341 t342 t343 t344 t345 t346 t347 t348 t349 t350 t351)) = some r := by rw [if_pos rfl] at H; exact H
             clear H
             have H := H1
             clear H1
             by_cases c55 : t351 = t344
             ·rw [if_pos c55] at H
              have c55b0 : (t351 == t344) = true := beq_iff_eq.mpr c55
              have c55b1 : (t351 != t344) = false := bne_eq_false_iff_eq.mpr c55
              clear c55
              (first | rw [c55b0] | (simp only [i64_w, i32_w]; rw [c55b0]) | skip)
              by_cases c56 : t343 = (wrap64 (x334003_1 + 1))
              ·rw [if_pos c56] at H
               have c56b0 : (t343 == (wrap64 (x334003_1 + 1))) = true := beq_iff_eq.mpr c56
               have c56b1 : (t343 != (wrap64 (x334003_1 + 1))) = false := bne_eq_false_iff_eq.mpr c56
               clear c56
               have H' := Aside0.mk H
               clear H
               go_wp2_with (first | ((with_reducible refine gate_callee (f := 26) rfl ?_); refine goesL_ (some 77) rfl rfl Try.func26 (by kernel_rfl) rfl #[.agg #[.int .i64 t346, .int .i64 t347, .string t348, .string t349, .string t350, .int .i64 t351]] rfl (by (try simp only [List.map_toArray, List.map_cons, List.map_nil]); first | done | rfl | (simp only [hq.1]; done) | (simp only [hq.1]; rfl)) ?_; refine Calls.mono (calls_of_args (by first | ((try simp only [hq.1]) <;> rfl) | fail) (bursarref20_May.calls kj16 t346 t347 t348 t349 t350 t351 true _ A53.out)) ?_; rintro e w62 ⟨he_, hb⟩; subst he_; refine ⟨_, rfl, ?_⟩; replace HO := Aside0.mk (Ow.Own.call HO.out hb); clear hb) | ((with_reducible refine Ow.gate_eqs (t := 29) (by first | exact Or.inl rfl | exact Or.inr rfl) rfl ?_); simp only [hq.1, Ow.part, Ot.sz, Ot.zero, Ow.over, Ow.overL, List.drop_succ_cons, List.drop_zero, List.take_succ_cons, List.take_zero]) | ((with_reducible refine Ow.gate_eqs (t := 36) (by first | exact Or.inl rfl | exact Or.inr rfl) rfl ?_); simp only [hq.1, Ow.part, Ot.sz, Ot.zero, Ow.over, Ow.overL, List.drop_succ_cons, List.drop_zero, List.take_succ_cons, List.take_zero]) | ((with_reducible refine Ow.gate_build rfl ?_); (try (refine gate_guard (by rfl) ?_; dsimp only)); refine' Ow.tbuild Ot.bd rfl rfl rfl ?hf_ ?_; (case hf_ => repeat (any_goals (first | exact Ow.Fills.nil | (refine' Ow.Fills.c ?hv_ rfl ?hz_ ?_; (case hv_ => first | exact Ow.ev_tmp rfl | rfl); (case hz_ => first | (refine ⟨?_, ?_⟩ <;> (first | ((try simp only [hq.1]) <;> rfl) | fail)) | fail)))))) | ((with_reducible refine Ow.gate_load rfl ?_); (try (refine gate_guard (by rfl) ?_; dsimp only)); (first | refine Ow.l1 Ot.ty HO.out rfl rfl rfl rfl (by first | ((try simp only [hq.1]) <;> rfl) | fail) ?_ | refine Ow.l0 Ot.ty HO.out rfl rfl rfl rfl (by first | ((try simp only [hq.1]) <;> rfl) | fail) ?_ | refine Ow.lp Ot.ty HO.out rfl rfl rfl rfl (by first | ((try simp only [hq.1]) <;> rfl) | fail) ?_)) | ((with_reducible refine gate_store rfl ?_); (try (refine gate_guard (by rfl) ?_; dsimp only)); (first | refine Ow.s0 Ot.ty HO.out rfl rfl rfl rfl rfl (by first | exact Ow.ev_tmp rfl | rfl) (by first | (refine ⟨?_, ?_, ?_⟩ <;> (first | ((try simp only [hq.1]) <;> rfl) | fail)) | fail) ?_ | refine Ow.sp Ot.ty HO.out rfl rfl rfl rfl rfl (by first | exact Ow.ev_tmp rfl | rfl) (by first | (refine ⟨?_, ?_, ?_⟩ <;> (first | ((try simp only [hq.1]) <;> rfl) | fail)) | fail) ?_); clear HO; intro wz_ HO; simp only [List.set_cons_zero, List.set_cons_succ] at HO))
               (try simp only [← hQ0.out, ← hQ1.out, ← hQ2.out, ← hQ3.out, ← hQ4.out, ← hQ5.out])
               go_meet
               case rel => exact ⟨_, ((t345 != (wrap64 (x10_16 + 200)))), (by first | rfl | (simp; done) | (simp [*]; done) | (simp [Pu.bne_nil, Pu.beq_nil]; done)), H', ⟨by have := HK1.out; have := HJ13.out; have := HJ16.out; first | omega | exact Nat.le_refl _⟩, ⟨Ow.Own.cong (by first | exact HO.out | (have h_ := HO.out; simp only [World.drewN_drewN] at h_; exact h_)) (by first | ((try simp only [hq.1]) <;> rfl) | fail)⟩⟩
              ·rw [if_neg c56] at H
               have c56b0 : (t343 == (wrap64 (x334003_1 + 1))) = false := beq_eq_false_iff_ne.mpr c56
               have c56b1 : (t343 != (wrap64 (x334003_1 + 1))) = true := bne_iff_ne.mpr c56
               have H' := Aside0.mk H
               clear H
               go_wp2_with (first | ((with_reducible refine gate_callee (f := 26) rfl ?_); refine goesL_ (some 77) rfl rfl Try.func26 (by kernel_rfl) rfl #[.agg #[.int .i64 t346, .int .i64 t347, .string t348, .string t349, .string t350, .int .i64 t351]] rfl (by (try simp only [List.map_toArray, List.map_cons, List.map_nil]); first | done | rfl | (simp only [hq.1]; done) | (simp only [hq.1]; rfl)) ?_; refine Calls.mono (calls_of_args (by first | ((try simp only [hq.1]) <;> rfl) | fail) (bursarref20_May.calls kj16 t346 t347 t348 t349 t350 t351 true _ A53.out)) ?_; rintro e w76 ⟨he_, hb⟩; subst he_; refine ⟨_, rfl, ?_⟩; replace HO := Aside0.mk (Ow.Own.call HO.out hb); clear hb) | ((with_reducible refine Ow.gate_eqs (t := 29) (by first | exact Or.inl rfl | exact Or.inr rfl) rfl ?_); simp only [hq.1, Ow.part, Ot.sz, Ot.zero, Ow.over, Ow.overL, List.drop_succ_cons, List.drop_zero, List.take_succ_cons, List.take_zero]) | ((with_reducible refine Ow.gate_eqs (t := 36) (by first | exact Or.inl rfl | exact Or.inr rfl) rfl ?_); simp only [hq.1, Ow.part, Ot.sz, Ot.zero, Ow.over, Ow.overL, List.drop_succ_cons, List.drop_zero, List.take_succ_cons, List.take_zero]) | ((with_reducible refine Ow.gate_build rfl ?_); (try (refine gate_guard (by rfl) ?_; dsimp only)); refine' Ow.tbuild Ot.bd rfl rfl rfl ?hf_ ?_; (case hf_ => repeat (any_goals (first | exact Ow.Fills.nil | (refine' Ow.Fills.c ?hv_ rfl ?hz_ ?_; (case hv_ => first | exact Ow.ev_tmp rfl | rfl); (case hz_ => first | (refine ⟨?_, ?_⟩ <;> (first | ((try simp only [hq.1]) <;> rfl) | fail)) | fail)))))) | ((with_reducible refine Ow.gate_load rfl ?_); (try (refine gate_guard (by rfl) ?_; dsimp only)); (first | refine Ow.l1 Ot.ty HO.out rfl rfl rfl rfl (by first | ((try simp only [hq.1]) <;> rfl) | fail) ?_ | refine Ow.l0 Ot.ty HO.out rfl rfl rfl rfl (by first | ((try simp only [hq.1]) <;> rfl) | fail) ?_ | refine Ow.lp Ot.ty HO.out rfl rfl rfl rfl (by first | ((try simp only [hq.1]) <;> rfl) | fail) ?_)) | ((with_reducible refine gate_store rfl ?_); (try (refine gate_guard (by rfl) ?_; dsimp only)); (first | refine Ow.s0 Ot.ty HO.out rfl rfl rfl rfl rfl (by first | exact Ow.ev_tmp rfl | rfl) (by first | (refine ⟨?_, ?_, ?_⟩ <;> (first | ((try simp only [hq.1]) <;> rfl) | fail)) | fail) ?_ | refine Ow.sp Ot.ty HO.out rfl rfl rfl rfl rfl (by first | exact Ow.ev_tmp rfl | rfl) (by first | (refine ⟨?_, ?_, ?_⟩ <;> (first | ((try simp only [hq.1]) <;> rfl) | fail)) | fail) ?_); clear HO; intro wz_ HO; simp only [List.set_cons_zero, List.set_cons_succ] at HO))
               (try simp only [← hQ0.out, ← hQ1.out, ← hQ2.out, ← hQ3.out, ← hQ4.out, ← hQ5.out])
               go_meet
               case rel => exact ⟨_, (true), (by first | rfl | (simp; done) | (simp [*]; done) | (simp [Pu.bne_nil, Pu.beq_nil]; done)), H', ⟨by have := HK1.out; have := HJ13.out; have := HJ16.out; first | omega | exact Nat.le_refl _⟩, ⟨Ow.Own.cong (by first | exact HO.out | (have h_ := HO.out; simp only [World.drewN_drewN] at h_; exact h_)) (by first | ((try simp only [hq.1]) <;> rfl) | fail)⟩⟩
             ·rw [if_neg c55] at H
              have c55b0 : (t351 == t344) = false := beq_eq_false_iff_ne.mpr c55
              have c55b1 : (t351 != t344) = true := bne_iff_ne.mpr c55
              (first | rw [c55b0] | (simp only [i64_w, i32_w]; rw [c55b0]) | skip)
              have H' := Aside0.mk H
              clear H
              go_wp2_with (first | ((with_reducible refine gate_callee (f := 26) rfl ?_); refine goesL_ (some 77) rfl rfl Try.func26 (by kernel_rfl) rfl #[.agg #[.int .i64 t346, .int .i64 t347, .string t348, .string t349, .string t350, .int .i64 t351]] rfl (by (try simp only [List.map_toArray, List.map_cons, List.map_nil]); first | done | rfl | (simp only [hq.1]; done) | (simp only [hq.1]; rfl)) ?_; refine Calls.mono (calls_of_args (by first | ((try simp only [hq.1]) <;> rfl) | fail) (bursarref20_May.calls kj16 t346 t347 t348 t349 t350 t351 true _ A53.out)) ?_; rintro e w90 ⟨he_, hb⟩; subst he_; refine ⟨_, rfl, ?_⟩; replace HO := Aside0.mk (Ow.Own.call HO.out hb); clear hb) | ((with_reducible refine Ow.gate_eqs (t := 29) (by first | exact Or.inl rfl | exact Or.inr rfl) rfl ?_); simp only [hq.1, Ow.part, Ot.sz, Ot.zero, Ow.over, Ow.overL, List.drop_succ_cons, List.drop_zero, List.take_succ_cons, List.take_zero]) | ((with_reducible refine Ow.gate_eqs (t := 36) (by first | exact Or.inl rfl | exact Or.inr rfl) rfl ?_); simp only [hq.1, Ow.part, Ot.sz, Ot.zero, Ow.over, Ow.overL, List.drop_succ_cons, List.drop_zero, List.take_succ_cons, List.take_zero]) | ((with_reducible refine Ow.gate_build rfl ?_); (try (refine gate_guard (by rfl) ?_; dsimp only)); refine' Ow.tbuild Ot.bd rfl rfl rfl ?hf_ ?_; (case hf_ => repeat (any_goals (first | exact Ow.Fills.nil | (refine' Ow.Fills.c ?hv_ rfl ?hz_ ?_; (case hv_ => first | exact Ow.ev_tmp rfl | rfl); (case hz_ => first | (refine ⟨?_, ?_⟩ <;> (first | ((try simp only [hq.1]) <;> rfl) | fail)) | fail)))))) | ((with_reducible refine Ow.gate_load rfl ?_); (try (refine gate_guard (by rfl) ?_; dsimp only)); (first | refine Ow.l1 Ot.ty HO.out rfl rfl rfl rfl (by first | ((try simp only [hq.1]) <;> rfl) | fail) ?_ | refine Ow.l0 Ot.ty HO.out rfl rfl rfl rfl (by first | ((try simp only [hq.1]) <;> rfl) | fail) ?_ | refine Ow.lp Ot.ty HO.out rfl rfl rfl rfl (by first | ((try simp only [hq.1]) <;> rfl) | fail) ?_)) | ((with_reducible refine gate_store rfl ?_); (try (refine gate_guard (by rfl) ?_; dsimp only)); (first | refine Ow.s0 Ot.ty HO.out rfl rfl rfl rfl rfl (by first | exact Ow.ev_tmp rfl | rfl) (by first | (refine ⟨?_, ?_, ?_⟩ <;> (first | ((try simp only [hq.1]) <;> rfl) | fail)) | fail) ?_ | refine Ow.sp Ot.ty HO.out rfl rfl rfl rfl rfl (by first | exact Ow.ev_tmp rfl | rfl) (by first | (refine ⟨?_, ?_, ?_⟩ <;> (first | ((try simp only [hq.1]) <;> rfl) | fail)) | fail) ?_); clear HO; intro wz_ HO; simp only [List.set_cons_zero, List.set_cons_succ] at HO))
              (try simp only [← hQ0.out, ← hQ1.out, ← hQ2.out, ← hQ3.out, ← hQ4.out, ← hQ5.out])
              go_meet
              case rel => exact ⟨_, (true), (by first | rfl | (simp; done) | (simp [*]; done) | (simp [Pu.bne_nil, Pu.beq_nil]; done)), H', ⟨by have := HK1.out; have := HJ13.out; have := HJ16.out; first | omega | exact Nat.le_refl _⟩, ⟨Ow.Own.cong (by first | exact HO.out | (have h_ := HO.out; simp only [World.drewN_drewN] at h_; exact h_)) (by first | ((try simp only [hq.1]) <;> rfl) | fail)⟩⟩
            ·replace c54 := Bool.eq_false_iff.mpr c54
             subst c54
             have H1 : (bursarlaw26_DisputeGoes.j3 kj16 l1 l2 x9_1 x10_16 x11_1 true t308 t309 t310 t311 t312 t313 t314 t315 t316 t317 t318 t319 t320 t321 t322 t323 t324 t325 t326 t327 t328 t329 t330 t331 t332 t340 t341 t342 t343 t344 t345 t346 t347 t348 t349 t350 t351) = some r := by rw [if_neg (show ¬ (false = true) by decide)] at H; exact H
             clear H
             have H := H1
             clear H1
             have H' := Aside0.mk H
             clear H
             go_wp2_with (first | ((with_reducible refine gate_callee (f := 26) rfl ?_); refine goesL_ (some 77) rfl rfl Try.func26 (by kernel_rfl) rfl #[.agg #[.int .i64 t346, .int .i64 t347, .string t348, .string t349, .string t350, .int .i64 t351]] rfl (by (try simp only [List.map_toArray, List.map_cons, List.map_nil]); first | done | rfl | (simp only [hq.1]; done) | (simp only [hq.1]; rfl)) ?_; refine Calls.mono (calls_of_args (by first | ((try simp only [hq.1]) <;> rfl) | fail) (bursarref20_May.calls kj16 t346 t347 t348 t349 t350 t351 false _ A53.out)) ?_; rintro e w101 ⟨he_, hb⟩; subst he_; refine ⟨_, rfl, ?_⟩; replace HO := Aside0.mk (Ow.Own.call HO.out hb); clear hb) | ((with_reducible refine Ow.gate_eqs (t := 29) (by first | exact Or.inl rfl | exact Or.inr rfl) rfl ?_); simp only [hq.1, Ow.part, Ot.sz, Ot.zero, Ow.over, Ow.overL, List.drop_succ_cons, List.drop_zero, List.take_succ_cons, List.take_zero]) | ((with_reducible refine Ow.gate_eqs (t := 36) (by first | exact Or.inl rfl | exact Or.inr rfl) rfl ?_); simp only [hq.1, Ow.part, Ot.sz, Ot.zero, Ow.over, Ow.overL, List.drop_succ_cons, List.drop_zero, List.take_succ_cons, List.take_zero]) | ((with_reducible refine Ow.gate_build rfl ?_); (try (refine gate_guard (by rfl) ?_; dsimp only)); refine' Ow.tbuild Ot.bd rfl rfl rfl ?hf_ ?_; (case hf_ => repeat (any_goals (first | exact Ow.Fills.nil | (refine' Ow.Fills.c ?hv_ rfl ?hz_ ?_; (case hv_ => first | exact Ow.ev_tmp rfl | rfl); (case hz_ => first | (refine ⟨?_, ?_⟩ <;> (first | ((try simp only [hq.1]) <;> rfl) | fail)) | fail)))))) | ((with_reducible refine Ow.gate_load rfl ?_); (try (refine gate_guard (by rfl) ?_; dsimp only)); (first | refine Ow.l1 Ot.ty HO.out rfl rfl rfl rfl (by first | ((try simp only [hq.1]) <;> rfl) | fail) ?_ | refine Ow.l0 Ot.ty HO.out rfl rfl rfl rfl (by first | ((try simp only [hq.1]) <;> rfl) | fail) ?_ | refine Ow.lp Ot.ty HO.out rfl rfl rfl rfl (by first | ((try simp only [hq.1]) <;> rfl) | fail) ?_)) | ((with_reducible refine gate_store rfl ?_); (try (refine gate_guard (by rfl) ?_; dsimp only)); (first | refine Ow.s0 Ot.ty HO.out rfl rfl rfl rfl rfl (by first | exact Ow.ev_tmp rfl | rfl) (by first | (refine ⟨?_, ?_, ?_⟩ <;> (first | ((try simp only [hq.1]) <;> rfl) | fail)) | fail) ?_ | refine Ow.sp Ot.ty HO.out rfl rfl rfl rfl rfl (by first | exact Ow.ev_tmp rfl | rfl) (by first | (refine ⟨?_, ?_, ?_⟩ <;> (first | ((try simp only [hq.1]) <;> rfl) | fail)) | fail) ?_); clear HO; intro wz_ HO; simp only [List.set_cons_zero, List.set_cons_succ] at HO))
             (try simp only [← hQ0.out, ← hQ1.out, ← hQ2.out, ← hQ3.out, ← hQ4.out, ← hQ5.out])
             go_meet
             case rel => exact ⟨_, (true), (by first | rfl | (simp; done) | (simp [*]; done) | (simp [Pu.bne_nil, Pu.beq_nil]; done)), H', ⟨by have := HK1.out; have := HJ13.out; have := HJ16.out; first | omega | exact Nat.le_refl _⟩, ⟨Ow.Own.cong (by first | exact HO.out | (have h_ := HO.out; simp only [World.drewN_drewN] at h_; exact h_)) (by first | ((try simp only [hq.1]) <;> rfl) | fail)⟩⟩
           case rest => as_aux_lemma =>
            clear HC25
            try clear c1
            try clear c2
            try clear p2
            try clear c3
            try clear p3
            try clear q3
            try clear hx3
            try clear c4
            try clear c5
            try clear c6
            try clear p6
            try clear c7
            try clear c8
            try clear c9
            try clear c11
            try clear c15
            try clear c15b0
            try clear c16
            try clear c17
            try clear c18
            try clear c18b0
            try clear c19
            try clear c19b0
            try clear c20
            try clear c20b0
            try clear c21
            try clear c21b0
            try clear c24
            try clear c24b0
            try clear c24b1
            try clear c25
            try clear c26
            try clear c29
            try clear c30
            try clear p33
            try clear q33
            try clear hx33
            try clear c42
            try clear c43
            try clear c44
            try clear c45
            try clear c48
            try clear c49
            try clear c50
            try clear c54
            try clear c55
            try clear c55b0
            try clear c55b1
            try clear c56
            try clear c56b0
            try clear c56b1
            try clear c57
            try clear c58
            try clear c59
            try clear c60
            try clear c64
            try clear p64
            try clear c65
            try clear c66
            try clear c68
            try clear c69
            try clear c71
            try clear c72
            try clear c73
            try clear c74
            try clear c78
            try clear c79
            try clear c80
            try clear c82
            try clear c83
            try clear c85
            try clear c86
            try clear c87
            try clear c88
            try clear c92
            try clear c93
            try clear c94
            try clear c96
            try clear c97
            try clear c98
            try clear c99
            try clear hcz100_0
            try clear hcz12_0
            try clear hcz27_0
            try clear hcz31_0
            try clear hcz37_0
            try clear hcz38_0
            try clear hcz46_0
            try clear hcz51_0
            try clear hcz61_0
            try clear hcz63_0
            try clear hcz67_0
            try clear hcz6_0
            try clear hcz70_0
            try clear hcz75_0
            try clear hcz77_0
            try clear hcz81_0
            try clear hcz84_0
            try clear hcz89_0
            try clear hcz8_0
            try clear hcz91_0
            try clear hcz95_0
            try clear hfz100_0
            try clear hfz12_0
            try clear hfz27_0
            try clear hfz31_0
            try clear hfz37_0
            try clear hfz38_0
            try clear hfz46_0
            try clear hfz51_0
            try clear hfz61_0
            try clear hfz63_0
            try clear hfz67_0
            try clear hfz6_0
            try clear hfz70_0
            try clear hfz75_0
            try clear hfz77_0
            try clear hfz81_0
            try clear hfz84_0
            try clear hfz89_0
            try clear hfz8_0
            try clear hfz91_0
            try clear hfz95_0
            try clear hx335_0
            try clear hx337_0
            try clear hx337_1
            try clear hx337_10
            try clear hx337_11
            try clear hx337_2
            try clear hx337_3
            try clear hx337_4
            try clear hx337_5
            try clear hx337_6
            try clear hx337_7
            try clear hx337_8
            try clear hx337_9
            try clear hx339_0
            try clear hx339_1
            try clear hx339_10
            try clear hx339_11
            try clear hx339_2
            try clear hx339_3
            try clear hx339_4
            try clear hx339_5
            try clear hx339_6
            try clear hx339_7
            try clear hx339_8
            try clear hx339_9
            try clear p2
            try clear p3
            try clear p335
            try clear p337
            try clear p339
            try clear p6
            try clear q3
            try clear q335
            try clear q337
            try clear q339
            clear HO
            obtain ⟨kq, x100_24, rfl, HA, HJ24, HO⟩ := hcut
            cases kq with
            | zero => exact absurd HA.out (by simp [bursarlaw26_DisputeGoes.j3])
            | succ kj24 =>
             have H := HA.out
             clear HA
             simp only [bursarlaw26_DisputeGoes.j3] at H
             by_cases c102 : x100_24 = true
             ·subst c102
              have H1 : (none) = some r := by rw [if_pos rfl] at H; exact H
              clear H
              have H := H1
              clear H1
              exact absurd H (by simp)
             ·replace c102 := Bool.eq_false_iff.mpr c102
              subst c102
              have H1 : (if t346 = 3 then ((dispute_Against.f t340 t341 t342 t343 t344 t345).bind fun t356 => (if t356 = (wrap64 (x9_1 + t351)) then (if (wrap64 (x9_1 + t351)) > t326 then (none) else (if (wrap64 (x9_1 + t351)) < 0 then (none) else (bursarlaw26_DisputeGoes.l0 kj24 l1 l2 true (wrap64 (x9_1 + t351)) x10_16 (wrap64 (x11_1 + 1)) t308 t309 t310 t311 t312 t313 t314 t315 t316 t317 t318 t319 t320 t321 t322 t323 t324 t325 t326 t327 t328 t329 t330 t331 t332 t340 t341 t342 t343 t344 t345))) else (none))) else ((dispute_Against.f t340 t341 t342 t343 t344 t345).bind fun t357 => (if t357 = (wrap64 (x9_1 - t351)) then (if (wrap64 (x9_1 - t351)) > t326 then (none) else (if (wrap64 (x9_1 - t351)) < 0 then (none) else (bursarlaw26_DisputeGoes.l0 kj24 l1 l2 true (wrap64 (x9_1 - t351)) x10_16 (wrap64 (x11_1 + 1)) t308 t309 t310 t311 t312 t313 t314 t315 t316 t317 t318 t319 t320 t321 t322 t323 t324 t325 t326 t327 t328 t329 t330 t331 t332 t340 t341 t342 t343 t344 t345))) else (none)))) = some r := by rw [if_neg (show ¬ (false = true) by decide)] at H; exact H
              clear H
              have H := H1
              clear H1
              by_cases c103 : t346 = 3
              ·rw [if_pos c103] at H
               have c103b0 : (t346 == 3) = true := beq_iff_eq.mpr c103
               have c103b1 : (t346 != 3) = false := bne_eq_false_iff_eq.mpr c103
               clear c103
               replace H := Option.bind_eq_some_iff.mp H
               obtain ⟨t356, A1040, H⟩ := H
               replace H : (if t356 = (wrap64 (x9_1 + t351)) then (if (wrap64 (x9_1 + t351)) > t326 then (none) else (if (wrap64 (x9_1 + t351)) < 0 then (none) else (bursarlaw26_DisputeGoes.l0 kj24 l1 l2 true (wrap64 (x9_1 + t351)) x10_16 (wrap64 (x11_1 + 1)) t308 t309 t310 t311 t312 t313 t314 t315 t316 t317 t318 t319 t320 t321 t322 t323 t324 t325 t326 t327 t328 t329 t330 t331 t332 t340 t341 t342 t343 t344 t345))) else (none)) = some r := H
               have A104 := Aside0.mk A1040
               clear A1040
               by_cases c105 : t356 = (wrap64 (x9_1 + t351))
               ·rw [if_pos c105] at H
                have c105b0 : (t356 == (wrap64 (x9_1 + t351))) = true := beq_iff_eq.mpr c105
                have c105b1 : (t356 != (wrap64 (x9_1 + t351))) = false := bne_eq_false_iff_eq.mpr c105
                clear c105
                by_cases c106 : (wrap64 (x9_1 + t351)) > t326
                ·rw [if_pos c106] at H
                 exact absurd H (by simp)
                ·rw [if_neg c106] at H
                 have c106b0 : decide (t326 < (wrap64 (x9_1 + t351))) = false := decide_eq_false c106
                 clear c106
                 by_cases c107 : (wrap64 (x9_1 + t351)) < 0
                 ·rw [if_pos c107] at H
                  exact absurd H (by simp)
                 ·rw [if_neg c107] at H
                  have c107b0 : decide ((wrap64 (x9_1 + t351)) < 0) = false := decide_eq_false c107
                  clear c107
                  have H' := Aside0.mk H
                  clear H
                  go_wp2_with (first | ((with_reducible refine gate_callee (f := 24) rfl ?_); refine goesL_ (some 114) rfl rfl Try.func24 (by kernel_rfl) rfl #[.agg #[.string t340, .string t341, .string t342, .int .i64 t343, .int .i64 t344, .int .i64 t345]] rfl (by (try simp only [List.map_toArray, List.map_cons, List.map_nil]); first | done | rfl | (simp only [hq.1]; done) | (simp only [hq.1]; rfl)) ?_; refine Calls.mono (calls_of_args (by first | ((try simp only [hq.1]) <;> rfl) | fail) (dispute_Against.calls t340 t341 t342 t343 t344 t345 t356 _ A104.out)) ?_; rintro e w122 ⟨he_, hb⟩; subst he_; refine ⟨_, rfl, ?_⟩; replace HO := Aside0.mk (Ow.Own.call HO.out hb); clear hb) | ((with_reducible refine Ow.gate_eqs (t := 29) (by first | exact Or.inl rfl | exact Or.inr rfl) rfl ?_); simp only [hq.1, Ow.part, Ot.sz, Ot.zero, Ow.over, Ow.overL, List.drop_succ_cons, List.drop_zero, List.take_succ_cons, List.take_zero]) | ((with_reducible refine Ow.gate_eqs (t := 36) (by first | exact Or.inl rfl | exact Or.inr rfl) rfl ?_); simp only [hq.1, Ow.part, Ot.sz, Ot.zero, Ow.over, Ow.overL, List.drop_succ_cons, List.drop_zero, List.take_succ_cons, List.take_zero]) | ((with_reducible refine Ow.gate_build rfl ?_); (try (refine gate_guard (by rfl) ?_; dsimp only)); refine' Ow.tbuild Ot.bd rfl rfl rfl ?hf_ ?_; (case hf_ => repeat (any_goals (first | exact Ow.Fills.nil | (refine' Ow.Fills.c ?hv_ rfl ?hz_ ?_; (case hv_ => first | exact Ow.ev_tmp rfl | rfl); (case hz_ => first | (refine ⟨?_, ?_⟩ <;> (first | ((try simp only [hq.1]) <;> rfl) | fail)) | fail)))))) | ((with_reducible refine Ow.gate_load rfl ?_); (try (refine gate_guard (by rfl) ?_; dsimp only)); (first | refine Ow.l1 Ot.ty HO.out rfl rfl rfl rfl (by first | ((try simp only [hq.1]) <;> rfl) | fail) ?_ | refine Ow.l0 Ot.ty HO.out rfl rfl rfl rfl (by first | ((try simp only [hq.1]) <;> rfl) | fail) ?_ | refine Ow.lp Ot.ty HO.out rfl rfl rfl rfl (by first | ((try simp only [hq.1]) <;> rfl) | fail) ?_)) | ((with_reducible refine gate_store rfl ?_); (try (refine gate_guard (by rfl) ?_; dsimp only)); (first | refine Ow.s0 Ot.ty HO.out rfl rfl rfl rfl rfl (by first | exact Ow.ev_tmp rfl | rfl) (by first | (refine ⟨?_, ?_, ?_⟩ <;> (first | ((try simp only [hq.1]) <;> rfl) | fail)) | fail) ?_ | refine Ow.sp Ot.ty HO.out rfl rfl rfl rfl rfl (by first | exact Ow.ev_tmp rfl | rfl) (by first | (refine ⟨?_, ?_, ?_⟩ <;> (first | ((try simp only [hq.1]) <;> rfl) | fail)) | fail) ?_); clear HO; intro wz_ HO; simp only [List.set_cons_zero, List.set_cons_succ] at HO))
                  go_roundg kj24
                  case measure => have := HK1.out; have := HJ13.out; have := HJ16.out; have := HJ24.out; omega
                  case rel => exact ⟨(true), (wrap64 (x9_1 + t351)), (x10_16), (wrap64 (x11_1 + 1)), (t340), (t341), (t342), (t343), (t344), (t345), (by first | rfl | (simp; done) | (simp [*]; done) | (simp [Pu.bne_nil, Pu.beq_nil]; done)), (by first | rfl | (simp; done) | (simp [*]; done) | (simp [Pu.bne_nil, Pu.beq_nil]; done)), (by first | rfl | (simp; done) | (simp [*]; done) | (simp [Pu.bne_nil, Pu.beq_nil]; done)), (by first | rfl | (simp; done) | (simp [*]; done) | (simp [Pu.bne_nil, Pu.beq_nil]; done)), H', ⟨by have := HK1.out; have := HJ13.out; have := HJ16.out; have := HJ24.out; omega⟩, ⟨Ow.Own.cong (by first | exact (Ow.Own.pick [0, 1] HO.out (by decide)) | (have h_ := (Ow.Own.pick [0, 1] HO.out (by decide)); simp only [World.drewN_drewN] at h_; exact h_)) (by first | ((try simp only [hq.1]) <;> rfl) | fail)⟩⟩
               ·rw [if_neg c105] at H
                exact absurd H (by simp)
              ·rw [if_neg c103] at H
               have c103b0 : (t346 == 3) = false := beq_eq_false_iff_ne.mpr c103
               have c103b1 : (t346 != 3) = true := bne_iff_ne.mpr c103
               replace H := Option.bind_eq_some_iff.mp H
               obtain ⟨t357, A1250, H⟩ := H
               replace H : (if t357 = (wrap64 (x9_1 - t351)) then (if (wrap64 (x9_1 - t351)) > t326 then (none) else (if (wrap64 (x9_1 - t351)) < 0 then (none) else (bursarlaw26_DisputeGoes.l0 kj24 l1 l2 true (wrap64 (x9_1 - t351)) x10_16 (wrap64 (x11_1 + 1)) t308 t309 t310 t311 t312 t313 t314 t315 t316 t317 t318 t319 t320 t321 t322 t323 t324 t325 t326 t327 t328 t329 t330 t331 t332 t340 t341 t342 t343 t344 t345))) else (none)) = some r := H
               have A125 := Aside0.mk A1250
               clear A1250
               by_cases c126 : t357 = (wrap64 (x9_1 - t351))
               ·rw [if_pos c126] at H
                have c126b0 : (t357 == (wrap64 (x9_1 - t351))) = true := beq_iff_eq.mpr c126
                have c126b1 : (t357 != (wrap64 (x9_1 - t351))) = false := bne_eq_false_iff_eq.mpr c126
                clear c126
                by_cases c127 : (wrap64 (x9_1 - t351)) > t326
                ·rw [if_pos c127] at H
                 exact absurd H (by simp)
                ·rw [if_neg c127] at H
                 have c127b0 : decide (t326 < (wrap64 (x9_1 - t351))) = false := decide_eq_false c127
                 clear c127
                 by_cases c128 : (wrap64 (x9_1 - t351)) < 0
                 ·rw [if_pos c128] at H
                  exact absurd H (by simp)
                 ·rw [if_neg c128] at H
                  have c128b0 : decide ((wrap64 (x9_1 - t351)) < 0) = false := decide_eq_false c128
                  clear c128
                  have H' := Aside0.mk H
                  clear H
                  go_wp2_with (first | ((with_reducible refine gate_callee (f := 24) rfl ?_); refine goesL_ (some 114) rfl rfl Try.func24 (by kernel_rfl) rfl #[.agg #[.string t340, .string t341, .string t342, .int .i64 t343, .int .i64 t344, .int .i64 t345]] rfl (by (try simp only [List.map_toArray, List.map_cons, List.map_nil]); first | done | rfl | (simp only [hq.1]; done) | (simp only [hq.1]; rfl)) ?_; refine Calls.mono (calls_of_args (by first | ((try simp only [hq.1]) <;> rfl) | fail) (dispute_Against.calls t340 t341 t342 t343 t344 t345 t357 _ A125.out)) ?_; rintro e w143 ⟨he_, hb⟩; subst he_; refine ⟨_, rfl, ?_⟩; replace HO := Aside0.mk (Ow.Own.call HO.out hb); clear hb) | ((with_reducible refine Ow.gate_eqs (t := 29) (by first | exact Or.inl rfl | exact Or.inr rfl) rfl ?_); simp only [hq.1, Ow.part, Ot.sz, Ot.zero, Ow.over, Ow.overL, List.drop_succ_cons, List.drop_zero, List.take_succ_cons, List.take_zero]) | ((with_reducible refine Ow.gate_eqs (t := 36) (by first | exact Or.inl rfl | exact Or.inr rfl) rfl ?_); simp only [hq.1, Ow.part, Ot.sz, Ot.zero, Ow.over, Ow.overL, List.drop_succ_cons, List.drop_zero, List.take_succ_cons, List.take_zero]) | ((with_reducible refine Ow.gate_build rfl ?_); (try (refine gate_guard (by rfl) ?_; dsimp only)); refine' Ow.tbuild Ot.bd rfl rfl rfl ?hf_ ?_; (case hf_ => repeat (any_goals (first | exact Ow.Fills.nil | (refine' Ow.Fills.c ?hv_ rfl ?hz_ ?_; (case hv_ => first | exact Ow.ev_tmp rfl | rfl); (case hz_ => first | (refine ⟨?_, ?_⟩ <;> (first | ((try simp only [hq.1]) <;> rfl) | fail)) | fail)))))) | ((with_reducible refine Ow.gate_load rfl ?_); (try (refine gate_guard (by rfl) ?_; dsimp only)); (first | refine Ow.l1 Ot.ty HO.out rfl rfl rfl rfl (by first | ((try simp only [hq.1]) <;> rfl) | fail) ?_ | refine Ow.l0 Ot.ty HO.out rfl rfl rfl rfl (by first | ((try simp only [hq.1]) <;> rfl) | fail) ?_ | refine Ow.lp Ot.ty HO.out rfl rfl rfl rfl (by first | ((try simp only [hq.1]) <;> rfl) | fail) ?_)) | ((with_reducible refine gate_store rfl ?_); (try (refine gate_guard (by rfl) ?_; dsimp only)); (first | refine Ow.s0 Ot.ty HO.out rfl rfl rfl rfl rfl (by first | exact Ow.ev_tmp rfl | rfl) (by first | (refine ⟨?_, ?_, ?_⟩ <;> (first | ((try simp only [hq.1]) <;> rfl) | fail)) | fail) ?_ | refine Ow.sp Ot.ty HO.out rfl rfl rfl rfl rfl (by first | exact Ow.ev_tmp rfl | rfl) (by first | (refine ⟨?_, ?_, ?_⟩ <;> (first | ((try simp only [hq.1]) <;> rfl) | fail)) | fail) ?_); clear HO; intro wz_ HO; simp only [List.set_cons_zero, List.set_cons_succ] at HO))
                  go_roundg kj24
                  case measure => have := HK1.out; have := HJ13.out; have := HJ16.out; have := HJ24.out; omega
                  case rel => exact ⟨(true), (wrap64 (x9_1 - t351)), (x10_16), (wrap64 (x11_1 + 1)), (t340), (t341), (t342), (t343), (t344), (t345), (by first | rfl | (simp; done) | (simp [*]; done) | (simp [Pu.bne_nil, Pu.beq_nil]; done)), (by first | rfl | (simp; done) | (simp [*]; done) | (simp [Pu.bne_nil, Pu.beq_nil]; done)), (by first | rfl | (simp; done) | (simp [*]; done) | (simp [Pu.bne_nil, Pu.beq_nil]; done)), (by first | rfl | (simp; done) | (simp [*]; done) | (simp [Pu.bne_nil, Pu.beq_nil]; done)), H', ⟨by have := HK1.out; have := HJ13.out; have := HJ16.out; have := HJ24.out; omega⟩, ⟨Ow.Own.cong (by first | exact (Ow.Own.pick [0, 1] HO.out (by decide)) | (have h_ := (Ow.Own.pick [0, 1] HO.out (by decide)); simp only [World.drewN_drewN] at h_; exact h_)) (by first | ((try simp only [hq.1]) <;> rfl) | fail)⟩⟩
               ·rw [if_neg c126] at H
                exact absurd H (by simp)
          ·rw [if_neg c24] at H
           have c24b0 : (t352.toList == ([48, 48] : List UInt8)) = false := beq_eq_false_iff_ne.mpr c24
           have c24b1 : (t352.toList != ([48, 48] : List UInt8)) = true := bne_iff_ne.mpr c24
           by_cases c146 : (!(t340.toList == ([] : List UInt8)) || (!(t341.toList == ([] : List UInt8)) || (!(t342.toList == ([] : List UInt8)) || (!(t343 == 0) || (!(t344 == 0) || (!(t345 == 0))))))) = true
           ·rw [if_pos c146] at H
            exact absurd H (by simp)
           ·rw [if_neg c146] at H
            have c146b0 : (!(t340.toList == ([] : List UInt8)) || (!(t341.toList == ([] : List UInt8)) || (!(t342.toList == ([] : List UInt8)) || (!(t343 == 0) || (!(t344 == 0) || (!(t345 == 0))))))) = false := by simpa using c146
            (try (have c146b1 : (((t340.toList = ([] : List UInt8)) ∧ ((t341.toList = ([] : List UInt8)) ∧ ((t342.toList = ([] : List UInt8)) ∧ ((t343 = 0) ∧ ((t344 = 0) ∧ ((t345 = 0))))))) = True) := eq_true (by first | (simpa using c146; done) | (intro h_; have g_ := c146; simp [h_] at g_; done) | (have g_ := c146; simp at g_; exact g_))))
            (try (have c146b2 : (t340.toList.isEmpty) = true := (by first | (have g_ := c146; simp at g_; simp [g_]; done) | (have g_ := c146; simp [Pu.beq_nil] at g_ ⊢; simp [g_]; done) | (have g_ := c146; simp [Pu.beq_nil] at g_ ⊢; exact g_))))
            (try (have c146b3 : (t341.toList.isEmpty) = true := (by first | (have g_ := c146; simp at g_; simp [g_]; done) | (have g_ := c146; simp [Pu.beq_nil] at g_ ⊢; simp [g_]; done) | (have g_ := c146; simp [Pu.beq_nil] at g_ ⊢; exact g_))))
            (try (have c146b4 : (t342.toList.isEmpty) = true := (by first | (have g_ := c146; simp at g_; simp [g_]; done) | (have g_ := c146; simp [Pu.beq_nil] at g_ ⊢; simp [g_]; done) | (have g_ := c146; simp [Pu.beq_nil] at g_ ⊢; exact g_))))
            (try (have c146b5 : ((t343 == 0)) = true := (by first | (have g_ := c146; simp at g_; simp [g_]; done) | (have g_ := c146; simp [Pu.beq_nil] at g_ ⊢; simp [g_]; done) | (have g_ := c146; simp [Pu.beq_nil] at g_ ⊢; exact g_))))
            (try (have c146b6 : ((t344 == 0)) = true := (by first | (have g_ := c146; simp at g_; simp [g_]; done) | (have g_ := c146; simp [Pu.beq_nil] at g_ ⊢; simp [g_]; done) | (have g_ := c146; simp [Pu.beq_nil] at g_ ⊢; exact g_))))
            (try (have c146b7 : ((t345 == 0)) = true := (by first | (have g_ := c146; simp at g_; simp [g_]; done) | (have g_ := c146; simp [Pu.beq_nil] at g_ ⊢; simp [g_]; done) | (have g_ := c146; simp [Pu.beq_nil] at g_ ⊢; exact g_))))
            (try (have c146b8 : (t340.toList == ([] : List UInt8)) = true := (by first | (have g_ := c146; simp at g_; simp [g_]; done) | (have g_ := c146; simp [Pu.beq_nil] at g_ ⊢; simp [g_]; done) | (have g_ := c146; simp [Pu.beq_nil] at g_ ⊢; exact g_))))
            (try (have c146b9 : (t341.toList == ([] : List UInt8)) = true := (by first | (have g_ := c146; simp at g_; simp [g_]; done) | (have g_ := c146; simp [Pu.beq_nil] at g_ ⊢; simp [g_]; done) | (have g_ := c146; simp [Pu.beq_nil] at g_ ⊢; exact g_))))
            (try (have c146b10 : (t342.toList == ([] : List UInt8)) = true := (by first | (have g_ := c146; simp at g_; simp [g_]; done) | (have g_ := c146; simp [Pu.beq_nil] at g_ ⊢; simp [g_]; done) | (have g_ := c146; simp [Pu.beq_nil] at g_ ⊢; exact g_))))
            (try (have c146b11 : ((¬ (t340.toList = ([] : List UInt8)) ∨ (¬ (t341.toList = ([] : List UInt8)) ∨ (¬ (t342.toList = ([] : List UInt8)) ∨ (¬ (t343 = 0) ∨ (¬ (t344 = 0) ∨ (¬ (t345 = 0))))))) = False) := eq_false (by first | (simpa using c146; done) | (intro h_; have g_ := c146; simp [h_] at g_; done))))
            clear c146
            by_cases c147 : (!(t346 == 0) || (!(t347 == 0) || (!(t348.toList == ([] : List UInt8)) || (!(t349.toList == ([] : List UInt8)) || (!(t350.toList == ([] : List UInt8)) || (!(t351 == 0))))))) = true
            ·rw [if_pos c147] at H
             exact absurd H (by simp)
            ·rw [if_neg c147] at H
             have c147b0 : (!(t346 == 0) || (!(t347 == 0) || (!(t348.toList == ([] : List UInt8)) || (!(t349.toList == ([] : List UInt8)) || (!(t350.toList == ([] : List UInt8)) || (!(t351 == 0))))))) = false := by simpa using c147
             (try (have c147b1 : (((t346 = 0) ∧ ((t347 = 0) ∧ ((t348.toList = ([] : List UInt8)) ∧ ((t349.toList = ([] : List UInt8)) ∧ ((t350.toList = ([] : List UInt8)) ∧ ((t351 = 0))))))) = True) := eq_true (by first | (simpa using c147; done) | (intro h_; have g_ := c147; simp [h_] at g_; done) | (have g_ := c147; simp at g_; exact g_))))
             (try (have c147b2 : ((t346 == 0)) = true := (by first | (have g_ := c147; simp at g_; simp [g_]; done) | (have g_ := c147; simp [Pu.beq_nil] at g_ ⊢; simp [g_]; done) | (have g_ := c147; simp [Pu.beq_nil] at g_ ⊢; exact g_))))
             (try (have c147b3 : ((t347 == 0)) = true := (by first | (have g_ := c147; simp at g_; simp [g_]; done) | (have g_ := c147; simp [Pu.beq_nil] at g_ ⊢; simp [g_]; done) | (have g_ := c147; simp [Pu.beq_nil] at g_ ⊢; exact g_))))
             (try (have c147b4 : (t348.toList.isEmpty) = true := (by first | (have g_ := c147; simp at g_; simp [g_]; done) | (have g_ := c147; simp [Pu.beq_nil] at g_ ⊢; simp [g_]; done) | (have g_ := c147; simp [Pu.beq_nil] at g_ ⊢; exact g_))))
             (try (have c147b5 : (t349.toList.isEmpty) = true := (by first | (have g_ := c147; simp at g_; simp [g_]; done) | (have g_ := c147; simp [Pu.beq_nil] at g_ ⊢; simp [g_]; done) | (have g_ := c147; simp [Pu.beq_nil] at g_ ⊢; exact g_))))
             (try (have c147b6 : (t350.toList.isEmpty) = true := (by first | (have g_ := c147; simp at g_; simp [g_]; done) | (have g_ := c147; simp [Pu.beq_nil] at g_ ⊢; simp [g_]; done) | (have g_ := c147; simp [Pu.beq_nil] at g_ ⊢; exact g_))))
             (try (have c147b7 : ((t351 == 0)) = true := (by first | (have g_ := c147; simp at g_; simp [g_]; done) | (have g_ := c147; simp [Pu.beq_nil] at g_ ⊢; simp [g_]; done) | (have g_ := c147; simp [Pu.beq_nil] at g_ ⊢; exact g_))))
             (try (have c147b8 : (t348.toList == ([] : List UInt8)) = true := (by first | (have g_ := c147; simp at g_; simp [g_]; done) | (have g_ := c147; simp [Pu.beq_nil] at g_ ⊢; simp [g_]; done) | (have g_ := c147; simp [Pu.beq_nil] at g_ ⊢; exact g_))))
             (try (have c147b9 : (t349.toList == ([] : List UInt8)) = true := (by first | (have g_ := c147; simp at g_; simp [g_]; done) | (have g_ := c147; simp [Pu.beq_nil] at g_ ⊢; simp [g_]; done) | (have g_ := c147; simp [Pu.beq_nil] at g_ ⊢; exact g_))))
             (try (have c147b10 : (t350.toList == ([] : List UInt8)) = true := (by first | (have g_ := c147; simp at g_; simp [g_]; done) | (have g_ := c147; simp [Pu.beq_nil] at g_ ⊢; simp [g_]; done) | (have g_ := c147; simp [Pu.beq_nil] at g_ ⊢; exact g_))))
             (try (have c147b11 : ((¬ (t346 = 0) ∨ (¬ (t347 = 0) ∨ (¬ (t348.toList = ([] : List UInt8)) ∨ (¬ (t349.toList = ([] : List UInt8)) ∨ (¬ (t350.toList = ([] : List UInt8)) ∨ (¬ (t351 = 0))))))) = False) := eq_false (by first | (simpa using c147; done) | (intro h_; have g_ := c147; simp [h_] at g_; done))))
             clear c147
             have H' := Aside0.mk H
             clear H
             try go_wp2_with (first | ((with_reducible refine gate_dst (N := 12) rfl ?_); refine Ow.box rfl (N := 12) rfl (cs := bursarlaw26_DisputeGoes.Z25) (t := 27) HO.out (by first | (go_simp; done) | (go_simp; rfl)) ?_; clear HO; intro gb336 w150 HO; simp only [List.cons_append, List.nil_append] at HO) | ((with_reducible refine Ow.gate_eqs (t := 29) (by first | exact Or.inl rfl | exact Or.inr rfl) rfl ?_); simp only [hq.1, Ow.part, Ot.sz, Ot.zero, Ow.over, Ow.overL, List.drop_succ_cons, List.drop_zero, List.take_succ_cons, List.take_zero]) | ((with_reducible refine Ow.gate_eqs (t := 36) (by first | exact Or.inl rfl | exact Or.inr rfl) rfl ?_); simp only [hq.1, Ow.part, Ot.sz, Ot.zero, Ow.over, Ow.overL, List.drop_succ_cons, List.drop_zero, List.take_succ_cons, List.take_zero]) | ((with_reducible refine Ow.gate_build rfl ?_); (try (refine gate_guard (by rfl) ?_; dsimp only)); refine' Ow.tbuild Ot.bd rfl rfl rfl ?hf_ ?_; (case hf_ => repeat (any_goals (first | exact Ow.Fills.nil | (refine' Ow.Fills.c ?hv_ rfl ?hz_ ?_; (case hv_ => first | exact Ow.ev_tmp rfl | rfl); (case hz_ => first | (refine ⟨?_, ?_⟩ <;> (first | ((try simp only [hq.1]) <;> rfl) | fail)) | fail)))))) | ((with_reducible refine Ow.gate_load rfl ?_); (try (refine gate_guard (by rfl) ?_; dsimp only)); (first | refine Ow.l1 Ot.ty HO.out rfl rfl rfl rfl (by first | ((try simp only [hq.1]) <;> rfl) | fail) ?_ | refine Ow.l0 Ot.ty HO.out rfl rfl rfl rfl (by first | ((try simp only [hq.1]) <;> rfl) | fail) ?_ | refine Ow.lp Ot.ty HO.out rfl rfl rfl rfl (by first | ((try simp only [hq.1]) <;> rfl) | fail) ?_)) | ((with_reducible refine gate_store rfl ?_); (try (refine gate_guard (by rfl) ?_; dsimp only)); (first | refine Ow.s0 Ot.ty HO.out rfl rfl rfl rfl rfl (by first | exact Ow.ev_tmp rfl | rfl) (by first | (refine ⟨?_, ?_, ?_⟩ <;> (first | ((try simp only [hq.1]) <;> rfl) | fail)) | fail) ?_ | refine Ow.sp Ot.ty HO.out rfl rfl rfl rfl rfl (by first | exact Ow.ev_tmp rfl | rfl) (by first | (refine ⟨?_, ?_, ?_⟩ <;> (first | ((try simp only [hq.1]) <;> rfl) | fail)) | fail) ?_); clear HO; intro wz_ HO; simp only [List.set_cons_zero, List.set_cons_succ] at HO))
             have p337 : 0 ≤ (x11_1 : Int) := of_decide_eq_true (by first | (with_reducible assumption) | assumption)
             have q337 : x11_1 < (l1.length : Int) := of_decide_eq_true (by first | (with_reducible assumption) | assumption)
             obtain ⟨ad337, e337, hx337_0, hx337_1, hx337_2, hx337_3, hx337_4, hx337_5, hx337_6, hx337_7, hx337_8, hx337_9, hx337_10, hx337_11⟩ := at_T23 HR1.out x11_1 p337 q337
             have hw337_11 := hx337_11
             have hw337_10 := hx337_10
             have hw337_9 := hx337_9
             have hw337_8 := hx337_8
             have hw337_7 := hx337_7
             have hw337_6 := hx337_6
             have hw337_5 := hx337_5
             have hw337_4 := hx337_4
             have hw337_3 := hx337_3
             have hw337_2 := hx337_2
             have hw337_1 := hx337_1
             have hw337_0 := hx337_0
             cases e337
             replace hx337_0 := ((Ow.Own.below HO.out).cell (World.block_lt_of_cell? w _ hx337_0)).trans hx337_0
             replace hx337_1 := ((Ow.Own.below HO.out).cell (World.block_lt_of_cell? w _ hx337_1)).trans hx337_1
             replace hx337_2 := ((Ow.Own.below HO.out).cell (World.block_lt_of_cell? w _ hx337_2)).trans hx337_2
             replace hx337_3 := ((Ow.Own.below HO.out).cell (World.block_lt_of_cell? w _ hx337_3)).trans hx337_3
             replace hx337_4 := ((Ow.Own.below HO.out).cell (World.block_lt_of_cell? w _ hx337_4)).trans hx337_4
             replace hx337_5 := ((Ow.Own.below HO.out).cell (World.block_lt_of_cell? w _ hx337_5)).trans hx337_5
             replace hx337_6 := ((Ow.Own.below HO.out).cell (World.block_lt_of_cell? w _ hx337_6)).trans hx337_6
             replace hx337_7 := ((Ow.Own.below HO.out).cell (World.block_lt_of_cell? w _ hx337_7)).trans hx337_7
             replace hx337_8 := ((Ow.Own.below HO.out).cell (World.block_lt_of_cell? w _ hx337_8)).trans hx337_8
             replace hx337_9 := ((Ow.Own.below HO.out).cell (World.block_lt_of_cell? w _ hx337_9)).trans hx337_9
             replace hx337_10 := ((Ow.Own.below HO.out).cell (World.block_lt_of_cell? w _ hx337_10)).trans hx337_10
             replace hx337_11 := ((Ow.Own.below HO.out).cell (World.block_lt_of_cell? w _ hx337_11)).trans hx337_11
             replace p337 := eq_true p337
             replace q337 := eq_true q337
             have p339 : 0 ≤ (x11_1 : Int) := of_decide_eq_true (by first | (with_reducible assumption) | assumption)
             have q339 : x11_1 < (l1.length : Int) := of_decide_eq_true (by first | (with_reducible assumption) | assumption)
             obtain ⟨ad339, e339, hx339_0, hx339_1, hx339_2, hx339_3, hx339_4, hx339_5, hx339_6, hx339_7, hx339_8, hx339_9, hx339_10, hx339_11⟩ := at_T23 HR1.out x11_1 p339 q339
             have hw339_11 := hx339_11
             have hw339_10 := hx339_10
             have hw339_9 := hx339_9
             have hw339_8 := hx339_8
             have hw339_7 := hx339_7
             have hw339_6 := hx339_6
             have hw339_5 := hx339_5
             have hw339_4 := hx339_4
             have hw339_3 := hx339_3
             have hw339_2 := hx339_2
             have hw339_1 := hx339_1
             have hw339_0 := hx339_0
             obtain rfl : ad337 = ad339 := (by injection e339)
             replace hx339_0 := ((Ow.Own.below HO.out).cell (World.block_lt_of_cell? w _ hx339_0)).trans hx339_0
             replace hx339_1 := ((Ow.Own.below HO.out).cell (World.block_lt_of_cell? w _ hx339_1)).trans hx339_1
             replace hx339_2 := ((Ow.Own.below HO.out).cell (World.block_lt_of_cell? w _ hx339_2)).trans hx339_2
             replace hx339_3 := ((Ow.Own.below HO.out).cell (World.block_lt_of_cell? w _ hx339_3)).trans hx339_3
             replace hx339_4 := ((Ow.Own.below HO.out).cell (World.block_lt_of_cell? w _ hx339_4)).trans hx339_4
             replace hx339_5 := ((Ow.Own.below HO.out).cell (World.block_lt_of_cell? w _ hx339_5)).trans hx339_5
             replace hx339_6 := ((Ow.Own.below HO.out).cell (World.block_lt_of_cell? w _ hx339_6)).trans hx339_6
             replace hx339_7 := ((Ow.Own.below HO.out).cell (World.block_lt_of_cell? w _ hx339_7)).trans hx339_7
             replace hx339_8 := ((Ow.Own.below HO.out).cell (World.block_lt_of_cell? w _ hx339_8)).trans hx339_8
             replace hx339_9 := ((Ow.Own.below HO.out).cell (World.block_lt_of_cell? w _ hx339_9)).trans hx339_9
             replace hx339_10 := ((Ow.Own.below HO.out).cell (World.block_lt_of_cell? w _ hx339_10)).trans hx339_10
             replace hx339_11 := ((Ow.Own.below HO.out).cell (World.block_lt_of_cell? w _ hx339_11)).trans hx339_11
             replace p339 := eq_true p339
             replace q339 := eq_true q339
             refine Ow.ostartk (n := 20) (ds := []) [0, 1] (Ow.B 20 0) HO.out (by decide) (by kernel_rfl) rfl (by kernel_rfl) ?_
             intro HO3_ hHeld; replace HO := Aside0.mk HO3_; clear HO3_; refine with_tabW bursarlaw26_DisputeGoes.tab11 bursarlaw26_DisputeGoes.bits11 (fun HT_ HW_ => ?_)
             refine' Ow.pu (i := 0) (N := some 41) (Ow.B 20 1) HT_.out ?hv_ ?ha_ ?_; (case hv_ => intro w'; go_simp; with_reducible rfl); (case ha_ => simp only [Ow.Sl, i64_w, i32_w]; rfl)
             refine' Ow.pu (i := 1) (N := some 42) (Ow.B 20 3) HT_.out ?hv_ ?ha_ ?_; (case hv_ => intro w'; go_simp; with_reducible rfl); (case ha_ => simp only [Ow.Sl, i64_w, i32_w]; rfl)
             refine' Ow.pu (i := 2) (N := some 43) (Ow.B 20 7) HT_.out ?hv_ ?ha_ ?_; (case hv_ => intro w'; go_simp; with_reducible rfl); (case ha_ => simp only [Ow.Sl, i64_w, i32_w]; rfl)
             refine' Ow.pu (i := 3) (N := some 44) (Ow.B 20 15) HT_.out ?hv_ ?ha_ ?_; (case hv_ => intro w'; go_simp; with_reducible rfl); (case ha_ => simp only [Ow.Sl, i64_w, i32_w]; rfl)
             refine' Ow.pu (i := 6) (N := some 47) (Ow.B 20 79) HT_.out ?hv_ ?ha_ ?_; (case hv_ => intro w'; go_simp; with_reducible rfl); (case ha_ => simp only [Ow.Sl, i64_w, i32_w]; rfl)
             refine' Ow.pu (i := 7) (N := some 48) (Ow.B 20 207) HT_.out ?hv_ ?ha_ ?_; (case hv_ => intro w'; go_simp; with_reducible rfl); (case ha_ => simp only [Ow.Sl, i64_w, i32_w]; rfl)
             refine' Ow.pu (i := 8) (N := some 49) (Ow.B 20 463) HT_.out ?hv_ ?ha_ ?_; (case hv_ => intro w'; go_simp; with_reducible rfl); (case ha_ => simp only [Ow.Sl, i64_w, i32_w]; rfl)
             refine' Ow.pu (i := 9) (N := some 50) (Ow.B 20 975) HT_.out ?hv_ ?ha_ ?_; (case hv_ => intro w'; go_simp; with_reducible rfl); (case ha_ => simp only [Ow.Sl, i64_w, i32_w]; rfl)
             refine' Ow.pu (i := 11) (N := some 52) (Ow.B 20 3023) HT_.out ?hv_ ?ha_ ?_; (case hv_ => intro w'; go_simp; with_reducible rfl); (case ha_ => simp only [Ow.Sl, i64_w, i32_w]; rfl)
             refine take_ (i := 4) (N := some 45) (v := ?_) (a' := ?_) (Ow.B 20 3039) rfl rfl (take_ofW HT_.out HW_.out (by kernel_rfl)) (fun _ _ _ h => h) (Or.inl ⟨by rfl, ?_⟩) hHeld ?_ ?_
             rotate_left
             ·intro w' s_
              first | (refine' Ow.rload1 Ot.ty s_ rfl rfl rfl ?hk_ ?hs_; (case hk_ => exact (by first | exact Ow.at0 | exact Ow.at1)); (case hs_ => first | ((try simp only [hq.1]) <;> rfl) | fail)) | (refine' Ow.rload0 Ot.ty s_ rfl rfl rfl ?hk_ ?hs_; (case hk_ => exact (by first | exact Ow.at0 | exact Ow.at1)); (case hs_ => first | ((try simp only [hq.1]) <;> rfl) | fail)) | (refine' Ow.rloadp Ot.ty s_ rfl rfl rfl ?hk_ ?hs_; (case hk_ => exact (by first | exact Ow.at0 | exact Ow.at1)); (case hs_ => first | ((try simp only [hq.1]) <;> rfl) | fail)) | (go_simp; first | (with_reducible rfl) | (rw [((Ow.Own.below s_).cell (World.block_lt_of_cell? w _ hw337_2)).trans hw337_2]; rfl) | (rw [((Ow.Own.below s_).cell (World.block_lt_of_cell? w _ hw337_3)).trans hw337_3]; rfl))
             rotate_left
             ·simp only [Act.put, List.setIfInBounds_toArray, List.set_cons_zero, List.set_cons_succ, i64_w, i32_w]
              rfl
             refine take_ (i := 10) (N := some 51) (v := ?_) (a' := ?_) (Ow.B 20 4063) rfl rfl (take_ofW HT_.out HW_.out (by kernel_rfl)) (fun _ _ _ h => h) (Or.inl ⟨by rfl, ?_⟩) hHeld ?_ ?_
             rotate_left
             ·intro w' s_
              first | (refine' Ow.rload1 Ot.ty s_ rfl rfl rfl ?hk_ ?hs_; (case hk_ => exact (by first | exact Ow.at0 | exact Ow.at1)); (case hs_ => first | ((try simp only [hq.1]) <;> rfl) | fail)) | (refine' Ow.rload0 Ot.ty s_ rfl rfl rfl ?hk_ ?hs_; (case hk_ => exact (by first | exact Ow.at0 | exact Ow.at1)); (case hs_ => first | ((try simp only [hq.1]) <;> rfl) | fail)) | (refine' Ow.rloadp Ot.ty s_ rfl rfl rfl ?hk_ ?hs_; (case hk_ => exact (by first | exact Ow.at0 | exact Ow.at1)); (case hs_ => first | ((try simp only [hq.1]) <;> rfl) | fail)) | (go_simp; first | (with_reducible rfl) | (rw [((Ow.Own.below s_).cell (World.block_lt_of_cell? w _ hw337_2)).trans hw337_2]; rfl) | (rw [((Ow.Own.below s_).cell (World.block_lt_of_cell? w _ hw337_3)).trans hw337_3]; rfl))
             rotate_left
             ·simp only [Act.put, List.setIfInBounds_toArray, List.set_cons_zero, List.set_cons_succ, i64_w, i32_w]
              rfl
             refine one_ (i := 5) (N := some 46) (Ow.B 20 4095) rfl rfl (one_of HT_.out (by kernel_rfl)) (by decide) (fun K hK => ?_)
             refine goes_ Try.func25 (by kernel_rfl) rfl #[.string ((rd_T23 l1 x11_1).f2)] (by rfl) rfl rfl (by (try simp only [List.map_toArray, List.map_cons, List.map_nil]); first | done | rfl | (simp only [hq.1]; done) | (simp only [hq.1]; rfl) | (simp only [List.length_drop, List.length_take]; rfl)) ?_
             refine Calls.mono (calls_of_args (by first | ((try simp only [hq.1]) <;> rfl) | fail) (bursarlaw26_text.calls ((rd_T23 l1 x11_1).f2) t338 _ A22.out)) ?_
             rintro e w' ⟨he_, ⟨nd, rfl⟩⟩
             subst he_
             replace HO := Aside0.mk (Ow.Own.drewN HO.out nd); (try simp only [World.drewN_drewN] at HO)
             refine ⟨_, rfl, ?_⟩
             refine hK.out _ _ (by have h_ := Ow.Own.pick [0, 1] HO.out (by decide); first | exact h_ | exact Ow.Own.cong h_ (by first | ((try simp only [hq.1]) <;> rfl) | fail)) (fun hHeld => ?_)
             clear hK K
             refine norm_ (a' := ?_) ?_ ?_
             rotate_left
             ·show Act.put _ (some 46) _ = _
              simp only [Act.put, List.setIfInBounds_toArray, List.set_cons_zero, List.set_cons_succ, i64_w, i32_w]
              rfl
             refine' Ow.pu (i := 12) (N := some 53) (Ow.B 20 8191) HT_.out ?hv_ ?ha_ ?_; (case hv_ => intro w'; go_simp; with_reducible rfl); (case ha_ => simp only [Ow.Sl, i64_w, i32_w]; rfl)
             refine' Ow.pu (i := 13) (N := some 54) (Ow.B 20 16383) HT_.out ?hv_ ?ha_ ?_; (case hv_ => intro w'; go_simp; with_reducible rfl); (case ha_ => simp only [Ow.Sl, i64_w, i32_w]; rfl)
             refine one_ (i := 14) (N := none) (Ow.B 20 32767) rfl rfl (one_of HT_.out (by kernel_rfl)) (by decide) (fun K hK => ?_)
             refine Ow.oskip Ot.ty HO.out (by rfl) rfl rfl rfl rfl (by with_reducible first | exact Ow.at0 | exact Ow.at1 | exact Ow.at2) (by first | exact Ow.ev_tmp rfl | rfl) (by first | ((try simp only [hq.1]) <;> rfl) | fail) (by first | ((try simp only [hq.1]) <;> rfl) | fail) (by first | ((try simp only [hq.1]) <;> rfl) | fail) ?_
             clear HO; intro wz_ HO; simp only [List.set_cons_zero, List.set_cons_succ] at HO
             refine hK.out _ _ (by have h_ := Ow.Own.pick [0, 1] HO.out (by decide); first | exact h_ | exact Ow.Own.cong h_ (by first | ((try simp only [hq.1]) <;> rfl) | fail)) (fun hHeld => ?_)
             clear hK K
             refine' Ow.pu (i := 15) (N := some 55) (Ow.B 20 65535) HT_.out ?hv_ ?ha_ ?_; (case hv_ => intro w'; go_simp; with_reducible rfl); (case ha_ => simp only [Ow.Sl, i64_w, i32_w]; rfl)
             refine' Ow.pu (i := 16) (N := some 56) (Ow.B 20 131071) HT_.out ?hv_ ?ha_ ?_; (case hv_ => intro w'; go_simp; with_reducible rfl); (case ha_ => simp only [Ow.Sl, i64_w, i32_w]; rfl)
             refine one_ (i := 17) (N := none) (Ow.B 20 262143) rfl rfl (one_of HT_.out (by kernel_rfl)) (by decide) (fun K hK => ?_)
             refine Ow.oskip Ot.ty HO.out (by rfl) rfl rfl rfl rfl (by with_reducible first | exact Ow.at0 | exact Ow.at1 | exact Ow.at2) (by first | exact Ow.ev_tmp rfl | rfl) (by first | ((try simp only [hq.1]) <;> rfl) | fail) (by first | ((try simp only [hq.1]) <;> rfl) | fail) (by first | ((try simp only [hq.1]) <;> rfl) | fail) ?_
             clear HO; intro wz_ HO; simp only [List.set_cons_zero, List.set_cons_succ] at HO
             refine hK.out _ _ (by have h_ := Ow.Own.pick [0, 1] HO.out (by decide); first | exact h_ | exact Ow.Own.cong h_ (by first | ((try simp only [hq.1]) <;> rfl) | fail)) (fun hHeld => ?_)
             clear hK K
             refine' Ow.pu (i := 18) (N := some 57) (Ow.B 20 524287) HT_.out ?hv_ ?ha_ ?_; (case hv_ => intro w'; go_simp; with_reducible rfl); (case ha_ => simp only [Ow.Sl, i64_w, i32_w]; rfl)
             refine one_ (i := 19) (N := none) (Ow.B 20 1048575) rfl rfl (one_of HT_.out (by kernel_rfl)) (by decide) (fun K hK => ?_)
             refine Ow.oskip Ot.ty HO.out (by rfl) rfl rfl rfl rfl (by with_reducible first | exact Ow.at0 | exact Ow.at1 | exact Ow.at2) (by first | exact Ow.ev_tmp rfl | rfl) (by first | ((try simp only [hq.1]) <;> rfl) | fail) (by first | ((try simp only [hq.1]) <;> rfl) | fail) (by first | ((try simp only [hq.1]) <;> rfl) | fail) ?_
             clear HO; intro wz_ HO; simp only [List.set_cons_zero, List.set_cons_succ] at HO
             refine hK.out _ _ (by have h_ := Ow.Own.pick [0, 1] HO.out (by decide); first | exact h_ | exact Ow.Own.cong h_ (by first | ((try simp only [hq.1]) <;> rfl) | fail)) (fun hHeld => ?_)
             clear hK K
             refine done_ (done_of HT_.out (by kernel_rfl)) ?_
             obtain ⟨Q6, hQ6_⟩ : ∃ q_ : Array Value, q_ = (#[.string t308, .string t309, .string t338, .int .i64 ((rd_T23 l1 x11_1).f3), .string t312, .string t313, .string t314, .string t315, .string t316, .int .i64 t317, .int .i64 t318, .string t319, .bool t320, .int .i64 t321, .string t322, .string t323, .string t324, .int .i64 t325, .int .i64 t326, .int .i64 t327, .bool t328, .bool t329, .int .i64 x10_16, .int .i64 t331, .bool t332] : Array Value) := ⟨_, rfl⟩
             try rw [← hQ6_]
             have hQ6 := Aside0.mk hQ6_; replace hq := Aside0.mk (And.intro hQ6_ hq.1); clear hQ6_
             try go_wp2_with (first | ((with_reducible refine gate_callee (f := 17) rfl ?_); refine goesL_ (some 62) rfl rfl Try.func17 (by kernel_rfl) rfl #[.agg Q6, .agg #[.string x334000_1, .string x334001_1, .string x334002_1, .int .i64 x334003_1, .int .i64 x334004_1, .int .i64 x334005_1], .bool x8_1] rfl (by (try simp only [List.map_toArray, List.map_cons, List.map_nil]); first | done | rfl | (simp only [hq.1]; done) | (simp only [hq.1]; rfl)) ?_; refine Calls.mono (calls_of_args (by first | ((try simp only [hq.1]) <;> rfl) | fail) (dispute_Decide.calls kj16 t308 t309 t338 ((rd_T23 l1 x11_1).f3) t312 t313 t314 t315 t316 t317 t318 t319 t320 t321 t322 t323 t324 t325 t326 t327 t328 t329 x10_16 t331 t332 x334000_1 x334001_1 x334002_1 x334003_1 x334004_1 x334005_1 x8_1 t340 t341 t342 t343 t344 t345 t346 t347 t348 t349 t350 t351 t352 _ A23.out)) ?_; rintro e w161 ⟨he_, hb⟩; subst he_; refine ⟨_, rfl, ?_⟩; replace HO := Aside0.mk (Ow.Own.call HO.out hb); clear hb) | ((with_reducible refine gate_dst (N := 13) rfl ?_); refine Ow.box rfl (N := 13) rfl (cs := bursarlaw26_DisputeGoes.Z6) (t := 29) HO.out (by first | (go_simp; done) | (go_simp; rfl)) ?_; clear HO; intro gb353 w162 HO; simp only [List.cons_append, List.nil_append] at HO) | ((with_reducible refine gate_dst (N := 14) rfl ?_); refine Ow.box rfl (N := 14) rfl (cs := bursarlaw26_DisputeGoes.Z6_2) (t := 36) HO.out (by first | (go_simp; done) | (go_simp; rfl)) ?_; clear HO; intro gb354 w163 HO; simp only [List.cons_append, List.nil_append] at HO) | ((with_reducible refine Ow.gate_eqs (t := 29) (by first | exact Or.inl rfl | exact Or.inr rfl) rfl ?_); simp only [hq.1, Ow.part, Ot.sz, Ot.zero, Ow.over, Ow.overL, List.drop_succ_cons, List.drop_zero, List.take_succ_cons, List.take_zero]) | ((with_reducible refine Ow.gate_eqs (t := 36) (by first | exact Or.inl rfl | exact Or.inr rfl) rfl ?_); simp only [hq.1, Ow.part, Ot.sz, Ot.zero, Ow.over, Ow.overL, List.drop_succ_cons, List.drop_zero, List.take_succ_cons, List.take_zero]) | ((with_reducible refine Ow.gate_build rfl ?_); (try (refine gate_guard (by rfl) ?_; dsimp only)); refine' Ow.tbuild Ot.bd rfl rfl rfl ?hf_ ?_; (case hf_ => repeat (any_goals (first | exact Ow.Fills.nil | (refine' Ow.Fills.c ?hv_ rfl ?hz_ ?_; (case hv_ => first | exact Ow.ev_tmp rfl | rfl); (case hz_ => first | (refine ⟨?_, ?_⟩ <;> (first | ((try simp only [hq.1]) <;> rfl) | fail)) | fail)))))) | ((with_reducible refine Ow.gate_load rfl ?_); (try (refine gate_guard (by rfl) ?_; dsimp only)); (first | refine Ow.l1 Ot.ty HO.out rfl rfl rfl rfl (by first | ((try simp only [hq.1]) <;> rfl) | fail) ?_ | refine Ow.l0 Ot.ty HO.out rfl rfl rfl rfl (by first | ((try simp only [hq.1]) <;> rfl) | fail) ?_ | refine Ow.lp Ot.ty HO.out rfl rfl rfl rfl (by first | ((try simp only [hq.1]) <;> rfl) | fail) ?_)) | ((with_reducible refine gate_store rfl ?_); (try (refine gate_guard (by rfl) ?_; dsimp only)); (first | refine Ow.s0 Ot.ty HO.out rfl rfl rfl rfl rfl (by first | exact Ow.ev_tmp rfl | rfl) (by first | (refine ⟨?_, ?_, ?_⟩ <;> (first | ((try simp only [hq.1]) <;> rfl) | fail)) | fail) ?_ | refine Ow.sp Ot.ty HO.out rfl rfl rfl rfl rfl (by first | exact Ow.ev_tmp rfl | rfl) (by first | (refine ⟨?_, ?_, ?_⟩ <;> (first | ((try simp only [hq.1]) <;> rfl) | fail)) | fail) ?_); clear HO; intro wz_ HO; simp only [List.set_cons_zero, List.set_cons_succ] at HO))
             (try simp only [← hQ0.out, ← hQ1.out, ← hQ2.out, ← hQ6.out])
             go_roundg kj16
             case measure => have := HK1.out; have := HJ13.out; have := HJ16.out; omega
             case rel => exact ⟨(x8_1), (x9_1), (x10_16), (wrap64 (x11_1 + 1)), (x334000_1), (x334001_1), (x334002_1), (x334003_1), (x334004_1), (x334005_1), (by first | rfl | (simp; done) | (simp [*]; done) | (simp [Pu.bne_nil, Pu.beq_nil]; done)), (by first | rfl | (simp; done) | (simp [*]; done) | (simp [Pu.bne_nil, Pu.beq_nil]; done)), (by first | rfl | (simp; done) | (simp [*]; done) | (simp [Pu.bne_nil, Pu.beq_nil]; done)), (by first | rfl | (simp; done) | (simp [*]; done) | (simp [Pu.bne_nil, Pu.beq_nil]; done)), H', ⟨by have := HK1.out; have := HJ13.out; have := HJ16.out; omega⟩, ⟨Ow.Own.cong (by first | exact (Ow.Own.pick [0, 1] HO.out (by decide)) | (have h_ := (Ow.Own.pick [0, 1] HO.out (by decide)); simp only [World.drewN_drewN] at h_; exact h_)) (by first | ((try simp only [hq.1]) <;> rfl) | fail)⟩⟩
         ·rw [if_neg c21] at H
          exact absurd H (by simp)
        ·rw [if_neg c20] at H
         exact absurd H (by simp)
     ·replace c16 := Bool.eq_false_iff.mpr c16
      subst c16
      have H1 : ((bursarlaw26_awake.f kj13).bind fun t334 => (some t334)) = some r := by rw [if_neg (show ¬ (false = true) by decide)] at H; exact H
      clear H
      have H := H1
      clear H1
      replace H := Option.bind_eq_some_iff.mp H
      obtain ⟨t334, A1770, H⟩ := H
      replace H : (some t334) = some r := H
      have A177 := Aside0.mk A1770
      clear A1770
      obtain rfl := Option.some.inj H
      go_wp2_with (first | ((with_reducible refine gate_callee (f := 18) rfl ?_); refine goesL_ (some 128) rfl rfl Try.func18 (by kernel_rfl) rfl #[] rfl (by (try simp only [List.map_toArray, List.map_cons, List.map_nil]); first | done | rfl | (simp only [hq.1]; done) | (simp only [hq.1]; rfl)) ?_; refine Calls.mono (calls_of_args (by first | ((try simp only [hq.1]) <;> rfl) | fail) (bursarlaw26_awake.calls kj13  t334 _ A177.out)) ?_; rintro e w178 ⟨he_, hb⟩; subst he_; refine ⟨_, rfl, ?_⟩; replace HO := Aside0.mk (Ow.Own.call HO.out hb); clear hb) | ((with_reducible refine Ow.gate_eqs (t := 29) (by first | exact Or.inl rfl | exact Or.inr rfl) rfl ?_); simp only [hq.1, Ow.part, Ot.sz, Ot.zero, Ow.over, Ow.overL, List.drop_succ_cons, List.drop_zero, List.take_succ_cons, List.take_zero]) | ((with_reducible refine Ow.gate_eqs (t := 36) (by first | exact Or.inl rfl | exact Or.inr rfl) rfl ?_); simp only [hq.1, Ow.part, Ot.sz, Ot.zero, Ow.over, Ow.overL, List.drop_succ_cons, List.drop_zero, List.take_succ_cons, List.take_zero]) | ((with_reducible refine Ow.gate_build rfl ?_); (try (refine gate_guard (by rfl) ?_; dsimp only)); refine' Ow.tbuild Ot.bd rfl rfl rfl ?hf_ ?_; (case hf_ => repeat (any_goals (first | exact Ow.Fills.nil | (refine' Ow.Fills.c ?hv_ rfl ?hz_ ?_; (case hv_ => first | exact Ow.ev_tmp rfl | rfl); (case hz_ => first | (refine ⟨?_, ?_⟩ <;> (first | ((try simp only [hq.1]) <;> rfl) | fail)) | fail)))))) | ((with_reducible refine Ow.gate_load rfl ?_); (try (refine gate_guard (by rfl) ?_; dsimp only)); (first | refine Ow.l1 Ot.ty HO.out rfl rfl rfl rfl (by first | ((try simp only [hq.1]) <;> rfl) | fail) ?_ | refine Ow.l0 Ot.ty HO.out rfl rfl rfl rfl (by first | ((try simp only [hq.1]) <;> rfl) | fail) ?_ | refine Ow.lp Ot.ty HO.out rfl rfl rfl rfl (by first | ((try simp only [hq.1]) <;> rfl) | fail) ?_)) | ((with_reducible refine gate_store rfl ?_); (try (refine gate_guard (by rfl) ?_; dsimp only)); (first | refine Ow.s0 Ot.ty HO.out rfl rfl rfl rfl rfl (by first | exact Ow.ev_tmp rfl | rfl) (by first | (refine ⟨?_, ?_, ?_⟩ <;> (first | ((try simp only [hq.1]) <;> rfl) | fail)) | fail) ?_ | refine Ow.sp Ot.ty HO.out rfl rfl rfl rfl rfl (by first | exact Ow.ev_tmp rfl | rfl) (by first | (refine ⟨?_, ?_, ?_⟩ <;> (first | ((try simp only [hq.1]) <;> rfl) | fail)) | fail) ?_); clear HO; intro wz_ HO; simp only [List.set_cons_zero, List.set_cons_succ] at HO))
      all_goals go_ret
      all_goals exact ⟨by first | rfl | (simp only [hq.1]; done) | (simp only [hq.1]; rfl) | (simp [errW_none, errW_some] <;> rfl) | (simp [*, errW_none, errW_some] <;> rfl), Ow.Own.below HO.out⟩

end Go.Proofs.Ytddlmcaclbkopaa.XDG
