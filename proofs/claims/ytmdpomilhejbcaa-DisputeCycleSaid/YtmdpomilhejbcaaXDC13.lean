-- Written by wip/xprint.py, a session's program: printed out of the translation, with hand-written functions. Lean checks it.
import Derived.Test.YtmdpomilhejbcaaXDC0
import Derived.Test.YtmdpomilhejbcaaBs
import Derived.Test.YtmdpomilhejbcaaXDC2
import Derived.Test.YtmdpomilhejbcaaXDC7
import Derived.Test.YtmdpomilhejbcaaXDC9
import Derived.Test.YtmdpomilhejbcaaXDC11
import Derived.Test.YtmdpomilhejbcaaXDC12
namespace Go.Proofs.Ytmdpomilhejbcaa.XDC
open Go.RowKit Go.Proofs.YtmdpomilhejbcaaW.PrintWords Go.Proofs.YtmdpomilhejbcaaW.PrintLast Go.Proofs.YtmdpomilhejbcaaW.PrintMore
attribute [local go_sem] max2_int min2_int max_two min_two max_three min_three max_four min_four   -- for this text's walks alone
set_option linter.unusedVariables false
set_option linter.unusedSimpArgs false

/-! ### bursarlaw26_DisputeCycle: function 3 -/
mutual
def bursarlaw26_DisputeCycle.j0 : Nat → List Int → Bool → ByteArray → ByteArray → ByteArray → Int → ByteArray → ByteArray → ByteArray → ByteArray → ByteArray → Int → Int → ByteArray → Bool → Int → ByteArray → ByteArray → ByteArray → Int → Int → Int → Bool → Bool → Int → Int → Bool → Option (Bool)
  | 0, _, _, _, _, _, _, _, _, _, _, _, _, _, _, _, _, _, _, _, _, _, _, _, _, _, _, _ => none
  | k + 1, x2, x45, x295000, x295001, x295002, x295003, x295004, x295005, x295006, x295007, x295008, x295009, x295010, x295011, x295012, x295013, x295014, x295015, x295016, x295017, x295018, x295019, x295020, x295021, x295022, x295023, x295024 => if x45 = true then ((bursarlaw26_awake.f k).bind fun t321 => (some t321)) else (bursarlaw26_DisputeCycle.l0 k x2 false 0 (([(⟨#[48, 48, 48, 48, 48, 48]⟩ : ByteArray), (⟨#[48, 49, 48, 48, 48, 48]⟩ : ByteArray), (⟨#[48, 50, 48, 48, 48, 48]⟩ : ByteArray), (⟨#[48, 49, 48, 48, 48, 48]⟩ : ByteArray), (⟨#[48, 50, 48, 48, 48, 48]⟩ : ByteArray), (⟨#[48, 48, 48, 48, 48, 48]⟩ : ByteArray)] : List ByteArray)) 0 x295000 x295001 x295002 x295003 x295004 x295005 x295006 x295007 x295008 x295009 x295010 x295011 x295012 x295013 x295014 x295015 x295016 x295017 x295018 x295019 x295020 x295021 x295022 x295023 x295024 (⟨#[]⟩ : ByteArray) (⟨#[]⟩ : ByteArray) (⟨#[]⟩ : ByteArray) 0 0 0)
def bursarlaw26_DisputeCycle.l0 : Nat → List Int → Bool → Int → List ByteArray → Int → ByteArray → ByteArray → ByteArray → Int → ByteArray → ByteArray → ByteArray → ByteArray → ByteArray → Int → Int → ByteArray → Bool → Int → ByteArray → ByteArray → ByteArray → Int → Int → Int → Bool → Bool → Int → Int → Bool → ByteArray → ByteArray → ByteArray → Int → Int → Int → Option (Bool)
  | 0, _, _, _, _, _, _, _, _, _, _, _, _, _, _, _, _, _, _, _, _, _, _, _, _, _, _, _, _, _, _, _, _, _, _, _, _ => none
  | k + 1, x2, x8, x9, x10, x11, x295000, x295001, x295002, x295003, x295004, x295005, x295006, x295007, x295008, x295009, x295010, x295011, x295012, x295013, x295014, x295015, x295016, x295017, x295018, x295019, x295020, x295021, x295022, x295023, x295024, x323000, x323001, x323002, x323003, x323004, x323005 => if x11 < (x10.length : Int) then (if x11 < (x2.length : Int) then (if 0 ≤ x11 then (bursarlaw26_DisputeCycle.j2 k x2 x8 x9 x10 x11 x295000 x295001 x295002 x295003 x295004 x295005 x295006 x295007 x295008 x295009 x295010 x295011 x295012 x295013 x295014 x295015 x295016 x295017 x295018 x295019 x295020 x295021 (wrap64 (x295022 + (wrap64 (Int.tmod (rd x2 x11) 200)))) x295023 x295024 x323000 x323001 x323002 x323003 x323004 x323005) else (none)) else (bursarlaw26_DisputeCycle.j2 k x2 x8 x9 x10 x11 x295000 x295001 x295002 x295003 x295004 x295005 x295006 x295007 x295008 x295009 x295010 x295011 x295012 x295013 x295014 x295015 x295016 x295017 x295018 x295019 x295020 x295021 x295022 x295023 x295024 x323000 x323001 x323002 x323003 x323004 x323005)) else ((bursarlaw26_awake.f k).bind fun t326 => (some t326))
def bursarlaw26_DisputeCycle.j2 : Nat → List Int → Bool → Int → List ByteArray → Int → ByteArray → ByteArray → ByteArray → Int → ByteArray → ByteArray → ByteArray → ByteArray → ByteArray → Int → Int → ByteArray → Bool → Int → ByteArray → ByteArray → ByteArray → Int → Int → Int → Bool → Bool → Int → Int → Bool → ByteArray → ByteArray → ByteArray → Int → Int → Int → Option (Bool)
  | 0, _, _, _, _, _, _, _, _, _, _, _, _, _, _, _, _, _, _, _, _, _, _, _, _, _, _, _, _, _, _, _, _, _, _, _, _ => none
  | k + 1, x2, x8, x9, x10, x11, x295000, x295001, x295002, x295003, x295004, x295005, x295006, x295007, x295008, x295009, x295010, x295011, x295012, x295013, x295014, x295015, x295016, x295017, x295018, x295019, x295020, x295021, x295022, x295023, x295024, x323000, x323001, x323002, x323003, x323004, x323005 => if 0 ≤ x11 then (if x11 < (x10.length : Int) then ((dispute_Decide.f k x295000 x295001 (rdOf ByteArray.empty x10 x11) x295003 x295004 x295005 x295006 x295007 x295008 x295009 x295010 x295011 x295012 x295013 x295014 x295015 x295016 x295017 x295018 x295019 x295020 x295021 x295022 x295023 x295024 x323000 x323001 x323002 x323003 x323004 x323005 x8).bind fun bt329 => (if bt329.2.2.2.2.2.2.2.2.2.2.2.2.toList = ([48, 48] : List UInt8) then (if x11 < 3 then (if x11 ≥ 3 then (bursarlaw26_DisputeCycle.l0 k x2 x8 x9 x10 (wrap64 (x11 + 1)) x295000 x295001 (rdOf ByteArray.empty x10 x11) x295003 x295004 x295005 x295006 x295007 x295008 x295009 x295010 x295011 x295012 x295013 x295014 x295015 x295016 x295017 x295018 x295019 x295020 x295021 x295022 x295023 x295024 x323000 x323001 x323002 x323003 x323004 x323005) else (if bt329.2.2.2.2.2.2.1 = 3 then (bursarlaw26_DisputeCycle.j3 k x2 (wrap64 (x9 + bt329.2.2.2.2.2.2.2.2.2.2.2.1)) x10 x11 x295000 x295001 (rdOf ByteArray.empty x10 x11) x295003 x295004 x295005 x295006 x295007 x295008 x295009 x295010 x295011 x295012 x295013 x295014 x295015 x295016 x295017 x295018 x295019 x295020 x295021 x295022 x295023 x295024 bt329.1 bt329.2.1 bt329.2.2.1 bt329.2.2.2.1 bt329.2.2.2.2.1 bt329.2.2.2.2.2.1) else (bursarlaw26_DisputeCycle.j3 k x2 (wrap64 (x9 - bt329.2.2.2.2.2.2.2.2.2.2.2.1)) x10 x11 x295000 x295001 (rdOf ByteArray.empty x10 x11) x295003 x295004 x295005 x295006 x295007 x295008 x295009 x295010 x295011 x295012 x295013 x295014 x295015 x295016 x295017 x295018 x295019 x295020 x295021 x295022 x295023 x295024 bt329.1 bt329.2.1 bt329.2.2.1 bt329.2.2.2.1 bt329.2.2.2.2.1 bt329.2.2.2.2.2.1))) else (none)) else (if x11 < 3 then (none) else (if x11 ≥ 3 then (bursarlaw26_DisputeCycle.l0 k x2 x8 x9 x10 (wrap64 (x11 + 1)) x295000 x295001 (rdOf ByteArray.empty x10 x11) x295003 x295004 x295005 x295006 x295007 x295008 x295009 x295010 x295011 x295012 x295013 x295014 x295015 x295016 x295017 x295018 x295019 x295020 x295021 x295022 x295023 x295024 x323000 x323001 x323002 x323003 x323004 x323005) else (if bt329.2.2.2.2.2.2.1 = 3 then (bursarlaw26_DisputeCycle.j4 k x2 (wrap64 (x9 + bt329.2.2.2.2.2.2.2.2.2.2.2.1)) x10 x11 x295000 x295001 (rdOf ByteArray.empty x10 x11) x295003 x295004 x295005 x295006 x295007 x295008 x295009 x295010 x295011 x295012 x295013 x295014 x295015 x295016 x295017 x295018 x295019 x295020 x295021 x295022 x295023 x295024 bt329.1 bt329.2.1 bt329.2.2.1 bt329.2.2.2.1 bt329.2.2.2.2.1 bt329.2.2.2.2.2.1) else (bursarlaw26_DisputeCycle.j4 k x2 (wrap64 (x9 - bt329.2.2.2.2.2.2.2.2.2.2.2.1)) x10 x11 x295000 x295001 (rdOf ByteArray.empty x10 x11) x295003 x295004 x295005 x295006 x295007 x295008 x295009 x295010 x295011 x295012 x295013 x295014 x295015 x295016 x295017 x295018 x295019 x295020 x295021 x295022 x295023 x295024 bt329.1 bt329.2.1 bt329.2.2.1 bt329.2.2.2.1 bt329.2.2.2.2.1 bt329.2.2.2.2.2.1)))))) else (none)) else (none)
def bursarlaw26_DisputeCycle.j3 : Nat → List Int → Int → List ByteArray → Int → ByteArray → ByteArray → ByteArray → Int → ByteArray → ByteArray → ByteArray → ByteArray → ByteArray → Int → Int → ByteArray → Bool → Int → ByteArray → ByteArray → ByteArray → Int → Int → Int → Bool → Bool → Int → Int → Bool → ByteArray → ByteArray → ByteArray → Int → Int → Int → Option (Bool)
  | 0, _, _, _, _, _, _, _, _, _, _, _, _, _, _, _, _, _, _, _, _, _, _, _, _, _, _, _, _, _, _, _, _, _, _, _ => none
  | k + 1, x2, x9, x10, x11, x295000, x295001, x295002, x295003, x295004, x295005, x295006, x295007, x295008, x295009, x295010, x295011, x295012, x295013, x295014, x295015, x295016, x295017, x295018, x295019, x295020, x295021, x295022, x295023, x295024, x343000, x343001, x343002, x343003, x343004, x343005 => if x11 = 1 then (if x9 = 0 then ((dispute_Against.f x343000 x343001 x343002 x343003 x343004 x343005).bind fun t344 => (if t344 = 0 then (if x343003 = (wrap64 (x11 + 1)) then (bursarlaw26_DisputeCycle.l0 k x2 true x9 x10 (wrap64 (x11 + 1)) x295000 x295001 x295002 x295003 x295004 x295005 x295006 x295007 x295008 x295009 x295010 x295011 x295012 x295013 x295014 x295015 x295016 x295017 x295018 x295019 x295020 x295021 x295022 x295023 x295024 x343000 x343001 x343002 x343003 x343004 x343005) else (none)) else (none))) else (none)) else (if x9 = x295003 then ((dispute_Against.f x343000 x343001 x343002 x343003 x343004 x343005).bind fun t345 => (if t345 = x295003 then (if x343003 = (wrap64 (x11 + 1)) then (bursarlaw26_DisputeCycle.l0 k x2 true x9 x10 (wrap64 (x11 + 1)) x295000 x295001 x295002 x295003 x295004 x295005 x295006 x295007 x295008 x295009 x295010 x295011 x295012 x295013 x295014 x295015 x295016 x295017 x295018 x295019 x295020 x295021 x295022 x295023 x295024 x343000 x343001 x343002 x343003 x343004 x343005) else (none)) else (none))) else (none))
def bursarlaw26_DisputeCycle.j4 : Nat → List Int → Int → List ByteArray → Int → ByteArray → ByteArray → ByteArray → Int → ByteArray → ByteArray → ByteArray → ByteArray → ByteArray → Int → Int → ByteArray → Bool → Int → ByteArray → ByteArray → ByteArray → Int → Int → Int → Bool → Bool → Int → Int → Bool → ByteArray → ByteArray → ByteArray → Int → Int → Int → Option (Bool)
  | 0, _, _, _, _, _, _, _, _, _, _, _, _, _, _, _, _, _, _, _, _, _, _, _, _, _, _, _, _, _, _, _, _, _, _, _ => none
  | k + 1, x2, x9, x10, x11, x295000, x295001, x295002, x295003, x295004, x295005, x295006, x295007, x295008, x295009, x295010, x295011, x295012, x295013, x295014, x295015, x295016, x295017, x295018, x295019, x295020, x295021, x295022, x295023, x295024, x343000, x343001, x343002, x343003, x343004, x343005 => if x11 = 1 then (if x9 = 0 then ((dispute_Against.f x343000 x343001 x343002 x343003 x343004 x343005).bind fun t346 => (if t346 = 0 then (if x343003 = (wrap64 (x11 + 1)) then (bursarlaw26_DisputeCycle.l0 k x2 true x9 x10 (wrap64 (x11 + 1)) x295000 x295001 x295002 x295003 x295004 x295005 x295006 x295007 x295008 x295009 x295010 x295011 x295012 x295013 x295014 x295015 x295016 x295017 x295018 x295019 x295020 x295021 x295022 x295023 x295024 x343000 x343001 x343002 x343003 x343004 x343005) else (none)) else (none))) else (none)) else (if x9 = x295003 then ((dispute_Against.f x343000 x343001 x343002 x343003 x343004 x343005).bind fun t347 => (if t347 = x295003 then (if x343003 = (wrap64 (x11 + 1)) then (bursarlaw26_DisputeCycle.l0 k x2 true x9 x10 (wrap64 (x11 + 1)) x295000 x295001 x295002 x295003 x295004 x295005 x295006 x295007 x295008 x295009 x295010 x295011 x295012 x295013 x295014 x295015 x295016 x295017 x295018 x295019 x295020 x295021 x295022 x295023 x295024 x343000 x343001 x343002 x343003 x343004 x343005) else (none)) else (none))) else (none))
end
def bursarlaw26_DisputeCycle.f (k : Nat) (a0_0 : ByteArray) (a0_1 : ByteArray) (a0_2 : ByteArray) (a0_3 : Int) (a0_4 : ByteArray) (a0_5 : ByteArray) (a0_6 : ByteArray) (a0_7 : ByteArray) (a0_8 : ByteArray) (a0_9 : Int) (a0_10 : Int) (a0_11 : ByteArray) (a0_12 : Bool) (a0_13 : Int) (a0_14 : ByteArray) (a0_15 : ByteArray) (a0_16 : ByteArray) (a0_17 : Int) (a0_18 : Int) (a0_19 : Int) (a0_20 : Bool) (a0_21 : Bool) (a0_22 : Int) (a0_23 : Int) (a0_24 : Bool) (a1 : Int) (l2 : List Int) : Option (Bool) := (bursarlaw22_Few.f a0_0 a0_1 a0_2 a0_3 a0_4 a0_5 a0_6 a0_7 a0_8 a0_9 a0_10 a0_11 a0_12 a0_13 a0_14 a0_15 a0_16 a0_17 a0_18 a0_19 a0_20 a0_21 a0_22 a0_23 a0_24).bind fun bt295 => ((dispute_Asks.f k bt295.1 bt295.2.1 bt295.2.2.1 (wrap64 ((wrap64 (a1)) + 1)) bt295.2.2.2.2.1 bt295.2.2.2.2.2.1 bt295.2.2.2.2.2.2.1 bt295.2.2.2.2.2.2.2.1 bt295.2.2.2.2.2.2.2.2.1 bt295.2.2.2.2.2.2.2.2.2.1 bt295.2.2.2.2.2.2.2.2.2.2.1 bt295.2.2.2.2.2.2.2.2.2.2.2.1 bt295.2.2.2.2.2.2.2.2.2.2.2.2.1 bt295.2.2.2.2.2.2.2.2.2.2.2.2.2.1 bt295.2.2.2.2.2.2.2.2.2.2.2.2.2.2.1 bt295.2.2.2.2.2.2.2.2.2.2.2.2.2.2.2.1 bt295.2.2.2.2.2.2.2.2.2.2.2.2.2.2.2.2.1 bt295.2.2.2.2.2.2.2.2.2.2.2.2.2.2.2.2.2.1 bt295.2.2.2.2.2.2.2.2.2.2.2.2.2.2.2.2.2.2.1 bt295.2.2.2.2.2.2.2.2.2.2.2.2.2.2.2.2.2.2.2.1 bt295.2.2.2.2.2.2.2.2.2.2.2.2.2.2.2.2.2.2.2.2.1 bt295.2.2.2.2.2.2.2.2.2.2.2.2.2.2.2.2.2.2.2.2.2.1 bt295.2.2.2.2.2.2.2.2.2.2.2.2.2.2.2.2.2.2.2.2.2.2.1 bt295.2.2.2.2.2.2.2.2.2.2.2.2.2.2.2.2.2.2.2.2.2.2.2.1 bt295.2.2.2.2.2.2.2.2.2.2.2.2.2.2.2.2.2.2.2.2.2.2.2.2 (⟨#[]⟩ : ByteArray) (⟨#[]⟩ : ByteArray) (⟨#[]⟩ : ByteArray) 0 0 0 false).bind fun t320 => (if t320 = true then (if bt295.2.2.2.2.2.2.2.2.2.2.2.2.2.2.2.2.2.2.2.2.2.1 = true then (if bt295.2.2.2.2.2.2.2.2.2.2.2.2.2.2.2.2.2.2.1 < (wrap64 ((wrap64 (a1)) + 1)) then (bursarlaw26_DisputeCycle.j0 k l2 true bt295.1 bt295.2.1 bt295.2.2.1 (wrap64 ((wrap64 (a1)) + 1)) bt295.2.2.2.2.1 bt295.2.2.2.2.2.1 bt295.2.2.2.2.2.2.1 bt295.2.2.2.2.2.2.2.1 bt295.2.2.2.2.2.2.2.2.1 bt295.2.2.2.2.2.2.2.2.2.1 bt295.2.2.2.2.2.2.2.2.2.2.1 bt295.2.2.2.2.2.2.2.2.2.2.2.1 bt295.2.2.2.2.2.2.2.2.2.2.2.2.1 bt295.2.2.2.2.2.2.2.2.2.2.2.2.2.1 bt295.2.2.2.2.2.2.2.2.2.2.2.2.2.2.1 bt295.2.2.2.2.2.2.2.2.2.2.2.2.2.2.2.1 bt295.2.2.2.2.2.2.2.2.2.2.2.2.2.2.2.2.1 bt295.2.2.2.2.2.2.2.2.2.2.2.2.2.2.2.2.2.1 bt295.2.2.2.2.2.2.2.2.2.2.2.2.2.2.2.2.2.2.1 bt295.2.2.2.2.2.2.2.2.2.2.2.2.2.2.2.2.2.2.2.1 bt295.2.2.2.2.2.2.2.2.2.2.2.2.2.2.2.2.2.2.2.2.1 bt295.2.2.2.2.2.2.2.2.2.2.2.2.2.2.2.2.2.2.2.2.2.1 bt295.2.2.2.2.2.2.2.2.2.2.2.2.2.2.2.2.2.2.2.2.2.2.1 bt295.2.2.2.2.2.2.2.2.2.2.2.2.2.2.2.2.2.2.2.2.2.2.2.1 bt295.2.2.2.2.2.2.2.2.2.2.2.2.2.2.2.2.2.2.2.2.2.2.2.2) else (bursarlaw26_DisputeCycle.j0 k l2 (decide (bt295.2.2.2.2.2.2.2.2.2.2.2.2.2.2.2.2.2.2.2.2.2.2.1 > 1073741824)) bt295.1 bt295.2.1 bt295.2.2.1 (wrap64 ((wrap64 (a1)) + 1)) bt295.2.2.2.2.1 bt295.2.2.2.2.2.1 bt295.2.2.2.2.2.2.1 bt295.2.2.2.2.2.2.2.1 bt295.2.2.2.2.2.2.2.2.1 bt295.2.2.2.2.2.2.2.2.2.1 bt295.2.2.2.2.2.2.2.2.2.2.1 bt295.2.2.2.2.2.2.2.2.2.2.2.1 bt295.2.2.2.2.2.2.2.2.2.2.2.2.1 bt295.2.2.2.2.2.2.2.2.2.2.2.2.2.1 bt295.2.2.2.2.2.2.2.2.2.2.2.2.2.2.1 bt295.2.2.2.2.2.2.2.2.2.2.2.2.2.2.2.1 bt295.2.2.2.2.2.2.2.2.2.2.2.2.2.2.2.2.1 bt295.2.2.2.2.2.2.2.2.2.2.2.2.2.2.2.2.2.1 bt295.2.2.2.2.2.2.2.2.2.2.2.2.2.2.2.2.2.2.1 bt295.2.2.2.2.2.2.2.2.2.2.2.2.2.2.2.2.2.2.2.1 bt295.2.2.2.2.2.2.2.2.2.2.2.2.2.2.2.2.2.2.2.2.1 bt295.2.2.2.2.2.2.2.2.2.2.2.2.2.2.2.2.2.2.2.2.2.1 bt295.2.2.2.2.2.2.2.2.2.2.2.2.2.2.2.2.2.2.2.2.2.2.1 bt295.2.2.2.2.2.2.2.2.2.2.2.2.2.2.2.2.2.2.2.2.2.2.2.1 bt295.2.2.2.2.2.2.2.2.2.2.2.2.2.2.2.2.2.2.2.2.2.2.2.2)) else (bursarlaw26_DisputeCycle.j0 k l2 true bt295.1 bt295.2.1 bt295.2.2.1 (wrap64 ((wrap64 (a1)) + 1)) bt295.2.2.2.2.1 bt295.2.2.2.2.2.1 bt295.2.2.2.2.2.2.1 bt295.2.2.2.2.2.2.2.1 bt295.2.2.2.2.2.2.2.2.1 bt295.2.2.2.2.2.2.2.2.2.1 bt295.2.2.2.2.2.2.2.2.2.2.1 bt295.2.2.2.2.2.2.2.2.2.2.2.1 bt295.2.2.2.2.2.2.2.2.2.2.2.2.1 bt295.2.2.2.2.2.2.2.2.2.2.2.2.2.1 bt295.2.2.2.2.2.2.2.2.2.2.2.2.2.2.1 bt295.2.2.2.2.2.2.2.2.2.2.2.2.2.2.2.1 bt295.2.2.2.2.2.2.2.2.2.2.2.2.2.2.2.2.1 bt295.2.2.2.2.2.2.2.2.2.2.2.2.2.2.2.2.2.1 bt295.2.2.2.2.2.2.2.2.2.2.2.2.2.2.2.2.2.2.1 bt295.2.2.2.2.2.2.2.2.2.2.2.2.2.2.2.2.2.2.2.1 bt295.2.2.2.2.2.2.2.2.2.2.2.2.2.2.2.2.2.2.2.2.1 bt295.2.2.2.2.2.2.2.2.2.2.2.2.2.2.2.2.2.2.2.2.2.1 bt295.2.2.2.2.2.2.2.2.2.2.2.2.2.2.2.2.2.2.2.2.2.2.1 bt295.2.2.2.2.2.2.2.2.2.2.2.2.2.2.2.2.2.2.2.2.2.2.2.1 bt295.2.2.2.2.2.2.2.2.2.2.2.2.2.2.2.2.2.2.2.2.2.2.2.2)) else (bursarlaw26_DisputeCycle.j0 k l2 true bt295.1 bt295.2.1 bt295.2.2.1 (wrap64 ((wrap64 (a1)) + 1)) bt295.2.2.2.2.1 bt295.2.2.2.2.2.1 bt295.2.2.2.2.2.2.1 bt295.2.2.2.2.2.2.2.1 bt295.2.2.2.2.2.2.2.2.1 bt295.2.2.2.2.2.2.2.2.2.1 bt295.2.2.2.2.2.2.2.2.2.2.1 bt295.2.2.2.2.2.2.2.2.2.2.2.1 bt295.2.2.2.2.2.2.2.2.2.2.2.2.1 bt295.2.2.2.2.2.2.2.2.2.2.2.2.2.1 bt295.2.2.2.2.2.2.2.2.2.2.2.2.2.2.1 bt295.2.2.2.2.2.2.2.2.2.2.2.2.2.2.2.1 bt295.2.2.2.2.2.2.2.2.2.2.2.2.2.2.2.2.1 bt295.2.2.2.2.2.2.2.2.2.2.2.2.2.2.2.2.2.1 bt295.2.2.2.2.2.2.2.2.2.2.2.2.2.2.2.2.2.2.1 bt295.2.2.2.2.2.2.2.2.2.2.2.2.2.2.2.2.2.2.2.1 bt295.2.2.2.2.2.2.2.2.2.2.2.2.2.2.2.2.2.2.2.2.1 bt295.2.2.2.2.2.2.2.2.2.2.2.2.2.2.2.2.2.2.2.2.2.1 bt295.2.2.2.2.2.2.2.2.2.2.2.2.2.2.2.2.2.2.2.2.2.2.1 bt295.2.2.2.2.2.2.2.2.2.2.2.2.2.2.2.2.2.2.2.2.2.2.2.1 bt295.2.2.2.2.2.2.2.2.2.2.2.2.2.2.2.2.2.2.2.2.2.2.2.2)))
theorem bursarlaw26_DisputeCycle.mono_l : ∀ k, (∀ y0 y1 y2 y3 y4 y5 y6 y7 y8 y9 y10 y11 y12 y13 y14 y15 y16 y17 y18 y19 y20 y21 y22 y23 y24 y25 y26, LeO (bursarlaw26_DisputeCycle.j0 k y0 y1 y2 y3 y4 y5 y6 y7 y8 y9 y10 y11 y12 y13 y14 y15 y16 y17 y18 y19 y20 y21 y22 y23 y24 y25 y26) (bursarlaw26_DisputeCycle.j0 (k + 1) y0 y1 y2 y3 y4 y5 y6 y7 y8 y9 y10 y11 y12 y13 y14 y15 y16 y17 y18 y19 y20 y21 y22 y23 y24 y25 y26)) ∧ (∀ y0 y1 y2 y3 y4 y5 y6 y7 y8 y9 y10 y11 y12 y13 y14 y15 y16 y17 y18 y19 y20 y21 y22 y23 y24 y25 y26 y27 y28 y29 y30 y31 y32 y33 y34 y35, LeO (bursarlaw26_DisputeCycle.l0 k y0 y1 y2 y3 y4 y5 y6 y7 y8 y9 y10 y11 y12 y13 y14 y15 y16 y17 y18 y19 y20 y21 y22 y23 y24 y25 y26 y27 y28 y29 y30 y31 y32 y33 y34 y35) (bursarlaw26_DisputeCycle.l0 (k + 1) y0 y1 y2 y3 y4 y5 y6 y7 y8 y9 y10 y11 y12 y13 y14 y15 y16 y17 y18 y19 y20 y21 y22 y23 y24 y25 y26 y27 y28 y29 y30 y31 y32 y33 y34 y35)) ∧ (∀ y0 y1 y2 y3 y4 y5 y6 y7 y8 y9 y10 y11 y12 y13 y14 y15 y16 y17 y18 y19 y20 y21 y22 y23 y24 y25 y26 y27 y28 y29 y30 y31 y32 y33 y34 y35, LeO (bursarlaw26_DisputeCycle.j2 k y0 y1 y2 y3 y4 y5 y6 y7 y8 y9 y10 y11 y12 y13 y14 y15 y16 y17 y18 y19 y20 y21 y22 y23 y24 y25 y26 y27 y28 y29 y30 y31 y32 y33 y34 y35) (bursarlaw26_DisputeCycle.j2 (k + 1) y0 y1 y2 y3 y4 y5 y6 y7 y8 y9 y10 y11 y12 y13 y14 y15 y16 y17 y18 y19 y20 y21 y22 y23 y24 y25 y26 y27 y28 y29 y30 y31 y32 y33 y34 y35)) ∧ (∀ y0 y1 y2 y3 y4 y5 y6 y7 y8 y9 y10 y11 y12 y13 y14 y15 y16 y17 y18 y19 y20 y21 y22 y23 y24 y25 y26 y27 y28 y29 y30 y31 y32 y33 y34, LeO (bursarlaw26_DisputeCycle.j3 k y0 y1 y2 y3 y4 y5 y6 y7 y8 y9 y10 y11 y12 y13 y14 y15 y16 y17 y18 y19 y20 y21 y22 y23 y24 y25 y26 y27 y28 y29 y30 y31 y32 y33 y34) (bursarlaw26_DisputeCycle.j3 (k + 1) y0 y1 y2 y3 y4 y5 y6 y7 y8 y9 y10 y11 y12 y13 y14 y15 y16 y17 y18 y19 y20 y21 y22 y23 y24 y25 y26 y27 y28 y29 y30 y31 y32 y33 y34)) ∧ (∀ y0 y1 y2 y3 y4 y5 y6 y7 y8 y9 y10 y11 y12 y13 y14 y15 y16 y17 y18 y19 y20 y21 y22 y23 y24 y25 y26 y27 y28 y29 y30 y31 y32 y33 y34, LeO (bursarlaw26_DisputeCycle.j4 k y0 y1 y2 y3 y4 y5 y6 y7 y8 y9 y10 y11 y12 y13 y14 y15 y16 y17 y18 y19 y20 y21 y22 y23 y24 y25 y26 y27 y28 y29 y30 y31 y32 y33 y34) (bursarlaw26_DisputeCycle.j4 (k + 1) y0 y1 y2 y3 y4 y5 y6 y7 y8 y9 y10 y11 y12 y13 y14 y15 y16 y17 y18 y19 y20 y21 y22 y23 y24 y25 y26 y27 y28 y29 y30 y31 y32 y33 y34))
  | 0 => ⟨fun _ _ _ _ _ _ _ _ _ _ _ _ _ _ _ _ _ _ _ _ _ _ _ _ _ _ _ r h => by simp [bursarlaw26_DisputeCycle.j0] at h, fun _ _ _ _ _ _ _ _ _ _ _ _ _ _ _ _ _ _ _ _ _ _ _ _ _ _ _ _ _ _ _ _ _ _ _ _ r h => by simp [bursarlaw26_DisputeCycle.l0] at h, fun _ _ _ _ _ _ _ _ _ _ _ _ _ _ _ _ _ _ _ _ _ _ _ _ _ _ _ _ _ _ _ _ _ _ _ _ r h => by simp [bursarlaw26_DisputeCycle.j2] at h, fun _ _ _ _ _ _ _ _ _ _ _ _ _ _ _ _ _ _ _ _ _ _ _ _ _ _ _ _ _ _ _ _ _ _ _ r h => by simp [bursarlaw26_DisputeCycle.j3] at h, fun _ _ _ _ _ _ _ _ _ _ _ _ _ _ _ _ _ _ _ _ _ _ _ _ _ _ _ _ _ _ _ _ _ _ _ r h => by simp [bursarlaw26_DisputeCycle.j4] at h⟩
  | k + 1 => by
    obtain ⟨ih0, ih1, ih2, ih3, ih4⟩ := bursarlaw26_DisputeCycle.mono_l k
    refine ⟨?_, ?_, ?_, ?_, ?_⟩
    all_goals
      intros
      first
      | unfold bursarlaw26_DisputeCycle.j0
      | unfold bursarlaw26_DisputeCycle.l0
      | unfold bursarlaw26_DisputeCycle.j2
      | unfold bursarlaw26_DisputeCycle.j3
      | unfold bursarlaw26_DisputeCycle.j4
      repeat' first
      | (with_reducible exact ih0 _ _ _ _ _ _ _ _ _ _ _ _ _ _ _ _ _ _ _ _ _ _ _ _ _ _ _)
      | (with_reducible exact ih1 _ _ _ _ _ _ _ _ _ _ _ _ _ _ _ _ _ _ _ _ _ _ _ _ _ _ _ _ _ _ _ _ _ _ _ _)
      | (with_reducible exact ih2 _ _ _ _ _ _ _ _ _ _ _ _ _ _ _ _ _ _ _ _ _ _ _ _ _ _ _ _ _ _ _ _ _ _ _ _)
      | (with_reducible exact ih3 _ _ _ _ _ _ _ _ _ _ _ _ _ _ _ _ _ _ _ _ _ _ _ _ _ _ _ _ _ _ _ _ _ _ _)
      | (with_reducible exact ih4 _ _ _ _ _ _ _ _ _ _ _ _ _ _ _ _ _ _ _ _ _ _ _ _ _ _ _ _ _ _ _ _ _ _ _)
      | (with_reducible exact bursarlaw26_awake.mono _)
      | (with_reducible exact dispute_Asks.mono _ _ _ _ _ _ _ _ _ _ _ _ _ _ _ _ _ _ _ _ _ _ _ _ _ _ _ _ _ _ _ _ _)
      | (with_reducible exact dispute_Decide.mono _ _ _ _ _ _ _ _ _ _ _ _ _ _ _ _ _ _ _ _ _ _ _ _ _ _ _ _ _ _ _ _ _)
      | (with_reducible exact LeO.refl _)
      | (with_reducible exact LeO.none _)
      | (with_reducible refine LeO.ite ?_ ?_)
      | (with_reducible refine LeO.bind ?_ (fun _ => ?_))
      | exact ih0 _ _ _ _ _ _ _ _ _ _ _ _ _ _ _ _ _ _ _ _ _ _ _ _ _ _ _
      | exact ih1 _ _ _ _ _ _ _ _ _ _ _ _ _ _ _ _ _ _ _ _ _ _ _ _ _ _ _ _ _ _ _ _ _ _ _ _
      | exact ih2 _ _ _ _ _ _ _ _ _ _ _ _ _ _ _ _ _ _ _ _ _ _ _ _ _ _ _ _ _ _ _ _ _ _ _ _
      | exact ih3 _ _ _ _ _ _ _ _ _ _ _ _ _ _ _ _ _ _ _ _ _ _ _ _ _ _ _ _ _ _ _ _ _ _ _
      | exact ih4 _ _ _ _ _ _ _ _ _ _ _ _ _ _ _ _ _ _ _ _ _ _ _ _ _ _ _ _ _ _ _ _ _ _ _
      | exact bursarlaw26_awake.mono _
      | exact dispute_Asks.mono _ _ _ _ _ _ _ _ _ _ _ _ _ _ _ _ _ _ _ _ _ _ _ _ _ _ _ _ _ _ _ _ _
      | exact dispute_Decide.mono _ _ _ _ _ _ _ _ _ _ _ _ _ _ _ _ _ _ _ _ _ _ _ _ _ _ _ _ _ _ _ _ _
      | exact LeO.none _
      | refine LeO.ite ?_ ?_
      | refine LeO.bind ?_ (fun _ => ?_)
theorem bursarlaw26_DisputeCycle.mono : ∀ a0 a1 a2 a3 a4 a5 a6 a7 a8 a9 a10 a11 a12 a13 a14 a15 a16 a17 a18 a19 a20 a21 a22 a23 a24 a25 a26 k, LeO (bursarlaw26_DisputeCycle.f k a0 a1 a2 a3 a4 a5 a6 a7 a8 a9 a10 a11 a12 a13 a14 a15 a16 a17 a18 a19 a20 a21 a22 a23 a24 a25 a26) (bursarlaw26_DisputeCycle.f (k + 1) a0 a1 a2 a3 a4 a5 a6 a7 a8 a9 a10 a11 a12 a13 a14 a15 a16 a17 a18 a19 a20 a21 a22 a23 a24 a25 a26) := by
  intro a0 a1 a2 a3 a4 a5 a6 a7 a8 a9 a10 a11 a12 a13 a14 a15 a16 a17 a18 a19 a20 a21 a22 a23 a24 a25 a26 k
  obtain ⟨ih0, ih1, ih2, ih3, ih4⟩ := bursarlaw26_DisputeCycle.mono_l k
  unfold bursarlaw26_DisputeCycle.f
  repeat' first
      | (with_reducible exact ih0 _ _ _ _ _ _ _ _ _ _ _ _ _ _ _ _ _ _ _ _ _ _ _ _ _ _ _)
      | (with_reducible exact ih1 _ _ _ _ _ _ _ _ _ _ _ _ _ _ _ _ _ _ _ _ _ _ _ _ _ _ _ _ _ _ _ _ _ _ _ _)
      | (with_reducible exact ih2 _ _ _ _ _ _ _ _ _ _ _ _ _ _ _ _ _ _ _ _ _ _ _ _ _ _ _ _ _ _ _ _ _ _ _ _)
      | (with_reducible exact ih3 _ _ _ _ _ _ _ _ _ _ _ _ _ _ _ _ _ _ _ _ _ _ _ _ _ _ _ _ _ _ _ _ _ _ _)
      | (with_reducible exact ih4 _ _ _ _ _ _ _ _ _ _ _ _ _ _ _ _ _ _ _ _ _ _ _ _ _ _ _ _ _ _ _ _ _ _ _)
      | (with_reducible exact bursarlaw26_awake.mono _)
      | (with_reducible exact dispute_Asks.mono _ _ _ _ _ _ _ _ _ _ _ _ _ _ _ _ _ _ _ _ _ _ _ _ _ _ _ _ _ _ _ _ _)
      | (with_reducible exact dispute_Decide.mono _ _ _ _ _ _ _ _ _ _ _ _ _ _ _ _ _ _ _ _ _ _ _ _ _ _ _ _ _ _ _ _ _)
      | (with_reducible exact LeO.refl _)
      | (with_reducible exact LeO.none _)
      | (with_reducible refine LeO.ite ?_ ?_)
      | (with_reducible refine LeO.bind ?_ (fun _ => ?_))
      | exact ih0 _ _ _ _ _ _ _ _ _ _ _ _ _ _ _ _ _ _ _ _ _ _ _ _ _ _ _
      | exact ih1 _ _ _ _ _ _ _ _ _ _ _ _ _ _ _ _ _ _ _ _ _ _ _ _ _ _ _ _ _ _ _ _ _ _ _ _
      | exact ih2 _ _ _ _ _ _ _ _ _ _ _ _ _ _ _ _ _ _ _ _ _ _ _ _ _ _ _ _ _ _ _ _ _ _ _ _
      | exact ih3 _ _ _ _ _ _ _ _ _ _ _ _ _ _ _ _ _ _ _ _ _ _ _ _ _ _ _ _ _ _ _ _ _ _ _
      | exact ih4 _ _ _ _ _ _ _ _ _ _ _ _ _ _ _ _ _ _ _ _ _ _ _ _ _ _ _ _ _ _ _ _ _ _ _
      | exact bursarlaw26_awake.mono _
      | exact dispute_Asks.mono _ _ _ _ _ _ _ _ _ _ _ _ _ _ _ _ _ _ _ _ _ _ _ _ _ _ _ _ _ _ _ _ _
      | exact dispute_Decide.mono _ _ _ _ _ _ _ _ _ _ _ _ _ _ _ _ _ _ _ _ _ _ _ _ _ _ _ _ _ _ _ _ _
      | exact LeO.none _
      | refine LeO.ite ?_ ?_
      | refine LeO.bind ?_ (fun _ => ?_)
def bursarlaw26_DisputeCycle.T12 : Bool × List (List Nat × List Nat) := (true, [([], []), ([0], [0]), ([], []), ([], []), ([2, 3], [2, 3]), ([4], [4]), ([5], [5]), ([6], [6]), ([1, 7], [1, 7]), ([0, 1, 2, 3, 4, 5, 6, 7, 8], []), ([9, 8, 0, 1, 2, 3, 4, 5, 6, 7, 8], [8, 9])])
def bursarlaw26_DisputeCycle.B12 : List Nat := [0, 1, 0, 0, 12, 28, 60, 124, 255, 511, 1023]
theorem bursarlaw26_DisputeCycle.tab12 : rtab .any (opsOf Try.f3 12) = bursarlaw26_DisputeCycle.T12 := by kernel_rfl
theorem bursarlaw26_DisputeCycle.bits12 : waitsOk bursarlaw26_DisputeCycle.T12.2 bursarlaw26_DisputeCycle.B12 = true := by kernel_rfl
def bursarlaw26_DisputeCycle.Z6 : Array Value := #[.string (⟨#[]⟩ : ByteArray), .string (⟨#[]⟩ : ByteArray), .string (⟨#[]⟩ : ByteArray), .int .i64 0, .int .i64 0, .int .i64 0]
def bursarlaw26_DisputeCycle.Z6_1 : Array Value := #[.int .i64 0, .int .i64 0, .string (⟨#[]⟩ : ByteArray), .string (⟨#[]⟩ : ByteArray), .string (⟨#[]⟩ : ByteArray), .int .i64 0]
set_option maxHeartbeats 8000000 in
set_option maxRecDepth 100000 in
theorem bursarlaw26_DisputeCycle.calls (k : Nat) (a0_0 : ByteArray) (a0_1 : ByteArray) (a0_2 : ByteArray) (a0_3 : Int) (a0_4 : ByteArray) (a0_5 : ByteArray) (a0_6 : ByteArray) (a0_7 : ByteArray) (a0_8 : ByteArray) (a0_9 : Int) (a0_10 : Int) (a0_11 : ByteArray) (a0_12 : Bool) (a0_13 : Int) (a0_14 : ByteArray) (a0_15 : ByteArray) (a0_16 : ByteArray) (a0_17 : Int) (a0_18 : Int) (a0_19 : Int) (a0_20 : Bool) (a0_21 : Bool) (a0_22 : Int) (a0_23 : Int) (a0_24 : Bool) (a1 : Int) (A2 : Option Addr) (c2 : Nat) (l2 : List Int) (r : Bool) (w : World) (hr2 : Kd.C (Kd.int .u8) w A2 l2.length l2) (hc2 : l2.length ≤ c2) (h : bursarlaw26_DisputeCycle.f k a0_0 a0_1 a0_2 a0_3 a0_4 a0_5 a0_6 a0_7 a0_8 a0_9 a0_10 a0_11 a0_12 a0_13 a0_14 a0_15 a0_16 a0_17 a0_18 a0_19 a0_20 a0_21 a0_22 a0_23 a0_24 a1 l2 = some r) :
    Calls Try.prog 3 #[.agg #[.string a0_0, .string a0_1, .string a0_2, .int .i64 a0_3, .string a0_4, .string a0_5, .string a0_6, .string a0_7, .string a0_8, .int .i64 a0_9, .int .i64 a0_10, .string a0_11, .bool a0_12, .int .i64 a0_13, .string a0_14, .string a0_15, .string a0_16, .int .i64 a0_17, .int .i64 a0_18, .int .i64 a0_19, .bool a0_20, .bool a0_21, .int .i64 a0_22, .int .i64 a0_23, .bool a0_24], .int .u16 a1, .slice A2 l2.length c2] w fun e w' => e = .returned (.bool r) ∧ Below w.heap.size w w' := by
 have hu27 := Try.underlying27
 have hu33 := Try.underlying33
 have hu37 := Try.underlying37
 have HR2 := Aside0.mk hr2
 have HC2 := Aside0.mk hc2
 clear hr2 hc2
 have HO := Aside0.mk (Ow.Own.nil w)
 have hmf : ∀ (fn : Fn) (first cap : Array Value) (w : World), (Instr.makeFunc fn first cap).run Try.prog w = .ok (.func fn first cap) w := fun _ _ _ _ => rfl
 have H : ((bursarlaw22_Few.f a0_0 a0_1 a0_2 a0_3 a0_4 a0_5 a0_6 a0_7 a0_8 a0_9 a0_10 a0_11 a0_12 a0_13 a0_14 a0_15 a0_16 a0_17 a0_18 a0_19 a0_20 a0_21 a0_22 a0_23 a0_24).bind fun bt295 => ((dispute_Asks.f k bt295.1 bt295.2.1 bt295.2.2.1 (wrap64 ((wrap64 (a1)) + 1)) bt295.2.2.2.2.1 bt295.2.2.2.2.2.1 bt295.2.2.2.2.2.2.1 bt295.2.2.2.2.2.2.2.1 bt295.2.2.2.2.2.2.2.2.1 bt295.2.2.2.2.2.2.2.2.2.1 bt295.2.2.2.2.2.2.2.2.2.2.1 bt295.2.2.2.2.2.2.2.2.2.2.2.1 bt295.2.2.2.2.2.2.2.2.2.2.2.2.1 bt295.2.2.2.2.2.2.2.2.2.2.2.2.2.1 bt295.2.2.2.2.2.2.2.2.2.2.2.2.2.2.1 bt295.2.2.2.2.2.2.2.2.2.2.2.2.2.2.2.1 bt295.2.2.2.2.2.2.2.2.2.2.2.2.2.2.2.2.1 bt295.2.2.2.2.2.2.2.2.2.2.2.2.2.2.2.2.2.1 bt295.2.2.2.2.2.2.2.2.2.2.2.2.2.2.2.2.2.2.1 bt295.2.2.2.2.2.2.2.2.2.2.2.2.2.2.2.2.2.2.2.1 bt295.2.2.2.2.2.2.2.2.2.2.2.2.2.2.2.2.2.2.2.2.1 bt295.2.2.2.2.2.2.2.2.2.2.2.2.2.2.2.2.2.2.2.2.2.1 bt295.2.2.2.2.2.2.2.2.2.2.2.2.2.2.2.2.2.2.2.2.2.2.1 bt295.2.2.2.2.2.2.2.2.2.2.2.2.2.2.2.2.2.2.2.2.2.2.2.1 bt295.2.2.2.2.2.2.2.2.2.2.2.2.2.2.2.2.2.2.2.2.2.2.2.2 (⟨#[]⟩ : ByteArray) (⟨#[]⟩ : ByteArray) (⟨#[]⟩ : ByteArray) 0 0 0 false).bind fun t320 => (if t320 = true then (if bt295.2.2.2.2.2.2.2.2.2.2.2.2.2.2.2.2.2.2.2.2.2.1 = true then (if bt295.2.2.2.2.2.2.2.2.2.2.2.2.2.2.2.2.2.2.1 < (wrap64 ((wrap64 (a1)) + 1)) then (bursarlaw26_DisputeCycle.j0 k l2 true bt295.1 bt295.2.1 bt295.2.2.1 (wrap64 ((wrap64 (a1)) + 1)) bt295.2.2.2.2.1 bt295.2.2.2.2.2.1 bt295.2.2.2.2.2.2.1 bt295.2.2.2.2.2.2.2.1 bt295.2.2.2.2.2.2.2.2.1 bt295.2.2.2.2.2.2.2.2.2.1 bt295.2.2.2.2.2.2.2.2.2.2.1 bt295.2.2.2.2.2.2.2.2.2.2.2.1 bt295.2.2.2.2.2.2.2.2.2.2.2.2.1 bt295.2.2.2.2.2.2.2.2.2.2.2.2.2.1 bt295.2.2.2.2.2.2.2.2.2.2.2.2.2.2.1 bt295.2.2.2.2.2.2.2.2.2.2.2.2.2.2.2.1 bt295.2.2.2.2.2.2.2.2.2.2.2.2.2.2.2.2.1 bt295.2.2.2.2.2.2.2.2.2.2.2.2.2.2.2.2.2.1 bt295.2.2.2.2.2.2.2.2.2.2.2.2.2.2.2.2.2.2.1 bt295.2.2.2.2.2.2.2.2.2.2.2.2.2.2.2.2.2.2.2.1 bt295.2.2.2.2.2.2.2.2.2.2.2.2.2.2.2.2.2.2.2.2.1 bt295.2.2.2.2.2.2.2.2.2.2.2.2.2.2.2.2.2.2.2.2.2.1 bt295.2.2.2.2.2.2.2.2.2.2.2.2.2.2.2.2.2.2.2.2.2.2.1 bt295.2.2.2.2.2.2.2.2.2.2.2.2.2.2.2.2.2.2.2.2.2.2.2.1 bt295.2.2.2.2.2.2.2.2.2.2.2.2.2.2.2.2.2.2.2.2.2.2.2.2) else (bursarlaw26_DisputeCycle.j0 k l2 (decide (bt295.2.2.2.2.2.2.2.2.2.2.2.2.2.2.2.2.2.2.2.2.2.2.1 > 1073741824)) bt295.1 bt295.2.1 bt295.2.2.1 (wrap64 ((wrap64 (a1)) + 1)) bt295.2.2.2.2.1 bt295.2.2.2.2.2.1 bt295.2.2.2.2.2.2.1 bt295.2.2.2.2.2.2.2.1 bt295.2.2.2.2.2.2.2.2.1 bt295.2.2.2.2.2.2.2.2.2.1 bt295.2.2.2.2.2.2.2.2.2.2.1 bt295.2.2.2.2.2.2.2.2.2.2.2.1 bt295.2.2.2.2.2.2.2.2.2.2.2.2.1 bt295.2.2.2.2.2.2.2.2.2.2.2.2.2.1 bt295.2.2.2.2.2.2.2.2.2.2.2.2.2.2.1 bt295.2.2.2.2.2.2.2.2.2.2.2.2.2.2.2.1 bt295.2.2.2.2.2.2.2.2.2.2.2.2.2.2.2.2.1 bt295.2.2.2.2.2.2.2.2.2.2.2.2.2.2.2.2.2.1 bt295.2.2.2.2.2.2.2.2.2.2.2.2.2.2.2.2.2.2.1 bt295.2.2.2.2.2.2.2.2.2.2.2.2.2.2.2.2.2.2.2.1 bt295.2.2.2.2.2.2.2.2.2.2.2.2.2.2.2.2.2.2.2.2.1 bt295.2.2.2.2.2.2.2.2.2.2.2.2.2.2.2.2.2.2.2.2.2.1 bt295.2.2.2.2.2.2.2.2.2.2.2.2.2.2.2.2.2.2.2.2.2.2.1 bt295.2.2.2.2.2.2.2.2.2.2.2.2.2.2.2.2.2.2.2.2.2.2.2.1 bt295.2.2.2.2.2.2.2.2.2.2.2.2.2.2.2.2.2.2.2.2.2.2.2.2)) else (bursarlaw26_DisputeCycle.j0 k l2 true bt295.1 bt295.2.1 bt295.2.2.1 (wrap64 ((wrap64 (a1)) + 1)) bt295.2.2.2.2.1 bt295.2.2.2.2.2.1 bt295.2.2.2.2.2.2.1 bt295.2.2.2.2.2.2.2.1 bt295.2.2.2.2.2.2.2.2.1 bt295.2.2.2.2.2.2.2.2.2.1 bt295.2.2.2.2.2.2.2.2.2.2.1 bt295.2.2.2.2.2.2.2.2.2.2.2.1 bt295.2.2.2.2.2.2.2.2.2.2.2.2.1 bt295.2.2.2.2.2.2.2.2.2.2.2.2.2.1 bt295.2.2.2.2.2.2.2.2.2.2.2.2.2.2.1 bt295.2.2.2.2.2.2.2.2.2.2.2.2.2.2.2.1 bt295.2.2.2.2.2.2.2.2.2.2.2.2.2.2.2.2.1 bt295.2.2.2.2.2.2.2.2.2.2.2.2.2.2.2.2.2.1 bt295.2.2.2.2.2.2.2.2.2.2.2.2.2.2.2.2.2.2.1 bt295.2.2.2.2.2.2.2.2.2.2.2.2.2.2.2.2.2.2.2.1 bt295.2.2.2.2.2.2.2.2.2.2.2.2.2.2.2.2.2.2.2.2.1 bt295.2.2.2.2.2.2.2.2.2.2.2.2.2.2.2.2.2.2.2.2.2.1 bt295.2.2.2.2.2.2.2.2.2.2.2.2.2.2.2.2.2.2.2.2.2.2.1 bt295.2.2.2.2.2.2.2.2.2.2.2.2.2.2.2.2.2.2.2.2.2.2.2.1 bt295.2.2.2.2.2.2.2.2.2.2.2.2.2.2.2.2.2.2.2.2.2.2.2.2)) else (bursarlaw26_DisputeCycle.j0 k l2 true bt295.1 bt295.2.1 bt295.2.2.1 (wrap64 ((wrap64 (a1)) + 1)) bt295.2.2.2.2.1 bt295.2.2.2.2.2.1 bt295.2.2.2.2.2.2.1 bt295.2.2.2.2.2.2.2.1 bt295.2.2.2.2.2.2.2.2.1 bt295.2.2.2.2.2.2.2.2.2.1 bt295.2.2.2.2.2.2.2.2.2.2.1 bt295.2.2.2.2.2.2.2.2.2.2.2.1 bt295.2.2.2.2.2.2.2.2.2.2.2.2.1 bt295.2.2.2.2.2.2.2.2.2.2.2.2.2.1 bt295.2.2.2.2.2.2.2.2.2.2.2.2.2.2.1 bt295.2.2.2.2.2.2.2.2.2.2.2.2.2.2.2.1 bt295.2.2.2.2.2.2.2.2.2.2.2.2.2.2.2.2.1 bt295.2.2.2.2.2.2.2.2.2.2.2.2.2.2.2.2.2.1 bt295.2.2.2.2.2.2.2.2.2.2.2.2.2.2.2.2.2.2.1 bt295.2.2.2.2.2.2.2.2.2.2.2.2.2.2.2.2.2.2.2.1 bt295.2.2.2.2.2.2.2.2.2.2.2.2.2.2.2.2.2.2.2.2.1 bt295.2.2.2.2.2.2.2.2.2.2.2.2.2.2.2.2.2.2.2.2.2.1 bt295.2.2.2.2.2.2.2.2.2.2.2.2.2.2.2.2.2.2.2.2.2.2.1 bt295.2.2.2.2.2.2.2.2.2.2.2.2.2.2.2.2.2.2.2.2.2.2.2.1 bt295.2.2.2.2.2.2.2.2.2.2.2.2.2.2.2.2.2.2.2.2.2.2.2.2)))) = some r := h
 clear h
 replace H := Option.bind_eq_some_iff.mp H
 obtain ⟨⟨t295, t296, t297, t298, t299, t300, t301, t302, t303, t304, t305, t306, t307, t308, t309, t310, t311, t312, t313, t314, t315, t316, t317, t318, t319⟩, A40, H⟩ := H
 replace H : ((dispute_Asks.f k t295 t296 t297 (wrap64 ((wrap64 (a1)) + 1)) t299 t300 t301 t302 t303 t304 t305 t306 t307 t308 t309 t310 t311 t312 t313 t314 t315 t316 t317 t318 t319 (⟨#[]⟩ : ByteArray) (⟨#[]⟩ : ByteArray) (⟨#[]⟩ : ByteArray) 0 0 0 false).bind fun t320 => (if t320 = true then (if t316 = true then (if t313 < (wrap64 ((wrap64 (a1)) + 1)) then (bursarlaw26_DisputeCycle.j0 k l2 true t295 t296 t297 (wrap64 ((wrap64 (a1)) + 1)) t299 t300 t301 t302 t303 t304 t305 t306 t307 t308 t309 t310 t311 t312 t313 t314 t315 t316 t317 t318 t319) else (bursarlaw26_DisputeCycle.j0 k l2 (decide (t317 > 1073741824)) t295 t296 t297 (wrap64 ((wrap64 (a1)) + 1)) t299 t300 t301 t302 t303 t304 t305 t306 t307 t308 t309 t310 t311 t312 t313 t314 t315 t316 t317 t318 t319)) else (bursarlaw26_DisputeCycle.j0 k l2 true t295 t296 t297 (wrap64 ((wrap64 (a1)) + 1)) t299 t300 t301 t302 t303 t304 t305 t306 t307 t308 t309 t310 t311 t312 t313 t314 t315 t316 t317 t318 t319)) else (bursarlaw26_DisputeCycle.j0 k l2 true t295 t296 t297 (wrap64 ((wrap64 (a1)) + 1)) t299 t300 t301 t302 t303 t304 t305 t306 t307 t308 t309 t310 t311 t312 t313 t314 t315 t316 t317 t318 t319))) = some r := H
 have A4 := Aside0.mk A40
 clear A40
 have HC5 := Aside0.mk H
 clear H
 obtain ⟨Q0, hQ0_⟩ : ∃ q_ : Array Value, q_ = (#[.string a0_0, .string a0_1, .string a0_2, .int .i64 a0_3, .string a0_4, .string a0_5, .string a0_6, .string a0_7, .string a0_8, .int .i64 a0_9, .int .i64 a0_10, .string a0_11, .bool a0_12, .int .i64 a0_13, .string a0_14, .string a0_15, .string a0_16, .int .i64 a0_17, .int .i64 a0_18, .int .i64 a0_19, .bool a0_20, .bool a0_21, .int .i64 a0_22, .int .i64 a0_23, .bool a0_24] : Array Value) := ⟨_, rfl⟩
 try rw [← hQ0_]
 have hQ0 := Aside0.mk hQ0_; have hq := Aside0.mk hQ0_; clear hQ0_
 go_enter Try.func3, Try.ntmps3
 obtain ⟨Q1, hQ1_⟩ : ∃ q_ : Array Value, q_ = (#[.string t295, .string t296, .string t297, .int .i64 t298, .string t299, .string t300, .string t301, .string t302, .string t303, .int .i64 t304, .int .i64 t305, .string t306, .bool t307, .int .i64 t308, .string t309, .string t310, .string t311, .int .i64 t312, .int .i64 t313, .int .i64 t314, .bool t315, .bool t316, .int .i64 t317, .int .i64 t318, .bool t319] : Array Value) := ⟨_, rfl⟩
 try rw [← hQ1_]
 have hQ1 := Aside0.mk hQ1_; replace hq := Aside0.mk (And.intro hQ1_ hq.1); clear hQ1_
 go_upto_region 3 with (first | ((with_reducible refine gate_dst (N := 3) rfl ?_); refine Ow.box rfl (N := 3) rfl (cs := Q0) (t := 27) HO.out (by first | (go_simp; done) | (go_simp; rfl)) ?_; clear HO; intro gb294 w6 HO; simp only [List.cons_append, List.nil_append] at HO) | ((with_reducible refine gate_callee (f := 5) rfl ?_); refine goesL_ (some 17) rfl rfl Try.func5 (by kernel_rfl) rfl #[.agg Q0] rfl (by (try simp only [List.map_toArray, List.map_cons, List.map_nil]); first | done | rfl | (simp only [hq.1]; done) | (simp only [hq.1]; rfl)) ?_; refine Calls.mono (calls_of_args (by first | ((try simp only [hq.1]) <;> rfl) | fail) (bursarlaw22_Few.calls a0_0 a0_1 a0_2 a0_3 a0_4 a0_5 a0_6 a0_7 a0_8 a0_9 a0_10 a0_11 a0_12 a0_13 a0_14 a0_15 a0_16 a0_17 a0_18 a0_19 a0_20 a0_21 a0_22 a0_23 a0_24 t295 t296 t297 t298 t299 t300 t301 t302 t303 t304 t305 t306 t307 t308 t309 t310 t311 t312 t313 t314 t315 t316 t317 t318 t319 _ A4.out)) ?_; rintro e w8 ⟨he_, hb⟩; (try rw [← hQ1.out] at he_); subst he_; refine ⟨_, rfl, ?_⟩; replace HO := Aside0.mk (Ow.Own.call HO.out hb); clear hb) | ((with_reducible refine Ow.gate_build rfl ?_); (try (refine gate_guard (by rfl) ?_; dsimp only)); refine' Ow.tbuild Ot.bd rfl rfl rfl ?hf_ ?_; (case hf_ => repeat (any_goals (first | exact Ow.Fills.nil | (refine' Ow.Fills.c ?hv_ rfl ?hz_ ?_; (case hv_ => first | exact Ow.ev_tmp rfl | rfl); (case hz_ => first | (refine ⟨?_, ?_⟩ <;> (first | ((try simp only [hq.1]) <;> rfl) | fail)) | fail)))))) | ((with_reducible refine Ow.gate_load rfl ?_); (try (refine gate_guard (by rfl) ?_; dsimp only)); (first | refine Ow.l1 Ot.ty HO.out rfl rfl rfl rfl (by first | ((try simp only [hq.1]) <;> rfl) | fail) ?_ | refine Ow.l0 Ot.ty HO.out rfl rfl rfl rfl (by first | ((try simp only [hq.1]) <;> rfl) | fail) ?_ | refine Ow.lp Ot.ty HO.out rfl rfl rfl rfl (by first | ((try simp only [hq.1]) <;> rfl) | fail) ?_)) | ((with_reducible refine gate_store rfl ?_); (try (refine gate_guard (by rfl) ?_; dsimp only)); (first | refine Ow.s0 Ot.ty HO.out rfl rfl rfl rfl rfl (by first | exact Ow.ev_tmp rfl | rfl) (by first | (refine ⟨?_, ?_, ?_⟩ <;> (first | ((try simp only [hq.1]) <;> rfl) | fail)) | fail) ?_ | refine Ow.sp Ot.ty HO.out rfl rfl rfl rfl rfl (by first | exact Ow.ev_tmp rfl | rfl) (by first | (refine ⟨?_, ?_, ?_⟩ <;> (first | ((try simp only [hq.1]) <;> rfl) | fail)) | fail) ?_); clear HO; intro wz_ HO; simp only [List.set_cons_zero, List.set_cons_succ] at HO))
 (try simp only [Act.put, List.setIfInBounds_toArray, List.set_cons_zero, List.set_cons_succ])
 obtain ⟨Q2, hQ2_⟩ : ∃ q_ : Array Value, q_ = (#[.string t295, .string t296, .string t297, .int .i64 (wrap64 ((wrap64 (a1)) + 1)), .string t299, .string t300, .string t301, .string t302, .string t303, .int .i64 t304, .int .i64 t305, .string t306, .bool t307, .int .i64 t308, .string t309, .string t310, .string t311, .int .i64 t312, .int .i64 t313, .int .i64 t314, .bool t315, .bool t316, .int .i64 t317, .int .i64 t318, .bool t319] : Array Value) := ⟨_, rfl⟩
 try rw [← hQ2_]
 have hQ2 := Aside0.mk hQ2_; replace hq := Aside0.mk (And.intro hQ2_ hq.1); clear hQ2_
 (try simp only [Act.put, List.setIfInBounds_toArray, List.set_cons_zero, List.set_cons_succ])
 go_cut [45] (fun v45 wc => ∃ (kq : Nat) (x45_4 : Bool), v45 = .bool x45_4 ∧ Aside0 (bursarlaw26_DisputeCycle.j0 kq l2 x45_4 t295 t296 t297 (wrap64 ((wrap64 (a1)) + 1)) t299 t300 t301 t302 t303 t304 t305 t306 t307 t308 t309 t310 t311 t312 t313 t314 t315 t316 t317 t318 t319 = some r) ∧ Aside0 (kq ≤ k) ∧ Aside0 (Ow.Own w wc [(gb294, Q2, 27)]))
 case first => as_aux_lemma =>
  have H := HC5.out
  clear HC5
  replace H := Option.bind_eq_some_iff.mp H
  obtain ⟨t320, A120, H⟩ := H
  replace H : (if t320 = true then (if t316 = true then (if t313 < (wrap64 ((wrap64 (a1)) + 1)) then (bursarlaw26_DisputeCycle.j0 k l2 true t295 t296 t297 (wrap64 ((wrap64 (a1)) + 1)) t299 t300 t301 t302 t303 t304 t305 t306 t307 t308 t309 t310 t311 t312 t313 t314 t315 t316 t317 t318 t319) else (bursarlaw26_DisputeCycle.j0 k l2 (decide (t317 > 1073741824)) t295 t296 t297 (wrap64 ((wrap64 (a1)) + 1)) t299 t300 t301 t302 t303 t304 t305 t306 t307 t308 t309 t310 t311 t312 t313 t314 t315 t316 t317 t318 t319)) else (bursarlaw26_DisputeCycle.j0 k l2 true t295 t296 t297 (wrap64 ((wrap64 (a1)) + 1)) t299 t300 t301 t302 t303 t304 t305 t306 t307 t308 t309 t310 t311 t312 t313 t314 t315 t316 t317 t318 t319)) else (bursarlaw26_DisputeCycle.j0 k l2 true t295 t296 t297 (wrap64 ((wrap64 (a1)) + 1)) t299 t300 t301 t302 t303 t304 t305 t306 t307 t308 t309 t310 t311 t312 t313 t314 t315 t316 t317 t318 t319)) = some r := H
  have A12 := Aside0.mk A120
  clear A120
  by_cases c13 : t320 = true
  ·subst c13
   have H1 : (if t316 = true then (if t313 < (wrap64 ((wrap64 (a1)) + 1)) then (bursarlaw26_DisputeCycle.j0 k l2 true t295 t296 t297 (wrap64 ((wrap64 (a1)) + 1)) t299 t300 t301 t302 t303 t304 t305 t306 t307 t308 t309 t310 t311 t312 t313 t314 t315 t316 t317 t318 t319) else (bursarlaw26_DisputeCycle.j0 k l2 (decide (t317 > 1073741824)) t295 t296 t297 (wrap64 ((wrap64 (a1)) + 1)) t299 t300 t301 t302 t303 t304 t305 t306 t307 t308 t309 t310 t311 t312 t313 t314 t315 t316 t317 t318 t319)) else (bursarlaw26_DisputeCycle.j0 k l2 true t295 t296 t297 (wrap64 ((wrap64 (a1)) + 1)) t299 t300 t301 t302 t303 t304 t305 t306 t307 t308 t309 t310 t311 t312 t313 t314 t315 t316 t317 t318 t319)) = some r := by rw [if_pos rfl] at H; exact H
   clear H
   have H := H1
   clear H1
   by_cases c14 : t316 = true
   ·subst c14
    have H1 : (if t313 < (wrap64 ((wrap64 (a1)) + 1)) then (bursarlaw26_DisputeCycle.j0 k l2 true t295 t296 t297 (wrap64 ((wrap64 (a1)) + 1)) t299 t300 t301 t302 t303 t304 t305 t306 t307 t308 t309 t310 t311 t312 t313 t314 t315 true t317 t318 t319) else (bursarlaw26_DisputeCycle.j0 k l2 (decide (t317 > 1073741824)) t295 t296 t297 (wrap64 ((wrap64 (a1)) + 1)) t299 t300 t301 t302 t303 t304 t305 t306 t307 t308 t309 t310 t311 t312 t313 t314 t315 true t317 t318 t319)) = some r := by rw [if_pos rfl] at H; exact H
    clear H
    have H := H1
    clear H1
    by_cases c15 : t313 < (wrap64 ((wrap64 (a1)) + 1))
    ·rw [if_pos c15] at H
     have c15b0 : decide (t313 < (wrap64 ((wrap64 (a1)) + 1))) = true := decide_eq_true c15
     clear c15
     (first | rw [c15b0] | (simp only [i64_w, i32_w]; rw [c15b0]) | skip)
     have H' := Aside0.mk H
     clear H
     go_wp2_with (first | ((with_reducible refine gate_callee (f := 6) rfl ?_); refine goesL_ (some 25) rfl rfl Try.func6 (by kernel_rfl) rfl #[.agg Q2, .agg #[.string (⟨#[]⟩ : ByteArray), .string (⟨#[]⟩ : ByteArray), .string (⟨#[]⟩ : ByteArray), .int .i64 0, .int .i64 0, .int .i64 0], .bool false] rfl (by (try simp only [List.map_toArray, List.map_cons, List.map_nil]); first | done | rfl | (simp only [hq.1]; done) | (simp only [hq.1]; rfl)) ?_; refine Calls.mono (calls_of_args (by first | ((try simp only [hq.1]) <;> rfl) | fail) (dispute_Asks.calls k t295 t296 t297 (wrap64 ((wrap64 (a1)) + 1)) t299 t300 t301 t302 t303 t304 t305 t306 t307 t308 t309 t310 t311 t312 t313 t314 t315 true t317 t318 t319 (⟨#[]⟩ : ByteArray) (⟨#[]⟩ : ByteArray) (⟨#[]⟩ : ByteArray) 0 0 0 false true _ A12.out)) ?_; rintro e w17 ⟨he_, hb⟩; subst he_; refine ⟨_, rfl, ?_⟩; replace HO := Aside0.mk (Ow.Own.call HO.out hb); clear hb) | ((with_reducible refine Ow.gate_build rfl ?_); (try (refine gate_guard (by rfl) ?_; dsimp only)); refine' Ow.tbuild Ot.bd rfl rfl rfl ?hf_ ?_; (case hf_ => repeat (any_goals (first | exact Ow.Fills.nil | (refine' Ow.Fills.c ?hv_ rfl ?hz_ ?_; (case hv_ => first | exact Ow.ev_tmp rfl | rfl); (case hz_ => first | (refine ⟨?_, ?_⟩ <;> (first | ((try simp only [hq.1]) <;> rfl) | fail)) | fail)))))) | ((with_reducible refine Ow.gate_load rfl ?_); (try (refine gate_guard (by rfl) ?_; dsimp only)); (first | refine Ow.l1 Ot.ty HO.out rfl rfl rfl rfl (by first | ((try simp only [hq.1]) <;> rfl) | fail) ?_ | refine Ow.l0 Ot.ty HO.out rfl rfl rfl rfl (by first | ((try simp only [hq.1]) <;> rfl) | fail) ?_ | refine Ow.lp Ot.ty HO.out rfl rfl rfl rfl (by first | ((try simp only [hq.1]) <;> rfl) | fail) ?_)) | ((with_reducible refine gate_store rfl ?_); (try (refine gate_guard (by rfl) ?_; dsimp only)); (first | refine Ow.s0 Ot.ty HO.out rfl rfl rfl rfl rfl (by first | exact Ow.ev_tmp rfl | rfl) (by first | (refine ⟨?_, ?_, ?_⟩ <;> (first | ((try simp only [hq.1]) <;> rfl) | fail)) | fail) ?_ | refine Ow.sp Ot.ty HO.out rfl rfl rfl rfl rfl (by first | exact Ow.ev_tmp rfl | rfl) (by first | (refine ⟨?_, ?_, ?_⟩ <;> (first | ((try simp only [hq.1]) <;> rfl) | fail)) | fail) ?_); clear HO; intro wz_ HO; simp only [List.set_cons_zero, List.set_cons_succ] at HO))
     go_meet
     case rel => exact ⟨_, (true), (by first | rfl | (simp; done) | (simp [*]; done) | (simp [Pu.bne_nil, Pu.beq_nil]; done)), H', ⟨by first | omega | exact Nat.le_refl _⟩, ⟨Ow.Own.cong (by first | exact HO.out | (have h_ := HO.out; simp only [World.drewN_drewN] at h_; exact h_)) (by first | ((try simp only [hq.1]) <;> rfl) | fail)⟩⟩
    ·rw [if_neg c15] at H
     have c15b0 : decide (t313 < (wrap64 ((wrap64 (a1)) + 1))) = false := decide_eq_false c15
     clear c15
     (first | rw [c15b0] | (simp only [i64_w, i32_w]; rw [c15b0]) | skip)
     have H' := Aside0.mk H
     clear H
     go_wp2_with (first | ((with_reducible refine gate_callee (f := 6) rfl ?_); refine goesL_ (some 25) rfl rfl Try.func6 (by kernel_rfl) rfl #[.agg Q2, .agg #[.string (⟨#[]⟩ : ByteArray), .string (⟨#[]⟩ : ByteArray), .string (⟨#[]⟩ : ByteArray), .int .i64 0, .int .i64 0, .int .i64 0], .bool false] rfl (by (try simp only [List.map_toArray, List.map_cons, List.map_nil]); first | done | rfl | (simp only [hq.1]; done) | (simp only [hq.1]; rfl)) ?_; refine Calls.mono (calls_of_args (by first | ((try simp only [hq.1]) <;> rfl) | fail) (dispute_Asks.calls k t295 t296 t297 (wrap64 ((wrap64 (a1)) + 1)) t299 t300 t301 t302 t303 t304 t305 t306 t307 t308 t309 t310 t311 t312 t313 t314 t315 true t317 t318 t319 (⟨#[]⟩ : ByteArray) (⟨#[]⟩ : ByteArray) (⟨#[]⟩ : ByteArray) 0 0 0 false true _ A12.out)) ?_; rintro e w20 ⟨he_, hb⟩; subst he_; refine ⟨_, rfl, ?_⟩; replace HO := Aside0.mk (Ow.Own.call HO.out hb); clear hb) | ((with_reducible refine Ow.gate_build rfl ?_); (try (refine gate_guard (by rfl) ?_; dsimp only)); refine' Ow.tbuild Ot.bd rfl rfl rfl ?hf_ ?_; (case hf_ => repeat (any_goals (first | exact Ow.Fills.nil | (refine' Ow.Fills.c ?hv_ rfl ?hz_ ?_; (case hv_ => first | exact Ow.ev_tmp rfl | rfl); (case hz_ => first | (refine ⟨?_, ?_⟩ <;> (first | ((try simp only [hq.1]) <;> rfl) | fail)) | fail)))))) | ((with_reducible refine Ow.gate_load rfl ?_); (try (refine gate_guard (by rfl) ?_; dsimp only)); (first | refine Ow.l1 Ot.ty HO.out rfl rfl rfl rfl (by first | ((try simp only [hq.1]) <;> rfl) | fail) ?_ | refine Ow.l0 Ot.ty HO.out rfl rfl rfl rfl (by first | ((try simp only [hq.1]) <;> rfl) | fail) ?_ | refine Ow.lp Ot.ty HO.out rfl rfl rfl rfl (by first | ((try simp only [hq.1]) <;> rfl) | fail) ?_)) | ((with_reducible refine gate_store rfl ?_); (try (refine gate_guard (by rfl) ?_; dsimp only)); (first | refine Ow.s0 Ot.ty HO.out rfl rfl rfl rfl rfl (by first | exact Ow.ev_tmp rfl | rfl) (by first | (refine ⟨?_, ?_, ?_⟩ <;> (first | ((try simp only [hq.1]) <;> rfl) | fail)) | fail) ?_ | refine Ow.sp Ot.ty HO.out rfl rfl rfl rfl rfl (by first | exact Ow.ev_tmp rfl | rfl) (by first | (refine ⟨?_, ?_, ?_⟩ <;> (first | ((try simp only [hq.1]) <;> rfl) | fail)) | fail) ?_); clear HO; intro wz_ HO; simp only [List.set_cons_zero, List.set_cons_succ] at HO))
     go_meet
     case rel => exact ⟨_, (decide (t317 > 1073741824)), (by first | rfl | (simp; done) | (simp [*]; done) | (simp [Pu.bne_nil, Pu.beq_nil]; done)), H', ⟨by first | omega | exact Nat.le_refl _⟩, ⟨Ow.Own.cong (by first | exact HO.out | (have h_ := HO.out; simp only [World.drewN_drewN] at h_; exact h_)) (by first | ((try simp only [hq.1]) <;> rfl) | fail)⟩⟩
   ·replace c14 := Bool.eq_false_iff.mpr c14
    subst c14
    have H1 : (bursarlaw26_DisputeCycle.j0 k l2 true t295 t296 t297 (wrap64 ((wrap64 (a1)) + 1)) t299 t300 t301 t302 t303 t304 t305 t306 t307 t308 t309 t310 t311 t312 t313 t314 t315 false t317 t318 t319) = some r := by rw [if_neg (show ¬ (false = true) by decide)] at H; exact H
    clear H
    have H := H1
    clear H1
    have H' := Aside0.mk H
    clear H
    go_wp2_with (first | ((with_reducible refine gate_callee (f := 6) rfl ?_); refine goesL_ (some 25) rfl rfl Try.func6 (by kernel_rfl) rfl #[.agg Q2, .agg #[.string (⟨#[]⟩ : ByteArray), .string (⟨#[]⟩ : ByteArray), .string (⟨#[]⟩ : ByteArray), .int .i64 0, .int .i64 0, .int .i64 0], .bool false] rfl (by (try simp only [List.map_toArray, List.map_cons, List.map_nil]); first | done | rfl | (simp only [hq.1]; done) | (simp only [hq.1]; rfl)) ?_; refine Calls.mono (calls_of_args (by first | ((try simp only [hq.1]) <;> rfl) | fail) (dispute_Asks.calls k t295 t296 t297 (wrap64 ((wrap64 (a1)) + 1)) t299 t300 t301 t302 t303 t304 t305 t306 t307 t308 t309 t310 t311 t312 t313 t314 t315 false t317 t318 t319 (⟨#[]⟩ : ByteArray) (⟨#[]⟩ : ByteArray) (⟨#[]⟩ : ByteArray) 0 0 0 false true _ A12.out)) ?_; rintro e w23 ⟨he_, hb⟩; subst he_; refine ⟨_, rfl, ?_⟩; replace HO := Aside0.mk (Ow.Own.call HO.out hb); clear hb) | ((with_reducible refine Ow.gate_build rfl ?_); (try (refine gate_guard (by rfl) ?_; dsimp only)); refine' Ow.tbuild Ot.bd rfl rfl rfl ?hf_ ?_; (case hf_ => repeat (any_goals (first | exact Ow.Fills.nil | (refine' Ow.Fills.c ?hv_ rfl ?hz_ ?_; (case hv_ => first | exact Ow.ev_tmp rfl | rfl); (case hz_ => first | (refine ⟨?_, ?_⟩ <;> (first | ((try simp only [hq.1]) <;> rfl) | fail)) | fail)))))) | ((with_reducible refine Ow.gate_load rfl ?_); (try (refine gate_guard (by rfl) ?_; dsimp only)); (first | refine Ow.l1 Ot.ty HO.out rfl rfl rfl rfl (by first | ((try simp only [hq.1]) <;> rfl) | fail) ?_ | refine Ow.l0 Ot.ty HO.out rfl rfl rfl rfl (by first | ((try simp only [hq.1]) <;> rfl) | fail) ?_ | refine Ow.lp Ot.ty HO.out rfl rfl rfl rfl (by first | ((try simp only [hq.1]) <;> rfl) | fail) ?_)) | ((with_reducible refine gate_store rfl ?_); (try (refine gate_guard (by rfl) ?_; dsimp only)); (first | refine Ow.s0 Ot.ty HO.out rfl rfl rfl rfl rfl (by first | exact Ow.ev_tmp rfl | rfl) (by first | (refine ⟨?_, ?_, ?_⟩ <;> (first | ((try simp only [hq.1]) <;> rfl) | fail)) | fail) ?_ | refine Ow.sp Ot.ty HO.out rfl rfl rfl rfl rfl (by first | exact Ow.ev_tmp rfl | rfl) (by first | (refine ⟨?_, ?_, ?_⟩ <;> (first | ((try simp only [hq.1]) <;> rfl) | fail)) | fail) ?_); clear HO; intro wz_ HO; simp only [List.set_cons_zero, List.set_cons_succ] at HO))
    go_meet
    case rel => exact ⟨_, (true), (by first | rfl | (simp; done) | (simp [*]; done) | (simp [Pu.bne_nil, Pu.beq_nil]; done)), H', ⟨by first | omega | exact Nat.le_refl _⟩, ⟨Ow.Own.cong (by first | exact HO.out | (have h_ := HO.out; simp only [World.drewN_drewN] at h_; exact h_)) (by first | ((try simp only [hq.1]) <;> rfl) | fail)⟩⟩
  ·replace c13 := Bool.eq_false_iff.mpr c13
   subst c13
   have H1 : (bursarlaw26_DisputeCycle.j0 k l2 true t295 t296 t297 (wrap64 ((wrap64 (a1)) + 1)) t299 t300 t301 t302 t303 t304 t305 t306 t307 t308 t309 t310 t311 t312 t313 t314 t315 t316 t317 t318 t319) = some r := by rw [if_neg (show ¬ (false = true) by decide)] at H; exact H
   clear H
   have H := H1
   clear H1
   have H' := Aside0.mk H
   clear H
   go_wp2_with (first | ((with_reducible refine gate_callee (f := 6) rfl ?_); refine goesL_ (some 25) rfl rfl Try.func6 (by kernel_rfl) rfl #[.agg Q2, .agg #[.string (⟨#[]⟩ : ByteArray), .string (⟨#[]⟩ : ByteArray), .string (⟨#[]⟩ : ByteArray), .int .i64 0, .int .i64 0, .int .i64 0], .bool false] rfl (by (try simp only [List.map_toArray, List.map_cons, List.map_nil]); first | done | rfl | (simp only [hq.1]; done) | (simp only [hq.1]; rfl)) ?_; refine Calls.mono (calls_of_args (by first | ((try simp only [hq.1]) <;> rfl) | fail) (dispute_Asks.calls k t295 t296 t297 (wrap64 ((wrap64 (a1)) + 1)) t299 t300 t301 t302 t303 t304 t305 t306 t307 t308 t309 t310 t311 t312 t313 t314 t315 t316 t317 t318 t319 (⟨#[]⟩ : ByteArray) (⟨#[]⟩ : ByteArray) (⟨#[]⟩ : ByteArray) 0 0 0 false false _ A12.out)) ?_; rintro e w26 ⟨he_, hb⟩; subst he_; refine ⟨_, rfl, ?_⟩; replace HO := Aside0.mk (Ow.Own.call HO.out hb); clear hb) | ((with_reducible refine Ow.gate_build rfl ?_); (try (refine gate_guard (by rfl) ?_; dsimp only)); refine' Ow.tbuild Ot.bd rfl rfl rfl ?hf_ ?_; (case hf_ => repeat (any_goals (first | exact Ow.Fills.nil | (refine' Ow.Fills.c ?hv_ rfl ?hz_ ?_; (case hv_ => first | exact Ow.ev_tmp rfl | rfl); (case hz_ => first | (refine ⟨?_, ?_⟩ <;> (first | ((try simp only [hq.1]) <;> rfl) | fail)) | fail)))))) | ((with_reducible refine Ow.gate_load rfl ?_); (try (refine gate_guard (by rfl) ?_; dsimp only)); (first | refine Ow.l1 Ot.ty HO.out rfl rfl rfl rfl (by first | ((try simp only [hq.1]) <;> rfl) | fail) ?_ | refine Ow.l0 Ot.ty HO.out rfl rfl rfl rfl (by first | ((try simp only [hq.1]) <;> rfl) | fail) ?_ | refine Ow.lp Ot.ty HO.out rfl rfl rfl rfl (by first | ((try simp only [hq.1]) <;> rfl) | fail) ?_)) | ((with_reducible refine gate_store rfl ?_); (try (refine gate_guard (by rfl) ?_; dsimp only)); (first | refine Ow.s0 Ot.ty HO.out rfl rfl rfl rfl rfl (by first | exact Ow.ev_tmp rfl | rfl) (by first | (refine ⟨?_, ?_, ?_⟩ <;> (first | ((try simp only [hq.1]) <;> rfl) | fail)) | fail) ?_ | refine Ow.sp Ot.ty HO.out rfl rfl rfl rfl rfl (by first | exact Ow.ev_tmp rfl | rfl) (by first | (refine ⟨?_, ?_, ?_⟩ <;> (first | ((try simp only [hq.1]) <;> rfl) | fail)) | fail) ?_); clear HO; intro wz_ HO; simp only [List.set_cons_zero, List.set_cons_succ] at HO))
   go_meet
   case rel => exact ⟨_, (true), (by first | rfl | (simp; done) | (simp [*]; done) | (simp [Pu.bne_nil, Pu.beq_nil]; done)), H', ⟨by first | omega | exact Nat.le_refl _⟩, ⟨Ow.Own.cong (by first | exact HO.out | (have h_ := HO.out; simp only [World.drewN_drewN] at h_; exact h_)) (by first | ((try simp only [hq.1]) <;> rfl) | fail)⟩⟩
 case rest => as_aux_lemma =>
  clear HC5
  try clear c1
  try clear c2
  try clear p2
  try clear c3
  try clear c5
  try clear c6
  try clear p6
  try clear c13
  try clear c14
  try clear c15
  try clear c15b0
  try clear hcz11_0
  try clear hcz16_0
  try clear hcz18_0
  try clear hcz19_0
  try clear hcz21_0
  try clear hcz22_0
  try clear hcz24_0
  try clear hcz25_0
  try clear hcz7_0
  try clear hcz9_0
  try clear hfz11_0
  try clear hfz16_0
  try clear hfz18_0
  try clear hfz19_0
  try clear hfz21_0
  try clear hfz22_0
  try clear hfz24_0
  try clear hfz25_0
  try clear hfz7_0
  try clear hfz9_0
  clear HO
  obtain ⟨kq, x45_4, rfl, HA, HJ4, HO⟩ := hcut
  cases kq with
  | zero => exact absurd HA.out (by simp [bursarlaw26_DisputeCycle.j0])
  | succ kj4 =>
   have H := HA.out
   clear HA
   simp only [bursarlaw26_DisputeCycle.j0] at H
   by_cases c27 : x45_4 = true
   ·subst c27
    have H1 : ((bursarlaw26_awake.f kj4).bind fun t321 => (some t321)) = some r := by rw [if_pos rfl] at H; exact H
    clear H
    have H := H1
    clear H1
    replace H := Option.bind_eq_some_iff.mp H
    obtain ⟨t321, A280, H⟩ := H
    replace H : (some t321) = some r := H
    have A28 := Aside0.mk A280
    clear A280
    obtain rfl := Option.some.inj H
    go_wp2_with (first | ((with_reducible refine gate_callee (f := 7) rfl ?_); refine goesL_ (some 46) rfl rfl Try.func7 (by kernel_rfl) rfl #[] rfl (by (try simp only [List.map_toArray, List.map_cons, List.map_nil]); first | done | rfl | (simp only [hq.1]; done) | (simp only [hq.1]; rfl)) ?_; refine Calls.mono (calls_of_args (by first | ((try simp only [hq.1]) <;> rfl) | fail) (bursarlaw26_awake.calls kj4  t321 _ A28.out)) ?_; rintro e w29 ⟨he_, hb⟩; subst he_; refine ⟨_, rfl, ?_⟩; replace HO := Aside0.mk (Ow.Own.call HO.out hb); clear hb) | ((with_reducible refine Ow.gate_build rfl ?_); (try (refine gate_guard (by rfl) ?_; dsimp only)); refine' Ow.tbuild Ot.bd rfl rfl rfl ?hf_ ?_; (case hf_ => repeat (any_goals (first | exact Ow.Fills.nil | (refine' Ow.Fills.c ?hv_ rfl ?hz_ ?_; (case hv_ => first | exact Ow.ev_tmp rfl | rfl); (case hz_ => first | (refine ⟨?_, ?_⟩ <;> (first | ((try simp only [hq.1]) <;> rfl) | fail)) | fail)))))) | ((with_reducible refine Ow.gate_load rfl ?_); (try (refine gate_guard (by rfl) ?_; dsimp only)); (first | refine Ow.l1 Ot.ty HO.out rfl rfl rfl rfl (by first | ((try simp only [hq.1]) <;> rfl) | fail) ?_ | refine Ow.l0 Ot.ty HO.out rfl rfl rfl rfl (by first | ((try simp only [hq.1]) <;> rfl) | fail) ?_ | refine Ow.lp Ot.ty HO.out rfl rfl rfl rfl (by first | ((try simp only [hq.1]) <;> rfl) | fail) ?_)) | ((with_reducible refine gate_store rfl ?_); (try (refine gate_guard (by rfl) ?_; dsimp only)); (first | refine Ow.s0 Ot.ty HO.out rfl rfl rfl rfl rfl (by first | exact Ow.ev_tmp rfl | rfl) (by first | (refine ⟨?_, ?_, ?_⟩ <;> (first | ((try simp only [hq.1]) <;> rfl) | fail)) | fail) ?_ | refine Ow.sp Ot.ty HO.out rfl rfl rfl rfl rfl (by first | exact Ow.ev_tmp rfl | rfl) (by first | (refine ⟨?_, ?_, ?_⟩ <;> (first | ((try simp only [hq.1]) <;> rfl) | fail)) | fail) ?_); clear HO; intro wz_ HO; simp only [List.set_cons_zero, List.set_cons_succ] at HO))
    all_goals go_ret
    all_goals exact ⟨by first | rfl | (simp only [hq.1]; done) | (simp only [hq.1]; rfl) | (simp [errW_none, errW_some] <;> rfl) | (simp [*, errW_none, errW_some] <;> rfl), Ow.Own.below HO.out⟩
   ·replace c27 := Bool.eq_false_iff.mpr c27
    subst c27
    have H1 : (bursarlaw26_DisputeCycle.l0 kj4 l2 false 0 (([(⟨#[48, 48, 48, 48, 48, 48]⟩ : ByteArray), (⟨#[48, 49, 48, 48, 48, 48]⟩ : ByteArray), (⟨#[48, 50, 48, 48, 48, 48]⟩ : ByteArray), (⟨#[48, 49, 48, 48, 48, 48]⟩ : ByteArray), (⟨#[48, 50, 48, 48, 48, 48]⟩ : ByteArray), (⟨#[48, 48, 48, 48, 48, 48]⟩ : ByteArray)] : List ByteArray)) 0 t295 t296 t297 (wrap64 ((wrap64 (a1)) + 1)) t299 t300 t301 t302 t303 t304 t305 t306 t307 t308 t309 t310 t311 t312 t313 t314 t315 t316 t317 t318 t319 (⟨#[]⟩ : ByteArray) (⟨#[]⟩ : ByteArray) (⟨#[]⟩ : ByteArray) 0 0 0) = some r := by rw [if_neg (show ¬ (false = true) by decide)] at H; exact H
    clear H
    have H := H1
    clear H1
    obtain ⟨y323, hy323⟩ : ∃ y_ : List ByteArray, y_ = (([(⟨#[48, 48, 48, 48, 48, 48]⟩ : ByteArray), (⟨#[48, 49, 48, 48, 48, 48]⟩ : ByteArray), (⟨#[48, 50, 48, 48, 48, 48]⟩ : ByteArray), (⟨#[48, 49, 48, 48, 48, 48]⟩ : ByteArray), (⟨#[48, 50, 48, 48, 48, 48]⟩ : ByteArray), (⟨#[48, 48, 48, 48, 48, 48]⟩ : ByteArray)] : List ByteArray)) := ⟨_, rfl⟩
    replace H : (bursarlaw26_DisputeCycle.l0 kj4 l2 false 0 y323 0 t295 t296 t297 (wrap64 ((wrap64 (a1)) + 1)) t299 t300 t301 t302 t303 t304 t305 t306 t307 t308 t309 t310 t311 t312 t313 t314 t315 t316 t317 t318 t319 (⟨#[]⟩ : ByteArray) (⟨#[]⟩ : ByteArray) (⟨#[]⟩ : ByteArray) 0 0 0) = some r := by first | (rw [hy323]; with_reducible exact H) | (have H2_ := (Option.bind_some _ _).symm.trans H; rw [hy323]; with_reducible exact H2_) | (have H2_ := (Option.bind_some _ _).symm.trans H; with_reducible exact H2_) | with_reducible exact H | (rw [hy323]; exact H) | exact H
    have Ny323 := Aside0.mk hy323
    clear hy323
    have H' := Aside0.mk H
    clear H
    go_wp2_with (first | ((with_reducible refine gate_dst (N := 7) rfl ?_); refine Ow.box rfl (N := 7) rfl (cs := bursarlaw26_DisputeCycle.Z6) (t := 33) HO.out (by first | (go_simp; done) | (go_simp; rfl)) ?_; clear HO; intro gb322 w30 HO; simp only [List.cons_append, List.nil_append] at HO) | ((with_reducible refine gate_dst (N := 48) rfl ?_); refine Ow.bstrs2 rfl (N := 48) rfl (ys := y323) (e := 9) HO.out rfl (by kernel_rfl) (by kernel_rfl) (by kernel_rfl) (by rw [Ny323.out]; rfl) (by decide) (by decide) (by rw [Ny323.out]; rfl) ?_; clear HO; intro gb9324 w34 HO; simp only [List.cons_append, List.nil_append] at HO) | ((with_reducible refine Ow.gate_build rfl ?_); (try (refine gate_guard (by rfl) ?_; dsimp only)); refine' Ow.tbuild Ot.bd rfl rfl rfl ?hf_ ?_; (case hf_ => repeat (any_goals (first | exact Ow.Fills.nil | (refine' Ow.Fills.c ?hv_ rfl ?hz_ ?_; (case hv_ => first | exact Ow.ev_tmp rfl | rfl); (case hz_ => first | (refine ⟨?_, ?_⟩ <;> (first | ((try simp only [hq.1]) <;> rfl) | fail)) | fail)))))) | ((with_reducible refine Ow.gate_load rfl ?_); (try (refine gate_guard (by rfl) ?_; dsimp only)); (first | refine Ow.l1 Ot.ty HO.out rfl rfl rfl rfl (by first | ((try simp only [hq.1]) <;> rfl) | fail) ?_ | refine Ow.l0 Ot.ty HO.out rfl rfl rfl rfl (by first | ((try simp only [hq.1]) <;> rfl) | fail) ?_ | refine Ow.lp Ot.ty HO.out rfl rfl rfl rfl (by first | ((try simp only [hq.1]) <;> rfl) | fail) ?_)) | ((with_reducible refine gate_store rfl ?_); (try (refine gate_guard (by rfl) ?_; dsimp only)); (first | refine Ow.s0 Ot.ty HO.out rfl rfl rfl rfl rfl (by first | exact Ow.ev_tmp rfl | rfl) (by first | (refine ⟨?_, ?_, ?_⟩ <;> (first | ((try simp only [hq.1]) <;> rfl) | fail)) | fail) ?_ | refine Ow.sp Ot.ty HO.out rfl rfl rfl rfl rfl (by first | exact Ow.ev_tmp rfl | rfl) (by first | (refine ⟨?_, ?_, ?_⟩ <;> (first | ((try simp only [hq.1]) <;> rfl) | fail)) | fail) ?_); clear HO; intro wz_ HO; simp only [List.set_cons_zero, List.set_cons_succ] at HO))
    (try simp only [Act.put, List.setIfInBounds_toArray, List.set_cons_zero, List.set_cons_succ])
    go_loopg [8, 9, 11] kj4 (fun kq v8 v9 v11 w' => ∃ (x8_2 : Bool) (x9_2 : Int) (x11_2 : Int) (x295002_2 : ByteArray) (x295022_2 : Int) (x323000_2 : ByteArray) (x323001_2 : ByteArray) (x323002_2 : ByteArray) (x323003_2 : Int) (x323004_2 : Int) (x323005_2 : Int), v8 = .bool x8_2 ∧ v9 = .int .i64 x9_2 ∧ v11 = .int .i64 x11_2 ∧ Aside0 (bursarlaw26_DisputeCycle.l0 kq l2 x8_2 x9_2 y323 x11_2 t295 t296 x295002_2 (wrap64 ((wrap64 (a1)) + 1)) t299 t300 t301 t302 t303 t304 t305 t306 t307 t308 t309 t310 t311 t312 t313 t314 t315 t316 x295022_2 t318 t319 x323000_2 x323001_2 x323002_2 x323003_2 x323004_2 x323005_2 = some r) ∧ Aside0 (kq ≤ kj4) ∧ Aside0 (Ow.Own w w' [(gb294, #[.string t295, .string t296, .string x295002_2, .int .i64 (wrap64 ((wrap64 (a1)) + 1)), .string t299, .string t300, .string t301, .string t302, .string t303, .int .i64 t304, .int .i64 t305, .string t306, .bool t307, .int .i64 t308, .string t309, .string t310, .string t311, .int .i64 t312, .int .i64 t313, .int .i64 t314, .bool t315, .bool t316, .int .i64 x295022_2, .int .i64 t318, .bool t319], 27), (gb322, #[.string x323000_2, .string x323001_2, .string x323002_2, .int .i64 x323003_2, .int .i64 x323004_2, .int .i64 x323005_2], 33), (gb9324, (y323.map Value.string).toArray, 9)]))
    case atStart => exact ⟨(false), (0), (0), (t297), (t317), ((⟨#[]⟩ : ByteArray)), ((⟨#[]⟩ : ByteArray)), ((⟨#[]⟩ : ByteArray)), (0), (0), (0), (by first | rfl | (simp; done) | (simp [*]; done) | (simp [Pu.bne_nil, Pu.beq_nil]; done)), (by first | rfl | (simp; done) | (simp [*]; done) | (simp [Pu.bne_nil, Pu.beq_nil]; done)), (by first | rfl | (simp; done) | (simp [*]; done) | (simp [Pu.bne_nil, Pu.beq_nil]; done)), H', ⟨Nat.le_refl _⟩, ⟨Ow.Own.cong (by first | exact HO.out | (have h_ := HO.out; simp only [World.drewN_drewN] at h_; exact h_)) (by first | ((try simp only [hq.1]) <;> rfl) | fail)⟩⟩
    case round =>
     clear H'
     try clear c1
     try clear c2
     try clear p2
     try clear c3
     try clear c5
     try clear c6
     try clear p6
     try clear c7
     try clear c13
     try clear c14
     try clear c15
     try clear c15b0
     try clear c27
     try clear c31
     try clear hcz11_0
     try clear hcz16_0
     try clear hcz18_0
     try clear hcz19_0
     try clear hcz21_0
     try clear hcz22_0
     try clear hcz24_0
     try clear hcz25_0
     try clear hcz32_0
     try clear hcz7_0
     try clear hcz9_0
     try clear hfz11_0
     try clear hfz16_0
     try clear hfz18_0
     try clear hfz19_0
     try clear hfz21_0
     try clear hfz22_0
     try clear hfz24_0
     try clear hfz25_0
     try clear hfz32_0
     try clear hfz7_0
     try clear hfz9_0
     try clear p2
     try clear p6
     clear HO
     obtain ⟨x8_2, x9_2, x11_2, x295002_2, x295022_2, x323000_2, x323001_2, x323002_2, x323003_2, x323004_2, x323005_2, rfl, rfl, rfl, HA, HK2, HO⟩ := hrel
     obtain ⟨Q3, hQ3_⟩ : ∃ q_ : Array Value, q_ = (#[.string t295, .string t296, .string x295002_2, .int .i64 (wrap64 ((wrap64 (a1)) + 1)), .string t299, .string t300, .string t301, .string t302, .string t303, .int .i64 t304, .int .i64 t305, .string t306, .bool t307, .int .i64 t308, .string t309, .string t310, .string t311, .int .i64 t312, .int .i64 t313, .int .i64 t314, .bool t315, .bool t316, .int .i64 x295022_2, .int .i64 t318, .bool t319] : Array Value) := ⟨_, rfl⟩
     try rw [← hQ3_]
     have hQ3 := Aside0.mk hQ3_; replace hq := Aside0.mk (And.intro hQ3_ hq.1); clear hQ3_
     obtain ⟨Q4, hQ4_⟩ : ∃ q_ : Array Value, q_ = (#[.string x323000_2, .string x323001_2, .string x323002_2, .int .i64 x323003_2, .int .i64 x323004_2, .int .i64 x323005_2] : Array Value) := ⟨_, rfl⟩
     try rw [← hQ4_]
     have hQ4 := Aside0.mk hQ4_; replace hq := Aside0.mk (And.intro hQ4_ hq.1); clear hQ4_
     rw [← hQ3.out] at HO
     rw [← hQ4.out] at HO
     cases gk with
     | zero => exact absurd HA.out (by simp [bursarlaw26_DisputeCycle.l0])
     | succ k2 =>
      have H := HA.out
      clear HA
      simp only [bursarlaw26_DisputeCycle.l0] at H
      by_cases c36 : x11_2 < (y323.length : Int)
      ·rw [if_pos c36] at H
       have c36b0 : decide (x11_2 < (y323.length : Int)) = true := decide_eq_true c36
       clear c36
       have HC37 := Aside0.mk H
       clear H
       go_upto_if 58 with (first | ((with_reducible refine Ow.gate_build rfl ?_); (try (refine gate_guard (by rfl) ?_; dsimp only)); refine' Ow.tbuild Ot.bd rfl rfl rfl ?hf_ ?_; (case hf_ => repeat (any_goals (first | exact Ow.Fills.nil | (refine' Ow.Fills.c ?hv_ rfl ?hz_ ?_; (case hv_ => first | exact Ow.ev_tmp rfl | rfl); (case hz_ => first | (refine ⟨?_, ?_⟩ <;> (first | ((try simp only [hq.1]) <;> rfl) | fail)) | fail)))))) | ((with_reducible refine Ow.gate_load rfl ?_); (try (refine gate_guard (by rfl) ?_; dsimp only)); (first | refine Ow.l1 Ot.ty HO.out rfl rfl rfl rfl (by first | ((try simp only [hq.1]) <;> rfl) | fail) ?_ | refine Ow.l0 Ot.ty HO.out rfl rfl rfl rfl (by first | ((try simp only [hq.1]) <;> rfl) | fail) ?_ | refine Ow.lp Ot.ty HO.out rfl rfl rfl rfl (by first | ((try simp only [hq.1]) <;> rfl) | fail) ?_)) | ((with_reducible refine gate_store rfl ?_); (try (refine gate_guard (by rfl) ?_; dsimp only)); (first | refine Ow.s0 Ot.ty HO.out rfl rfl rfl rfl rfl (by first | exact Ow.ev_tmp rfl | rfl) (by first | (refine ⟨?_, ?_, ?_⟩ <;> (first | ((try simp only [hq.1]) <;> rfl) | fail)) | fail) ?_ | refine Ow.sp Ot.ty HO.out rfl rfl rfl rfl rfl (by first | exact Ow.ev_tmp rfl | rfl) (by first | (refine ⟨?_, ?_, ?_⟩ <;> (first | ((try simp only [hq.1]) <;> rfl) | fail)) | fail) ?_); clear HO; intro wz_ HO; simp only [List.set_cons_zero, List.set_cons_succ] at HO))
       (try simp only [Act.put, List.setIfInBounds_toArray, List.set_cons_zero, List.set_cons_succ])
       go_cut [] (fun wc => ∃ (kq : Nat) (x295022_36 : Int), Aside0 (bursarlaw26_DisputeCycle.j2 kq l2 x8_2 x9_2 y323 x11_2 t295 t296 x295002_2 (wrap64 ((wrap64 (a1)) + 1)) t299 t300 t301 t302 t303 t304 t305 t306 t307 t308 t309 t310 t311 t312 t313 t314 t315 t316 x295022_36 t318 t319 x323000_2 x323001_2 x323002_2 x323003_2 x323004_2 x323005_2 = some r) ∧ Aside0 (kq ≤ k2) ∧ Aside0 (Ow.Own w wc [(gb294, #[.string t295, .string t296, .string x295002_2, .int .i64 (wrap64 ((wrap64 (a1)) + 1)), .string t299, .string t300, .string t301, .string t302, .string t303, .int .i64 t304, .int .i64 t305, .string t306, .bool t307, .int .i64 t308, .string t309, .string t310, .string t311, .int .i64 t312, .int .i64 t313, .int .i64 t314, .bool t315, .bool t316, .int .i64 x295022_36, .int .i64 t318, .bool t319], 27), (gb322, Q4, 33), (gb9324, (y323.map Value.string).toArray, 9)]))
       case first => as_aux_lemma =>
        have H := HC37.out
        clear HC37
        by_cases c39 : x11_2 < (l2.length : Int)
        ·rw [if_pos c39] at H
         have c39b0 : decide (x11_2 < (l2.length : Int)) = true := decide_eq_true c39
         clear c39
         (first | rw [c39b0] | (simp only [i64_w, i32_w]; rw [c39b0]) | skip)
         by_cases c40 : 0 ≤ x11_2
         ·rw [if_pos c40] at H
          have c40b0 : decide (0 ≤ x11_2) = true := decide_eq_true c40
          clear c40
          have H' := Aside0.mk H
          clear H
          try go_wp2_with (first | ((with_reducible refine Ow.gate_build rfl ?_); (try (refine gate_guard (by rfl) ?_; dsimp only)); refine' Ow.tbuild Ot.bd rfl rfl rfl ?hf_ ?_; (case hf_ => repeat (any_goals (first | exact Ow.Fills.nil | (refine' Ow.Fills.c ?hv_ rfl ?hz_ ?_; (case hv_ => first | exact Ow.ev_tmp rfl | rfl); (case hz_ => first | (refine ⟨?_, ?_⟩ <;> (first | ((try simp only [hq.1]) <;> rfl) | fail)) | fail)))))) | ((with_reducible refine Ow.gate_load rfl ?_); (try (refine gate_guard (by rfl) ?_; dsimp only)); (first | refine Ow.l1 Ot.ty HO.out rfl rfl rfl rfl (by first | ((try simp only [hq.1]) <;> rfl) | fail) ?_ | refine Ow.l0 Ot.ty HO.out rfl rfl rfl rfl (by first | ((try simp only [hq.1]) <;> rfl) | fail) ?_ | refine Ow.lp Ot.ty HO.out rfl rfl rfl rfl (by first | ((try simp only [hq.1]) <;> rfl) | fail) ?_)) | ((with_reducible refine gate_store rfl ?_); (try (refine gate_guard (by rfl) ?_; dsimp only)); (first | refine Ow.s0 Ot.ty HO.out rfl rfl rfl rfl rfl (by first | exact Ow.ev_tmp rfl | rfl) (by first | (refine ⟨?_, ?_, ?_⟩ <;> (first | ((try simp only [hq.1]) <;> rfl) | fail)) | fail) ?_ | refine Ow.sp Ot.ty HO.out rfl rfl rfl rfl rfl (by first | exact Ow.ev_tmp rfl | rfl) (by first | (refine ⟨?_, ?_, ?_⟩ <;> (first | ((try simp only [hq.1]) <;> rfl) | fail)) | fail) ?_); clear HO; intro wz_ HO; simp only [List.set_cons_zero, List.set_cons_succ] at HO))
          have p327 : 0 ≤ (x11_2 : Int) := of_decide_eq_true (by first | (with_reducible assumption) | assumption)
          have q327 : x11_2 < (l2.length : Int) := of_decide_eq_true (by first | (with_reducible assumption) | assumption)
          obtain ⟨ad327, e327, hx327_0⟩ := Kd.at_int HR2.out x11_2 p327 q327
          have hw327_0 := hx327_0
          cases e327
          replace hx327_0 := ((Ow.Own.below HO.out).cell (World.block_lt_of_cell? w _ hx327_0)).trans hx327_0
          replace p327 := eq_true p327
          replace q327 := eq_true q327
          refine Ow.ostart (n := 11) (ds := [10]) (Ow.B 11 0) HO.out (by kernel_rfl) rfl (by kernel_rfl) ?_
          intro hHeld; replace HO := Aside0.mk hHeld; refine with_tabW bursarlaw26_DisputeCycle.tab12 bursarlaw26_DisputeCycle.bits12 (fun HT_ HW_ => ?_)
          refine' Ow.pu (i := 0) (N := some 59) (Ow.B 11 1) HT_.out ?hv_ ?ha_ ?_; (case hv_ => intro w'; go_simp; with_reducible rfl); (case ha_ => simp only [Ow.Sl, i64_w, i32_w]; rfl)
          refine' Ow.pu (i := 2) (N := some 61) (Ow.B 11 5) HT_.out ?hv_ ?ha_ ?_; (case hv_ => intro w'; go_simp; with_reducible rfl); (case ha_ => simp only [Ow.Sl, i64_w, i32_w]; rfl)
          refine' Ow.pu (i := 3) (N := some 62) (Ow.B 11 13) HT_.out ?hv_ ?ha_ ?_; (case hv_ => intro w'; go_simp; with_reducible rfl); (case ha_ => simp only [Ow.Sl, i64_w, i32_w]; rfl)
          refine' Ow.pu (i := 4) (N := some 63) (Ow.B 11 29) HT_.out ?hv_ ?ha_ ?_; (case hv_ => intro w'; go_simp; with_reducible rfl); (case ha_ => simp only [Ow.Sl, i64_w, i32_w]; rfl)
          refine take_ (i := 1) (N := some 60) (v := ?_) (a' := ?_) (Ow.B 11 31) rfl rfl (take_ofW HT_.out HW_.out (by kernel_rfl)) (fun _ _ _ h => h) (Or.inl ⟨by rfl, ?_⟩) hHeld ?_ ?_
          rotate_left
          ·intro w' s_
           first | refine Ow.r1 Ot.ty s_ rfl rfl rfl (by first | ((try simp only [hq.1]) <;> rfl) | fail) | (refine' Ow.r0 Ot.ty s_ rfl rfl rfl ?h; (case h => first | ((try simp only [hq.1]) <;> rfl) | fail)) | (refine' Ow.rp Ot.ty s_ rfl rfl rfl ?h; (case h => first | ((try simp only [hq.1]) <;> rfl) | fail)) | (go_simp; with_reducible rfl)
          rotate_left
          ·simp only [Act.put, List.setIfInBounds_toArray, List.set_cons_zero, List.set_cons_succ, i64_w, i32_w]
           rfl
          refine take_ (i := 5) (N := some 64) (v := ?_) (a' := ?_) (Ow.B 11 63) rfl rfl (take_ofW HT_.out HW_.out (by kernel_rfl)) (fun _ _ _ h => h) (Or.inl ⟨by rfl, ?_⟩) hHeld ?_ ?_
          rotate_left
          ·intro w' s_
           first | refine Ow.r1 Ot.ty s_ rfl rfl rfl (by first | ((try simp only [hq.1]) <;> rfl) | fail) | (refine' Ow.r0 Ot.ty s_ rfl rfl rfl ?h; (case h => first | ((try simp only [hq.1]) <;> rfl) | fail)) | (refine' Ow.rp Ot.ty s_ rfl rfl rfl ?h; (case h => first | ((try simp only [hq.1]) <;> rfl) | fail)) | (go_simp; rw [((Ow.Own.below s_).cell (World.block_lt_of_cell? w _ hw327_0)).trans hw327_0]; rfl) | (go_simp; with_reducible rfl)
          rotate_left
          ·simp only [Act.put, List.setIfInBounds_toArray, List.set_cons_zero, List.set_cons_succ, i64_w, i32_w]
           rfl
          refine' Ow.pu (i := 6) (N := some 65) (Ow.B 11 127) HT_.out ?hv_ ?ha_ ?_; (case hv_ => intro w'; go_simp; with_reducible rfl); (case ha_ => simp only [Ow.Sl, i64_w, i32_w]; rfl)
          refine' Ow.pu (i := 7) (N := some 66) (Ow.B 11 255) HT_.out ?hv_ ?ha_ ?_; (case hv_ => intro w'; go_simp; with_reducible rfl); (case ha_ => simp only [Ow.Sl, i64_w, i32_w]; rfl)
          refine' Ow.pu (i := 8) (N := some 67) (Ow.B 11 511) HT_.out ?hv_ ?ha_ ?_; (case hv_ => intro w'; go_simp; with_reducible rfl); (case ha_ => simp only [Ow.Sl, i64_w, i32_w]; rfl)
          refine' Ow.pu (i := 9) (N := some 68) (Ow.B 11 1023) HT_.out ?hv_ ?ha_ ?_; (case hv_ => intro w'; go_simp; with_reducible rfl); (case ha_ => simp only [Ow.Sl, i64_w, i32_w]; rfl)
          refine last_ (i := 10) (N := none) (Ow.B 11 2047) rfl rfl (one_of HT_.out (by kernel_rfl)) (by decide) (fun K hK => ?_)
          refine Ow.oskip Ot.ty HO.out (by rfl) rfl rfl rfl rfl (by with_reducible first | exact Ow.at0 | exact Ow.at1 | exact Ow.at2) (by first | exact Ow.ev_tmp rfl | rfl) (by first | ((try simp only [hq.1]) <;> rfl) | fail) (by first | ((try simp only [hq.1]) <;> rfl) | fail) (by first | ((try simp only [hq.1]) <;> rfl) | fail) ?_
          clear HO; intro wz_ HO; simp only [List.set_cons_zero, List.set_cons_succ] at HO
          refine hK.out _ _ ?_
          clear hK K
          refine done_ (done_of HT_.out (by kernel_rfl)) ?_
          try go_wp2_with (first | ((with_reducible refine Ow.gate_build rfl ?_); (try (refine gate_guard (by rfl) ?_; dsimp only)); refine' Ow.tbuild Ot.bd rfl rfl rfl ?hf_ ?_; (case hf_ => repeat (any_goals (first | exact Ow.Fills.nil | (refine' Ow.Fills.c ?hv_ rfl ?hz_ ?_; (case hv_ => first | exact Ow.ev_tmp rfl | rfl); (case hz_ => first | (refine ⟨?_, ?_⟩ <;> (first | ((try simp only [hq.1]) <;> rfl) | fail)) | fail)))))) | ((with_reducible refine Ow.gate_load rfl ?_); (try (refine gate_guard (by rfl) ?_; dsimp only)); (first | refine Ow.l1 Ot.ty HO.out rfl rfl rfl rfl (by first | ((try simp only [hq.1]) <;> rfl) | fail) ?_ | refine Ow.l0 Ot.ty HO.out rfl rfl rfl rfl (by first | ((try simp only [hq.1]) <;> rfl) | fail) ?_ | refine Ow.lp Ot.ty HO.out rfl rfl rfl rfl (by first | ((try simp only [hq.1]) <;> rfl) | fail) ?_)) | ((with_reducible refine gate_store rfl ?_); (try (refine gate_guard (by rfl) ?_; dsimp only)); (first | refine Ow.s0 Ot.ty HO.out rfl rfl rfl rfl rfl (by first | exact Ow.ev_tmp rfl | rfl) (by first | (refine ⟨?_, ?_, ?_⟩ <;> (first | ((try simp only [hq.1]) <;> rfl) | fail)) | fail) ?_ | refine Ow.sp Ot.ty HO.out rfl rfl rfl rfl rfl (by first | exact Ow.ev_tmp rfl | rfl) (by first | (refine ⟨?_, ?_, ?_⟩ <;> (first | ((try simp only [hq.1]) <;> rfl) | fail)) | fail) ?_); clear HO; intro wz_ HO; simp only [List.set_cons_zero, List.set_cons_succ] at HO))
          go_meet
          case rel => exact ⟨_, (wrap64 (x295022_2 + (wrap64 (Int.tmod (rd l2 x11_2) 200)))), H', ⟨by have := HJ4.out; have := HK2.out; first | omega | exact Nat.le_refl _⟩, ⟨Ow.Own.cong (by first | exact HO.out | (have h_ := HO.out; simp only [World.drewN_drewN] at h_; exact h_)) (by first | ((try simp only [hq.1]) <;> rfl) | fail)⟩⟩
         ·rw [if_neg c40] at H
          exact absurd H (by simp)
        ·rw [if_neg c39] at H
         have c39b0 : decide (x11_2 < (l2.length : Int)) = false := decide_eq_false c39
         clear c39
         (first | rw [c39b0] | (simp only [i64_w, i32_w]; rw [c39b0]) | skip)
         have H' := Aside0.mk H
         clear H
         go_wp2_with (first | ((with_reducible refine Ow.gate_build rfl ?_); (try (refine gate_guard (by rfl) ?_; dsimp only)); refine' Ow.tbuild Ot.bd rfl rfl rfl ?hf_ ?_; (case hf_ => repeat (any_goals (first | exact Ow.Fills.nil | (refine' Ow.Fills.c ?hv_ rfl ?hz_ ?_; (case hv_ => first | exact Ow.ev_tmp rfl | rfl); (case hz_ => first | (refine ⟨?_, ?_⟩ <;> (first | ((try simp only [hq.1]) <;> rfl) | fail)) | fail)))))) | ((with_reducible refine Ow.gate_load rfl ?_); (try (refine gate_guard (by rfl) ?_; dsimp only)); (first | refine Ow.l1 Ot.ty HO.out rfl rfl rfl rfl (by first | ((try simp only [hq.1]) <;> rfl) | fail) ?_ | refine Ow.l0 Ot.ty HO.out rfl rfl rfl rfl (by first | ((try simp only [hq.1]) <;> rfl) | fail) ?_ | refine Ow.lp Ot.ty HO.out rfl rfl rfl rfl (by first | ((try simp only [hq.1]) <;> rfl) | fail) ?_)) | ((with_reducible refine gate_store rfl ?_); (try (refine gate_guard (by rfl) ?_; dsimp only)); (first | refine Ow.s0 Ot.ty HO.out rfl rfl rfl rfl rfl (by first | exact Ow.ev_tmp rfl | rfl) (by first | (refine ⟨?_, ?_, ?_⟩ <;> (first | ((try simp only [hq.1]) <;> rfl) | fail)) | fail) ?_ | refine Ow.sp Ot.ty HO.out rfl rfl rfl rfl rfl (by first | exact Ow.ev_tmp rfl | rfl) (by first | (refine ⟨?_, ?_, ?_⟩ <;> (first | ((try simp only [hq.1]) <;> rfl) | fail)) | fail) ?_); clear HO; intro wz_ HO; simp only [List.set_cons_zero, List.set_cons_succ] at HO))
         go_meet
         case rel => exact ⟨_, (x295022_2), H', ⟨by have := HJ4.out; have := HK2.out; first | omega | exact Nat.le_refl _⟩, ⟨Ow.Own.cong (by first | exact HO.out | (have h_ := HO.out; simp only [World.drewN_drewN] at h_; exact h_)) (by first | ((try simp only [hq.1]) <;> rfl) | fail)⟩⟩
       case rest => as_aux_lemma =>
        clear HC37
        try clear c1
        try clear c2
        try clear p2
        try clear c3
        try clear p3
        try clear q3
        try clear hx3
        try clear c4
        try clear c5
        try clear c6
        try clear p6
        try clear c7
        try clear c13
        try clear c14
        try clear c15
        try clear c15b0
        try clear c27
        try clear c31
        try clear p32
        try clear q32
        try clear hx32
        try clear c36
        try clear c36b0
        try clear c39
        try clear c39b0
        try clear c40
        try clear c40b0
        try clear hcz11_0
        try clear hcz16_0
        try clear hcz18_0
        try clear hcz19_0
        try clear hcz21_0
        try clear hcz22_0
        try clear hcz24_0
        try clear hcz25_0
        try clear hcz32_0
        try clear hcz7_0
        try clear hcz9_0
        try clear hfz11_0
        try clear hfz16_0
        try clear hfz18_0
        try clear hfz19_0
        try clear hfz21_0
        try clear hfz22_0
        try clear hfz24_0
        try clear hfz25_0
        try clear hfz32_0
        try clear hfz7_0
        try clear hfz9_0
        try clear hx327_0
        try clear p2
        try clear p327
        try clear p6
        try clear q327
        clear HO
        obtain ⟨kq, x295022_36, HA, HJ36, HO⟩ := hcut
        obtain ⟨Q5, hQ5_⟩ : ∃ q_ : Array Value, q_ = (#[.string t295, .string t296, .string x295002_2, .int .i64 (wrap64 ((wrap64 (a1)) + 1)), .string t299, .string t300, .string t301, .string t302, .string t303, .int .i64 t304, .int .i64 t305, .string t306, .bool t307, .int .i64 t308, .string t309, .string t310, .string t311, .int .i64 t312, .int .i64 t313, .int .i64 t314, .bool t315, .bool t316, .int .i64 x295022_36, .int .i64 t318, .bool t319] : Array Value) := ⟨_, rfl⟩
        (try rw [← hQ5_] at HO)
        try rw [← hQ5_]
        have hQ5 := Aside0.mk hQ5_; replace hq := Aside0.mk (And.intro hQ5_ hq.1); clear hQ5_
        cases kq with
        | zero => exact absurd HA.out (by simp [bursarlaw26_DisputeCycle.j2])
        | succ kj36 =>
         have H := HA.out
         clear HA
         simp only [bursarlaw26_DisputeCycle.j2] at H
         by_cases c43 : 0 ≤ x11_2
         ·rw [if_pos c43] at H
          have c43b0 : decide (0 ≤ x11_2) = true := decide_eq_true c43
          clear c43
          by_cases c44 : x11_2 < (y323.length : Int)
          ·rw [if_pos c44] at H
           have c44b0 : decide (x11_2 < (y323.length : Int)) = true := decide_eq_true c44
           clear c44
           replace H := Option.bind_eq_some_iff.mp H
           obtain ⟨⟨t329, t330, t331, t332, t333, t334, t335, t336, t337, t338, t339, t340, t341⟩, A450, H⟩ := H
           replace H : (if t341.toList = ([48, 48] : List UInt8) then (if x11_2 < 3 then (if x11_2 ≥ 3 then (bursarlaw26_DisputeCycle.l0 kj36 l2 x8_2 x9_2 y323 (wrap64 (x11_2 + 1)) t295 t296 (rdOf ByteArray.empty y323 x11_2) (wrap64 ((wrap64 (a1)) + 1)) t299 t300 t301 t302 t303 t304 t305 t306 t307 t308 t309 t310 t311 t312 t313 t314 t315 t316 x295022_36 t318 t319 x323000_2 x323001_2 x323002_2 x323003_2 x323004_2 x323005_2) else (if t335 = 3 then (bursarlaw26_DisputeCycle.j3 kj36 l2 (wrap64 (x9_2 + t340)) y323 x11_2 t295 t296 (rdOf ByteArray.empty y323 x11_2) (wrap64 ((wrap64 (a1)) + 1)) t299 t300 t301 t302 t303 t304 t305 t306 t307 t308 t309 t310 t311 t312 t313 t314 t315 t316 x295022_36 t318 t319 t329 t330 t331 t332 t333 t334) else (bursarlaw26_DisputeCycle.j3 kj36 l2 (wrap64 (x9_2 - t340)) y323 x11_2 t295 t296 (rdOf ByteArray.empty y323 x11_2) (wrap64 ((wrap64 (a1)) + 1)) t299 t300 t301 t302 t303 t304 t305 t306 t307 t308 t309 t310 t311 t312 t313 t314 t315 t316 x295022_36 t318 t319 t329 t330 t331 t332 t333 t334))) else (none)) else (if x11_2 < 3 then (none) else (if x11_2 ≥ 3 then (bursarlaw26_DisputeCycle.l0 kj36 l2 x8_2 x9_2 y323 (wrap64 (x11_2 + 1)) t295 t296 (rdOf ByteArray.empty y323 x11_2) (wrap64 ((wrap64 (a1)) + 1)) t299 t300 t301 t302 t303 t304 t305 t306 t307 t308 t309 t310 t311 t312 t313 t314 t315 t316 x295022_36 t318 t319 x323000_2 x323001_2 x323002_2 x323003_2 x323004_2 x323005_2) else (if t335 = 3 then (bursarlaw26_DisputeCycle.j4 kj36 l2 (wrap64 (x9_2 + t340)) y323 x11_2 t295 t296 (rdOf ByteArray.empty y323 x11_2) (wrap64 ((wrap64 (a1)) + 1)) t299 t300 t301 t302 t303 t304 t305 t306 t307 t308 t309 t310 t311 t312 t313 t314 t315 t316 x295022_36 t318 t319 t329 t330 t331 t332 t333 t334) else (bursarlaw26_DisputeCycle.j4 kj36 l2 (wrap64 (x9_2 - t340)) y323 x11_2 t295 t296 (rdOf ByteArray.empty y323 x11_2) (wrap64 ((wrap64 (a1)) + 1)) t299 t300 t301 t302 t303 t304 t305 t306 t307 t308 t309 t310 t311 t312 t313 t314 t315 t316 x295022_36 t318 t319 t329 t330 t331 t332 t333 t334))))) = some r := H
           have A45 := Aside0.mk A450
           clear A450
           by_cases c46 : t341.toList = ([48, 48] : List UInt8)
           ·rw [if_pos c46] at H
            have c46b0 : (t341.toList == ([48, 48] : List UInt8)) = true := beq_iff_eq.mpr c46
            have c46b1 : (t341.toList != ([48, 48] : List UInt8)) = false := bne_eq_false_iff_eq.mpr c46
            clear c46
            by_cases c47 : x11_2 < 3
            ·rw [if_pos c47] at H
             have c47b0 : decide (x11_2 < 3) = true := decide_eq_true c47
             clear c47
             by_cases c48 : x11_2 ≥ 3
             ·rw [if_pos c48] at H
              have c48b0 : decide (3 ≤ x11_2) = true := decide_eq_true c48
              clear c48
              have H' := Aside0.mk H
              clear H
              have p328 : 0 ≤ (x11_2 : Int) := of_decide_eq_true (by first | (with_reducible assumption) | assumption)
              have q328 : x11_2 < (y323.length : Int) := of_decide_eq_true (by first | (with_reducible assumption) | assumption)
              have hx328_0 := Ow.strs_cell HO.out 2 rfl x11_2 p328 q328
              replace p328 := eq_true p328
              replace q328 := eq_true q328
              obtain ⟨Q6, hQ6_⟩ : ∃ q_ : Array Value, q_ = (#[.string t295, .string t296, .string (rdOf ByteArray.empty y323 x11_2), .int .i64 (wrap64 ((wrap64 (a1)) + 1)), .string t299, .string t300, .string t301, .string t302, .string t303, .int .i64 t304, .int .i64 t305, .string t306, .bool t307, .int .i64 t308, .string t309, .string t310, .string t311, .int .i64 t312, .int .i64 t313, .int .i64 t314, .bool t315, .bool t316, .int .i64 x295022_36, .int .i64 t318, .bool t319] : Array Value) := ⟨_, rfl⟩
              try rw [← hQ6_]
              have hQ6 := Aside0.mk hQ6_; replace hq := Aside0.mk (And.intro hQ6_ hq.1); clear hQ6_
              go_wp2_with (first | ((with_reducible refine gate_callee (f := 8) rfl ?_); refine goesL_ (some 79) rfl rfl Try.func8 (by kernel_rfl) rfl #[.agg Q6, .agg #[.string x323000_2, .string x323001_2, .string x323002_2, .int .i64 x323003_2, .int .i64 x323004_2, .int .i64 x323005_2], .bool x8_2] rfl (by (try simp only [List.map_toArray, List.map_cons, List.map_nil]); first | done | rfl | (simp only [hq.1]; done) | (simp only [hq.1]; rfl)) ?_; refine Calls.mono (calls_of_args (by first | ((try simp only [hq.1]) <;> rfl) | fail) (dispute_Decide.calls kj36 t295 t296 (rdOf ByteArray.empty y323 x11_2) (wrap64 ((wrap64 (a1)) + 1)) t299 t300 t301 t302 t303 t304 t305 t306 t307 t308 t309 t310 t311 t312 t313 t314 t315 t316 x295022_36 t318 t319 x323000_2 x323001_2 x323002_2 x323003_2 x323004_2 x323005_2 x8_2 t329 t330 t331 t332 t333 t334 t335 t336 t337 t338 t339 t340 t341 _ A45.out)) ?_; rintro e w52 ⟨he_, hb⟩; subst he_; refine ⟨_, rfl, ?_⟩; replace HO := Aside0.mk (Ow.Own.call HO.out hb); clear hb) | ((with_reducible refine gate_dst (N := 12) rfl ?_); refine Ow.box rfl (N := 12) rfl (cs := bursarlaw26_DisputeCycle.Z6) (t := 33) HO.out (by first | (go_simp; done) | (go_simp; rfl)) ?_; clear HO; intro gb342 w53 HO; simp only [List.cons_append, List.nil_append] at HO) | ((with_reducible refine gate_dst (N := 13) rfl ?_); refine Ow.box rfl (N := 13) rfl (cs := bursarlaw26_DisputeCycle.Z6_1) (t := 37) HO.out (by first | (go_simp; done) | (go_simp; rfl)) ?_; clear HO; intro gb343 w54 HO; simp only [List.cons_append, List.nil_append] at HO) | ((with_reducible refine Ow.gate_build rfl ?_); (try (refine gate_guard (by rfl) ?_; dsimp only)); refine' Ow.tbuild Ot.bd rfl rfl rfl ?hf_ ?_; (case hf_ => repeat (any_goals (first | exact Ow.Fills.nil | (refine' Ow.Fills.c ?hv_ rfl ?hz_ ?_; (case hv_ => first | exact Ow.ev_tmp rfl | rfl); (case hz_ => first | (refine ⟨?_, ?_⟩ <;> (first | ((try simp only [hq.1]) <;> rfl) | fail)) | fail)))))) | ((with_reducible refine Ow.gate_load rfl ?_); (try (refine gate_guard (by rfl) ?_; dsimp only)); (first | refine Ow.l1 Ot.ty HO.out rfl rfl rfl rfl (by first | ((try simp only [hq.1]) <;> rfl) | fail) ?_ | refine Ow.l0 Ot.ty HO.out rfl rfl rfl rfl (by first | ((try simp only [hq.1]) <;> rfl) | fail) ?_ | refine Ow.lp Ot.ty HO.out rfl rfl rfl rfl (by first | ((try simp only [hq.1]) <;> rfl) | fail) ?_)) | ((with_reducible refine gate_store rfl ?_); (try (refine gate_guard (by rfl) ?_; dsimp only)); (first | refine Ow.s0 Ot.ty HO.out rfl rfl rfl rfl rfl (by first | exact Ow.ev_tmp rfl | rfl) (by first | (refine ⟨?_, ?_, ?_⟩ <;> (first | ((try simp only [hq.1]) <;> rfl) | fail)) | fail) ?_ | refine Ow.sp Ot.ty HO.out rfl rfl rfl rfl rfl (by first | exact Ow.ev_tmp rfl | rfl) (by first | (refine ⟨?_, ?_, ?_⟩ <;> (first | ((try simp only [hq.1]) <;> rfl) | fail)) | fail) ?_); clear HO; intro wz_ HO; simp only [List.set_cons_zero, List.set_cons_succ] at HO))
              go_roundg kj36
              case measure => have := HJ4.out; have := HK2.out; have := HJ36.out; omega
              case rel => exact ⟨(x8_2), (x9_2), (wrap64 (x11_2 + 1)), (rdOf ByteArray.empty y323 x11_2), (x295022_36), (x323000_2), (x323001_2), (x323002_2), (x323003_2), (x323004_2), (x323005_2), (by first | rfl | (simp; done) | (simp [*]; done) | (simp [Pu.bne_nil, Pu.beq_nil]; done)), (by first | rfl | (simp; done) | (simp [*]; done) | (simp [Pu.bne_nil, Pu.beq_nil]; done)), (by first | rfl | (simp; done) | (simp [*]; done) | (simp [Pu.bne_nil, Pu.beq_nil]; done)), H', ⟨by have := HJ4.out; have := HK2.out; have := HJ36.out; omega⟩, ⟨Ow.Own.cong (by first | exact (Ow.Own.pick [0, 1, 2] HO.out (by decide)) | (have h_ := (Ow.Own.pick [0, 1, 2] HO.out (by decide)); simp only [World.drewN_drewN] at h_; exact h_)) (by first | ((try simp only [hq.1]) <;> rfl) | fail)⟩⟩
             ·rw [if_neg c48] at H
              have c48b0 : decide (3 ≤ x11_2) = false := decide_eq_false c48
              clear c48
              have HC62 := Aside0.mk H
              clear H
              have p328 : 0 ≤ (x11_2 : Int) := of_decide_eq_true (by first | (with_reducible assumption) | assumption)
              have q328 : x11_2 < (y323.length : Int) := of_decide_eq_true (by first | (with_reducible assumption) | assumption)
              have hx328_0 := Ow.strs_cell HO.out 2 rfl x11_2 p328 q328
              replace p328 := eq_true p328
              replace q328 := eq_true q328
              obtain ⟨Q7, hQ7_⟩ : ∃ q_ : Array Value, q_ = (#[.string t295, .string t296, .string (rdOf ByteArray.empty y323 x11_2), .int .i64 (wrap64 ((wrap64 (a1)) + 1)), .string t299, .string t300, .string t301, .string t302, .string t303, .int .i64 t304, .int .i64 t305, .string t306, .bool t307, .int .i64 t308, .string t309, .string t310, .string t311, .int .i64 t312, .int .i64 t313, .int .i64 t314, .bool t315, .bool t316, .int .i64 x295022_36, .int .i64 t318, .bool t319] : Array Value) := ⟨_, rfl⟩
              try rw [← hQ7_]
              have hQ7 := Aside0.mk hQ7_; replace hq := Aside0.mk (And.intro hQ7_ hq.1); clear hQ7_
              go_upto_if 92 with (first | ((with_reducible refine gate_callee (f := 8) rfl ?_); refine goesL_ (some 79) rfl rfl Try.func8 (by kernel_rfl) rfl #[.agg Q7, .agg #[.string x323000_2, .string x323001_2, .string x323002_2, .int .i64 x323003_2, .int .i64 x323004_2, .int .i64 x323005_2], .bool x8_2] rfl (by (try simp only [List.map_toArray, List.map_cons, List.map_nil]); first | done | rfl | (simp only [hq.1]; done) | (simp only [hq.1]; rfl)) ?_; refine Calls.mono (calls_of_args (by first | ((try simp only [hq.1]) <;> rfl) | fail) (dispute_Decide.calls kj36 t295 t296 (rdOf ByteArray.empty y323 x11_2) (wrap64 ((wrap64 (a1)) + 1)) t299 t300 t301 t302 t303 t304 t305 t306 t307 t308 t309 t310 t311 t312 t313 t314 t315 t316 x295022_36 t318 t319 x323000_2 x323001_2 x323002_2 x323003_2 x323004_2 x323005_2 x8_2 t329 t330 t331 t332 t333 t334 t335 t336 t337 t338 t339 t340 t341 _ A45.out)) ?_; rintro e w66 ⟨he_, hb⟩; subst he_; refine ⟨_, rfl, ?_⟩; replace HO := Aside0.mk (Ow.Own.call HO.out hb); clear hb) | ((with_reducible refine gate_dst (N := 12) rfl ?_); refine Ow.box rfl (N := 12) rfl (cs := bursarlaw26_DisputeCycle.Z6) (t := 33) HO.out (by first | (go_simp; done) | (go_simp; rfl)) ?_; clear HO; intro gb342 w67 HO; simp only [List.cons_append, List.nil_append] at HO) | ((with_reducible refine gate_dst (N := 13) rfl ?_); refine Ow.box rfl (N := 13) rfl (cs := bursarlaw26_DisputeCycle.Z6_1) (t := 37) HO.out (by first | (go_simp; done) | (go_simp; rfl)) ?_; clear HO; intro gb343 w68 HO; simp only [List.cons_append, List.nil_append] at HO) | ((with_reducible refine Ow.gate_build rfl ?_); (try (refine gate_guard (by rfl) ?_; dsimp only)); refine' Ow.tbuild Ot.bd rfl rfl rfl ?hf_ ?_; (case hf_ => repeat (any_goals (first | exact Ow.Fills.nil | (refine' Ow.Fills.c ?hv_ rfl ?hz_ ?_; (case hv_ => first | exact Ow.ev_tmp rfl | rfl); (case hz_ => first | (refine ⟨?_, ?_⟩ <;> (first | ((try simp only [hq.1]) <;> rfl) | fail)) | fail)))))) | ((with_reducible refine Ow.gate_load rfl ?_); (try (refine gate_guard (by rfl) ?_; dsimp only)); (first | refine Ow.l1 Ot.ty HO.out rfl rfl rfl rfl (by first | ((try simp only [hq.1]) <;> rfl) | fail) ?_ | refine Ow.l0 Ot.ty HO.out rfl rfl rfl rfl (by first | ((try simp only [hq.1]) <;> rfl) | fail) ?_ | refine Ow.lp Ot.ty HO.out rfl rfl rfl rfl (by first | ((try simp only [hq.1]) <;> rfl) | fail) ?_)) | ((with_reducible refine gate_store rfl ?_); (try (refine gate_guard (by rfl) ?_; dsimp only)); (first | refine Ow.s0 Ot.ty HO.out rfl rfl rfl rfl rfl (by first | exact Ow.ev_tmp rfl | rfl) (by first | (refine ⟨?_, ?_, ?_⟩ <;> (first | ((try simp only [hq.1]) <;> rfl) | fail)) | fail) ?_ | refine Ow.sp Ot.ty HO.out rfl rfl rfl rfl rfl (by first | exact Ow.ev_tmp rfl | rfl) (by first | (refine ⟨?_, ?_, ?_⟩ <;> (first | ((try simp only [hq.1]) <;> rfl) | fail)) | fail) ?_); clear HO; intro wz_ HO; simp only [List.set_cons_zero, List.set_cons_succ] at HO))
              (try simp only [Act.put, List.setIfInBounds_toArray, List.set_cons_zero, List.set_cons_succ])
              obtain ⟨Q8, hQ8_⟩ : ∃ q_ : Array Value, q_ = (#[.string t329, .string t330, .string t331, .int .i64 t332, .int .i64 t333, .int .i64 t334] : Array Value) := ⟨_, rfl⟩
              try rw [← hQ8_]
              have hQ8 := Aside0.mk hQ8_; replace hq := Aside0.mk (And.intro hQ8_ hq.1); clear hQ8_
              obtain ⟨Q9, hQ9_⟩ : ∃ q_ : Array Value, q_ = (#[.int .i64 t335, .int .i64 t336, .string t337, .string t338, .string t339, .int .i64 t340] : Array Value) := ⟨_, rfl⟩
              try rw [← hQ9_]
              have hQ9 := Aside0.mk hQ9_; replace hq := Aside0.mk (And.intro hQ9_ hq.1); clear hQ9_
              (try simp only [Act.put, List.setIfInBounds_toArray, List.set_cons_zero, List.set_cons_succ])
              go_cut [9] (fun v9 wc => ∃ (kq : Nat) (x9_61 : Int), v9 = .int .i64 x9_61 ∧ Aside0 (bursarlaw26_DisputeCycle.j3 kq l2 x9_61 y323 x11_2 t295 t296 (rdOf ByteArray.empty y323 x11_2) (wrap64 ((wrap64 (a1)) + 1)) t299 t300 t301 t302 t303 t304 t305 t306 t307 t308 t309 t310 t311 t312 t313 t314 t315 t316 x295022_36 t318 t319 t329 t330 t331 t332 t333 t334 = some r) ∧ Aside0 (kq ≤ kj36) ∧ Aside0 (Ow.Own w wc [(gb294, Q7, 27), (gb322, Q4, 33), (gb9324, (y323.map Value.string).toArray, 9), (gb342, Q8, 33), (gb343, Q9, 37)]))
              case first => as_aux_lemma =>
               have H := HC62.out
               clear HC62
               by_cases c76 : t335 = 3
               ·rw [if_pos c76] at H
                have c76b0 : (t335 == 3) = true := beq_iff_eq.mpr c76
                have c76b1 : (t335 != 3) = false := bne_eq_false_iff_eq.mpr c76
                clear c76
                (first | rw [c76b0] | (simp only [i64_w, i32_w]; rw [c76b0]) | skip)
                have H' := Aside0.mk H
                clear H
                go_wp2_with (first | ((with_reducible refine Ow.gate_build rfl ?_); (try (refine gate_guard (by rfl) ?_; dsimp only)); refine' Ow.tbuild Ot.bd rfl rfl rfl ?hf_ ?_; (case hf_ => repeat (any_goals (first | exact Ow.Fills.nil | (refine' Ow.Fills.c ?hv_ rfl ?hz_ ?_; (case hv_ => first | exact Ow.ev_tmp rfl | rfl); (case hz_ => first | (refine ⟨?_, ?_⟩ <;> (first | ((try simp only [hq.1]) <;> rfl) | fail)) | fail)))))) | ((with_reducible refine Ow.gate_load rfl ?_); (try (refine gate_guard (by rfl) ?_; dsimp only)); (first | refine Ow.l1 Ot.ty HO.out rfl rfl rfl rfl (by first | ((try simp only [hq.1]) <;> rfl) | fail) ?_ | refine Ow.l0 Ot.ty HO.out rfl rfl rfl rfl (by first | ((try simp only [hq.1]) <;> rfl) | fail) ?_ | refine Ow.lp Ot.ty HO.out rfl rfl rfl rfl (by first | ((try simp only [hq.1]) <;> rfl) | fail) ?_)) | ((with_reducible refine gate_store rfl ?_); (try (refine gate_guard (by rfl) ?_; dsimp only)); (first | refine Ow.s0 Ot.ty HO.out rfl rfl rfl rfl rfl (by first | exact Ow.ev_tmp rfl | rfl) (by first | (refine ⟨?_, ?_, ?_⟩ <;> (first | ((try simp only [hq.1]) <;> rfl) | fail)) | fail) ?_ | refine Ow.sp Ot.ty HO.out rfl rfl rfl rfl rfl (by first | exact Ow.ev_tmp rfl | rfl) (by first | (refine ⟨?_, ?_, ?_⟩ <;> (first | ((try simp only [hq.1]) <;> rfl) | fail)) | fail) ?_); clear HO; intro wz_ HO; simp only [List.set_cons_zero, List.set_cons_succ] at HO))
                go_meet
                case rel => exact ⟨_, (wrap64 (x9_2 + t340)), (by first | rfl | (simp; done) | (simp [*]; done) | (simp [Pu.bne_nil, Pu.beq_nil]; done)), H', ⟨by have := HJ4.out; have := HK2.out; have := HJ36.out; first | omega | exact Nat.le_refl _⟩, ⟨Ow.Own.cong (by first | exact HO.out | (have h_ := HO.out; simp only [World.drewN_drewN] at h_; exact h_)) (by first | ((try simp only [hq.1]) <;> rfl) | fail)⟩⟩
               ·rw [if_neg c76] at H
                have c76b0 : (t335 == 3) = false := beq_eq_false_iff_ne.mpr c76
                have c76b1 : (t335 != 3) = true := bne_iff_ne.mpr c76
                (first | rw [c76b0] | (simp only [i64_w, i32_w]; rw [c76b0]) | skip)
                have H' := Aside0.mk H
                clear H
                go_wp2_with (first | ((with_reducible refine Ow.gate_build rfl ?_); (try (refine gate_guard (by rfl) ?_; dsimp only)); refine' Ow.tbuild Ot.bd rfl rfl rfl ?hf_ ?_; (case hf_ => repeat (any_goals (first | exact Ow.Fills.nil | (refine' Ow.Fills.c ?hv_ rfl ?hz_ ?_; (case hv_ => first | exact Ow.ev_tmp rfl | rfl); (case hz_ => first | (refine ⟨?_, ?_⟩ <;> (first | ((try simp only [hq.1]) <;> rfl) | fail)) | fail)))))) | ((with_reducible refine Ow.gate_load rfl ?_); (try (refine gate_guard (by rfl) ?_; dsimp only)); (first | refine Ow.l1 Ot.ty HO.out rfl rfl rfl rfl (by first | ((try simp only [hq.1]) <;> rfl) | fail) ?_ | refine Ow.l0 Ot.ty HO.out rfl rfl rfl rfl (by first | ((try simp only [hq.1]) <;> rfl) | fail) ?_ | refine Ow.lp Ot.ty HO.out rfl rfl rfl rfl (by first | ((try simp only [hq.1]) <;> rfl) | fail) ?_)) | ((with_reducible refine gate_store rfl ?_); (try (refine gate_guard (by rfl) ?_; dsimp only)); (first | refine Ow.s0 Ot.ty HO.out rfl rfl rfl rfl rfl (by first | exact Ow.ev_tmp rfl | rfl) (by first | (refine ⟨?_, ?_, ?_⟩ <;> (first | ((try simp only [hq.1]) <;> rfl) | fail)) | fail) ?_ | refine Ow.sp Ot.ty HO.out rfl rfl rfl rfl rfl (by first | exact Ow.ev_tmp rfl | rfl) (by first | (refine ⟨?_, ?_, ?_⟩ <;> (first | ((try simp only [hq.1]) <;> rfl) | fail)) | fail) ?_); clear HO; intro wz_ HO; simp only [List.set_cons_zero, List.set_cons_succ] at HO))
                go_meet
                case rel => exact ⟨_, (wrap64 (x9_2 - t340)), (by first | rfl | (simp; done) | (simp [*]; done) | (simp [Pu.bne_nil, Pu.beq_nil]; done)), H', ⟨by have := HJ4.out; have := HK2.out; have := HJ36.out; first | omega | exact Nat.le_refl _⟩, ⟨Ow.Own.cong (by first | exact HO.out | (have h_ := HO.out; simp only [World.drewN_drewN] at h_; exact h_)) (by first | ((try simp only [hq.1]) <;> rfl) | fail)⟩⟩
              case rest => as_aux_lemma =>
               clear HC62
               try clear c1
               try clear c2
               try clear p2
               try clear c3
               try clear p3
               try clear q3
               try clear hx3
               try clear c4
               try clear c5
               try clear c6
               try clear p6
               try clear c7
               try clear c8
               try clear c13
               try clear c14
               try clear c15
               try clear c15b0
               try clear c27
               try clear c31
               try clear p32
               try clear q32
               try clear hx32
               try clear c36
               try clear c36b0
               try clear c39
               try clear c39b0
               try clear c40
               try clear c40b0
               try clear c43
               try clear c43b0
               try clear c44
               try clear c44b0
               try clear c46
               try clear c46b0
               try clear c46b1
               try clear c47
               try clear c47b0
               try clear c48
               try clear c48b0
               try clear c49
               try clear c55
               try clear c56
               try clear c57
               try clear c59
               try clear c60
               try clear c63
               try clear p64
               try clear c69
               try clear c70
               try clear c71
               try clear c73
               try clear c74
               try clear c76
               try clear c76b0
               try clear c76b1
               try clear c77
               try clear c78
               try clear c79
               try clear c81
               try clear c82
               try clear c83
               try clear hcz11_0
               try clear hcz16_0
               try clear hcz18_0
               try clear hcz19_0
               try clear hcz21_0
               try clear hcz22_0
               try clear hcz24_0
               try clear hcz25_0
               try clear hcz32_0
               try clear hcz50_0
               try clear hcz51_0
               try clear hcz58_0
               try clear hcz61_0
               try clear hcz64_0
               try clear hcz65_0
               try clear hcz72_0
               try clear hcz75_0
               try clear hcz7_0
               try clear hcz80_0
               try clear hcz84_0
               try clear hcz9_0
               try clear hfz11_0
               try clear hfz16_0
               try clear hfz18_0
               try clear hfz19_0
               try clear hfz21_0
               try clear hfz22_0
               try clear hfz24_0
               try clear hfz25_0
               try clear hfz32_0
               try clear hfz50_0
               try clear hfz51_0
               try clear hfz58_0
               try clear hfz61_0
               try clear hfz64_0
               try clear hfz65_0
               try clear hfz72_0
               try clear hfz75_0
               try clear hfz7_0
               try clear hfz80_0
               try clear hfz84_0
               try clear hfz9_0
               try clear hx327_0
               try clear hx328_0
               try clear p2
               try clear p3
               try clear p32
               try clear p327
               try clear p328
               try clear p6
               try clear q3
               try clear q32
               try clear q327
               try clear q328
               clear HO
               obtain ⟨kq, x9_61, rfl, HA, HJ61, HO⟩ := hcut
               cases kq with
               | zero => exact absurd HA.out (by simp [bursarlaw26_DisputeCycle.j3])
               | succ kj61 =>
                have H := HA.out
                clear HA
                simp only [bursarlaw26_DisputeCycle.j3] at H
                by_cases c85 : x11_2 = 1
                ·rw [if_pos c85] at H
                 have c85b0 : (x11_2 == 1) = true := beq_iff_eq.mpr c85
                 have c85b1 : (x11_2 != 1) = false := bne_eq_false_iff_eq.mpr c85
                 clear c85
                 by_cases c86 : x9_61 = 0
                 ·rw [if_pos c86] at H
                  have c86b0 : (x9_61 == 0) = true := beq_iff_eq.mpr c86
                  have c86b1 : (x9_61 != 0) = false := bne_eq_false_iff_eq.mpr c86
                  clear c86
                  replace H := Option.bind_eq_some_iff.mp H
                  obtain ⟨t344, A870, H⟩ := H
                  replace H : (if t344 = 0 then (if t332 = (wrap64 (x11_2 + 1)) then (bursarlaw26_DisputeCycle.l0 kj61 l2 true x9_61 y323 (wrap64 (x11_2 + 1)) t295 t296 (rdOf ByteArray.empty y323 x11_2) (wrap64 ((wrap64 (a1)) + 1)) t299 t300 t301 t302 t303 t304 t305 t306 t307 t308 t309 t310 t311 t312 t313 t314 t315 t316 x295022_36 t318 t319 t329 t330 t331 t332 t333 t334) else (none)) else (none)) = some r := H
                  have A87 := Aside0.mk A870
                  clear A870
                  by_cases c88 : t344 = 0
                  ·rw [if_pos c88] at H
                   have c88b0 : (t344 == 0) = true := beq_iff_eq.mpr c88
                   have c88b1 : (t344 != 0) = false := bne_eq_false_iff_eq.mpr c88
                   clear c88
                   by_cases c89 : t332 = (wrap64 (x11_2 + 1))
                   ·rw [if_pos c89] at H
                    have c89b0 : (t332 == (wrap64 (x11_2 + 1))) = true := beq_iff_eq.mpr c89
                    have c89b1 : (t332 != (wrap64 (x11_2 + 1))) = false := bne_eq_false_iff_eq.mpr c89
                    clear c89
                    have H' := Aside0.mk H
                    clear H
                    go_wp2_with (first | (go_at_call 9; refine Calls.mono (calls_of_args (by first | ((try simp only [hq.1]) <;> rfl) | fail) (dispute_Against.calls t329 t330 t331 t332 t333 t334 t344 _ A87.out)) ?_; rintro e w99 ⟨he_, hb⟩; subst he_; replace HO := Aside0.mk (Ow.Own.call HO.out hb); clear hb) | ((with_reducible refine Ow.gate_build rfl ?_); (try (refine gate_guard (by rfl) ?_; dsimp only)); refine' Ow.tbuild Ot.bd rfl rfl rfl ?hf_ ?_; (case hf_ => repeat (any_goals (first | exact Ow.Fills.nil | (refine' Ow.Fills.c ?hv_ rfl ?hz_ ?_; (case hv_ => first | exact Ow.ev_tmp rfl | rfl); (case hz_ => first | (refine ⟨?_, ?_⟩ <;> (first | ((try simp only [hq.1]) <;> rfl) | fail)) | fail)))))) | ((with_reducible refine Ow.gate_load rfl ?_); (try (refine gate_guard (by rfl) ?_; dsimp only)); (first | refine Ow.l1 Ot.ty HO.out rfl rfl rfl rfl (by first | ((try simp only [hq.1]) <;> rfl) | fail) ?_ | refine Ow.l0 Ot.ty HO.out rfl rfl rfl rfl (by first | ((try simp only [hq.1]) <;> rfl) | fail) ?_ | refine Ow.lp Ot.ty HO.out rfl rfl rfl rfl (by first | ((try simp only [hq.1]) <;> rfl) | fail) ?_)) | ((with_reducible refine gate_store rfl ?_); (try (refine gate_guard (by rfl) ?_; dsimp only)); (first | refine Ow.s0 Ot.ty HO.out rfl rfl rfl rfl rfl (by first | exact Ow.ev_tmp rfl | rfl) (by first | (refine ⟨?_, ?_, ?_⟩ <;> (first | ((try simp only [hq.1]) <;> rfl) | fail)) | fail) ?_ | refine Ow.sp Ot.ty HO.out rfl rfl rfl rfl rfl (by first | exact Ow.ev_tmp rfl | rfl) (by first | (refine ⟨?_, ?_, ?_⟩ <;> (first | ((try simp only [hq.1]) <;> rfl) | fail)) | fail) ?_); clear HO; intro wz_ HO; simp only [List.set_cons_zero, List.set_cons_succ] at HO))
                    go_roundg kj61
                    case measure => have := HJ4.out; have := HK2.out; have := HJ36.out; have := HJ61.out; omega
                    case rel => exact ⟨(true), (x9_61), (wrap64 (x11_2 + 1)), ((rdOf ByteArray.empty y323 x11_2)), (x295022_36), (t329), (t330), (t331), (t332), (t333), (t334), (by first | rfl | (simp; done) | (simp [*]; done) | (simp [Pu.bne_nil, Pu.beq_nil]; done)), (by first | rfl | (simp; done) | (simp [*]; done) | (simp [Pu.bne_nil, Pu.beq_nil]; done)), (by first | rfl | (simp; done) | (simp [*]; done) | (simp [Pu.bne_nil, Pu.beq_nil]; done)), H', ⟨by have := HJ4.out; have := HK2.out; have := HJ36.out; have := HJ61.out; omega⟩, ⟨Ow.Own.cong (by first | exact (Ow.Own.pick [0, 1, 2] HO.out (by decide)) | (have h_ := (Ow.Own.pick [0, 1, 2] HO.out (by decide)); simp only [World.drewN_drewN] at h_; exact h_)) (by first | ((try simp only [hq.1]) <;> rfl) | fail)⟩⟩
                   ·rw [if_neg c89] at H
                    exact absurd H (by simp)
                  ·rw [if_neg c88] at H
                   exact absurd H (by simp)
                 ·rw [if_neg c86] at H
                  exact absurd H (by simp)
                ·rw [if_neg c85] at H
                 have c85b0 : (x11_2 == 1) = false := beq_eq_false_iff_ne.mpr c85
                 have c85b1 : (x11_2 != 1) = true := bne_iff_ne.mpr c85
                 by_cases c101 : x9_61 = (wrap64 ((wrap64 (a1)) + 1))
                 ·rw [if_pos c101] at H
                  have c101b0 : (x9_61 == (wrap64 ((wrap64 (a1)) + 1))) = true := beq_iff_eq.mpr c101
                  have c101b1 : (x9_61 != (wrap64 ((wrap64 (a1)) + 1))) = false := bne_eq_false_iff_eq.mpr c101
                  clear c101
                  replace H := Option.bind_eq_some_iff.mp H
                  obtain ⟨t345, A1020, H⟩ := H
                  replace H : (if t345 = (wrap64 ((wrap64 (a1)) + 1)) then (if t332 = (wrap64 (x11_2 + 1)) then (bursarlaw26_DisputeCycle.l0 kj61 l2 true x9_61 y323 (wrap64 (x11_2 + 1)) t295 t296 (rdOf ByteArray.empty y323 x11_2) (wrap64 ((wrap64 (a1)) + 1)) t299 t300 t301 t302 t303 t304 t305 t306 t307 t308 t309 t310 t311 t312 t313 t314 t315 t316 x295022_36 t318 t319 t329 t330 t331 t332 t333 t334) else (none)) else (none)) = some r := H
                  have A102 := Aside0.mk A1020
                  clear A1020
                  by_cases c103 : t345 = (wrap64 ((wrap64 (a1)) + 1))
                  ·rw [if_pos c103] at H
                   have c103b0 : (t345 == (wrap64 ((wrap64 (a1)) + 1))) = true := beq_iff_eq.mpr c103
                   have c103b1 : (t345 != (wrap64 ((wrap64 (a1)) + 1))) = false := bne_eq_false_iff_eq.mpr c103
                   clear c103
                   by_cases c104 : t332 = (wrap64 (x11_2 + 1))
                   ·rw [if_pos c104] at H
                    have c104b0 : (t332 == (wrap64 (x11_2 + 1))) = true := beq_iff_eq.mpr c104
                    have c104b1 : (t332 != (wrap64 (x11_2 + 1))) = false := bne_eq_false_iff_eq.mpr c104
                    clear c104
                    have H' := Aside0.mk H
                    clear H
                    go_wp2_with (first | (go_at_call 9; refine Calls.mono (calls_of_args (by first | ((try simp only [hq.1]) <;> rfl) | fail) (dispute_Against.calls t329 t330 t331 t332 t333 t334 t345 _ A102.out)) ?_; rintro e w114 ⟨he_, hb⟩; subst he_; replace HO := Aside0.mk (Ow.Own.call HO.out hb); clear hb) | ((with_reducible refine Ow.gate_build rfl ?_); (try (refine gate_guard (by rfl) ?_; dsimp only)); refine' Ow.tbuild Ot.bd rfl rfl rfl ?hf_ ?_; (case hf_ => repeat (any_goals (first | exact Ow.Fills.nil | (refine' Ow.Fills.c ?hv_ rfl ?hz_ ?_; (case hv_ => first | exact Ow.ev_tmp rfl | rfl); (case hz_ => first | (refine ⟨?_, ?_⟩ <;> (first | ((try simp only [hq.1]) <;> rfl) | fail)) | fail)))))) | ((with_reducible refine Ow.gate_load rfl ?_); (try (refine gate_guard (by rfl) ?_; dsimp only)); (first | refine Ow.l1 Ot.ty HO.out rfl rfl rfl rfl (by first | ((try simp only [hq.1]) <;> rfl) | fail) ?_ | refine Ow.l0 Ot.ty HO.out rfl rfl rfl rfl (by first | ((try simp only [hq.1]) <;> rfl) | fail) ?_ | refine Ow.lp Ot.ty HO.out rfl rfl rfl rfl (by first | ((try simp only [hq.1]) <;> rfl) | fail) ?_)) | ((with_reducible refine gate_store rfl ?_); (try (refine gate_guard (by rfl) ?_; dsimp only)); (first | refine Ow.s0 Ot.ty HO.out rfl rfl rfl rfl rfl (by first | exact Ow.ev_tmp rfl | rfl) (by first | (refine ⟨?_, ?_, ?_⟩ <;> (first | ((try simp only [hq.1]) <;> rfl) | fail)) | fail) ?_ | refine Ow.sp Ot.ty HO.out rfl rfl rfl rfl rfl (by first | exact Ow.ev_tmp rfl | rfl) (by first | (refine ⟨?_, ?_, ?_⟩ <;> (first | ((try simp only [hq.1]) <;> rfl) | fail)) | fail) ?_); clear HO; intro wz_ HO; simp only [List.set_cons_zero, List.set_cons_succ] at HO))
                    go_roundg kj61
                    case measure => have := HJ4.out; have := HK2.out; have := HJ36.out; have := HJ61.out; omega
                    case rel => exact ⟨(true), (x9_61), (wrap64 (x11_2 + 1)), ((rdOf ByteArray.empty y323 x11_2)), (x295022_36), (t329), (t330), (t331), (t332), (t333), (t334), (by first | rfl | (simp; done) | (simp [*]; done) | (simp [Pu.bne_nil, Pu.beq_nil]; done)), (by first | rfl | (simp; done) | (simp [*]; done) | (simp [Pu.bne_nil, Pu.beq_nil]; done)), (by first | rfl | (simp; done) | (simp [*]; done) | (simp [Pu.bne_nil, Pu.beq_nil]; done)), H', ⟨by have := HJ4.out; have := HK2.out; have := HJ36.out; have := HJ61.out; omega⟩, ⟨Ow.Own.cong (by first | exact (Ow.Own.pick [0, 1, 2] HO.out (by decide)) | (have h_ := (Ow.Own.pick [0, 1, 2] HO.out (by decide)); simp only [World.drewN_drewN] at h_; exact h_)) (by first | ((try simp only [hq.1]) <;> rfl) | fail)⟩⟩
                   ·rw [if_neg c104] at H
                    exact absurd H (by simp)
                  ·rw [if_neg c103] at H
                   exact absurd H (by simp)
                 ·rw [if_neg c101] at H
                  exact absurd H (by simp)
            ·rw [if_neg c47] at H
             exact absurd H (by simp)
           ·rw [if_neg c46] at H
            have c46b0 : (t341.toList == ([48, 48] : List UInt8)) = false := beq_eq_false_iff_ne.mpr c46
            have c46b1 : (t341.toList != ([48, 48] : List UInt8)) = true := bne_iff_ne.mpr c46
            by_cases c116 : x11_2 < 3
            ·rw [if_pos c116] at H
             exact absurd H (by simp)
            ·rw [if_neg c116] at H
             have c116b0 : decide (x11_2 < 3) = false := decide_eq_false c116
             clear c116
             by_cases c117 : x11_2 ≥ 3
             ·rw [if_pos c117] at H
              have c117b0 : decide (3 ≤ x11_2) = true := decide_eq_true c117
              clear c117
              have H' := Aside0.mk H
              clear H
              have p328 : 0 ≤ (x11_2 : Int) := of_decide_eq_true (by first | (with_reducible assumption) | assumption)
              have q328 : x11_2 < (y323.length : Int) := of_decide_eq_true (by first | (with_reducible assumption) | assumption)
              have hx328_0 := Ow.strs_cell HO.out 2 rfl x11_2 p328 q328
              replace p328 := eq_true p328
              replace q328 := eq_true q328
              obtain ⟨Q10, hQ10_⟩ : ∃ q_ : Array Value, q_ = (#[.string t295, .string t296, .string (rdOf ByteArray.empty y323 x11_2), .int .i64 (wrap64 ((wrap64 (a1)) + 1)), .string t299, .string t300, .string t301, .string t302, .string t303, .int .i64 t304, .int .i64 t305, .string t306, .bool t307, .int .i64 t308, .string t309, .string t310, .string t311, .int .i64 t312, .int .i64 t313, .int .i64 t314, .bool t315, .bool t316, .int .i64 x295022_36, .int .i64 t318, .bool t319] : Array Value) := ⟨_, rfl⟩
              try rw [← hQ10_]
              have hQ10 := Aside0.mk hQ10_; replace hq := Aside0.mk (And.intro hQ10_ hq.1); clear hQ10_
              go_wp2_with (first | ((with_reducible refine gate_callee (f := 8) rfl ?_); refine goesL_ (some 79) rfl rfl Try.func8 (by kernel_rfl) rfl #[.agg Q10, .agg #[.string x323000_2, .string x323001_2, .string x323002_2, .int .i64 x323003_2, .int .i64 x323004_2, .int .i64 x323005_2], .bool x8_2] rfl (by (try simp only [List.map_toArray, List.map_cons, List.map_nil]); first | done | rfl | (simp only [hq.1]; done) | (simp only [hq.1]; rfl)) ?_; refine Calls.mono (calls_of_args (by first | ((try simp only [hq.1]) <;> rfl) | fail) (dispute_Decide.calls kj36 t295 t296 (rdOf ByteArray.empty y323 x11_2) (wrap64 ((wrap64 (a1)) + 1)) t299 t300 t301 t302 t303 t304 t305 t306 t307 t308 t309 t310 t311 t312 t313 t314 t315 t316 x295022_36 t318 t319 x323000_2 x323001_2 x323002_2 x323003_2 x323004_2 x323005_2 x8_2 t329 t330 t331 t332 t333 t334 t335 t336 t337 t338 t339 t340 t341 _ A45.out)) ?_; rintro e w121 ⟨he_, hb⟩; subst he_; refine ⟨_, rfl, ?_⟩; replace HO := Aside0.mk (Ow.Own.call HO.out hb); clear hb) | ((with_reducible refine gate_dst (N := 12) rfl ?_); refine Ow.box rfl (N := 12) rfl (cs := bursarlaw26_DisputeCycle.Z6) (t := 33) HO.out (by first | (go_simp; done) | (go_simp; rfl)) ?_; clear HO; intro gb342 w122 HO; simp only [List.cons_append, List.nil_append] at HO) | ((with_reducible refine gate_dst (N := 13) rfl ?_); refine Ow.box rfl (N := 13) rfl (cs := bursarlaw26_DisputeCycle.Z6_1) (t := 37) HO.out (by first | (go_simp; done) | (go_simp; rfl)) ?_; clear HO; intro gb343 w123 HO; simp only [List.cons_append, List.nil_append] at HO) | ((with_reducible refine Ow.gate_build rfl ?_); (try (refine gate_guard (by rfl) ?_; dsimp only)); refine' Ow.tbuild Ot.bd rfl rfl rfl ?hf_ ?_; (case hf_ => repeat (any_goals (first | exact Ow.Fills.nil | (refine' Ow.Fills.c ?hv_ rfl ?hz_ ?_; (case hv_ => first | exact Ow.ev_tmp rfl | rfl); (case hz_ => first | (refine ⟨?_, ?_⟩ <;> (first | ((try simp only [hq.1]) <;> rfl) | fail)) | fail)))))) | ((with_reducible refine Ow.gate_load rfl ?_); (try (refine gate_guard (by rfl) ?_; dsimp only)); (first | refine Ow.l1 Ot.ty HO.out rfl rfl rfl rfl (by first | ((try simp only [hq.1]) <;> rfl) | fail) ?_ | refine Ow.l0 Ot.ty HO.out rfl rfl rfl rfl (by first | ((try simp only [hq.1]) <;> rfl) | fail) ?_ | refine Ow.lp Ot.ty HO.out rfl rfl rfl rfl (by first | ((try simp only [hq.1]) <;> rfl) | fail) ?_)) | ((with_reducible refine gate_store rfl ?_); (try (refine gate_guard (by rfl) ?_; dsimp only)); (first | refine Ow.s0 Ot.ty HO.out rfl rfl rfl rfl rfl (by first | exact Ow.ev_tmp rfl | rfl) (by first | (refine ⟨?_, ?_, ?_⟩ <;> (first | ((try simp only [hq.1]) <;> rfl) | fail)) | fail) ?_ | refine Ow.sp Ot.ty HO.out rfl rfl rfl rfl rfl (by first | exact Ow.ev_tmp rfl | rfl) (by first | (refine ⟨?_, ?_, ?_⟩ <;> (first | ((try simp only [hq.1]) <;> rfl) | fail)) | fail) ?_); clear HO; intro wz_ HO; simp only [List.set_cons_zero, List.set_cons_succ] at HO))
              go_roundg kj36
              case measure => have := HJ4.out; have := HK2.out; have := HJ36.out; omega
              case rel => exact ⟨(x8_2), (x9_2), (wrap64 (x11_2 + 1)), (rdOf ByteArray.empty y323 x11_2), (x295022_36), (x323000_2), (x323001_2), (x323002_2), (x323003_2), (x323004_2), (x323005_2), (by first | rfl | (simp; done) | (simp [*]; done) | (simp [Pu.bne_nil, Pu.beq_nil]; done)), (by first | rfl | (simp; done) | (simp [*]; done) | (simp [Pu.bne_nil, Pu.beq_nil]; done)), (by first | rfl | (simp; done) | (simp [*]; done) | (simp [Pu.bne_nil, Pu.beq_nil]; done)), H', ⟨by have := HJ4.out; have := HK2.out; have := HJ36.out; omega⟩, ⟨Ow.Own.cong (by first | exact (Ow.Own.pick [0, 1, 2] HO.out (by decide)) | (have h_ := (Ow.Own.pick [0, 1, 2] HO.out (by decide)); simp only [World.drewN_drewN] at h_; exact h_)) (by first | ((try simp only [hq.1]) <;> rfl) | fail)⟩⟩
             ·rw [if_neg c117] at H
              have c117b0 : decide (3 ≤ x11_2) = false := decide_eq_false c117
              clear c117
              have HC131 := Aside0.mk H
              clear H
              have p328 : 0 ≤ (x11_2 : Int) := of_decide_eq_true (by first | (with_reducible assumption) | assumption)
              have q328 : x11_2 < (y323.length : Int) := of_decide_eq_true (by first | (with_reducible assumption) | assumption)
              have hx328_0 := Ow.strs_cell HO.out 2 rfl x11_2 p328 q328
              replace p328 := eq_true p328
              replace q328 := eq_true q328
              obtain ⟨Q11, hQ11_⟩ : ∃ q_ : Array Value, q_ = (#[.string t295, .string t296, .string (rdOf ByteArray.empty y323 x11_2), .int .i64 (wrap64 ((wrap64 (a1)) + 1)), .string t299, .string t300, .string t301, .string t302, .string t303, .int .i64 t304, .int .i64 t305, .string t306, .bool t307, .int .i64 t308, .string t309, .string t310, .string t311, .int .i64 t312, .int .i64 t313, .int .i64 t314, .bool t315, .bool t316, .int .i64 x295022_36, .int .i64 t318, .bool t319] : Array Value) := ⟨_, rfl⟩
              try rw [← hQ11_]
              have hQ11 := Aside0.mk hQ11_; replace hq := Aside0.mk (And.intro hQ11_ hq.1); clear hQ11_
              go_upto_if 92 with (first | ((with_reducible refine gate_callee (f := 8) rfl ?_); refine goesL_ (some 79) rfl rfl Try.func8 (by kernel_rfl) rfl #[.agg Q11, .agg #[.string x323000_2, .string x323001_2, .string x323002_2, .int .i64 x323003_2, .int .i64 x323004_2, .int .i64 x323005_2], .bool x8_2] rfl (by (try simp only [List.map_toArray, List.map_cons, List.map_nil]); first | done | rfl | (simp only [hq.1]; done) | (simp only [hq.1]; rfl)) ?_; refine Calls.mono (calls_of_args (by first | ((try simp only [hq.1]) <;> rfl) | fail) (dispute_Decide.calls kj36 t295 t296 (rdOf ByteArray.empty y323 x11_2) (wrap64 ((wrap64 (a1)) + 1)) t299 t300 t301 t302 t303 t304 t305 t306 t307 t308 t309 t310 t311 t312 t313 t314 t315 t316 x295022_36 t318 t319 x323000_2 x323001_2 x323002_2 x323003_2 x323004_2 x323005_2 x8_2 t329 t330 t331 t332 t333 t334 t335 t336 t337 t338 t339 t340 t341 _ A45.out)) ?_; rintro e w135 ⟨he_, hb⟩; subst he_; refine ⟨_, rfl, ?_⟩; replace HO := Aside0.mk (Ow.Own.call HO.out hb); clear hb) | ((with_reducible refine gate_dst (N := 12) rfl ?_); refine Ow.box rfl (N := 12) rfl (cs := bursarlaw26_DisputeCycle.Z6) (t := 33) HO.out (by first | (go_simp; done) | (go_simp; rfl)) ?_; clear HO; intro gb342 w136 HO; simp only [List.cons_append, List.nil_append] at HO) | ((with_reducible refine gate_dst (N := 13) rfl ?_); refine Ow.box rfl (N := 13) rfl (cs := bursarlaw26_DisputeCycle.Z6_1) (t := 37) HO.out (by first | (go_simp; done) | (go_simp; rfl)) ?_; clear HO; intro gb343 w137 HO; simp only [List.cons_append, List.nil_append] at HO) | ((with_reducible refine Ow.gate_build rfl ?_); (try (refine gate_guard (by rfl) ?_; dsimp only)); refine' Ow.tbuild Ot.bd rfl rfl rfl ?hf_ ?_; (case hf_ => repeat (any_goals (first | exact Ow.Fills.nil | (refine' Ow.Fills.c ?hv_ rfl ?hz_ ?_; (case hv_ => first | exact Ow.ev_tmp rfl | rfl); (case hz_ => first | (refine ⟨?_, ?_⟩ <;> (first | ((try simp only [hq.1]) <;> rfl) | fail)) | fail)))))) | ((with_reducible refine Ow.gate_load rfl ?_); (try (refine gate_guard (by rfl) ?_; dsimp only)); (first | refine Ow.l1 Ot.ty HO.out rfl rfl rfl rfl (by first | ((try simp only [hq.1]) <;> rfl) | fail) ?_ | refine Ow.l0 Ot.ty HO.out rfl rfl rfl rfl (by first | ((try simp only [hq.1]) <;> rfl) | fail) ?_ | refine Ow.lp Ot.ty HO.out rfl rfl rfl rfl (by first | ((try simp only [hq.1]) <;> rfl) | fail) ?_)) | ((with_reducible refine gate_store rfl ?_); (try (refine gate_guard (by rfl) ?_; dsimp only)); (first | refine Ow.s0 Ot.ty HO.out rfl rfl rfl rfl rfl (by first | exact Ow.ev_tmp rfl | rfl) (by first | (refine ⟨?_, ?_, ?_⟩ <;> (first | ((try simp only [hq.1]) <;> rfl) | fail)) | fail) ?_ | refine Ow.sp Ot.ty HO.out rfl rfl rfl rfl rfl (by first | exact Ow.ev_tmp rfl | rfl) (by first | (refine ⟨?_, ?_, ?_⟩ <;> (first | ((try simp only [hq.1]) <;> rfl) | fail)) | fail) ?_); clear HO; intro wz_ HO; simp only [List.set_cons_zero, List.set_cons_succ] at HO))
              (try simp only [Act.put, List.setIfInBounds_toArray, List.set_cons_zero, List.set_cons_succ])
              obtain ⟨Q12, hQ12_⟩ : ∃ q_ : Array Value, q_ = (#[.string t329, .string t330, .string t331, .int .i64 t332, .int .i64 t333, .int .i64 t334] : Array Value) := ⟨_, rfl⟩
              try rw [← hQ12_]
              have hQ12 := Aside0.mk hQ12_; replace hq := Aside0.mk (And.intro hQ12_ hq.1); clear hQ12_
              obtain ⟨Q13, hQ13_⟩ : ∃ q_ : Array Value, q_ = (#[.int .i64 t335, .int .i64 t336, .string t337, .string t338, .string t339, .int .i64 t340] : Array Value) := ⟨_, rfl⟩
              try rw [← hQ13_]
              have hQ13 := Aside0.mk hQ13_; replace hq := Aside0.mk (And.intro hQ13_ hq.1); clear hQ13_
              (try simp only [Act.put, List.setIfInBounds_toArray, List.set_cons_zero, List.set_cons_succ])
              go_cut [9] (fun v9 wc => ∃ (kq : Nat) (x9_130 : Int), v9 = .int .i64 x9_130 ∧ Aside0 (bursarlaw26_DisputeCycle.j4 kq l2 x9_130 y323 x11_2 t295 t296 (rdOf ByteArray.empty y323 x11_2) (wrap64 ((wrap64 (a1)) + 1)) t299 t300 t301 t302 t303 t304 t305 t306 t307 t308 t309 t310 t311 t312 t313 t314 t315 t316 x295022_36 t318 t319 t329 t330 t331 t332 t333 t334 = some r) ∧ Aside0 (kq ≤ kj36) ∧ Aside0 (Ow.Own w wc [(gb294, Q11, 27), (gb322, Q4, 33), (gb9324, (y323.map Value.string).toArray, 9), (gb342, Q12, 33), (gb343, Q13, 37)]))
              case first => as_aux_lemma =>
               have H := HC131.out
               clear HC131
               by_cases c145 : t335 = 3
               ·rw [if_pos c145] at H
                have c145b0 : (t335 == 3) = true := beq_iff_eq.mpr c145
                have c145b1 : (t335 != 3) = false := bne_eq_false_iff_eq.mpr c145
                clear c145
                (first | rw [c145b0] | (simp only [i64_w, i32_w]; rw [c145b0]) | skip)
                have H' := Aside0.mk H
                clear H
                go_wp2_with (first | ((with_reducible refine Ow.gate_build rfl ?_); (try (refine gate_guard (by rfl) ?_; dsimp only)); refine' Ow.tbuild Ot.bd rfl rfl rfl ?hf_ ?_; (case hf_ => repeat (any_goals (first | exact Ow.Fills.nil | (refine' Ow.Fills.c ?hv_ rfl ?hz_ ?_; (case hv_ => first | exact Ow.ev_tmp rfl | rfl); (case hz_ => first | (refine ⟨?_, ?_⟩ <;> (first | ((try simp only [hq.1]) <;> rfl) | fail)) | fail)))))) | ((with_reducible refine Ow.gate_load rfl ?_); (try (refine gate_guard (by rfl) ?_; dsimp only)); (first | refine Ow.l1 Ot.ty HO.out rfl rfl rfl rfl (by first | ((try simp only [hq.1]) <;> rfl) | fail) ?_ | refine Ow.l0 Ot.ty HO.out rfl rfl rfl rfl (by first | ((try simp only [hq.1]) <;> rfl) | fail) ?_ | refine Ow.lp Ot.ty HO.out rfl rfl rfl rfl (by first | ((try simp only [hq.1]) <;> rfl) | fail) ?_)) | ((with_reducible refine gate_store rfl ?_); (try (refine gate_guard (by rfl) ?_; dsimp only)); (first | refine Ow.s0 Ot.ty HO.out rfl rfl rfl rfl rfl (by first | exact Ow.ev_tmp rfl | rfl) (by first | (refine ⟨?_, ?_, ?_⟩ <;> (first | ((try simp only [hq.1]) <;> rfl) | fail)) | fail) ?_ | refine Ow.sp Ot.ty HO.out rfl rfl rfl rfl rfl (by first | exact Ow.ev_tmp rfl | rfl) (by first | (refine ⟨?_, ?_, ?_⟩ <;> (first | ((try simp only [hq.1]) <;> rfl) | fail)) | fail) ?_); clear HO; intro wz_ HO; simp only [List.set_cons_zero, List.set_cons_succ] at HO))
                go_meet
                case rel => exact ⟨_, (wrap64 (x9_2 + t340)), (by first | rfl | (simp; done) | (simp [*]; done) | (simp [Pu.bne_nil, Pu.beq_nil]; done)), H', ⟨by have := HJ4.out; have := HK2.out; have := HJ36.out; first | omega | exact Nat.le_refl _⟩, ⟨Ow.Own.cong (by first | exact HO.out | (have h_ := HO.out; simp only [World.drewN_drewN] at h_; exact h_)) (by first | ((try simp only [hq.1]) <;> rfl) | fail)⟩⟩
               ·rw [if_neg c145] at H
                have c145b0 : (t335 == 3) = false := beq_eq_false_iff_ne.mpr c145
                have c145b1 : (t335 != 3) = true := bne_iff_ne.mpr c145
                (first | rw [c145b0] | (simp only [i64_w, i32_w]; rw [c145b0]) | skip)
                have H' := Aside0.mk H
                clear H
                go_wp2_with (first | ((with_reducible refine Ow.gate_build rfl ?_); (try (refine gate_guard (by rfl) ?_; dsimp only)); refine' Ow.tbuild Ot.bd rfl rfl rfl ?hf_ ?_; (case hf_ => repeat (any_goals (first | exact Ow.Fills.nil | (refine' Ow.Fills.c ?hv_ rfl ?hz_ ?_; (case hv_ => first | exact Ow.ev_tmp rfl | rfl); (case hz_ => first | (refine ⟨?_, ?_⟩ <;> (first | ((try simp only [hq.1]) <;> rfl) | fail)) | fail)))))) | ((with_reducible refine Ow.gate_load rfl ?_); (try (refine gate_guard (by rfl) ?_; dsimp only)); (first | refine Ow.l1 Ot.ty HO.out rfl rfl rfl rfl (by first | ((try simp only [hq.1]) <;> rfl) | fail) ?_ | refine Ow.l0 Ot.ty HO.out rfl rfl rfl rfl (by first | ((try simp only [hq.1]) <;> rfl) | fail) ?_ | refine Ow.lp Ot.ty HO.out rfl rfl rfl rfl (by first | ((try simp only [hq.1]) <;> rfl) | fail) ?_)) | ((with_reducible refine gate_store rfl ?_); (try (refine gate_guard (by rfl) ?_; dsimp only)); (first | refine Ow.s0 Ot.ty HO.out rfl rfl rfl rfl rfl (by first | exact Ow.ev_tmp rfl | rfl) (by first | (refine ⟨?_, ?_, ?_⟩ <;> (first | ((try simp only [hq.1]) <;> rfl) | fail)) | fail) ?_ | refine Ow.sp Ot.ty HO.out rfl rfl rfl rfl rfl (by first | exact Ow.ev_tmp rfl | rfl) (by first | (refine ⟨?_, ?_, ?_⟩ <;> (first | ((try simp only [hq.1]) <;> rfl) | fail)) | fail) ?_); clear HO; intro wz_ HO; simp only [List.set_cons_zero, List.set_cons_succ] at HO))
                go_meet
                case rel => exact ⟨_, (wrap64 (x9_2 - t340)), (by first | rfl | (simp; done) | (simp [*]; done) | (simp [Pu.bne_nil, Pu.beq_nil]; done)), H', ⟨by have := HJ4.out; have := HK2.out; have := HJ36.out; first | omega | exact Nat.le_refl _⟩, ⟨Ow.Own.cong (by first | exact HO.out | (have h_ := HO.out; simp only [World.drewN_drewN] at h_; exact h_)) (by first | ((try simp only [hq.1]) <;> rfl) | fail)⟩⟩
              case rest => as_aux_lemma =>
               clear HC131
               try clear c1
               try clear c2
               try clear p2
               try clear c3
               try clear p3
               try clear q3
               try clear hx3
               try clear c4
               try clear c5
               try clear c6
               try clear p6
               try clear c7
               try clear c8
               try clear c9
               try clear c10
               try clear c11
               try clear c12
               try clear c13
               try clear c14
               try clear c15
               try clear c15b0
               try clear c27
               try clear c31
               try clear p32
               try clear q32
               try clear hx32
               try clear c36
               try clear c36b0
               try clear c39
               try clear c39b0
               try clear c40
               try clear c40b0
               try clear c43
               try clear c43b0
               try clear c44
               try clear c44b0
               try clear c46
               try clear c46b0
               try clear c46b1
               try clear c47
               try clear c47b0
               try clear c48
               try clear c48b0
               try clear c49
               try clear c55
               try clear c56
               try clear c57
               try clear c59
               try clear c60
               try clear c63
               try clear p64
               try clear c69
               try clear c70
               try clear c71
               try clear c73
               try clear c74
               try clear c76
               try clear c76b0
               try clear c76b1
               try clear c77
               try clear c78
               try clear c79
               try clear c81
               try clear c82
               try clear c83
               try clear c85
               try clear c85b0
               try clear c85b1
               try clear c86
               try clear c86b0
               try clear c86b1
               try clear c88
               try clear c88b0
               try clear c88b1
               try clear c89
               try clear c89b0
               try clear c89b1
               try clear c90
               try clear c91
               try clear c92
               try clear c94
               try clear c95
               try clear c97
               try clear c101
               try clear c101b0
               try clear c101b1
               try clear c103
               try clear c103b0
               try clear c103b1
               try clear c104
               try clear c104b0
               try clear c104b1
               try clear c105
               try clear c106
               try clear c107
               try clear c109
               try clear c110
               try clear c112
               try clear c116
               try clear c116b0
               try clear c117
               try clear c117b0
               try clear c118
               try clear c124
               try clear c125
               try clear c126
               try clear c128
               try clear c129
               try clear c132
               try clear c138
               try clear c139
               try clear c140
               try clear c142
               try clear c143
               try clear c145
               try clear c145b0
               try clear c145b1
               try clear c146
               try clear c147
               try clear c148
               try clear c150
               try clear c151
               try clear c152
               try clear hcz100_0
               try clear hcz108_0
               try clear hcz111_0
               try clear hcz113_0
               try clear hcz115_0
               try clear hcz119_0
               try clear hcz11_0
               try clear hcz120_0
               try clear hcz127_0
               try clear hcz130_0
               try clear hcz133_0
               try clear hcz134_0
               try clear hcz141_0
               try clear hcz144_0
               try clear hcz149_0
               try clear hcz153_0
               try clear hcz16_0
               try clear hcz18_0
               try clear hcz19_0
               try clear hcz21_0
               try clear hcz22_0
               try clear hcz24_0
               try clear hcz25_0
               try clear hcz32_0
               try clear hcz50_0
               try clear hcz51_0
               try clear hcz58_0
               try clear hcz61_0
               try clear hcz64_0
               try clear hcz65_0
               try clear hcz72_0
               try clear hcz75_0
               try clear hcz7_0
               try clear hcz80_0
               try clear hcz84_0
               try clear hcz93_0
               try clear hcz96_0
               try clear hcz98_0
               try clear hcz9_0
               try clear hfz100_0
               try clear hfz108_0
               try clear hfz111_0
               try clear hfz113_0
               try clear hfz115_0
               try clear hfz119_0
               try clear hfz11_0
               try clear hfz120_0
               try clear hfz127_0
               try clear hfz130_0
               try clear hfz133_0
               try clear hfz134_0
               try clear hfz141_0
               try clear hfz144_0
               try clear hfz149_0
               try clear hfz153_0
               try clear hfz16_0
               try clear hfz18_0
               try clear hfz19_0
               try clear hfz21_0
               try clear hfz22_0
               try clear hfz24_0
               try clear hfz25_0
               try clear hfz32_0
               try clear hfz50_0
               try clear hfz51_0
               try clear hfz58_0
               try clear hfz61_0
               try clear hfz64_0
               try clear hfz65_0
               try clear hfz72_0
               try clear hfz75_0
               try clear hfz7_0
               try clear hfz80_0
               try clear hfz84_0
               try clear hfz93_0
               try clear hfz96_0
               try clear hfz98_0
               try clear hfz9_0
               try clear hx327_0
               try clear hx328_0
               try clear p2
               try clear p3
               try clear p32
               try clear p327
               try clear p328
               try clear p6
               try clear p64
               try clear q3
               try clear q32
               try clear q327
               try clear q328
               clear HO
               obtain ⟨kq, x9_130, rfl, HA, HJ130, HO⟩ := hcut
               cases kq with
               | zero => exact absurd HA.out (by simp [bursarlaw26_DisputeCycle.j4])
               | succ kj130 =>
                have H := HA.out
                clear HA
                simp only [bursarlaw26_DisputeCycle.j4] at H
                by_cases c154 : x11_2 = 1
                ·rw [if_pos c154] at H
                 have c154b0 : (x11_2 == 1) = true := beq_iff_eq.mpr c154
                 have c154b1 : (x11_2 != 1) = false := bne_eq_false_iff_eq.mpr c154
                 clear c154
                 by_cases c155 : x9_130 = 0
                 ·rw [if_pos c155] at H
                  have c155b0 : (x9_130 == 0) = true := beq_iff_eq.mpr c155
                  have c155b1 : (x9_130 != 0) = false := bne_eq_false_iff_eq.mpr c155
                  clear c155
                  replace H := Option.bind_eq_some_iff.mp H
                  obtain ⟨t346, A1560, H⟩ := H
                  replace H : (if t346 = 0 then (if t332 = (wrap64 (x11_2 + 1)) then (bursarlaw26_DisputeCycle.l0 kj130 l2 true x9_130 y323 (wrap64 (x11_2 + 1)) t295 t296 (rdOf ByteArray.empty y323 x11_2) (wrap64 ((wrap64 (a1)) + 1)) t299 t300 t301 t302 t303 t304 t305 t306 t307 t308 t309 t310 t311 t312 t313 t314 t315 t316 x295022_36 t318 t319 t329 t330 t331 t332 t333 t334) else (none)) else (none)) = some r := H
                  have A156 := Aside0.mk A1560
                  clear A1560
                  by_cases c157 : t346 = 0
                  ·rw [if_pos c157] at H
                   have c157b0 : (t346 == 0) = true := beq_iff_eq.mpr c157
                   have c157b1 : (t346 != 0) = false := bne_eq_false_iff_eq.mpr c157
                   clear c157
                   by_cases c158 : t332 = (wrap64 (x11_2 + 1))
                   ·rw [if_pos c158] at H
                    have c158b0 : (t332 == (wrap64 (x11_2 + 1))) = true := beq_iff_eq.mpr c158
                    have c158b1 : (t332 != (wrap64 (x11_2 + 1))) = false := bne_eq_false_iff_eq.mpr c158
                    clear c158
                    have H' := Aside0.mk H
                    clear H
                    go_wp2_with (first | (go_at_call 9; refine Calls.mono (calls_of_args (by first | ((try simp only [hq.1]) <;> rfl) | fail) (dispute_Against.calls t329 t330 t331 t332 t333 t334 t346 _ A156.out)) ?_; rintro e w168 ⟨he_, hb⟩; subst he_; replace HO := Aside0.mk (Ow.Own.call HO.out hb); clear hb) | ((with_reducible refine Ow.gate_build rfl ?_); (try (refine gate_guard (by rfl) ?_; dsimp only)); refine' Ow.tbuild Ot.bd rfl rfl rfl ?hf_ ?_; (case hf_ => repeat (any_goals (first | exact Ow.Fills.nil | (refine' Ow.Fills.c ?hv_ rfl ?hz_ ?_; (case hv_ => first | exact Ow.ev_tmp rfl | rfl); (case hz_ => first | (refine ⟨?_, ?_⟩ <;> (first | ((try simp only [hq.1]) <;> rfl) | fail)) | fail)))))) | ((with_reducible refine Ow.gate_load rfl ?_); (try (refine gate_guard (by rfl) ?_; dsimp only)); (first | refine Ow.l1 Ot.ty HO.out rfl rfl rfl rfl (by first | ((try simp only [hq.1]) <;> rfl) | fail) ?_ | refine Ow.l0 Ot.ty HO.out rfl rfl rfl rfl (by first | ((try simp only [hq.1]) <;> rfl) | fail) ?_ | refine Ow.lp Ot.ty HO.out rfl rfl rfl rfl (by first | ((try simp only [hq.1]) <;> rfl) | fail) ?_)) | ((with_reducible refine gate_store rfl ?_); (try (refine gate_guard (by rfl) ?_; dsimp only)); (first | refine Ow.s0 Ot.ty HO.out rfl rfl rfl rfl rfl (by first | exact Ow.ev_tmp rfl | rfl) (by first | (refine ⟨?_, ?_, ?_⟩ <;> (first | ((try simp only [hq.1]) <;> rfl) | fail)) | fail) ?_ | refine Ow.sp Ot.ty HO.out rfl rfl rfl rfl rfl (by first | exact Ow.ev_tmp rfl | rfl) (by first | (refine ⟨?_, ?_, ?_⟩ <;> (first | ((try simp only [hq.1]) <;> rfl) | fail)) | fail) ?_); clear HO; intro wz_ HO; simp only [List.set_cons_zero, List.set_cons_succ] at HO))
                    go_roundg kj130
                    case measure => have := HJ4.out; have := HK2.out; have := HJ36.out; have := HJ130.out; omega
                    case rel => exact ⟨(true), (x9_130), (wrap64 (x11_2 + 1)), ((rdOf ByteArray.empty y323 x11_2)), (x295022_36), (t329), (t330), (t331), (t332), (t333), (t334), (by first | rfl | (simp; done) | (simp [*]; done) | (simp [Pu.bne_nil, Pu.beq_nil]; done)), (by first | rfl | (simp; done) | (simp [*]; done) | (simp [Pu.bne_nil, Pu.beq_nil]; done)), (by first | rfl | (simp; done) | (simp [*]; done) | (simp [Pu.bne_nil, Pu.beq_nil]; done)), H', ⟨by have := HJ4.out; have := HK2.out; have := HJ36.out; have := HJ130.out; omega⟩, ⟨Ow.Own.cong (by first | exact (Ow.Own.pick [0, 1, 2] HO.out (by decide)) | (have h_ := (Ow.Own.pick [0, 1, 2] HO.out (by decide)); simp only [World.drewN_drewN] at h_; exact h_)) (by first | ((try simp only [hq.1]) <;> rfl) | fail)⟩⟩
                   ·rw [if_neg c158] at H
                    exact absurd H (by simp)
                  ·rw [if_neg c157] at H
                   exact absurd H (by simp)
                 ·rw [if_neg c155] at H
                  exact absurd H (by simp)
                ·rw [if_neg c154] at H
                 have c154b0 : (x11_2 == 1) = false := beq_eq_false_iff_ne.mpr c154
                 have c154b1 : (x11_2 != 1) = true := bne_iff_ne.mpr c154
                 by_cases c170 : x9_130 = (wrap64 ((wrap64 (a1)) + 1))
                 ·rw [if_pos c170] at H
                  have c170b0 : (x9_130 == (wrap64 ((wrap64 (a1)) + 1))) = true := beq_iff_eq.mpr c170
                  have c170b1 : (x9_130 != (wrap64 ((wrap64 (a1)) + 1))) = false := bne_eq_false_iff_eq.mpr c170
                  clear c170
                  replace H := Option.bind_eq_some_iff.mp H
                  obtain ⟨t347, A1710, H⟩ := H
                  replace H : (if t347 = (wrap64 ((wrap64 (a1)) + 1)) then (if t332 = (wrap64 (x11_2 + 1)) then (bursarlaw26_DisputeCycle.l0 kj130 l2 true x9_130 y323 (wrap64 (x11_2 + 1)) t295 t296 (rdOf ByteArray.empty y323 x11_2) (wrap64 ((wrap64 (a1)) + 1)) t299 t300 t301 t302 t303 t304 t305 t306 t307 t308 t309 t310 t311 t312 t313 t314 t315 t316 x295022_36 t318 t319 t329 t330 t331 t332 t333 t334) else (none)) else (none)) = some r := H
                  have A171 := Aside0.mk A1710
                  clear A1710
                  by_cases c172 : t347 = (wrap64 ((wrap64 (a1)) + 1))
                  ·rw [if_pos c172] at H
                   have c172b0 : (t347 == (wrap64 ((wrap64 (a1)) + 1))) = true := beq_iff_eq.mpr c172
                   have c172b1 : (t347 != (wrap64 ((wrap64 (a1)) + 1))) = false := bne_eq_false_iff_eq.mpr c172
                   clear c172
                   by_cases c173 : t332 = (wrap64 (x11_2 + 1))
                   ·rw [if_pos c173] at H
                    have c173b0 : (t332 == (wrap64 (x11_2 + 1))) = true := beq_iff_eq.mpr c173
                    have c173b1 : (t332 != (wrap64 (x11_2 + 1))) = false := bne_eq_false_iff_eq.mpr c173
                    clear c173
                    have H' := Aside0.mk H
                    clear H
                    go_wp2_with (first | (go_at_call 9; refine Calls.mono (calls_of_args (by first | ((try simp only [hq.1]) <;> rfl) | fail) (dispute_Against.calls t329 t330 t331 t332 t333 t334 t347 _ A171.out)) ?_; rintro e w183 ⟨he_, hb⟩; subst he_; replace HO := Aside0.mk (Ow.Own.call HO.out hb); clear hb) | ((with_reducible refine Ow.gate_build rfl ?_); (try (refine gate_guard (by rfl) ?_; dsimp only)); refine' Ow.tbuild Ot.bd rfl rfl rfl ?hf_ ?_; (case hf_ => repeat (any_goals (first | exact Ow.Fills.nil | (refine' Ow.Fills.c ?hv_ rfl ?hz_ ?_; (case hv_ => first | exact Ow.ev_tmp rfl | rfl); (case hz_ => first | (refine ⟨?_, ?_⟩ <;> (first | ((try simp only [hq.1]) <;> rfl) | fail)) | fail)))))) | ((with_reducible refine Ow.gate_load rfl ?_); (try (refine gate_guard (by rfl) ?_; dsimp only)); (first | refine Ow.l1 Ot.ty HO.out rfl rfl rfl rfl (by first | ((try simp only [hq.1]) <;> rfl) | fail) ?_ | refine Ow.l0 Ot.ty HO.out rfl rfl rfl rfl (by first | ((try simp only [hq.1]) <;> rfl) | fail) ?_ | refine Ow.lp Ot.ty HO.out rfl rfl rfl rfl (by first | ((try simp only [hq.1]) <;> rfl) | fail) ?_)) | ((with_reducible refine gate_store rfl ?_); (try (refine gate_guard (by rfl) ?_; dsimp only)); (first | refine Ow.s0 Ot.ty HO.out rfl rfl rfl rfl rfl (by first | exact Ow.ev_tmp rfl | rfl) (by first | (refine ⟨?_, ?_, ?_⟩ <;> (first | ((try simp only [hq.1]) <;> rfl) | fail)) | fail) ?_ | refine Ow.sp Ot.ty HO.out rfl rfl rfl rfl rfl (by first | exact Ow.ev_tmp rfl | rfl) (by first | (refine ⟨?_, ?_, ?_⟩ <;> (first | ((try simp only [hq.1]) <;> rfl) | fail)) | fail) ?_); clear HO; intro wz_ HO; simp only [List.set_cons_zero, List.set_cons_succ] at HO))
                    go_roundg kj130
                    case measure => have := HJ4.out; have := HK2.out; have := HJ36.out; have := HJ130.out; omega
                    case rel => exact ⟨(true), (x9_130), (wrap64 (x11_2 + 1)), ((rdOf ByteArray.empty y323 x11_2)), (x295022_36), (t329), (t330), (t331), (t332), (t333), (t334), (by first | rfl | (simp; done) | (simp [*]; done) | (simp [Pu.bne_nil, Pu.beq_nil]; done)), (by first | rfl | (simp; done) | (simp [*]; done) | (simp [Pu.bne_nil, Pu.beq_nil]; done)), (by first | rfl | (simp; done) | (simp [*]; done) | (simp [Pu.bne_nil, Pu.beq_nil]; done)), H', ⟨by have := HJ4.out; have := HK2.out; have := HJ36.out; have := HJ130.out; omega⟩, ⟨Ow.Own.cong (by first | exact (Ow.Own.pick [0, 1, 2] HO.out (by decide)) | (have h_ := (Ow.Own.pick [0, 1, 2] HO.out (by decide)); simp only [World.drewN_drewN] at h_; exact h_)) (by first | ((try simp only [hq.1]) <;> rfl) | fail)⟩⟩
                   ·rw [if_neg c173] at H
                    exact absurd H (by simp)
                  ·rw [if_neg c172] at H
                   exact absurd H (by simp)
                 ·rw [if_neg c170] at H
                  exact absurd H (by simp)
          ·rw [if_neg c44] at H
           exact absurd H (by simp)
         ·rw [if_neg c43] at H
          exact absurd H (by simp)
      ·rw [if_neg c36] at H
       have c36b0 : decide (x11_2 < (y323.length : Int)) = false := decide_eq_false c36
       clear c36
       replace H := Option.bind_eq_some_iff.mp H
       obtain ⟨t326, A1850, H⟩ := H
       replace H : (some t326) = some r := H
       have A185 := Aside0.mk A1850
       clear A1850
       obtain rfl := Option.some.inj H
       go_wp2_with (first | ((with_reducible refine gate_callee (f := 7) rfl ?_); refine goesL_ (some 123) rfl rfl Try.func7 (by kernel_rfl) rfl #[] rfl (by (try simp only [List.map_toArray, List.map_cons, List.map_nil]); first | done | rfl | (simp only [hq.1]; done) | (simp only [hq.1]; rfl)) ?_; refine Calls.mono (calls_of_args (by first | ((try simp only [hq.1]) <;> rfl) | fail) (bursarlaw26_awake.calls k2  t326 _ A185.out)) ?_; rintro e w187 ⟨he_, hb⟩; subst he_; refine ⟨_, rfl, ?_⟩; replace HO := Aside0.mk (Ow.Own.call HO.out hb); clear hb) | ((with_reducible refine Ow.gate_build rfl ?_); (try (refine gate_guard (by rfl) ?_; dsimp only)); refine' Ow.tbuild Ot.bd rfl rfl rfl ?hf_ ?_; (case hf_ => repeat (any_goals (first | exact Ow.Fills.nil | (refine' Ow.Fills.c ?hv_ rfl ?hz_ ?_; (case hv_ => first | exact Ow.ev_tmp rfl | rfl); (case hz_ => first | (refine ⟨?_, ?_⟩ <;> (first | ((try simp only [hq.1]) <;> rfl) | fail)) | fail)))))) | ((with_reducible refine Ow.gate_load rfl ?_); (try (refine gate_guard (by rfl) ?_; dsimp only)); (first | refine Ow.l1 Ot.ty HO.out rfl rfl rfl rfl (by first | ((try simp only [hq.1]) <;> rfl) | fail) ?_ | refine Ow.l0 Ot.ty HO.out rfl rfl rfl rfl (by first | ((try simp only [hq.1]) <;> rfl) | fail) ?_ | refine Ow.lp Ot.ty HO.out rfl rfl rfl rfl (by first | ((try simp only [hq.1]) <;> rfl) | fail) ?_)) | ((with_reducible refine gate_store rfl ?_); (try (refine gate_guard (by rfl) ?_; dsimp only)); (first | refine Ow.s0 Ot.ty HO.out rfl rfl rfl rfl rfl (by first | exact Ow.ev_tmp rfl | rfl) (by first | (refine ⟨?_, ?_, ?_⟩ <;> (first | ((try simp only [hq.1]) <;> rfl) | fail)) | fail) ?_ | refine Ow.sp Ot.ty HO.out rfl rfl rfl rfl rfl (by first | exact Ow.ev_tmp rfl | rfl) (by first | (refine ⟨?_, ?_, ?_⟩ <;> (first | ((try simp only [hq.1]) <;> rfl) | fail)) | fail) ?_); clear HO; intro wz_ HO; simp only [List.set_cons_zero, List.set_cons_succ] at HO))
       all_goals go_ret
       all_goals exact ⟨by first | rfl | (simp only [hq.1]; done) | (simp only [hq.1]; rfl) | (simp [errW_none, errW_some] <;> rfl) | (simp [*, errW_none, errW_some] <;> rfl), Ow.Own.below HO.out⟩

end Go.Proofs.Ytmdpomilhejbcaa.XDC
