-- Written by wip/xprint.py, a session's program: printed out of the translation, with hand-written functions. Lean checks it.
import Derived.Test.YtaifcadnnmicnaaXE0
import Derived.Test.YtaifcadnnmicnaaXE5
import Derived.Test.YtaifcadnnmicnaaXE6
namespace Go.Proofs.Ytaifcadnnmicnaa.XE
open Go.RowKit Go.Proofs.YtaifcadnnmicnaaW.PrintWords Go.Proofs.YtaifcadnnmicnaaW.PrintLast Go.Proofs.YtaifcadnnmicnaaW.PrintMore
attribute [local go_sem] max2_int min2_int max_two min_two max_three min_three max_four min_four   -- for this text's walks alone
set_option linter.unusedVariables false
set_option linter.unusedSimpArgs false

/-! #### bursarref11_Name, refined -/
theorem ref11_Name_e (k : Int) (s : ByteArray) : bursarref11_Name_p.f 3 k s = some (Pu.nameB k s, Pu.mayB k s) := by
  simp only [bursarref11_Name_p.f, bursarref11_Name_p.j0, bursarref11_Name_p.j1, bursarref11_Name_p.j2, bursarref02_Sound.f, bursarref02_All.f, Pu.nameB]
  by_cases h1 : k = 1
  · subst h1
    rw [if_pos rfl, Pu.mayB_1]
    by_cases h : s.size = 16
    · rw [if_pos (by omega), if_pos (by omega), decide_eq_true h, Option.bind_some, Bool.true_and]
      cases Pu.soundB s with
      | true => rw [if_pos rfl, if_pos (by omega), if_pos rfl]; rfl
      | false => rw [if_neg (by simp), if_neg (by decide), if_neg (by simp), if_neg (by decide), if_neg (by simp), if_neg (by decide), if_neg (by simp)]
    · rw [if_neg (by omega), decide_eq_false h, if_neg (by simp), if_neg (by decide), if_neg (by simp), if_neg (by decide), if_neg (by simp), if_neg (by decide), if_neg (by simp)]; rfl
  rw [if_neg h1]
  rw [if_neg (by simp)]
  by_cases h2 : k = 2
  · subst h2
    rw [if_pos rfl, Pu.mayB_2]
    by_cases h : s.size = 6
    · rw [if_pos (by omega), if_pos (by omega), decide_eq_true h, Option.bind_some, Bool.true_and]
      cases Pu.allD s with
      | true => rw [if_pos rfl, if_pos (by omega), if_pos rfl]; rfl
      | false => rw [if_neg (by simp), if_neg (by decide), if_neg (by simp), if_neg (by decide), if_neg (by simp)]
    · rw [if_neg (by omega), decide_eq_false h, if_neg (by simp), if_neg (by decide), if_neg (by simp), if_neg (by decide), if_neg (by simp)]; rfl
  rw [if_neg h2, if_neg (by simp)]
  by_cases h3 : k = 3
  · subst h3
    rw [if_pos rfl, Pu.mayB_3, Pu.toList_empty]
    by_cases h : s.size = 0
    · rw [decide_eq_true h, if_pos rfl, if_pos rfl, Pu.app_nil _ h]; rfl
    · rw [decide_eq_false h, if_neg (by simp), if_neg (by decide), if_neg (by simp)]
  rw [if_neg h3, if_neg (by simp)]
  by_cases h4 : k = 4
  · subst h4
    rw [if_pos rfl, Pu.mayB_4]
    by_cases h : s.size = 0
    · rw [if_pos (Pu.toList_nil.mpr h), decide_eq_true h, if_pos rfl, Pu.app_nil _ h]; rfl
    · rw [if_neg (fun z => h (Pu.toList_nil.mp z)), decide_eq_false h, if_neg (by simp)]
  rw [if_neg h4, Pu.mayB_else s h1 h2 h3 h4, if_neg (by simp)]
def bursarref11_Name.f (a0_0 : Int) (a0_1 : ByteArray) : Option (ByteArray × Bool) := some (Pu.nameB a0_0 a0_1, Pu.mayB a0_0 a0_1)
theorem bursarref11_Name.calls (a0_0 : Int) (a0_1 : ByteArray) (r1 : ByteArray) (r2 : Bool) (w : World) (h : bursarref11_Name.f a0_0 a0_1 = some (r1, r2)) :
    Calls Try.prog 21 #[.agg #[.int .i64 a0_0, .string a0_1]] w fun e w' => e = .returned (.tuple #[.string r1, .bool r2]) ∧ Below w.heap.size w w' :=
  bursarref11_Name_p.calls 3 a0_0 a0_1 r1 r2 w ((ref11_Name_e a0_0 a0_1).trans h)


end Go.Proofs.Ytaifcadnnmicnaa.XE
