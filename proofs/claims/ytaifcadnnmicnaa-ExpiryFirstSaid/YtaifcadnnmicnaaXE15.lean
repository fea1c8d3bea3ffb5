-- Written by wip/xprint.py, a session's program: printed out of the translation, with hand-written functions. Lean checks it.
import Derived.Test.YtaifcadnnmicnaaXE0
import Derived.Test.YtaifcadnnmicnaaXE14
namespace Go.Proofs.Ytaifcadnnmicnaa.XE
open Go.RowKit Go.Proofs.YtaifcadnnmicnaaW.PrintWords Go.Proofs.YtaifcadnnmicnaaW.PrintLast Go.Proofs.YtaifcadnnmicnaaW.PrintMore
attribute [local go_sem] max2_int min2_int max_two min_two max_three min_three max_four min_four   -- for this text's walks alone
set_option linter.unusedVariables false
set_option linter.unusedSimpArgs false

/-! ### cmp_Compare_string: function 69 -/
theorem x_binOp_gtr (t : TypeId) (a b : ByteArray) : binOp .gtr t (.string a) (.string b) = pure (.bool !(Op.bytesLess a.toList b.toList || a.toList == b.toList)) := by simp [binOp, Op.stringOp]
def cmp_Compare_string.f (a0 a1 : ByteArray) : Option Int := some (Pu.cmpS a0 a1)
theorem cmp_Compare_string.calls (a0 a1 : ByteArray) (r : Int) (w : World) (h : cmp_Compare_string.f a0 a1 = some r) :
    Calls Try.prog 69 #[.string a0, .string a1] w fun e w' => e = .returned (.int .i64 r) ∧ Drawn0 w w' := by
  obtain rfl := Option.some.inj h
  clear h
  have hn : ∀ s : ByteArray, cmp_isNaN_string.f s = some false := fun s => by unfold cmp_isNaN_string.f; simp
  have hg := x_binOp_gtr 9 a0 a1
  by_cases h1 : Op.bytesLess a0.toList a1.toList = true
  · have hr := Lib.hid (show Pu.cmpS a0 a1 = -1 by unfold Pu.cmpS; rw [if_pos h1])
    go_enter Try.func69, Try.ntmps69
    go_wp2_with (go_at_call 71; refine (cmp_isNaN_string.calls _ false _ (hn _)).mono ?_; rintro e w' ⟨rfl, ⟨n, rfl⟩⟩)
    go_ret
    exact ⟨by rw [hr.out]; rfl, by repeat (first | exact Drawn0.refl _ | apply Drawn0.step)⟩
  · have h1' : Op.bytesLess a0.toList a1.toList = false := by simpa using h1
    rw [h1', Bool.false_or] at hg
    by_cases h2 : Op.bytesLess a1.toList a0.toList = true
    · have hr := Lib.hid (show Pu.cmpS a0 a1 = 1 by unfold Pu.cmpS; rw [if_neg h1, if_pos h2])
      have he : (a0.toList == a1.toList) = false := by
        rw [beq_eq_false_iff_ne]; intro e; rw [e, Pu.less_irr] at h2; cases h2
      rw [he] at hg
      clear h1
      go_enter Try.func69, Try.ntmps69
      go_wp2_with (go_at_call 71; refine (cmp_isNaN_string.calls _ false _ (hn _)).mono ?_; rintro e w' ⟨rfl, ⟨n, rfl⟩⟩)
      go_ret
      exact ⟨by rw [hr.out]; rfl, by repeat (first | exact Drawn0.refl _ | apply Drawn0.step)⟩
    · have hr := Lib.hid (show Pu.cmpS a0 a1 = 0 by unfold Pu.cmpS; rw [if_neg h1, if_neg h2])
      have he : (a0.toList == a1.toList) = true := by
        rw [beq_iff_eq]; rcases Pu.less_tri a0.toList a1.toList with e | e | e
        · exact absurd e h1
        · exact e
        · exact absurd e h2
      rw [he] at hg
      clear h1
      go_enter Try.func69, Try.ntmps69
      go_wp2_with (go_at_call 71; refine (cmp_isNaN_string.calls _ false _ (hn _)).mono ?_; rintro e w' ⟨rfl, ⟨n, rfl⟩⟩)
      go_ret
      exact ⟨by rw [hr.out]; rfl, by repeat (first | exact Drawn0.refl _ | apply Drawn0.step)⟩


end Go.Proofs.Ytaifcadnnmicnaa.XE
