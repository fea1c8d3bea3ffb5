/- Plain Lean: the chapter's examples ('awake'). -/
import Derived.Test.YtaifcadnnmicnaaPuE
namespace Go.Proofs.Ytaifcadnnmicnaa.XE
open Go.RowKit Go.Proofs.YtaifcadnnmicnaaW.PrintWords
set_option linter.unusedVariables false
def till (n : Int) : S30 := ⟨⟨#[65, 66, 67, 48, 48, 48, 48, 48, 48, 48, 48, 49]⟩, ⟨#[49, 50, 51, 52, 53, 54]⟩, ⟨#[52, 49, 49, 49, 49, 49, 49, 49, 49, 49, 49, 49, 49, 49, 49, 49]⟩, 5, 0, n, true⟩
def yA : List S30 := [till 5, till 3, till 5]
theorem okA : okL yA = true := by kernel_rfl
theorem itemsA : itemsTo yA 3 = [hitem (till 5) 0, hitem (till 3) 1, hitem (till 5) 2] := by kernel_rfl
theorem leA1 : Hp.le ltS (hitem (till 3) 1) (hitem (till 5) 0) = true := by kernel_rfl
theorem leA2 : Hp.le ltS (hitem (till 3) 1) (hitem (till 5) 2) = true := by kernel_rfl
theorem leA3 : Hp.le ltS (hitem (till 5) 0) (hitem (till 5) 2) = true := by kernel_rfl
theorem ordA : ordS yA = [hitem (till 3) 1, hitem (till 5) 0, hitem (till 5) 2] := by
  obtain ⟨s, p⟩ := ord_sorted yA
  refine srt_unique s ?_ (p.trans ?_)
  · refine List.Pairwise.cons (fun b hb => ?_) (List.Pairwise.cons (fun b hb => ?_) (List.Pairwise.cons (fun b hb => ?_) List.Pairwise.nil))
    · rcases List.mem_cons.mp hb with rfl | hb
      · exact leA1
      · rw [List.mem_singleton] at hb; subst hb; exact leA2
    · rw [List.mem_singleton] at hb; subst hb; exact leA3
    · simp at hb
  · show (itemsTo yA 3).Perm _
    rw [itemsA]
    exact List.Perm.swap _ _ _
theorem dueA5 : dueL yA 5 = [1] := by
  unfold dueL
  rw [ordA]
  rfl
theorem dueA6 : dueL yA 6 = [1, 0, 2] := by
  unfold dueL
  rw [ordA]
  rfl
theorem awake_p (k : Nat) (hk : 10 ≤ k) : bursarlaw15_awake.f k = some true := by
  have hw : wrap64 ((hitem (till 3) 1).f0 + 1) = 4 := by show wrap64 (3 + 1) = 4; unfold wrap64; omega
  have e : bursarlaw15_awake.f k = ((expiry_Next.f yA).bind fun bt187 => ((expiry_Due.f yA 5).bind fun t189 => ((bursarref15_Same.f k t189 (([1] : List Int))).bind fun t195 => (if t195 = true then (if bt187.1 = 4 then (if bt187.2 = 0 then ((expiry_Due.f yA 6).bind fun t196 => ((bursarref15_Same.f k t196 (([1, 0, 2] : List Int))).bind fun t202 => (some t202))) else (none)) else (none)) else (none))))) := rfl
  rw [e]
  unfold expiry_Next.f
  rw [if_pos okA, ordA, Option.bind_some, due_p okA, Option.bind_some, dueA5, same_p _ (by decide) k (by show 1 < k; omega), Option.bind_some, if_pos rfl]
  simp only
  rw [hw, if_pos rfl, if_pos trivial, due_p okA, Option.bind_some, dueA6, same_p _ (by decide) k (by show 3 < k; omega)]
  rfl
end Go.Proofs.Ytaifcadnnmicnaa.XE
