-- Written by wip/xprint.py, a session's program: printed out of the translation, with hand-written functions. Lean checks it.
import Derived.Test.YtmifpifhiiommaaDoorXT0
namespace Go.Proofs.YtmifpifhiiommaaDoor.XT
open Go.RowKit Go.Proofs.YtmifpifhiiommaaDoorW.PrintWords Go.Proofs.YtmifpifhiiommaaDoorW.PrintLast Go.Proofs.YtmifpifhiiommaaDoorW.PrintMore
attribute [local go_sem] max2_int min2_int max_two min_two max_three min_three max_four min_four   -- for this text's walks alone
set_option linter.unusedVariables false
set_option linter.unusedSimpArgs false

/-! ### api_Dup_28: function 28 -/
def api_Dup_28.f (l0 : List S23) : Option (List S23) := if l0.length ≤ 1000 then some l0 else none
set_option maxHeartbeats 2000000 in
theorem api_Dup_28.calls (A0 : Option Addr) (c0 : Nat) (l0 : List (S23)) (r : List (S23)) (w : World) (hr0 : Kd.C k23 w A0 l0.length l0) (hc0 : l0.length ≤ c0) (h : api_Dup_28.f l0 = some r) :
    Calls Tryd.prog 28 #[.slice A0 l0.length c0] w fun e w' => ∃ v0_ : Value, e = .returned v0_ ∧ Kd.R k23 23 w' w.heap.size (fun _ => True) v0_ r ∧ Below w.heap.size w w' := by
  unfold api_Dup_28.f at h
  split at h
  case isFalse => cases h
  case isTrue hl =>
  obtain rfl := Option.some.inj h
  have HR := Lib.hid hr0
  clear h hr0
  have q22 : ∀ (w : World) (a : Option Addr) (n c n' c' : Nat), (binOp .eql 44 (.slice a n c) (.slice none n' c')).run Tryd.prog w = .ok (.bool a.isNone) w := fun w a n c n' c' => Lib.run_eql_slice_nil w _ _ a n c n' c' Tryd.underlying44
  cases A0 with
  | none =>
    have h0 : l0 = [] := by
      rcases Nat.eq_zero_or_pos l0.length with h | h
      · exact List.eq_nil_of_length_eq_zero h
      · obtain ⟨ad, e, _⟩ := HR.out.2.2 h; cases e
    subst h0
    go_enter Tryd.func28, Tryd.ntmps28
    go_wp2
    go_ret
    exact ⟨_, rfl, Kd.R_nil _ _ _ _ _, Below.refl _ _⟩
  | some ad =>
    have hW : Below w.heap.size w (w.alloc (.cells #[] 23 (0, 0))) := (Below.refl _ _).alloc (Nat.le_refl _) _
    have HO : Hid (Kd.R k23 23 (w.alloc (.cells #[] 23 (0, 0))) w.heap.size (fun _ => True) (.slice (some ⟨w.heap.size, 0, none⟩) 0 0) []) := Lib.hid ⟨fun _ _ => trivial, [], World.ownsRow_made w #[] 0 (Nat.le_refl _) (Nat.zero_le _) rfl, Reps.none _ _⟩
    have HR2 : Hid (Kd.C k23 (w.alloc (.cells #[] 23 (0, 0))) (some ad) l0.length l0) := Lib.hid (Kd.C_below HR.out hW)
    go_enter Tryd.func28, Tryd.ntmps28
    go_wp2_with (
      (with_reducible refine gate_builtin (b := .append) (xs := #[.tmp 5, .tmp 6]) rfl ?_)
      at_builtin
      refine Kd.R_append_rows k23 (w0 := w) w.heap.size rfl (.tmp 5) (.tmp 6) 44 23 (.agg #[(.int .i64 0), (.string ⟨#[]⟩), (.string ⟨#[]⟩), (.string ⟨#[]⟩), (.int .i64 0)]) 64 rfl Tryd.underlying44 info23 rfl (by decide) (by omega) (.slice (some ⟨w.heap.size, 0, none⟩) 0 0) [] l0 (some ad) l0.length c0 (fun _ => True) (fun _ => False) rfl rfl HO.out HR2.out (fun x cs hk => by obtain rfl := k23_open hk; exact k23_mkM _ _ _ _) (fun _ h => h.elim) (fun _ _ => trivial) hW (by rw [show (w.alloc (.cells #[] 23 (0, 0))).heap.size = w.heap.size + 1 by simp [World.alloc, -World.alloc_eq]]; omega) (by simp; omega) ?_
      intro v1 w1 hR1 hB1 _ _)
    go_ret
    exact ⟨_, rfl, by simpa using hR1, hB1⟩


end Go.Proofs.YtmifpifhiiommaaDoor.XT
