/- Plain Lean: the printed ExpiryGoes answers true at every input. -/
import Derived.Test.YtaifcadnnmicnaaPuE
import Derived.Test.YtaifcadnnmicnaaPuEA
import Derived.Test.YtaifcadnnmicnaaXE27
namespace Go.Proofs.Ytaifcadnnmicnaa.XE
open Go.RowKit Go.Proofs.YtaifcadnnmicnaaW.PrintWords
set_option linter.unusedVariables false
theorem split_two {t1 t2 : Int} (h : t1 ≤ t2) : ∀ s : List S49, s.takeWhile (pT t2) = s.takeWhile (pT t1) ++ (s.dropWhile (pT t1)).takeWhile (pT t2)
  | [] => rfl
  | x :: s => by
    cases hx : pT t1 x with
    | true =>
      have hx2 : pT t2 x = true := by rw [pT_true] at hx ⊢; omega
      simp only [List.takeWhile_cons, List.dropWhile_cons, hx, hx2, if_true, List.cons_append]
      rw [split_two h s]
    | false =>
      have e1 : (x :: s).takeWhile (pT t1) = [] := by rw [List.takeWhile_cons, hx]; rfl
      have e2 : (x :: s).dropWhile (pT t1) = x :: s := by rw [List.dropWhile_cons, hx]; rfl
      rw [e1, e2, List.nil_append]
theorem take_drop_nil (t : Int) : ∀ s : List S49, (s.dropWhile (pT t)).takeWhile (pT t) = []
  | [] => rfl
  | x :: s => by
    cases hx : pT t x with
    | true => rw [List.dropWhile_cons, hx]; exact take_drop_nil t s
    | false => rw [List.dropWhile_cons, hx]; show (x :: s).takeWhile (pT t) = []; rw [List.takeWhile_cons, hx]; rfl
theorem drop_head (t : Int) : ∀ (s : List S49) (x : S49) (r : List S49), s.dropWhile (pT t) = x :: r → t ≤ x.f0
  | [], x, r, h => by simp at h
  | y :: s, x, r, h => by
    cases hy : pT t y with
    | true => rw [List.dropWhile_cons, hy] at h; exact drop_head t s x r h
    | false =>
      rw [List.dropWhile_cons, hy] at h
      have h' : y :: s = x :: r := h
      injection h' with h1 h2
      subst h1
      exact pT_false.mp hy
theorem goes_j1 (y : List S30) (hy : y.length ≤ 40) (hok : okL y = true) (t m : Int) (ht : -1099511627776 ≤ t ∧ t ≤ 1099511627776) (hm : 0 ≤ m ∧ m ≤ 65535) : bursarlaw15_ExpiryGoes.j1 999 y t m = some true := by
  have hw1 : wrap64 m = m := by unfold wrap64; omega
  have hw2 : wrap64 (t + m) = t + m := by unfold wrap64; omega
  have hz := lap_ok hok (dueL y t)
  have hzl := lapAt_len y (dueL y t)
  have hzo := lap_ord y t
  have hla := due_len y t
  have hlb := due_len y (t + m)
  have hb : dueL y (t + m) = dueL y t ++ dueL (lapAt y (dueL y t)) (t + m) := by
    unfold dueL
    rw [split_two (show t ≤ t + m by omega), List.map_append]
    congr 2
    unfold dueL at hzo
    rw [hzo]
  have hd0 : dueL (lapAt y (dueL y t)) t = [] := by
    have : ∀ z : List S30, ordS z = (ordS y).dropWhile (pT t) → dueL z t = [] := fun z h => by unfold dueL; rw [h, take_drop_nil]; rfl
    exact this _ hzo
  have hlc := due_len (lapAt y (dueL y t)) (t + m)
  rw [hzl] at hlc
  have hlap := lapse_p hok t 997 (by omega)
  simp only [bursarlaw15_ExpiryGoes.j1]
  rw [due_p hok, Option.bind_some, hw1, hw2, due_p hok, Option.bind_some]
  have hlen : (dueL y t).length ≤ (dueL y (t + m)).length := by rw [hb, List.length_append]; omega
  have htk : (dueL y (t + m)).take ((dueL y t).length : Int).toNat = dueL y t := by rw [Int.toNat_natCast, hb, List.take_left]
  have hdr : (dueL y (t + m)).drop ((dueL y t).length : Int).toNat = dueL (lapAt y (dueL y t)) (t + m) := by rw [Int.toNat_natCast, hb, List.drop_left]
  rw [if_neg (by omega), if_pos (by omega), if_pos (by omega), htk, same_p _ (by omega) 998 (by omega), Option.bind_some]
  simp only [bursarlaw15_ExpiryGoes.j2]
  rw [if_neg (by decide), hlap, Option.bind_some]
  simp only
  rw [hzl, if_pos rfl, due_p hz, Option.bind_some, hd0]
  simp only [List.length_nil]
  rw [if_pos (show ((0 : Nat) : Int) = 0 from rfl), same_p _ (by omega) 997 (by omega), Option.bind_some, if_pos rfl, hw1, hw2, due_p hz, Option.bind_some, if_pos (by omega), if_pos (by omega), hdr, same_p _ (by omega) 997 (by omega), Option.bind_some]
  simp only [bursarlaw15_ExpiryGoes.j3]
  rw [if_neg (by decide)]
  unfold expiry_Next.f
  rw [if_pos hz, Option.bind_some, awake_p 996 (by omega)]
  generalize hzz : lapAt y (dueL y t) = z at *
  cases ho : ordS z with
  | nil => rfl
  | cons x r =>
    have hx := drop_head t (ordS y) x r (by rw [← hzo]; exact ho)
    obtain ⟨i, hi, hop, hxe⟩ := mem_ord (x := x) (by rw [ho]; exact List.mem_cons_self)
    have hu := hopen_may hop
    have hx0 : x.f0 = (rd_T30 z (i : Int)).f5 := by rw [hxe]; rfl
    have hw3 : wrap64 (x.f0 + 1) = x.f0 + 1 := by unfold wrap64; omega
    have hw4 : wrap64 (x.f0 + 1 - 1) = x.f0 := by unfold wrap64; omega
    simp only
    rw [if_pos trivial, hw3, if_pos (by omega), hw4, due_p hz, Option.bind_some]
    have e1 : dueL z x.f0 = [] := by
      unfold dueL
      rw [ho, List.takeWhile_cons, show pT x.f0 x = false from pT_false.mpr (Int.le_refl _)]; rfl
    have e2 : 0 < (dueL z (x.f0 + 1)).length := by
      unfold dueL
      rw [ho, List.takeWhile_cons, show pT (x.f0 + 1) x = true from pT_true.mpr (by omega)]
      exact Nat.succ_pos _
    rw [e1]
    simp only [List.length_nil]
    rw [if_pos (show ((0 : Nat) : Int) = 0 from rfl), due_p hz, Option.bind_some, if_pos (by omega)]
    rfl
theorem goes_pure (l0 : List S30) (a1 : Int) (a2 : Int) (w1 : (Lit.int .i64 a1).wf = true) (w2 : (Lit.int .u16 a2).wf = true) : bursarlaw15_ExpiryGoes.f 1000 l0 a1 a2 = some true := by
  have h2 : 0 ≤ a2 ∧ a2 ≤ 65535 := by
    simp [Lit.wf, IntKind.min, IntKind.max, IntKind.signed, IntKind.bits] at w2; omega
  obtain ⟨y, hy, hl, hok⟩ := few_p l0 1000 (by omega)
  have hokL := okL_few hl hok
  unfold bursarlaw15_ExpiryGoes.f
  rw [hy, Option.bind_some]
  by_cases h : a1 > 1099511627776
  · rw [if_pos h]
    simp only [bursarlaw15_ExpiryGoes.j0]
    rw [if_pos trivial]
    exact goes_j1 y hl hokL 7 a2 (by omega) h2
  · rw [if_neg h]
    simp only [bursarlaw15_ExpiryGoes.j0]
    by_cases h3 : a1 < -1099511627776
    · rw [if_pos (decide_eq_true h3)]
      exact goes_j1 y hl hokL 7 a2 (by omega) h2
    · rw [if_neg (by rw [decide_eq_false h3]; decide)]
      exact goes_j1 y hl hokL a1 a2 (by omega) h2
end Go.Proofs.Ytaifcadnnmicnaa.XE
