/- Plain facts of kept answers: which texts are of letters and digits, which answers and lists may be, what is found, kept and swept. -/
import Derived.Shelf.GgClosure.StringsIndexFunc
import Derived.Laws.RangeAny
import Derived.RowKit
import Derived.Test.YtmifpifhiiommaaDoorPu
namespace Go.Proofs.YtmifpifhiiommaaDoor.Dp
open Go.RowKit
/-- A digit or a great letter. -/
def lettC (c : Nat) : Bool := (decide (48 ≤ c) && decide (c ≤ 57)) || (decide (65 ≤ c) && decide (c ≤ 90))
def lettB (s : ByteArray) : Bool := s.data.toList.all fun b => lettC b.toNat
theorem lett_from (s : ByteArray) : ∀ (f pos : Nat), s.size ≤ f + pos → decide (0 ≤ Lib.idxFuncFrom (fun r => !lettC r) true s f pos) = !((s.data.toList.drop pos).all fun b => lettC b.toNat)
  | 0, pos, h => by
    have : s.data.toList.drop pos = [] := List.drop_eq_nil_of_le (by have : s.data.toList.length = s.size := rfl; omega)
    rw [this]; rfl
  | f + 1, pos, h => by
    unfold Lib.idxFuncFrom
    by_cases hp : pos < s.size
    · rw [if_pos hp]
      have hl : pos < s.data.toList.length := hp
      have hd : s.data.toList.drop pos = s[pos]'hp :: s.data.toList.drop (pos + 1) := by
        rw [List.drop_eq_getElem_cons hl]; rfl
      rw [hd, List.all_cons]
      by_cases ha : (s[pos]'hp).toNat < 128
      · rw [decode_ascii s pos hp ha]
        by_cases hc : lettC (s[pos]'hp).toNat = true
        · rw [if_neg (by simp [hc]), hc, Bool.true_and]
          exact lett_from s f (pos + 1) (by omega)
        · rw [if_pos (by simp [hc]), Bool.eq_false_iff.mpr hc, Bool.false_and]
          simp
      · have hh := decode_high s pos hp (by omega)
        have h1 : lettC (Utf8.decode s pos).1 = false := by unfold lettC; simp; omega
        have h2 : lettC (s[pos]'hp).toNat = false := by unfold lettC; simp; omega
        rw [if_pos (by rw [h1]; rfl), h2, Bool.false_and]
        simp
    · rw [if_neg hp]
      have : s.data.toList.drop pos = [] := List.drop_eq_nil_of_le (by have : s.data.toList.length = s.size := rfl; omega)
      rw [this]; rfl
theorem lett_law (s : ByteArray) : decide (0 ≤ Lib.idxFunc (fun r => !lettC r) true s) = !lettB s := lett_from s s.size 0 (by omega)
/-- An answer that may be: number, key, code, authorization, time. -/
def oneB (n : Int) (k c a : ByteArray) (t : Int) : Bool :=
  decide (1 ≤ n) && decide (n ≤ 2147483647) && decide (0 ≤ t) && decide (t ≤ 2147483647) && decide (k.size = 35) && lettB k && decide (c.size = 2) && Pu.allD c && decide (a.size = 6) && Pu.allD a
end Go.Proofs.YtmifpifhiiommaaDoor.Dp
