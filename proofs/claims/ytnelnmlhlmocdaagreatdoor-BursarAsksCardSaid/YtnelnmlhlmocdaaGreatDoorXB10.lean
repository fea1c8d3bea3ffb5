-- Written by wip/xprint.py, a session's program: printed out of the translation, with hand-written functions. Lean checks it.
import Derived.Test.YtnelnmlhlmocdaaGreatDoorXB0
import Derived.Test.YtnelnmlhlmocdaaGreatDoorXB2
import Derived.Test.YtnelnmlhlmocdaaGreatDoorXB9
namespace Go.Proofs.YtnelnmlhlmocdaaGreatDoor.XB
open Go.RowKit Go.Proofs.YtnelnmlhlmocdaaGreatDoorW.PrintWords Go.Proofs.YtnelnmlhlmocdaaGreatDoorW.PrintLast Go.Proofs.YtnelnmlhlmocdaaGreatDoorW.PrintMore
attribute [local go_sem] max2_int min2_int max_two min_two max_three min_three max_four min_four   -- for this text's walks alone
set_option linter.unusedVariables false
set_option linter.unusedSimpArgs false

/-! ### bursarref20_Key: function 14 -/
def bursarref20_Key.f (k : Nat) (a0_0 : ByteArray) (a0_1 : ByteArray) (a0_2 : ByteArray) (a0_3 : Int) (a0_4 : ByteArray) (a0_5 : ByteArray) (a0_6 : ByteArray) (a0_7 : ByteArray) (a0_8 : ByteArray) (a0_9 : Int) (a0_10 : Int) (a0_11 : ByteArray) : Option (ByteArray) := if a0_7.toList = ([] : List UInt8) then ((bursarref20_noughts.f k 12).bind fun t231 => (if a0_6.toList = ([] : List UInt8) then ((bursarref20_noughts.f k 6).bind fun t232 => (if 2 ≤ (a0_0.size : Int) then (if (a0_0.extract 1 2).size + a0_5.size ≤ 9223372036854775807 then (if ((a0_0.extract 1 2) ++ a0_5).size + t231.size ≤ 9223372036854775807 then (if (((a0_0.extract 1 2) ++ a0_5) ++ t231).size + t232.size ≤ 9223372036854775807 then (if ((((a0_0.extract 1 2) ++ a0_5) ++ t231) ++ t232).size + a0_4.size ≤ 9223372036854775807 then (some (((((a0_0.extract 1 2) ++ a0_5) ++ t231) ++ t232) ++ a0_4)) else (none)) else (none)) else (none)) else (none)) else (none))) else (if 2 ≤ (a0_0.size : Int) then (if (a0_0.extract 1 2).size + a0_5.size ≤ 9223372036854775807 then (if ((a0_0.extract 1 2) ++ a0_5).size + t231.size ≤ 9223372036854775807 then (if (((a0_0.extract 1 2) ++ a0_5) ++ t231).size + a0_6.size ≤ 9223372036854775807 then (if ((((a0_0.extract 1 2) ++ a0_5) ++ t231) ++ a0_6).size + a0_4.size ≤ 9223372036854775807 then (some (((((a0_0.extract 1 2) ++ a0_5) ++ t231) ++ a0_6) ++ a0_4)) else (none)) else (none)) else (none)) else (none)) else (none)))) else (if a0_6.toList = ([] : List UInt8) then ((bursarref20_noughts.f k 6).bind fun t233 => (if 2 ≤ (a0_0.size : Int) then (if (a0_0.extract 1 2).size + a0_5.size ≤ 9223372036854775807 then (if ((a0_0.extract 1 2) ++ a0_5).size + a0_7.size ≤ 9223372036854775807 then (if (((a0_0.extract 1 2) ++ a0_5) ++ a0_7).size + t233.size ≤ 9223372036854775807 then (if ((((a0_0.extract 1 2) ++ a0_5) ++ a0_7) ++ t233).size + a0_4.size ≤ 9223372036854775807 then (some (((((a0_0.extract 1 2) ++ a0_5) ++ a0_7) ++ t233) ++ a0_4)) else (none)) else (none)) else (none)) else (none)) else (none))) else (if 2 ≤ (a0_0.size : Int) then (if (a0_0.extract 1 2).size + a0_5.size ≤ 9223372036854775807 then (if ((a0_0.extract 1 2) ++ a0_5).size + a0_7.size ≤ 9223372036854775807 then (if (((a0_0.extract 1 2) ++ a0_5) ++ a0_7).size + a0_6.size ≤ 9223372036854775807 then (if ((((a0_0.extract 1 2) ++ a0_5) ++ a0_7) ++ a0_6).size + a0_4.size ≤ 9223372036854775807 then (some (((((a0_0.extract 1 2) ++ a0_5) ++ a0_7) ++ a0_6) ++ a0_4)) else (none)) else (none)) else (none)) else (none)) else (none)))
theorem bursarref20_Key.mono : ∀ a0 a1 a2 a3 a4 a5 a6 a7 a8 a9 a10 a11 k, LeO (bursarref20_Key.f k a0 a1 a2 a3 a4 a5 a6 a7 a8 a9 a10 a11) (bursarref20_Key.f (k + 1) a0 a1 a2 a3 a4 a5 a6 a7 a8 a9 a10 a11) := by
  intro a0 a1 a2 a3 a4 a5 a6 a7 a8 a9 a10 a11 k
  unfold bursarref20_Key.f
  repeat' first
      | (with_reducible exact bursarref20_noughts.mono _ _)
      | (with_reducible exact LeO.refl _)
      | (with_reducible exact LeO.none _)
      | (with_reducible refine LeO.ite ?_ ?_)
      | (with_reducible refine LeO.bind ?_ (fun _ => ?_))
      | exact bursarref20_noughts.mono _ _
      | exact LeO.none _
      | refine LeO.ite ?_ ?_
      | refine LeO.bind ?_ (fun _ => ?_)
set_option maxHeartbeats 8000000 in
set_option maxRecDepth 100000 in
theorem bursarref20_Key.calls (k : Nat) (a0_0 : ByteArray) (a0_1 : ByteArray) (a0_2 : ByteArray) (a0_3 : Int) (a0_4 : ByteArray) (a0_5 : ByteArray) (a0_6 : ByteArray) (a0_7 : ByteArray) (a0_8 : ByteArray) (a0_9 : Int) (a0_10 : Int) (a0_11 : ByteArray) (r : ByteArray) (w : World) (h : bursarref20_Key.f k a0_0 a0_1 a0_2 a0_3 a0_4 a0_5 a0_6 a0_7 a0_8 a0_9 a0_10 a0_11 = some r) :
    Calls Tryz.prog 14 #[.agg #[.string a0_0, .string a0_1, .string a0_2, .int .i64 a0_3, .string a0_4, .string a0_5, .string a0_6, .string a0_7, .string a0_8, .int .i64 a0_9, .int .i64 a0_10, .string a0_11]] w fun e w' => e = .returned (.string r) ∧ Below w.heap.size w w' := by
  have hu38 := Tryz.underlying38
  have HB := Aside0.mk (Below.refl w.heap.size w)
  have H : (if a0_7.toList = ([] : List UInt8) then ((bursarref20_noughts.f k 12).bind fun t231 => (if a0_6.toList = ([] : List UInt8) then ((bursarref20_noughts.f k 6).bind fun t232 => (if 2 ≤ (a0_0.size : Int) then (if (a0_0.extract 1 2).size + a0_5.size ≤ 9223372036854775807 then (if ((a0_0.extract 1 2) ++ a0_5).size + t231.size ≤ 9223372036854775807 then (if (((a0_0.extract 1 2) ++ a0_5) ++ t231).size + t232.size ≤ 9223372036854775807 then (if ((((a0_0.extract 1 2) ++ a0_5) ++ t231) ++ t232).size + a0_4.size ≤ 9223372036854775807 then (some (((((a0_0.extract 1 2) ++ a0_5) ++ t231) ++ t232) ++ a0_4)) else (none)) else (none)) else (none)) else (none)) else (none))) else (if 2 ≤ (a0_0.size : Int) then (if (a0_0.extract 1 2).size + a0_5.size ≤ 9223372036854775807 then (if ((a0_0.extract 1 2) ++ a0_5).size + t231.size ≤ 9223372036854775807 then (if (((a0_0.extract 1 2) ++ a0_5) ++ t231).size + a0_6.size ≤ 9223372036854775807 then (if ((((a0_0.extract 1 2) ++ a0_5) ++ t231) ++ a0_6).size + a0_4.size ≤ 9223372036854775807 then (some (((((a0_0.extract 1 2) ++ a0_5) ++ t231) ++ a0_6) ++ a0_4)) else (none)) else (none)) else (none)) else (none)) else (none)))) else (if a0_6.toList = ([] : List UInt8) then ((bursarref20_noughts.f k 6).bind fun t233 => (if 2 ≤ (a0_0.size : Int) then (if (a0_0.extract 1 2).size + a0_5.size ≤ 9223372036854775807 then (if ((a0_0.extract 1 2) ++ a0_5).size + a0_7.size ≤ 9223372036854775807 then (if (((a0_0.extract 1 2) ++ a0_5) ++ a0_7).size + t233.size ≤ 9223372036854775807 then (if ((((a0_0.extract 1 2) ++ a0_5) ++ a0_7) ++ t233).size + a0_4.size ≤ 9223372036854775807 then (some (((((a0_0.extract 1 2) ++ a0_5) ++ a0_7) ++ t233) ++ a0_4)) else (none)) else (none)) else (none)) else (none)) else (none))) else (if 2 ≤ (a0_0.size : Int) then (if (a0_0.extract 1 2).size + a0_5.size ≤ 9223372036854775807 then (if ((a0_0.extract 1 2) ++ a0_5).size + a0_7.size ≤ 9223372036854775807 then (if (((a0_0.extract 1 2) ++ a0_5) ++ a0_7).size + a0_6.size ≤ 9223372036854775807 then (if ((((a0_0.extract 1 2) ++ a0_5) ++ a0_7) ++ a0_6).size + a0_4.size ≤ 9223372036854775807 then (some (((((a0_0.extract 1 2) ++ a0_5) ++ a0_7) ++ a0_6) ++ a0_4)) else (none)) else (none)) else (none)) else (none)) else (none)))) = some r := h
  clear h
  by_cases c2 : a0_7.toList = ([] : List UInt8)
  · rw [if_pos c2] at H
    have c2b0 : (a0_7.toList == ([] : List UInt8)) = true := beq_iff_eq.mpr c2
    have c2b1 : (a0_7.toList != ([] : List UInt8)) = false := bne_eq_false_iff_eq.mpr c2
    clear c2
    replace H := Option.bind_eq_some_iff.mp H
    obtain ⟨t231, A30, H⟩ := H
    replace H : (if a0_6.toList = ([] : List UInt8) then ((bursarref20_noughts.f k 6).bind fun t232 => (if 2 ≤ (a0_0.size : Int) then (if (a0_0.extract 1 2).size + a0_5.size ≤ 9223372036854775807 then (if ((a0_0.extract 1 2) ++ a0_5).size + t231.size ≤ 9223372036854775807 then (if (((a0_0.extract 1 2) ++ a0_5) ++ t231).size + t232.size ≤ 9223372036854775807 then (if ((((a0_0.extract 1 2) ++ a0_5) ++ t231) ++ t232).size + a0_4.size ≤ 9223372036854775807 then (some (((((a0_0.extract 1 2) ++ a0_5) ++ t231) ++ t232) ++ a0_4)) else (none)) else (none)) else (none)) else (none)) else (none))) else (if 2 ≤ (a0_0.size : Int) then (if (a0_0.extract 1 2).size + a0_5.size ≤ 9223372036854775807 then (if ((a0_0.extract 1 2) ++ a0_5).size + t231.size ≤ 9223372036854775807 then (if (((a0_0.extract 1 2) ++ a0_5) ++ t231).size + a0_6.size ≤ 9223372036854775807 then (if ((((a0_0.extract 1 2) ++ a0_5) ++ t231) ++ a0_6).size + a0_4.size ≤ 9223372036854775807 then (some (((((a0_0.extract 1 2) ++ a0_5) ++ t231) ++ a0_6) ++ a0_4)) else (none)) else (none)) else (none)) else (none)) else (none))) = some r := H
    have A3 := Aside0.mk A30
    clear A30
    by_cases c4 : a0_6.toList = ([] : List UInt8)
    · rw [if_pos c4] at H
      have c4b0 : (a0_6.toList == ([] : List UInt8)) = true := beq_iff_eq.mpr c4
      have c4b1 : (a0_6.toList != ([] : List UInt8)) = false := bne_eq_false_iff_eq.mpr c4
      clear c4
      replace H := Option.bind_eq_some_iff.mp H
      obtain ⟨t232, A50, H⟩ := H
      replace H : (if 2 ≤ (a0_0.size : Int) then (if (a0_0.extract 1 2).size + a0_5.size ≤ 9223372036854775807 then (if ((a0_0.extract 1 2) ++ a0_5).size + t231.size ≤ 9223372036854775807 then (if (((a0_0.extract 1 2) ++ a0_5) ++ t231).size + t232.size ≤ 9223372036854775807 then (if ((((a0_0.extract 1 2) ++ a0_5) ++ t231) ++ t232).size + a0_4.size ≤ 9223372036854775807 then (some (((((a0_0.extract 1 2) ++ a0_5) ++ t231) ++ t232) ++ a0_4)) else (none)) else (none)) else (none)) else (none)) else (none)) = some r := H
      have A5 := Aside0.mk A50
      clear A50
      by_cases c6 : 2 ≤ (a0_0.size : Int)
      · rw [if_pos c6] at H
        have c6b0 := eq_true c6
        have c6b1 : decide (2 ≤ (a0_0.size : Int)) = true := decide_eq_true c6
        clear c6
        by_cases c7 : (a0_0.extract 1 2).size + a0_5.size ≤ 9223372036854775807
        · rw [if_pos c7] at H
          have c7b0 := eq_true c7
          have c7b1 : decide ((a0_0.extract 1 2).size + a0_5.size ≤ 9223372036854775807) = true := decide_eq_true c7
          try have c7b2 : (9223372036854775807 < (a0_0.extract 1 2).size + a0_5.size) = False := eq_false (Nat.not_lt.2 c7)
          by_cases c8 : ((a0_0.extract 1 2) ++ a0_5).size + t231.size ≤ 9223372036854775807
          · rw [if_pos c8] at H
            have c8b0 := eq_true c8
            have c8b1 : decide (((a0_0.extract 1 2) ++ a0_5).size + t231.size ≤ 9223372036854775807) = true := decide_eq_true c8
            try have c8b2 : (9223372036854775807 < ((a0_0.extract 1 2) ++ a0_5).size + t231.size) = False := eq_false (Nat.not_lt.2 c8)
            by_cases c9 : (((a0_0.extract 1 2) ++ a0_5) ++ t231).size + t232.size ≤ 9223372036854775807
            · rw [if_pos c9] at H
              have c9b0 := eq_true c9
              have c9b1 : decide ((((a0_0.extract 1 2) ++ a0_5) ++ t231).size + t232.size ≤ 9223372036854775807) = true := decide_eq_true c9
              try have c9b2 : (9223372036854775807 < (((a0_0.extract 1 2) ++ a0_5) ++ t231).size + t232.size) = False := eq_false (Nat.not_lt.2 c9)
              by_cases c10 : ((((a0_0.extract 1 2) ++ a0_5) ++ t231) ++ t232).size + a0_4.size ≤ 9223372036854775807
              · rw [if_pos c10] at H
                have c10b0 := eq_true c10
                have c10b1 : decide (((((a0_0.extract 1 2) ++ a0_5) ++ t231) ++ t232).size + a0_4.size ≤ 9223372036854775807) = true := decide_eq_true c10
                try have c10b2 : (9223372036854775807 < ((((a0_0.extract 1 2) ++ a0_5) ++ t231) ++ t232).size + a0_4.size) = False := eq_false (Nat.not_lt.2 c10)
                obtain rfl := Option.some.inj H
                go_enter Tryz.func14, Tryz.ntmps14
                go_wp2_with (first | ((with_reducible refine gate_dst (N := 1) rfl ?_); refine box_event ?hg (N := 1) ?hd (cs := #[.string a0_0, .string a0_1, .string a0_2, .int .i64 a0_3, .string a0_4, .string a0_5, .string a0_6, .string a0_7, .string a0_8, .int .i64 a0_9, .int .i64 a0_10, .string a0_11]) (t := 38) ?hr ?_; (case hd => rfl); (case hg => rfl); (case hr => first | (go_simp; done) | (go_simp; rfl)); intro gb230 hg w11 hbox hb; have n0_ := Aside0.mk (below_step (by repeat (first | (with_reducible first | exact HB.out | apply below_alloc | apply pw_below_drewN | apply below_drew1) | exact HB.out)) hb); have n1_ := Aside0.mk (hbox); have n2_ := Aside0.mk ((by rw [hg]; exact (below_size (by repeat (first | (with_reducible first | exact HB.out | apply below_alloc | apply pw_below_drewN | apply below_drew1) | exact HB.out))) : w.heap.size ≤ gb230)); have n3_ := Aside0.mk ((by rw [hg]; exact (below_size (by repeat (first | (with_reducible first | exact HB.out | apply below_alloc | apply pw_below_drewN | apply below_drew1) | exact HB.out))) : w.heap.size ≤ gb230)); clear HB; have HB := n0_; have BK230 := n1_; have GW230 := n2_; have GE230 := n3_; clear n0_ n1_ n2_ n3_; clear hb hbox hg; have hcz12_0 := blk_cell BK230.out; have hfz12_0 := blk_frozen BK230.out) | (go_at_call 37; (with_reducible refine (bursarref20_noughts.calls k 12 t231 _ A3.out).mono ?_); rintro e w' ⟨rfl, ⟨nd, rfl⟩⟩; (try first | exact ⟨rfl, _, World.drewN_drewN _ _ _⟩ | exact ⟨rfl, _, Eq.trans (World.drewN_drewN _ _ _) (congrArg (World.drewN _) (Nat.add_assoc _ _ _))⟩)) | (go_at_call 37; (with_reducible refine (bursarref20_noughts.calls k 6 t232 _ A5.out).mono ?_); rintro e w' ⟨rfl, ⟨nd, rfl⟩⟩; (try first | exact ⟨rfl, _, World.drewN_drewN _ _ _⟩ | exact ⟨rfl, _, Eq.trans (World.drewN_drewN _ _ _) (congrArg (World.drewN _) (Nat.add_assoc _ _ _))⟩)))
                repeat (go_quiet (first | ((with_reducible refine gate_dst (N := 1) rfl ?_); refine box_event ?hg (N := 1) ?hd (cs := #[.string a0_0, .string a0_1, .string a0_2, .int .i64 a0_3, .string a0_4, .string a0_5, .string a0_6, .string a0_7, .string a0_8, .int .i64 a0_9, .int .i64 a0_10, .string a0_11]) (t := 38) ?hr ?_; (case hd => rfl); (case hg => rfl); (case hr => first | (go_simp; done) | (go_simp; rfl)); intro gb230 hg w11 hbox hb; have n0_ := Aside0.mk (below_step (by repeat (first | (with_reducible first | exact HB.out | apply below_alloc | apply pw_below_drewN | apply below_drew1) | exact HB.out)) hb); have n1_ := Aside0.mk (hbox); have n2_ := Aside0.mk ((by rw [hg]; exact (below_size (by repeat (first | (with_reducible first | exact HB.out | apply below_alloc | apply pw_below_drewN | apply below_drew1) | exact HB.out))) : w.heap.size ≤ gb230)); have n3_ := Aside0.mk ((by rw [hg]; exact (below_size (by repeat (first | (with_reducible first | exact HB.out | apply below_alloc | apply pw_below_drewN | apply below_drew1) | exact HB.out))) : w.heap.size ≤ gb230)); clear HB; have HB := n0_; have BK230 := n1_; have GW230 := n2_; have GE230 := n3_; clear n0_ n1_ n2_ n3_; clear hb hbox hg; have hcz12_0 := blk_cell BK230.out; have hfz12_0 := blk_frozen BK230.out) | (go_at_call 37; (with_reducible refine (bursarref20_noughts.calls k 12 t231 _ A3.out).mono ?_); rintro e w' ⟨rfl, ⟨nd, rfl⟩⟩; (try first | exact ⟨rfl, _, World.drewN_drewN _ _ _⟩ | exact ⟨rfl, _, Eq.trans (World.drewN_drewN _ _ _) (congrArg (World.drewN _) (Nat.add_assoc _ _ _))⟩)) | (go_at_call 37; (with_reducible refine (bursarref20_noughts.calls k 6 t232 _ A5.out).mono ?_); rintro e w' ⟨rfl, ⟨nd, rfl⟩⟩; (try first | exact ⟨rfl, _, World.drewN_drewN _ _ _⟩ | exact ⟨rfl, _, Eq.trans (World.drewN_drewN _ _ _) (congrArg (World.drewN _) (Nat.add_assoc _ _ _))⟩))); try go_wp2_with (first | ((with_reducible refine gate_dst (N := 1) rfl ?_); refine box_event ?hg (N := 1) ?hd (cs := #[.string a0_0, .string a0_1, .string a0_2, .int .i64 a0_3, .string a0_4, .string a0_5, .string a0_6, .string a0_7, .string a0_8, .int .i64 a0_9, .int .i64 a0_10, .string a0_11]) (t := 38) ?hr ?_; (case hd => rfl); (case hg => rfl); (case hr => first | (go_simp; done) | (go_simp; rfl)); intro gb230 hg w11 hbox hb; have n0_ := Aside0.mk (below_step (by repeat (first | (with_reducible first | exact HB.out | apply below_alloc | apply pw_below_drewN | apply below_drew1) | exact HB.out)) hb); have n1_ := Aside0.mk (hbox); have n2_ := Aside0.mk ((by rw [hg]; exact (below_size (by repeat (first | (with_reducible first | exact HB.out | apply below_alloc | apply pw_below_drewN | apply below_drew1) | exact HB.out))) : w.heap.size ≤ gb230)); have n3_ := Aside0.mk ((by rw [hg]; exact (below_size (by repeat (first | (with_reducible first | exact HB.out | apply below_alloc | apply pw_below_drewN | apply below_drew1) | exact HB.out))) : w.heap.size ≤ gb230)); clear HB; have HB := n0_; have BK230 := n1_; have GW230 := n2_; have GE230 := n3_; clear n0_ n1_ n2_ n3_; clear hb hbox hg; have hcz12_0 := blk_cell BK230.out; have hfz12_0 := blk_frozen BK230.out) | (go_at_call 37; (with_reducible refine (bursarref20_noughts.calls k 12 t231 _ A3.out).mono ?_); rintro e w' ⟨rfl, ⟨nd, rfl⟩⟩; (try first | exact ⟨rfl, _, World.drewN_drewN _ _ _⟩ | exact ⟨rfl, _, Eq.trans (World.drewN_drewN _ _ _) (congrArg (World.drewN _) (Nat.add_assoc _ _ _))⟩)) | (go_at_call 37; (with_reducible refine (bursarref20_noughts.calls k 6 t232 _ A5.out).mono ?_); rintro e w' ⟨rfl, ⟨nd, rfl⟩⟩; (try first | exact ⟨rfl, _, World.drewN_drewN _ _ _⟩ | exact ⟨rfl, _, Eq.trans (World.drewN_drewN _ _ _) (congrArg (World.drewN _) (Nat.add_assoc _ _ _))⟩))))
                go_ret
                exact ⟨by first | rfl | (simp [errW_none, errW_some] <;> rfl) | (simp [*, errW_none, errW_some] <;> rfl), by repeat (first | (with_reducible first | exact HB.out | apply below_alloc | apply pw_below_drewN | apply below_drew1 | refine below_set ?_ GE230.out) | exact HB.out)⟩
              · rw [if_neg c10] at H
                exact absurd H (by simp)
            · rw [if_neg c9] at H
              exact absurd H (by simp)
          · rw [if_neg c8] at H
            exact absurd H (by simp)
        · rw [if_neg c7] at H
          exact absurd H (by simp)
      · rw [if_neg c6] at H
        exact absurd H (by simp)
    · rw [if_neg c4] at H
      have c4b0 : (a0_6.toList == ([] : List UInt8)) = false := beq_eq_false_iff_ne.mpr c4
      have c4b1 : (a0_6.toList != ([] : List UInt8)) = true := bne_iff_ne.mpr c4
      by_cases c13 : 2 ≤ (a0_0.size : Int)
      · rw [if_pos c13] at H
        have c13b0 := eq_true c13
        have c13b1 : decide (2 ≤ (a0_0.size : Int)) = true := decide_eq_true c13
        clear c13
        by_cases c14 : (a0_0.extract 1 2).size + a0_5.size ≤ 9223372036854775807
        · rw [if_pos c14] at H
          have c14b0 := eq_true c14
          have c14b1 : decide ((a0_0.extract 1 2).size + a0_5.size ≤ 9223372036854775807) = true := decide_eq_true c14
          try have c14b2 : (9223372036854775807 < (a0_0.extract 1 2).size + a0_5.size) = False := eq_false (Nat.not_lt.2 c14)
          by_cases c15 : ((a0_0.extract 1 2) ++ a0_5).size + t231.size ≤ 9223372036854775807
          · rw [if_pos c15] at H
            have c15b0 := eq_true c15
            have c15b1 : decide (((a0_0.extract 1 2) ++ a0_5).size + t231.size ≤ 9223372036854775807) = true := decide_eq_true c15
            try have c15b2 : (9223372036854775807 < ((a0_0.extract 1 2) ++ a0_5).size + t231.size) = False := eq_false (Nat.not_lt.2 c15)
            by_cases c16 : (((a0_0.extract 1 2) ++ a0_5) ++ t231).size + a0_6.size ≤ 9223372036854775807
            · rw [if_pos c16] at H
              have c16b0 := eq_true c16
              have c16b1 : decide ((((a0_0.extract 1 2) ++ a0_5) ++ t231).size + a0_6.size ≤ 9223372036854775807) = true := decide_eq_true c16
              try have c16b2 : (9223372036854775807 < (((a0_0.extract 1 2) ++ a0_5) ++ t231).size + a0_6.size) = False := eq_false (Nat.not_lt.2 c16)
              by_cases c17 : ((((a0_0.extract 1 2) ++ a0_5) ++ t231) ++ a0_6).size + a0_4.size ≤ 9223372036854775807
              · rw [if_pos c17] at H
                have c17b0 := eq_true c17
                have c17b1 : decide (((((a0_0.extract 1 2) ++ a0_5) ++ t231) ++ a0_6).size + a0_4.size ≤ 9223372036854775807) = true := decide_eq_true c17
                try have c17b2 : (9223372036854775807 < ((((a0_0.extract 1 2) ++ a0_5) ++ t231) ++ a0_6).size + a0_4.size) = False := eq_false (Nat.not_lt.2 c17)
                obtain rfl := Option.some.inj H
                go_enter Tryz.func14, Tryz.ntmps14
                go_wp2_with (first | ((with_reducible refine gate_dst (N := 1) rfl ?_); refine box_event ?hg (N := 1) ?hd (cs := #[.string a0_0, .string a0_1, .string a0_2, .int .i64 a0_3, .string a0_4, .string a0_5, .string a0_6, .string a0_7, .string a0_8, .int .i64 a0_9, .int .i64 a0_10, .string a0_11]) (t := 38) ?hr ?_; (case hd => rfl); (case hg => rfl); (case hr => first | (go_simp; done) | (go_simp; rfl)); intro gb230 hg w18 hbox hb; have n0_ := Aside0.mk (below_step (by repeat (first | (with_reducible first | exact HB.out | apply below_alloc | apply pw_below_drewN | apply below_drew1) | exact HB.out)) hb); have n1_ := Aside0.mk (hbox); have n2_ := Aside0.mk ((by rw [hg]; exact (below_size (by repeat (first | (with_reducible first | exact HB.out | apply below_alloc | apply pw_below_drewN | apply below_drew1) | exact HB.out))) : w.heap.size ≤ gb230)); have n3_ := Aside0.mk ((by rw [hg]; exact (below_size (by repeat (first | (with_reducible first | exact HB.out | apply below_alloc | apply pw_below_drewN | apply below_drew1) | exact HB.out))) : w.heap.size ≤ gb230)); clear HB; have HB := n0_; have BK230 := n1_; have GW230 := n2_; have GE230 := n3_; clear n0_ n1_ n2_ n3_; clear hb hbox hg; have hcz19_0 := blk_cell BK230.out; have hfz19_0 := blk_frozen BK230.out) | (go_at_call 37; (with_reducible refine (bursarref20_noughts.calls k 12 t231 _ A3.out).mono ?_); rintro e w' ⟨rfl, ⟨nd, rfl⟩⟩; (try first | exact ⟨rfl, _, World.drewN_drewN _ _ _⟩ | exact ⟨rfl, _, Eq.trans (World.drewN_drewN _ _ _) (congrArg (World.drewN _) (Nat.add_assoc _ _ _))⟩)))
                repeat (go_quiet (first | ((with_reducible refine gate_dst (N := 1) rfl ?_); refine box_event ?hg (N := 1) ?hd (cs := #[.string a0_0, .string a0_1, .string a0_2, .int .i64 a0_3, .string a0_4, .string a0_5, .string a0_6, .string a0_7, .string a0_8, .int .i64 a0_9, .int .i64 a0_10, .string a0_11]) (t := 38) ?hr ?_; (case hd => rfl); (case hg => rfl); (case hr => first | (go_simp; done) | (go_simp; rfl)); intro gb230 hg w18 hbox hb; have n0_ := Aside0.mk (below_step (by repeat (first | (with_reducible first | exact HB.out | apply below_alloc | apply pw_below_drewN | apply below_drew1) | exact HB.out)) hb); have n1_ := Aside0.mk (hbox); have n2_ := Aside0.mk ((by rw [hg]; exact (below_size (by repeat (first | (with_reducible first | exact HB.out | apply below_alloc | apply pw_below_drewN | apply below_drew1) | exact HB.out))) : w.heap.size ≤ gb230)); have n3_ := Aside0.mk ((by rw [hg]; exact (below_size (by repeat (first | (with_reducible first | exact HB.out | apply below_alloc | apply pw_below_drewN | apply below_drew1) | exact HB.out))) : w.heap.size ≤ gb230)); clear HB; have HB := n0_; have BK230 := n1_; have GW230 := n2_; have GE230 := n3_; clear n0_ n1_ n2_ n3_; clear hb hbox hg; have hcz19_0 := blk_cell BK230.out; have hfz19_0 := blk_frozen BK230.out) | (go_at_call 37; (with_reducible refine (bursarref20_noughts.calls k 12 t231 _ A3.out).mono ?_); rintro e w' ⟨rfl, ⟨nd, rfl⟩⟩; (try first | exact ⟨rfl, _, World.drewN_drewN _ _ _⟩ | exact ⟨rfl, _, Eq.trans (World.drewN_drewN _ _ _) (congrArg (World.drewN _) (Nat.add_assoc _ _ _))⟩))); try go_wp2_with (first | ((with_reducible refine gate_dst (N := 1) rfl ?_); refine box_event ?hg (N := 1) ?hd (cs := #[.string a0_0, .string a0_1, .string a0_2, .int .i64 a0_3, .string a0_4, .string a0_5, .string a0_6, .string a0_7, .string a0_8, .int .i64 a0_9, .int .i64 a0_10, .string a0_11]) (t := 38) ?hr ?_; (case hd => rfl); (case hg => rfl); (case hr => first | (go_simp; done) | (go_simp; rfl)); intro gb230 hg w18 hbox hb; have n0_ := Aside0.mk (below_step (by repeat (first | (with_reducible first | exact HB.out | apply below_alloc | apply pw_below_drewN | apply below_drew1) | exact HB.out)) hb); have n1_ := Aside0.mk (hbox); have n2_ := Aside0.mk ((by rw [hg]; exact (below_size (by repeat (first | (with_reducible first | exact HB.out | apply below_alloc | apply pw_below_drewN | apply below_drew1) | exact HB.out))) : w.heap.size ≤ gb230)); have n3_ := Aside0.mk ((by rw [hg]; exact (below_size (by repeat (first | (with_reducible first | exact HB.out | apply below_alloc | apply pw_below_drewN | apply below_drew1) | exact HB.out))) : w.heap.size ≤ gb230)); clear HB; have HB := n0_; have BK230 := n1_; have GW230 := n2_; have GE230 := n3_; clear n0_ n1_ n2_ n3_; clear hb hbox hg; have hcz19_0 := blk_cell BK230.out; have hfz19_0 := blk_frozen BK230.out) | (go_at_call 37; (with_reducible refine (bursarref20_noughts.calls k 12 t231 _ A3.out).mono ?_); rintro e w' ⟨rfl, ⟨nd, rfl⟩⟩; (try first | exact ⟨rfl, _, World.drewN_drewN _ _ _⟩ | exact ⟨rfl, _, Eq.trans (World.drewN_drewN _ _ _) (congrArg (World.drewN _) (Nat.add_assoc _ _ _))⟩))))
                go_ret
                exact ⟨by first | rfl | (simp [errW_none, errW_some] <;> rfl) | (simp [*, errW_none, errW_some] <;> rfl), by repeat (first | (with_reducible first | exact HB.out | apply below_alloc | apply pw_below_drewN | apply below_drew1 | refine below_set ?_ GE230.out) | exact HB.out)⟩
              · rw [if_neg c17] at H
                exact absurd H (by simp)
            · rw [if_neg c16] at H
              exact absurd H (by simp)
          · rw [if_neg c15] at H
            exact absurd H (by simp)
        · rw [if_neg c14] at H
          exact absurd H (by simp)
      · rw [if_neg c13] at H
        exact absurd H (by simp)
  · rw [if_neg c2] at H
    have c2b0 : (a0_7.toList == ([] : List UInt8)) = false := beq_eq_false_iff_ne.mpr c2
    have c2b1 : (a0_7.toList != ([] : List UInt8)) = true := bne_iff_ne.mpr c2
    by_cases c20 : a0_6.toList = ([] : List UInt8)
    · rw [if_pos c20] at H
      have c20b0 : (a0_6.toList == ([] : List UInt8)) = true := beq_iff_eq.mpr c20
      have c20b1 : (a0_6.toList != ([] : List UInt8)) = false := bne_eq_false_iff_eq.mpr c20
      clear c20
      replace H := Option.bind_eq_some_iff.mp H
      obtain ⟨t233, A210, H⟩ := H
      replace H : (if 2 ≤ (a0_0.size : Int) then (if (a0_0.extract 1 2).size + a0_5.size ≤ 9223372036854775807 then (if ((a0_0.extract 1 2) ++ a0_5).size + a0_7.size ≤ 9223372036854775807 then (if (((a0_0.extract 1 2) ++ a0_5) ++ a0_7).size + t233.size ≤ 9223372036854775807 then (if ((((a0_0.extract 1 2) ++ a0_5) ++ a0_7) ++ t233).size + a0_4.size ≤ 9223372036854775807 then (some (((((a0_0.extract 1 2) ++ a0_5) ++ a0_7) ++ t233) ++ a0_4)) else (none)) else (none)) else (none)) else (none)) else (none)) = some r := H
      have A21 := Aside0.mk A210
      clear A210
      by_cases c22 : 2 ≤ (a0_0.size : Int)
      · rw [if_pos c22] at H
        have c22b0 := eq_true c22
        have c22b1 : decide (2 ≤ (a0_0.size : Int)) = true := decide_eq_true c22
        clear c22
        by_cases c23 : (a0_0.extract 1 2).size + a0_5.size ≤ 9223372036854775807
        · rw [if_pos c23] at H
          have c23b0 := eq_true c23
          have c23b1 : decide ((a0_0.extract 1 2).size + a0_5.size ≤ 9223372036854775807) = true := decide_eq_true c23
          try have c23b2 : (9223372036854775807 < (a0_0.extract 1 2).size + a0_5.size) = False := eq_false (Nat.not_lt.2 c23)
          by_cases c24 : ((a0_0.extract 1 2) ++ a0_5).size + a0_7.size ≤ 9223372036854775807
          · rw [if_pos c24] at H
            have c24b0 := eq_true c24
            have c24b1 : decide (((a0_0.extract 1 2) ++ a0_5).size + a0_7.size ≤ 9223372036854775807) = true := decide_eq_true c24
            try have c24b2 : (9223372036854775807 < ((a0_0.extract 1 2) ++ a0_5).size + a0_7.size) = False := eq_false (Nat.not_lt.2 c24)
            by_cases c25 : (((a0_0.extract 1 2) ++ a0_5) ++ a0_7).size + t233.size ≤ 9223372036854775807
            · rw [if_pos c25] at H
              have c25b0 := eq_true c25
              have c25b1 : decide ((((a0_0.extract 1 2) ++ a0_5) ++ a0_7).size + t233.size ≤ 9223372036854775807) = true := decide_eq_true c25
              try have c25b2 : (9223372036854775807 < (((a0_0.extract 1 2) ++ a0_5) ++ a0_7).size + t233.size) = False := eq_false (Nat.not_lt.2 c25)
              by_cases c26 : ((((a0_0.extract 1 2) ++ a0_5) ++ a0_7) ++ t233).size + a0_4.size ≤ 9223372036854775807
              · rw [if_pos c26] at H
                have c26b0 := eq_true c26
                have c26b1 : decide (((((a0_0.extract 1 2) ++ a0_5) ++ a0_7) ++ t233).size + a0_4.size ≤ 9223372036854775807) = true := decide_eq_true c26
                try have c26b2 : (9223372036854775807 < ((((a0_0.extract 1 2) ++ a0_5) ++ a0_7) ++ t233).size + a0_4.size) = False := eq_false (Nat.not_lt.2 c26)
                obtain rfl := Option.some.inj H
                go_enter Tryz.func14, Tryz.ntmps14
                go_wp2_with (first | ((with_reducible refine gate_dst (N := 1) rfl ?_); refine box_event ?hg (N := 1) ?hd (cs := #[.string a0_0, .string a0_1, .string a0_2, .int .i64 a0_3, .string a0_4, .string a0_5, .string a0_6, .string a0_7, .string a0_8, .int .i64 a0_9, .int .i64 a0_10, .string a0_11]) (t := 38) ?hr ?_; (case hd => rfl); (case hg => rfl); (case hr => first | (go_simp; done) | (go_simp; rfl)); intro gb230 hg w27 hbox hb; have n0_ := Aside0.mk (below_step (by repeat (first | (with_reducible first | exact HB.out | apply below_alloc | apply pw_below_drewN | apply below_drew1) | exact HB.out)) hb); have n1_ := Aside0.mk (hbox); have n2_ := Aside0.mk ((by rw [hg]; exact (below_size (by repeat (first | (with_reducible first | exact HB.out | apply below_alloc | apply pw_below_drewN | apply below_drew1) | exact HB.out))) : w.heap.size ≤ gb230)); have n3_ := Aside0.mk ((by rw [hg]; exact (below_size (by repeat (first | (with_reducible first | exact HB.out | apply below_alloc | apply pw_below_drewN | apply below_drew1) | exact HB.out))) : w.heap.size ≤ gb230)); clear HB; have HB := n0_; have BK230 := n1_; have GW230 := n2_; have GE230 := n3_; clear n0_ n1_ n2_ n3_; clear hb hbox hg; have hcz28_0 := blk_cell BK230.out; have hfz28_0 := blk_frozen BK230.out) | (go_at_call 37; (with_reducible refine (bursarref20_noughts.calls k 6 t233 _ A21.out).mono ?_); rintro e w' ⟨rfl, ⟨nd, rfl⟩⟩; (try first | exact ⟨rfl, _, World.drewN_drewN _ _ _⟩ | exact ⟨rfl, _, Eq.trans (World.drewN_drewN _ _ _) (congrArg (World.drewN _) (Nat.add_assoc _ _ _))⟩)))
                repeat (go_quiet (first | ((with_reducible refine gate_dst (N := 1) rfl ?_); refine box_event ?hg (N := 1) ?hd (cs := #[.string a0_0, .string a0_1, .string a0_2, .int .i64 a0_3, .string a0_4, .string a0_5, .string a0_6, .string a0_7, .string a0_8, .int .i64 a0_9, .int .i64 a0_10, .string a0_11]) (t := 38) ?hr ?_; (case hd => rfl); (case hg => rfl); (case hr => first | (go_simp; done) | (go_simp; rfl)); intro gb230 hg w27 hbox hb; have n0_ := Aside0.mk (below_step (by repeat (first | (with_reducible first | exact HB.out | apply below_alloc | apply pw_below_drewN | apply below_drew1) | exact HB.out)) hb); have n1_ := Aside0.mk (hbox); have n2_ := Aside0.mk ((by rw [hg]; exact (below_size (by repeat (first | (with_reducible first | exact HB.out | apply below_alloc | apply pw_below_drewN | apply below_drew1) | exact HB.out))) : w.heap.size ≤ gb230)); have n3_ := Aside0.mk ((by rw [hg]; exact (below_size (by repeat (first | (with_reducible first | exact HB.out | apply below_alloc | apply pw_below_drewN | apply below_drew1) | exact HB.out))) : w.heap.size ≤ gb230)); clear HB; have HB := n0_; have BK230 := n1_; have GW230 := n2_; have GE230 := n3_; clear n0_ n1_ n2_ n3_; clear hb hbox hg; have hcz28_0 := blk_cell BK230.out; have hfz28_0 := blk_frozen BK230.out) | (go_at_call 37; (with_reducible refine (bursarref20_noughts.calls k 6 t233 _ A21.out).mono ?_); rintro e w' ⟨rfl, ⟨nd, rfl⟩⟩; (try first | exact ⟨rfl, _, World.drewN_drewN _ _ _⟩ | exact ⟨rfl, _, Eq.trans (World.drewN_drewN _ _ _) (congrArg (World.drewN _) (Nat.add_assoc _ _ _))⟩))); try go_wp2_with (first | ((with_reducible refine gate_dst (N := 1) rfl ?_); refine box_event ?hg (N := 1) ?hd (cs := #[.string a0_0, .string a0_1, .string a0_2, .int .i64 a0_3, .string a0_4, .string a0_5, .string a0_6, .string a0_7, .string a0_8, .int .i64 a0_9, .int .i64 a0_10, .string a0_11]) (t := 38) ?hr ?_; (case hd => rfl); (case hg => rfl); (case hr => first | (go_simp; done) | (go_simp; rfl)); intro gb230 hg w27 hbox hb; have n0_ := Aside0.mk (below_step (by repeat (first | (with_reducible first | exact HB.out | apply below_alloc | apply pw_below_drewN | apply below_drew1) | exact HB.out)) hb); have n1_ := Aside0.mk (hbox); have n2_ := Aside0.mk ((by rw [hg]; exact (below_size (by repeat (first | (with_reducible first | exact HB.out | apply below_alloc | apply pw_below_drewN | apply below_drew1) | exact HB.out))) : w.heap.size ≤ gb230)); have n3_ := Aside0.mk ((by rw [hg]; exact (below_size (by repeat (first | (with_reducible first | exact HB.out | apply below_alloc | apply pw_below_drewN | apply below_drew1) | exact HB.out))) : w.heap.size ≤ gb230)); clear HB; have HB := n0_; have BK230 := n1_; have GW230 := n2_; have GE230 := n3_; clear n0_ n1_ n2_ n3_; clear hb hbox hg; have hcz28_0 := blk_cell BK230.out; have hfz28_0 := blk_frozen BK230.out) | (go_at_call 37; (with_reducible refine (bursarref20_noughts.calls k 6 t233 _ A21.out).mono ?_); rintro e w' ⟨rfl, ⟨nd, rfl⟩⟩; (try first | exact ⟨rfl, _, World.drewN_drewN _ _ _⟩ | exact ⟨rfl, _, Eq.trans (World.drewN_drewN _ _ _) (congrArg (World.drewN _) (Nat.add_assoc _ _ _))⟩))))
                go_ret
                exact ⟨by first | rfl | (simp [errW_none, errW_some] <;> rfl) | (simp [*, errW_none, errW_some] <;> rfl), by repeat (first | (with_reducible first | exact HB.out | apply below_alloc | apply pw_below_drewN | apply below_drew1 | refine below_set ?_ GE230.out) | exact HB.out)⟩
              · rw [if_neg c26] at H
                exact absurd H (by simp)
            · rw [if_neg c25] at H
              exact absurd H (by simp)
          · rw [if_neg c24] at H
            exact absurd H (by simp)
        · rw [if_neg c23] at H
          exact absurd H (by simp)
      · rw [if_neg c22] at H
        exact absurd H (by simp)
    · rw [if_neg c20] at H
      have c20b0 : (a0_6.toList == ([] : List UInt8)) = false := beq_eq_false_iff_ne.mpr c20
      have c20b1 : (a0_6.toList != ([] : List UInt8)) = true := bne_iff_ne.mpr c20
      by_cases c29 : 2 ≤ (a0_0.size : Int)
      · rw [if_pos c29] at H
        have c29b0 := eq_true c29
        have c29b1 : decide (2 ≤ (a0_0.size : Int)) = true := decide_eq_true c29
        clear c29
        by_cases c30 : (a0_0.extract 1 2).size + a0_5.size ≤ 9223372036854775807
        · rw [if_pos c30] at H
          have c30b0 := eq_true c30
          have c30b1 : decide ((a0_0.extract 1 2).size + a0_5.size ≤ 9223372036854775807) = true := decide_eq_true c30
          try have c30b2 : (9223372036854775807 < (a0_0.extract 1 2).size + a0_5.size) = False := eq_false (Nat.not_lt.2 c30)
          by_cases c31 : ((a0_0.extract 1 2) ++ a0_5).size + a0_7.size ≤ 9223372036854775807
          · rw [if_pos c31] at H
            have c31b0 := eq_true c31
            have c31b1 : decide (((a0_0.extract 1 2) ++ a0_5).size + a0_7.size ≤ 9223372036854775807) = true := decide_eq_true c31
            try have c31b2 : (9223372036854775807 < ((a0_0.extract 1 2) ++ a0_5).size + a0_7.size) = False := eq_false (Nat.not_lt.2 c31)
            by_cases c32 : (((a0_0.extract 1 2) ++ a0_5) ++ a0_7).size + a0_6.size ≤ 9223372036854775807
            · rw [if_pos c32] at H
              have c32b0 := eq_true c32
              have c32b1 : decide ((((a0_0.extract 1 2) ++ a0_5) ++ a0_7).size + a0_6.size ≤ 9223372036854775807) = true := decide_eq_true c32
              try have c32b2 : (9223372036854775807 < (((a0_0.extract 1 2) ++ a0_5) ++ a0_7).size + a0_6.size) = False := eq_false (Nat.not_lt.2 c32)
              by_cases c33 : ((((a0_0.extract 1 2) ++ a0_5) ++ a0_7) ++ a0_6).size + a0_4.size ≤ 9223372036854775807
              · rw [if_pos c33] at H
                have c33b0 := eq_true c33
                have c33b1 : decide (((((a0_0.extract 1 2) ++ a0_5) ++ a0_7) ++ a0_6).size + a0_4.size ≤ 9223372036854775807) = true := decide_eq_true c33
                try have c33b2 : (9223372036854775807 < ((((a0_0.extract 1 2) ++ a0_5) ++ a0_7) ++ a0_6).size + a0_4.size) = False := eq_false (Nat.not_lt.2 c33)
                obtain rfl := Option.some.inj H
                go_enter Tryz.func14, Tryz.ntmps14
                go_wp2_with (first | ((with_reducible refine gate_dst (N := 1) rfl ?_); refine box_event ?hg (N := 1) ?hd (cs := #[.string a0_0, .string a0_1, .string a0_2, .int .i64 a0_3, .string a0_4, .string a0_5, .string a0_6, .string a0_7, .string a0_8, .int .i64 a0_9, .int .i64 a0_10, .string a0_11]) (t := 38) ?hr ?_; (case hd => rfl); (case hg => rfl); (case hr => first | (go_simp; done) | (go_simp; rfl)); intro gb230 hg w34 hbox hb; have n0_ := Aside0.mk (below_step (by repeat (first | (with_reducible first | exact HB.out | apply below_alloc | apply pw_below_drewN | apply below_drew1) | exact HB.out)) hb); have n1_ := Aside0.mk (hbox); have n2_ := Aside0.mk ((by rw [hg]; exact (below_size (by repeat (first | (with_reducible first | exact HB.out | apply below_alloc | apply pw_below_drewN | apply below_drew1) | exact HB.out))) : w.heap.size ≤ gb230)); have n3_ := Aside0.mk ((by rw [hg]; exact (below_size (by repeat (first | (with_reducible first | exact HB.out | apply below_alloc | apply pw_below_drewN | apply below_drew1) | exact HB.out))) : w.heap.size ≤ gb230)); clear HB; have HB := n0_; have BK230 := n1_; have GW230 := n2_; have GE230 := n3_; clear n0_ n1_ n2_ n3_; clear hb hbox hg; have hcz35_0 := blk_cell BK230.out; have hfz35_0 := blk_frozen BK230.out))
                repeat (go_quiet (first | ((with_reducible refine gate_dst (N := 1) rfl ?_); refine box_event ?hg (N := 1) ?hd (cs := #[.string a0_0, .string a0_1, .string a0_2, .int .i64 a0_3, .string a0_4, .string a0_5, .string a0_6, .string a0_7, .string a0_8, .int .i64 a0_9, .int .i64 a0_10, .string a0_11]) (t := 38) ?hr ?_; (case hd => rfl); (case hg => rfl); (case hr => first | (go_simp; done) | (go_simp; rfl)); intro gb230 hg w34 hbox hb; have n0_ := Aside0.mk (below_step (by repeat (first | (with_reducible first | exact HB.out | apply below_alloc | apply pw_below_drewN | apply below_drew1) | exact HB.out)) hb); have n1_ := Aside0.mk (hbox); have n2_ := Aside0.mk ((by rw [hg]; exact (below_size (by repeat (first | (with_reducible first | exact HB.out | apply below_alloc | apply pw_below_drewN | apply below_drew1) | exact HB.out))) : w.heap.size ≤ gb230)); have n3_ := Aside0.mk ((by rw [hg]; exact (below_size (by repeat (first | (with_reducible first | exact HB.out | apply below_alloc | apply pw_below_drewN | apply below_drew1) | exact HB.out))) : w.heap.size ≤ gb230)); clear HB; have HB := n0_; have BK230 := n1_; have GW230 := n2_; have GE230 := n3_; clear n0_ n1_ n2_ n3_; clear hb hbox hg; have hcz35_0 := blk_cell BK230.out; have hfz35_0 := blk_frozen BK230.out)); try go_wp2_with (first | ((with_reducible refine gate_dst (N := 1) rfl ?_); refine box_event ?hg (N := 1) ?hd (cs := #[.string a0_0, .string a0_1, .string a0_2, .int .i64 a0_3, .string a0_4, .string a0_5, .string a0_6, .string a0_7, .string a0_8, .int .i64 a0_9, .int .i64 a0_10, .string a0_11]) (t := 38) ?hr ?_; (case hd => rfl); (case hg => rfl); (case hr => first | (go_simp; done) | (go_simp; rfl)); intro gb230 hg w34 hbox hb; have n0_ := Aside0.mk (below_step (by repeat (first | (with_reducible first | exact HB.out | apply below_alloc | apply pw_below_drewN | apply below_drew1) | exact HB.out)) hb); have n1_ := Aside0.mk (hbox); have n2_ := Aside0.mk ((by rw [hg]; exact (below_size (by repeat (first | (with_reducible first | exact HB.out | apply below_alloc | apply pw_below_drewN | apply below_drew1) | exact HB.out))) : w.heap.size ≤ gb230)); have n3_ := Aside0.mk ((by rw [hg]; exact (below_size (by repeat (first | (with_reducible first | exact HB.out | apply below_alloc | apply pw_below_drewN | apply below_drew1) | exact HB.out))) : w.heap.size ≤ gb230)); clear HB; have HB := n0_; have BK230 := n1_; have GW230 := n2_; have GE230 := n3_; clear n0_ n1_ n2_ n3_; clear hb hbox hg; have hcz35_0 := blk_cell BK230.out; have hfz35_0 := blk_frozen BK230.out)))
                go_ret
                exact ⟨by first | rfl | (simp [errW_none, errW_some] <;> rfl) | (simp [*, errW_none, errW_some] <;> rfl), by repeat (first | (with_reducible first | exact HB.out | apply below_alloc | apply pw_below_drewN | apply below_drew1 | refine below_set ?_ GE230.out) | exact HB.out)⟩
              · rw [if_neg c33] at H
                exact absurd H (by simp)
            · rw [if_neg c32] at H
              exact absurd H (by simp)
          · rw [if_neg c31] at H
            exact absurd H (by simp)
        · rw [if_neg c30] at H
          exact absurd H (by simp)
      · rw [if_neg c29] at H
        exact absurd H (by simp)

-- NOT PRINTED: function 67 (check_words)

-- NOT PRINTED: function 38 (check_Sum)

/-! ### bursartop_worksSums: function 15 -/
def stepI (v : Int) : Int := bits BinOp.xor IntKind.u32 (v * 2 % 4294967296) (79764919 * (v / 2147483648))
def itv : Nat → Int → Int
  | 0, v => v
  | j + 1, v => stepI (itv j v)
def wordI (i : Nat) : Int := itv 8 ((i : Int) * 16777216)
theorem itv_all : (List.range 256).all (fun i => (List.range 9).all fun j => decide (0 ≤ itv j ((i : Int) * 16777216)) && decide (itv j ((i : Int) * 16777216) < 4294967296)) = true := by kernel_rfl
theorem itv_at (i j : Nat) (hi : i < 256) (hj : j ≤ 8) : 0 ≤ itv j ((i : Int) * 16777216) ∧ itv j ((i : Int) * 16777216) < 4294967296 := by
  have h := List.all_eq_true.mp (List.all_eq_true.mp itv_all i (List.mem_range.mpr hi)) j (List.mem_range.mpr (by omega))
  rw [Bool.and_eq_true, decide_eq_true_iff, decide_eq_true_iff] at h
  exact h
/-- the first k words of the table -/
def TbW (W : World) (g k : Nat) : Prop := ∃ cur : Array Value, W.heap[g]? = some (.cells cur 112 (0, 0)) ∧ cur.size = 256 ∧ ∀ n, n < 256 → cur[n]? = some (.int .u32 (if n < k then wordI n else 0))
theorem TbW.put {W : World} {g k : Nat} (h : TbW W g k) (hk : k < 256) : TbW (W.setCell ⟨g, k, none⟩ (.int .u32 (wordI k))) g (k + 1) := by
  obtain ⟨cur, hb, hs, hc⟩ := h
  refine ⟨_, blk_set hb _ _, by simp [hs], fun n hn => ?_⟩
  rw [Array.getElem?_setIfInBounds]
  by_cases e : k = n
  · subst e
    rw [if_pos rfl, if_pos (by rw [hs]; exact hk), if_pos (by omega)]
  · rw [if_neg e, hc n hn]
    by_cases h2 : n < k
    · rw [if_pos h2, if_pos (by omega)]
    · rw [if_neg h2, if_neg (by omega)]
theorem TbW.lt {W : World} {g k : Nat} (h : TbW W g k) : g < W.heap.size := by
  obtain ⟨cur, h1, -⟩ := h; exact blk_lt h1
theorem TbW.cell {W : World} {g k : Nat} (h : TbW W g k) (n : Nat) (hn : n < 256) : W.cell? ⟨g, n, none⟩ = some (.int .u32 (if n < k then wordI n else 0)) ∧ W.frozen? ⟨g, n, none⟩ = false := by
  obtain ⟨cur, h1, h2, h3⟩ := h
  exact ⟨(blk_cell h1 _).trans (h3 n hn), blk_frozen h1 n⟩
theorem zero112 : Tryz.zeroCells112 = Array.replicate 256 (.int .u32 0) := by kernel_rfl
theorem TbW.zero {W : World} {g : Nat} (h : W.heap[g]? = some (.cells Tryz.zeroCells112 112 (0, 0))) : TbW W g 0 := by
  refine ⟨_, h, by rw [zero112]; simp, fun n hn => ?_⟩
  rw [zero112]
  simp [Array.getElem?_replicate, hn]
theorem all_one {f : Nat → Int} {m : Nat} (cur : Array Value) (hs : cur.size = m) (hc : ∀ n, n < m → cur[n]? = some (.int .u32 (f n))) : cur.toList.all (fun q => q.oneCell') = true := by
  rw [List.all_eq_true]
  intro v hv
  obtain ⟨i, hi, rfl⟩ := List.mem_iff_getElem.mp hv
  rw [Array.length_toList, hs] at hi
  have h1 := hc i hi
  have hg : cur[i]? = some (cur.toList[i]'(by rw [Array.length_toList, hs]; exact hi)) := by
    rw [Array.getElem_toList, Array.getElem?_eq_getElem]
  rw [hg] at h1
  rw [Option.some.inj h1]; rfl
set_option maxHeartbeats 2000000 in
set_option maxRecDepth 100000 in
theorem words_w (w : World) : Calls Tryz.prog 67 #[] w fun e w' => (∃ cur : Array Value, e = .returned (.agg cur) ∧ cur.size = 256 ∧ ∀ n, n < 256 → cur[n]? = some (.int .u32 (wordI n))) ∧ Below w.heap.size w w' := by
  have hbA := blk_alloc (blk_new w (.cells Tryz.zeroCells112 112 (0, 0))) (.cells Tryz.zeroCells112 112 (0, 0))
  have hbT := TbW.zero (blk_new (w.alloc (.cells Tryz.zeroCells112 112 (0, 0))) (.cells Tryz.zeroCells112 112 (0, 0)))
  have hBe := below_alloc (below_alloc (Below.refl w.heap.size w) (.cells Tryz.zeroCells112 112 (0, 0))) (.cells Tryz.zeroCells112 112 (0, 0))
  rw [show (w.alloc (.cells Tryz.zeroCells112 112 (0, 0))).heap.size = w.heap.size + 1 by simp] at hbT
  go_enter Tryz.func67, Tryz.ntmps67
  go_upto_region 3 with fail
  generalize (w.alloc (.cells Tryz.zeroCells112 112 (0, 0))).alloc (.cells Tryz.zeroCells112 112 (0, 0)) = W0 at hbA hbT hBe ⊢
  have HA := Lib.hid hbA
  have HT := Lib.hid hbT
  have HE := Lib.hid hBe
  clear hbA hbT hBe
  go_loopg [4] 256 (fun gg s4 wr => ∃ i : Nat, i ≤ 256 ∧ 256 - i ≤ gg ∧ s4 = .int .i64 i ∧ Hid (Below w.heap.size w wr) ∧ Hid (wr.heap[w.heap.size]? = some (.cells Tryz.zeroCells112 112 (0, 0))) ∧ Hid (TbW wr (w.heap.size + 1) i))
  case atStart => exact ⟨0, by omega, by omega, rfl, HE, HA, HT⟩
  case round =>
    clear HE HA HT
    obtain ⟨i, hi, hg, rfl, HE, HA, HT⟩ := hrel
    by_cases hlt : i < 256
    · have hltz : (i : Int) < 256 := by omega
      go_upto_region 7 with fail
      go_loopg [3, 10] 8 (fun gg s3 s10 w2 => ∃ j : Nat, j ≤ 8 ∧ 8 - j ≤ gg ∧ s10 = .int .i64 j ∧ s3 = .int .u32 (itv j ((i : Int) * 16777216)) ∧ w2 = wr)
      case atStart => exact ⟨0, by omega, by omega, rfl, rfl, rfl⟩
      case round =>
        obtain ⟨j, hj, hg2, rfl, rfl, rfl⟩ := hrel
        by_cases hlt2 : j < 8
        · have hltz2 : (j : Int) < 8 := by omega
          obtain ⟨hv1, hv2⟩ := itv_at i j hlt (by omega)
          have HS : Hid (itv (j + 1) ((i : Int) * 16777216) = stepI (itv j ((i : Int) * 16777216))) := Lib.hid rfl
          generalize itv j ((i : Int) * 16777216) = v at hv1 hv2 HS ⊢
          go_wp2
          go_roundg (8 - (j + 1))
          case measure => omega
          case rel => exact ⟨j + 1, by omega, by omega, by simp, by rw [HS.out]; rfl, rfl⟩
        · obtain rfl : j = 8 := by omega
          have hge : ¬ ((8 : Nat) : Int) < 8 := by omega
          obtain ⟨hc1, hf1⟩ := HT.out.cell i hlt
          have hput := HT.out.put hlt
          have hEp := below_set (v := .int .u32 (wordI i)) (j := i) HE.out (show w.heap.size ≤ w.heap.size + 1 by omega)
          have hAp := blk_far HA.out (p := ⟨w.heap.size + 1, i, none⟩) (by show w.heap.size ≠ w.heap.size + 1; omega) (.int .u32 (wordI i))
          have HP := Lib.hid hput
          have HEP := Lib.hid hEp
          have HAP := Lib.hid hAp
          clear hput hEp hAp
          have HW : Hid (itv 8 ((i : Int) * 16777216) = wordI i) := Lib.hid rfl
          rw [HW.out]
          generalize wordI i = v at HP HEP HAP ⊢
          go_wp2
          go_roundg (256 - (i + 1))
          case measure => omega
          case rel => exact ⟨i + 1, by omega, by omega, by simp, HEP, HAP, HP⟩
    · obtain rfl : i = 256 := by omega
      have hge : ¬ ((256 : Nat) : Int) < 256 := by omega
      have hi1 : (Tryz.prog.info? 112).map (·.size) = some 256 := by kernel_rfl
      obtain ⟨cur, hbT, hsz, hcc⟩ := HT.out
      have hcc2 : ∀ n, n < 256 → cur[n]? = some (.int .u32 (wordI n)) := fun n hn => by rw [hcc n hn, if_pos hn]
      have hall := all_one cur hsz hcc2
      rw [← hsz] at hi1
      have HI1 := Lib.hid hi1
      have hbA := HA.out
      have hsA : cur.size = Tryz.zeroCells112.size := by rw [hsz, zero112]; simp
      have hu := Tryz.underlying112
      have HCC := Lib.hid hcc2
      clear hi1 hcc hcc2
      go_wp2_with (first | (refine Pu.x_load rfl (t := 112) (p := 1) rfl (g := w.heap.size + 1) rfl hbT hu rfl HI1.out ?_) | (refine Pu.x_store rfl (t := 112) (p := 0) (v := .tmp 23) rfl rfl (g := w.heap.size) rfl rfl hbA hsA HI1.out hall ?_; rintro wS hS hfS hsS ho1 ho2 ho3))
      refine bodyPost_ret (results_cell_row rfl _ _ w.heap.size 112 cur (0, 0) _ rfl hS hu rfl HI1.out) rfl ?_
      exact ⟨⟨cur, rfl, hsz, HCC.out⟩, Pu.below_stored HE.out (Nat.le_refl _) hfS hsS ho1 ho2 ho3⟩
def byteW : Array Value := #[.int .u8 49, .int .u8 50, .int .u8 51, .int .u8 52, .int .u8 53, .int .u8 54, .int .u8 55, .int .u8 56, .int .u8 57]
theorem byteW_at (k : Nat) (hk : k < 9) : byteW[k]? = some (.int .u8 (49 + (k : Int))) := by
  have h : k = 0 ∨ k = 1 ∨ k = 2 ∨ k = 3 ∨ k = 4 ∨ k = 5 ∨ k = 6 ∨ k = 7 ∨ k = 8 := by omega
  rcases h with rfl | rfl | rfl | rfl | rfl | rfl | rfl | rfl | rfl <;> rfl
def mxT (v : Int) (k : Nat) : Nat := (bits BinOp.xor IntKind.u8 (v / 16777216) (49 + (k : Int))).toNat
def crcV : Nat → Int
  | 0 => 4294967295
  | k + 1 => bits BinOp.xor IntKind.u32 (crcV k * 256 % 4294967296) (wordI (mxT (crcV k) k))
theorem crc_all : (List.range 10).all (fun k => decide (0 ≤ crcV k) && decide (crcV k < 4294967296) && decide (mxT (crcV k) k < 256) && (bits BinOp.xor IntKind.u8 (crcV k / 16777216) (49 + (k : Int)) == ((mxT (crcV k) k : Nat) : Int))) = true := by kernel_rfl
theorem crc_at (k : Nat) (hk : k ≤ 9) : 0 ≤ crcV k ∧ crcV k < 4294967296 ∧ mxT (crcV k) k < 256 ∧ bits BinOp.xor IntKind.u8 (crcV k / 16777216) (49 + (k : Int)) = ((mxT (crcV k) k : Nat) : Int) := by
  have h := List.all_eq_true.mp crc_all k (List.mem_range.mpr (by omega))
  rw [Bool.and_eq_true, Bool.and_eq_true, Bool.and_eq_true, decide_eq_true_iff, decide_eq_true_iff, decide_eq_true_iff, beq_iff_eq] at h
  exact ⟨h.1.1.1, h.1.1.2, h.1.2, h.2⟩
theorem crc_end : crcV 9 = 58124007 := by kernel_rfl
set_option maxHeartbeats 2000000 in
set_option maxRecDepth 100000 in
theorem csum_w (P B : Nat) (w : World) (hP : w.heap[P]? = some (.cells #[.slice (some ⟨B, 0, none⟩) 9 9] 78 (0, 0))) (fr : Nat × Nat) (hB : w.heap[B]? = some (.cells byteW 5 fr)) :
    Calls Tryz.prog 38 #[.slice (some ⟨P, 0, none⟩) 1 1] w fun e w' => e = .returned (.int .u32 4236843288) ∧ Below w.heap.size w w' := by
  have hww := words_w
  have hi1 : (Tryz.prog.info? 112).map (·.size) = some 256 := by kernel_rfl
  go_enter Tryz.func38, Tryz.ntmps38
  go_upto_region 1 with fail
  go_upto_region 4 with (first
    | (go_at_call 67; refine (hww _).mono ?_; rintro e w1 ⟨⟨cur, rfl, hsz, hcc⟩, hb1⟩; have hall := all_one cur hsz hcc; have hsA : cur.size = Tryz.zeroCells112.size := (by rw [hsz, zero112]; simp); rw [← hsz] at hi1; have HI1 := Lib.hid hi1; have hbN := blk_new w1 (.cells Tryz.zeroCells112 112 (0, 0)); have HCC := Lib.hid hcc; clear hcc hi1)
    | (refine Pu.x_store rfl (t := 112) (p := 3) (v := .tmp 9) rfl rfl (g := w1.heap.size) rfl rfl hbN hsA HI1.out hall ?_; rintro wS hS hfS hsS ho1 ho2 ho3))
  have hBS := Pu.below_stored (below_alloc hb1 (.cells Tryz.zeroCells112 112 (0, 0))) hb1.size hfS hsS ho1 ho2 ho3
  have hPl := blk_lt hP
  have hBl := blk_lt hB
  have hP1 := (hBS.block P hPl).trans hP
  have hB1 := (hBS.block B hBl).trans hB
  clear hP hB hww hbN hall hsA HI1 hfS hsS ho1 ho2 ho3 hb1
  generalize w1.heap.size = T at hS ⊢
  have c14 : wS.cell? ⟨P, 0, none⟩ = some (.slice (some ⟨B, 0, none⟩) 9 9) := (blk_cell hP1 0).trans rfl
  go_loopg [4, 12] 2 (fun gg s4 s12 wr => ∃ i : Nat, i ≤ 1 ∧ 2 - i ≤ gg ∧ s12 = .int .i64 i ∧ s4 = .int .u32 (if i = 0 then 4294967295 else 58124007) ∧ wr = wS)
  case atStart => exact ⟨0, by omega, by omega, rfl, rfl, rfl⟩
  case round =>
    obtain ⟨i, hi, hg, rfl, rfl, rfl⟩ := hrel
    by_cases hlt : i < 1
    · obtain rfl : i = 0 := by omega
      have hltz : ((0 : Nat) : Int) < 1 := by omega
      rw [if_pos rfl]
      go_upto_region 7 with fail
      go_loopg [4, 18] 9 (fun gg s4 s18 wr2 => ∃ k : Nat, k ≤ 9 ∧ 9 - k ≤ gg ∧ s18 = .int .i64 k ∧ s4 = .int .u32 (crcV k) ∧ wr2 = wr)
      case atStart => exact ⟨0, by omega, by omega, rfl, rfl, rfl⟩
      case round =>
        obtain ⟨k, hk, hg2, rfl, rfl, rfl⟩ := hrel
        by_cases hlk : k < 9
        · have hlkz : (k : Int) < 9 := by omega
          have hcb : wr.cell? ⟨B, k, none⟩ = some (.int .u8 (49 + (k : Int))) := (cell_of_row wr B k byteW 5 fr hB1).trans (byteW_at k hlk)
          obtain ⟨hv1, hv2, hm, hx⟩ := crc_at k (by omega)
          have HN : Hid (crcV (k + 1) = bits BinOp.xor IntKind.u32 (crcV k * 256 % 4294967296) (wordI (mxT (crcV k) k))) := Lib.hid rfl
          have hct : wr.cell? ⟨T, mxT (crcV k) k, none⟩ = some (.int .u32 (wordI (mxT (crcV k) k))) := (blk_cell hS _).trans (HCC.out _ hm)
          generalize mxT (crcV k) k = m at hm hx HN hct
          generalize crcV k = v at hv1 hv2 hx HN ⊢
          generalize wordI m = u at HN hct
          have hmz : (m : Int) < 256 := by omega
          have hm0 : (0 : Int) ≤ (m : Int) := by omega
          go_wp2
          go_roundg (9 - (k + 1))
          case measure => omega
          case rel => exact ⟨k + 1, by omega, by omega, by simp, by rw [HN.out], rfl⟩
        · obtain rfl : k = 9 := by omega
          have hge : ¬ ((9 : Nat) : Int) < 9 := by omega
          rw [crc_end]
          go_wp2
          go_roundg (2 - (0 + 1))
          case measure => omega
          case rel => exact ⟨1, by omega, by omega, by simp, rfl, rfl⟩
    · obtain rfl : i = 1 := by omega
      have hge : ¬ ((1 : Nat) : Int) < 1 := by omega
      rw [if_neg (by omega)]
      go_wp2
      go_ret
      exact ⟨rfl, hBS⟩
theorem sign_closed : Dg.signS ⟨#[55, 57, 57, 50, 55, 51, 57, 56, 55, 49]⟩ = (⟨#[55, 57, 57, 50, 55, 51, 57, 56, 55, 49, 51]⟩, 0) := by kernel_rfl
set_option maxHeartbeats 2000000 in
set_option maxRecDepth 100000 in
theorem sums_w (w : World) : Calls Tryz.prog 15 #[] w fun e w' => e = .returned (.bool true) ∧ Below w.heap.size w w' := by
  have hsg := fun W => digit_Sign.calls ⟨#[55, 57, 57, 50, 55, 51, 57, 56, 55, 49]⟩ ⟨#[55, 57, 57, 50, 55, 51, 57, 56, 55, 49, 51]⟩ 0 W (by unfold digit_Sign.f; rw [if_pos (by decide), sign_closed])
  have hcs := csum_w
  go_enter Tryz.func15, Tryz.ntmps15
  go_upto_region 2 with (go_at_call 5; refine (hsg _).mono ?_; rintro e w1 ⟨rfl, hb1⟩)
  have hB := blk_alloc (blk_new w1 (.cells byteW 5 (9, 10))) (.cells #[.slice (some ⟨w1.heap.size, 0, none⟩) 9 9] 78 (0, 0))
  have hP := blk_new (w1.alloc (.cells byteW 5 (9, 10))) (.cells #[.slice (some ⟨w1.heap.size, 0, none⟩) 9 9] 78 (0, 0))
  rw [show (w1.alloc (.cells byteW 5 (9, 10))).heap.size = w1.heap.size + 1 by simp] at hP
  have hc := hcs (w1.heap.size + 1) w1.heap.size _ hP (9, 10) hB
  have hBe := below_alloc (below_alloc hb1 (.cells byteW 5 (9, 10))) (.cells #[.slice (some ⟨w1.heap.size, 0, none⟩) 9 9] 78 (0, 0))
  unfold byteW at hc hBe
  clear hP hB hcs hsg
  have hcv := Lib.run_convert_bytes_const w1 78 5 byteW 9 9 Tryz.underlying78 Tryz.underlying5
  unfold byteW at hcv
  go_wp2_with (go_at_call 38; refine hc.mono ?_; rintro e w2 ⟨rfl, hb2⟩)
  go_ret
  exact ⟨by first | rfl | simp, hBe.trans (hb2.mono hBe.size)⟩
def bursartop_worksSums.f : Option Bool := some true
theorem bursartop_worksSums.calls (r : Bool) (w : World) (h : bursartop_worksSums.f = some r) :
    Calls Tryz.prog 15 #[] w fun e w' => e = .returned (.bool r) ∧ Below w.heap.size w w' := by
  obtain rfl := Option.some.inj h
  exact sums_w w


end Go.Proofs.YtnelnmlhlmocdaaGreatDoor.XB
