import Derived.Test.YteghpaomggajdaaDoorPuG
import Derived.Test.YteghpaomggajdaaDoorFc
import Derived.Outline
namespace Go.Proofs.YteghpaomggajdaaDoor.XG
open Go.RowKit Go.Proofs.YteghpaomggajdaaDoorW.PrintWords Go.Proofs.YteghpaomggajdaaDoorW.PrintLast Go.Proofs.YteghpaomggajdaaDoorW.PrintMore
set_option linter.unusedVariables false
set_option maxHeartbeats 8000000 in
set_option maxRecDepth 100000 in
theorem finds_w (s t : ByteArray) (n m : Nat) (hn : n < 256) (hm : m < 256) (ht : bursarlaw02_few.f s = some t) (ht2 : t.size ≤ 200) (w : World) :
    Calls Tryd.prog 6 #[.string s, .int .u8 n, .int .u8 m] w fun e w' => e = .returned (.bool true) ∧ Below w.heap.size w w' := by
  have hsig : digit_Sign.f t = some ((Dg.signS t).1, (Dg.signS t).2) := by unfold digit_Sign.f; rw [if_pos (by omega)]
  by_cases h0 : t.size = 0 ∨ Pu.allD t = false
  · have hS : Dg.signS t = (⟨#[]⟩, 4) := by unfold Dg.signS; rw [if_pos h0]
    rw [hS] at hsig
    go_enter Tryd.func6, Tryd.ntmps6
    go_wp2_with (first
      | (go_at_call 12; refine (bursarlaw02_few.calls s t _ ht).mono ?_; rintro e w1 ⟨rfl, hD1⟩)
      | (go_at_call 16; refine (digit_Sign.calls t _ _ _ hsig).mono ?_; rintro e w2 ⟨rfl, hB2⟩)
      | (go_at_call 9; refine (bursarlaw02_awake.calls true _ awake_e).mono ?_; rintro e w3 ⟨rfl, hB3⟩))
    go_ret
    exact ⟨rfl, hD1.below.trans ((hB2.trans (hB3.mono hB2.size)).mono hD1.below.size)⟩
  · obtain ⟨T, hT⟩ : ∃ T, T = t ++ Dg.ba [UInt8.ofNat (48 + (Dg.signD t).toNat)] := ⟨_, rfl⟩
    have hS : Dg.signS t = (T, 0) := by rw [hT]; unfold Dg.signS; rw [if_neg h0, Dg.sign_tail]
    have hz : T.size = t.size + 1 := by rw [hT, tail_size]
    have h1 : 1 ≤ t.size := by omega
    have ha : Pu.allD t = true := by cases h : Pu.allD t; exact absurd (Or.inr h) h0; rfl
    have h9 := Dg.signD_range t
    have hso : Pu.soundB T = true := by rw [hT, Dg.sound_tail t h1 ha _ (by omega)]; exact decide_eq_true (by omega)
    rw [hS] at hsig
    have h2 : 2 ≤ T.size := by omega
    have h201 : T.size ≤ 201 := by omega
    clear hS hT ha h9 hz h0
    go_enter Tryd.func6, Tryd.ntmps6
    go_upto_region 5 with (first
      | (go_at_call 12; refine (bursarlaw02_few.calls s t _ ht).mono ?_; rintro e w1 ⟨rfl, hD1⟩)
      | (go_at_call 16; refine (digit_Sign.calls t _ _ _ hsig).mono ?_; rintro e w2 ⟨rfl, hB2⟩))
    have hB : Below w.heap.size w w2 := hD1.below.trans (hB2.mono hD1.below.size)
    clear hB2 hD1 hsig
    have hcv := Lib.run_convert_string_bytes (P := Tryd.prog) w2 9 38 5 T Tryd.underlying9 Tryd.underlying38 Tryd.underlying5
    have hBw : Below w.heap.size w (Lib.bytesWorld w2 5 T) := bytes_below hB hB.size _ _
    obtain ⟨xs, hxs⟩ : ∃ xs : List Int, xs = T.data.toList.map (fun b => (b.toNat : Int)) := ⟨_, rfl⟩
    have hxl : xs.length = T.size := by rw [hxs, List.length_map]; rfl
    have hcs : ∀ (j : Nat) x, xs[j]? = some x → (Lib.bytesWorld w2 5 T).cell? ⟨w2.heap.size, j, none⟩ = some (.int .u8 x) := by
      intro j x hx
      have hj : j < xs.length := (List.getElem?_eq_some_iff.1 hx).1
      have hj2 : j < T.size := by omega
      rw [Lib.bytesWorld_cell w2 5 T j hj2]
      have : x = ((T.data.toList.getD j 0).toNat : Int) := by
        rw [hxs, List.getElem?_map] at hx
        rw [List.getD_eq_getElem?_getD]
        cases h : T.data.toList[j]? with
        | none => rw [h] at hx; cases hx
        | some b => rw [h] at hx; exact (Option.some.inj hx).symm
      rw [this]
    have hRI : ReadsInt (Lib.bytesWorld w2 5 T) .u8 (some ⟨w2.heap.size, 0, none⟩) T.size xs := by
      refine ⟨hxl, by omega, fun _ => ⟨_, rfl, fun j hj => ?_⟩⟩
      rw [add_plain]
      refine hcs j _ ?_
      rw [List.getD_eq_getElem?_getD, List.getElem?_eq_getElem (by omega)]
      rfl
    have hlt : w2.heap.size < (Lib.bytesWorld w2 5 T).heap.size := by rw [Lib.bytesWorld_size]; omega
    have hxr : ∀ (j : Nat) x, xs[j]? = some x → 48 ≤ x ∧ x ≤ 57 := fun j x hx => Dg.all_dig (Dg.sound_parts hso).1 (by rw [hxs] at hx; exact hx)
    go_upto_region 6 with fail
    clear hcv
    generalize Lib.bytesWorld w2 5 T = W2 at *
    generalize w2.heap.size = B at *
    generalize grownCap w2 T.size 0 5 = cp at *
    have HR := Lib.hid hRI
    have HX := Lib.hid hxs
    clear hxs hRI
    have hi : n % T.size < T.size := Nat.mod_lt _ (by omega)
    obtain ⟨b0, hb0⟩ : ∃ b0, xs[n % T.size]? = some b0 := ⟨_, List.getElem?_eq_getElem (by omega)⟩
    have hc0 := hcs _ _ hb0
    have hr0 := hxr _ _ hb0
    have HB0 := Lib.hid hb0
    have HCS := Lib.hid hcs
    have HXR := Lib.hid hxr
    clear hb0 hcs hxr
    obtain ⟨d, hd⟩ : ∃ d : Int, d = 48 + (m : Int) % 10 := ⟨_, rfl⟩
    by_cases hne : d = b0
    · have hcd : ((48 : Int) + (m : Int) % 10 != b0) = false := by rw [← hd, hne]; simp
      go_upto_region 13 with fail
      have hB5 : Below W2.heap.size W2 W2 := Below.refl _ _
      clear hc0 hne hcd
      have hBW2 : Below w.heap.size w W2 := hBw.trans (hB5.mono hBw.size)
      have hc0 : W2.cell? ⟨B, n % T.size, none⟩ = some (.int .u8 b0) := (hB5.cell hlt).trans (HCS.out _ _ HB0.out)
      have hsT : digit_Sound.f T = some true := by unfold digit_Sound.f; rw [if_pos (by omega), hso]
      by_cases hi2 : n % T.size + 1 < T.size
      · have hi3 : (n : Int) % (T.size : Int) + 1 < (T.size : Int) := by omega
        obtain ⟨b1, hb1⟩ : ∃ b1, xs[n % T.size + 1]? = some b1 := ⟨_, List.getElem?_eq_getElem (by omega)⟩
        have hc1 : W2.cell? ⟨B, n % T.size + 1, none⟩ = some (.int .u8 b1) := (hB5.cell hlt).trans (HCS.out _ _ hb1)
        have hr1 := HXR.out _ _ hb1
        have HB1 := Lib.hid hb1
        clear hb1
        by_cases hne1 : b0 = b1
        · have hcd1 : (b0 != b1) = false := by rw [hne1]; simp
          go_region
          have hBw6 : Below w.heap.size w W2.drew := hBW2.drew
          generalize W2.drew = w6 at hBw6 ⊢
          go_wp2_with (first
            | (go_at_call 18; refine (digit_Sound.calls T _ _ hsT).mono ?_; rintro e w7 ⟨rfl, hD7⟩)
            | (go_at_call 9; refine (bursarlaw02_awake.calls true _ awake_e).mono ?_; rintro e w8 ⟨rfl, hB8⟩))
          go_ret
          exact ⟨rfl, hBw6.trans ((hD7.below.trans (hB8.mono hD7.below.size)).mono hBw6.size)⟩
        · have hcd1 : (b0 != b1) = true := by simpa using hne1
          go_region
          have hBw6 : Below w.heap.size w W2.drew := hBW2.drew
          have hB6 := hB5.drew
          have hc6 : W2.drew.cell? ⟨B, n % T.size, none⟩ = some (.int .u8 b0) := hc0
          have hc7 : W2.drew.cell? ⟨B, n % T.size + 1, none⟩ = some (.int .u8 b1) := hc1
          have hlt6 : B < W2.drew.heap.size := Nat.lt_of_lt_of_le hlt hB6.size
          have HR6 : ReadsInt W2.drew .u8 (some ⟨B, 0, none⟩) T.size xs := HR.out.below hB6
          generalize W2.drew = w6 at hBw6 hB6 hc6 hc7 hlt6 HR6 ⊢
          have HR6 := Lib.hid HR6
          clear hc0 hc1 hBW2 hB5
          have HO := Lib.hid (own_lit w6 w6.heap.size 5 .u8 [] (Nat.le_refl _) (by simp))
          go_upto_region 15 with (
            (with_reducible refine gate_builtin (b := .append) (xs := #[.tmp 78, .tmp 79]) rfl ?_)
            at_builtin
            refine print_append_row (w0 := w6) w6.heap.size rfl (.tmp 78) (.tmp 79) 38 5 .u8 1 rfl Tryd.underlying38 info5 (by omega) (.slice (some ⟨w6.heap.size, 0, none⟩) 0 0) [] xs (some ⟨B, 0, none⟩) T.size cp rfl rfl HO.out (ReadsInt.below HR6.out ((Below.refl _ _).alloc (Nat.le_refl _) _)) ((Below.refl _ _).alloc (Nat.le_refl _) _) (by rw [show (w6.alloc (.cells #[] 5)).heap.size = w6.heap.size + 1 by simp [World.alloc, -World.alloc_eq]]; omega) (by simp; omega) ?_
            intro v2 w7 ho hB7 _ _)
          rw [List.nil_append, hxl] at ho
          obtain ⟨g2, cap2, rfl, hgb2, hgl2⟩ := ho.form (by omega)
          have hc8 : w7.cell? ⟨B, n % T.size, none⟩ = some (.int .u8 b0) := (hB7.cell hlt6).trans hc6
          have hc9 : w7.cell? ⟨B, n % T.size + 1, none⟩ = some (.int .u8 b1) := (hB7.cell hlt6).trans hc7
          obtain ⟨hd0, hf0⟩ := own_at ho ((n % T.size : Nat) : Int) (by omega) (by omega)
          obtain ⟨hd1, hf1⟩ := own_at ho ((n % T.size + 1 : Nat) : Int) (by omega) (by omega)
          rw [Int.toNat_natCast] at hd0 hf0 hd1 hf1
          have hgB : g2 ≠ B := by omega
          go_region
          obtain ⟨hs8, hg8⟩ := own_store ho ((n % T.size : Nat) : Int) b1
          rw [Int.toNat_natCast] at hs8 hg8
          obtain ⟨hs9, hg9⟩ := own_store hs8 ((n % T.size + 1 : Nat) : Int) b0
          rw [Int.toNat_natCast] at hs9 hg9
          have hB8 : Below w6.heap.size w6 ((w7.setCell ⟨g2, n % T.size, none⟩ (.int .u8 b1)).setCell ⟨g2, n % T.size + 1, none⟩ (.int .u8 b0)).drew := ((hB7.setCell hgb2 _).setCell hgb2 _).drew
          have hs10 : ((w7.setCell ⟨g2, n % T.size, none⟩ (.int .u8 b1)).setCell ⟨g2, n % T.size + 1, none⟩ (.int .u8 b0)).drew.ownsRow w6.heap.size 5 1 (.slice (some ⟨g2, 0, none⟩) T.size cap2) T.size (nums .u8 ((xs.set (n % T.size) b1).set (n % T.size + 1) b0)) := hs9
          clear hs9 hs8 hg9 hg8 hd0 hd1 hf0 hf1 ho hc8 hc9
          generalize ((w7.setCell ⟨g2, n % T.size, none⟩ (.int .u8 b1)).setCell ⟨g2, n % T.size + 1, none⟩ (.int .u8 b0)).drew = w8 at hs10 hB8 ⊢
          have hc10 : w8.cell? ⟨B, n % T.size, none⟩ = some (.int .u8 b0) := (hB8.cell hlt6).trans hc6
          have hc11 : w8.cell? ⟨B, n % T.size + 1, none⟩ = some (.int .u8 b1) := (hB8.cell hlt6).trans hc7
          have hcv := own_string (P := Tryd.prog) Tryd.underlying38 Tryd.underlying5 Tryd.underlying9 hs10
          have hBw8 : Below w.heap.size w w8 := hBw6.trans (hB8.mono hBw6.size)
          clear hs10 hc6 hc7 hB8 HO HR6
          have hS0 : digit_Sound.f (strOfNums ((xs.set (n % T.size) b1).set (n % T.size + 1) b0)) = some (decide ((b0 = 48 ∧ b1 = 57) ∨ (b0 = 57 ∧ b1 = 48))) := by
            unfold digit_Sound.f
            have htwo := Dg.two_law T hso (n % T.size) b0 b1 (by rw [← HB0.out, HX.out]; rfl) (by rw [← HB1.out, HX.out]; rfl) hne1 h2
            rw [if_pos (by rw [strOfNums_size, List.length_set, List.length_set, hxl]; omega), HX.out]
            exact congrArg some htwo
          generalize strOfNums ((xs.set (n % T.size) b1).set (n % T.size + 1) b0) = st at hcv hS0
          have HS0 := Lib.hid hS0
          clear hS0
          by_cases g0 : b0 = 48
          · by_cases g1 : b1 = 57
            · have hS := HS0.out
              rw [decide_eq_true (Or.inl ⟨g0, g1⟩)] at hS
              have huu : True ∧ True ∧ True ∧ True := ⟨trivial, trivial, trivial, trivial⟩
              obtain ⟨u0, u1, u2, u3⟩ := huu
              go_upto_region 19 with (go_at_call 18; refine (digit_Sound.calls _ _ _ hS).mono ?_; rintro e w9 ⟨rfl, hD9⟩)
              go_wp2_with (first
                | (go_at_call 18; refine (digit_Sound.calls T _ _ hsT).mono ?_; rintro e w10 ⟨rfl, hD10⟩)
                | (go_at_call 9; refine (bursarlaw02_awake.calls true _ awake_e).mono ?_; rintro e w11 ⟨rfl, hB11⟩))
              go_ret
              exact ⟨rfl, hBw8.trans ((hD9.below.trans ((hD10.below.trans (hB11.mono hD10.below.size)).mono hD9.below.size)).mono hBw8.size)⟩
            · have hS := HS0.out
              rw [decide_eq_false (by omega)] at hS
              have huu : ¬ b0 = 57 ∧ True ∧ True ∧ True := ⟨by omega, trivial, trivial, trivial⟩
              obtain ⟨u0, u1, u2, u3⟩ := huu
              go_upto_region 19 with (go_at_call 18; refine (digit_Sound.calls _ _ _ hS).mono ?_; rintro e w9 ⟨rfl, hD9⟩)
              go_wp2_with (first
                | (go_at_call 18; refine (digit_Sound.calls T _ _ hsT).mono ?_; rintro e w10 ⟨rfl, hD10⟩)
                | (go_at_call 9; refine (bursarlaw02_awake.calls true _ awake_e).mono ?_; rintro e w11 ⟨rfl, hB11⟩))
              go_ret
              exact ⟨rfl, hBw8.trans ((hD9.below.trans ((hD10.below.trans (hB11.mono hD10.below.size)).mono hD9.below.size)).mono hBw8.size)⟩
          · by_cases g3 : b0 = 57
            · by_cases g1 : b1 = 48
              · have hS := HS0.out
                rw [decide_eq_true (Or.inr ⟨g3, g1⟩)] at hS
                have huu : True ∧ True ∧ True ∧ True := ⟨trivial, trivial, trivial, trivial⟩
                obtain ⟨u0, u1, u2, u3⟩ := huu
                go_upto_region 19 with (go_at_call 18; refine (digit_Sound.calls _ _ _ hS).mono ?_; rintro e w9 ⟨rfl, hD9⟩)
                go_wp2_with (first
                  | (go_at_call 18; refine (digit_Sound.calls T _ _ hsT).mono ?_; rintro e w10 ⟨rfl, hD10⟩)
                  | (go_at_call 9; refine (bursarlaw02_awake.calls true _ awake_e).mono ?_; rintro e w11 ⟨rfl, hB11⟩))
                go_ret
                exact ⟨rfl, hBw8.trans ((hD9.below.trans ((hD10.below.trans (hB11.mono hD10.below.size)).mono hD9.below.size)).mono hBw8.size)⟩
              · have hS := HS0.out
                rw [decide_eq_false (by omega)] at hS
                have huu : ¬ b0 = 48 ∧ True ∧ True ∧ True := ⟨by omega, trivial, trivial, trivial⟩
                obtain ⟨u0, u1, u2, u3⟩ := huu
                go_upto_region 19 with (go_at_call 18; refine (digit_Sound.calls _ _ _ hS).mono ?_; rintro e w9 ⟨rfl, hD9⟩)
                go_wp2_with (first
                  | (go_at_call 18; refine (digit_Sound.calls T _ _ hsT).mono ?_; rintro e w10 ⟨rfl, hD10⟩)
                  | (go_at_call 9; refine (bursarlaw02_awake.calls true _ awake_e).mono ?_; rintro e w11 ⟨rfl, hB11⟩))
                go_ret
                exact ⟨rfl, hBw8.trans ((hD9.below.trans ((hD10.below.trans (hB11.mono hD10.below.size)).mono hD9.below.size)).mono hBw8.size)⟩
            · have hS := HS0.out
              rw [decide_eq_false (by omega)] at hS
              have huu : True ∧ True ∧ True ∧ True := ⟨trivial, trivial, trivial, trivial⟩
              obtain ⟨u0, u1, u2, u3⟩ := huu
              go_upto_region 19 with (go_at_call 18; refine (digit_Sound.calls _ _ _ hS).mono ?_; rintro e w9 ⟨rfl, hD9⟩)
              go_wp2_with (first
                | (go_at_call 18; refine (digit_Sound.calls T _ _ hsT).mono ?_; rintro e w10 ⟨rfl, hD10⟩)
                | (go_at_call 9; refine (bursarlaw02_awake.calls true _ awake_e).mono ?_; rintro e w11 ⟨rfl, hB11⟩))
              go_ret
              exact ⟨rfl, hBw8.trans ((hD9.below.trans ((hD10.below.trans (hB11.mono hD10.below.size)).mono hD9.below.size)).mono hBw8.size)⟩
      · have hi3 : ¬ (n : Int) % (T.size : Int) + 1 < (T.size : Int) := by omega
        go_region
        have hBw6 : Below w.heap.size w W2.drew := hBW2.drew
        generalize W2.drew = w6 at hBw6 ⊢
        go_wp2_with (first
          | (go_at_call 18; refine (digit_Sound.calls T _ _ hsT).mono ?_; rintro e w7 ⟨rfl, hD7⟩)
          | (go_at_call 9; refine (bursarlaw02_awake.calls true _ awake_e).mono ?_; rintro e w8 ⟨rfl, hB8⟩))
        go_ret
        exact ⟨rfl, hBw6.trans ((hD7.below.trans (hB8.mono hD7.below.size)).mono hBw6.size)⟩
    · have hcd : ((48 : Int) + (m : Int) % 10 != b0) = true := by rw [← hd]; simpa using hne
      have HO := Lib.hid (own_lit W2 W2.heap.size 5 .u8 [] (Nat.le_refl _) (by simp))
      go_upto_region 10 with (
        (with_reducible refine gate_builtin (b := .append) (xs := #[.tmp 51, .tmp 52]) rfl ?_)
        at_builtin
        refine print_append_row (w0 := W2) W2.heap.size rfl (.tmp 51) (.tmp 52) 38 5 .u8 1 rfl Tryd.underlying38 info5 (by omega) (.slice (some ⟨W2.heap.size, 0, none⟩) 0 0) [] xs (some ⟨B, 0, none⟩) T.size cp rfl rfl HO.out (ReadsInt.below HR.out ((Below.refl _ _).alloc (Nat.le_refl _) _)) ((Below.refl _ _).alloc (Nat.le_refl _) _) (by rw [show (W2.alloc (.cells #[] 5)).heap.size = W2.heap.size + 1 by simp [World.alloc, -World.alloc_eq]]; omega) (by simp; omega) ?_
        intro v1 w3 ho hB3 _ _)
      rw [List.nil_append, hxl] at ho
      obtain ⟨g, cap, rfl, hgb, hgl⟩ := ho.form (by omega)
      have HO3 := Lib.hid ho
      obtain ⟨hc1, hf1⟩ := own_at ho ((n % T.size : Nat) : Int) (by omega) (by omega)
      rw [Int.toNat_natCast] at hc1 hf1
      obtain ⟨hs4, hg4⟩ := own_store ho ((n % T.size : Nat) : Int) d
      rw [Int.toNat_natCast] at hs4 hg4
      have hB4 := Below.grown hB3 hg4 hB3.size (fun k hk => by cases hk; exact hgb)
      rw [hd] at hs4 hg4 hB4
      have hcv := own_string (P := Tryd.prog) Tryd.underlying38 Tryd.underlying5 Tryd.underlying9 hs4
      have HS4 := Lib.hid hs4
      clear ho hs4 hg4 HO
      have hS : digit_Sound.f (strOfNums (xs.set (n % T.size) (48 + (m : Int) % 10))) = some false := by
        unfold digit_Sound.f
        have hone := Dg.one_law T hso (n % T.size) b0 (48 + (m : Int) % 10) (by rw [← HB0.out, HX.out]; rfl) (by omega) (by rw [← hd]; exact hne) h2
        rw [if_pos (by rw [strOfNums_size, List.length_set, hxl]; omega), HX.out]
        exact congrArg some hone
      go_upto_region 13 with (go_at_call 18; refine (digit_Sound.calls _ _ _ hS).mono ?_; rintro e w5 ⟨rfl, hD5⟩)
      have hB5 : Below W2.heap.size W2 w5 := hB4.trans (hD5.below.mono hB4.size)
      clear hc1 hf1 hcv hc0 hne hcd hS HS4 HO3 hB4 hD5 hB3
      have hBw5 : Below w.heap.size w w5 := hBw.trans (hB5.mono hBw.size)
      have hc0 : w5.cell? ⟨B, n % T.size, none⟩ = some (.int .u8 b0) := (hB5.cell hlt).trans (HCS.out _ _ HB0.out)
      have hsT : digit_Sound.f T = some true := by unfold digit_Sound.f; rw [if_pos (by omega), hso]
      by_cases hi2 : n % T.size + 1 < T.size
      · have hi3 : (n : Int) % (T.size : Int) + 1 < (T.size : Int) := by omega
        obtain ⟨b1, hb1⟩ : ∃ b1, xs[n % T.size + 1]? = some b1 := ⟨_, List.getElem?_eq_getElem (by omega)⟩
        have hc1 : w5.cell? ⟨B, n % T.size + 1, none⟩ = some (.int .u8 b1) := (hB5.cell hlt).trans (HCS.out _ _ hb1)
        have hr1 := HXR.out _ _ hb1
        have HB1 := Lib.hid hb1
        clear hb1
        by_cases hne1 : b0 = b1
        · have hcd1 : (b0 != b1) = false := by rw [hne1]; simp
          go_region
          have hBw6 : Below w.heap.size w w5.drew := hBw5.drew
          generalize w5.drew = w6 at hBw6 ⊢
          go_wp2_with (first
            | (go_at_call 18; refine (digit_Sound.calls T _ _ hsT).mono ?_; rintro e w7 ⟨rfl, hD7⟩)
            | (go_at_call 9; refine (bursarlaw02_awake.calls true _ awake_e).mono ?_; rintro e w8 ⟨rfl, hB8⟩))
          go_ret
          exact ⟨rfl, hBw6.trans ((hD7.below.trans (hB8.mono hD7.below.size)).mono hBw6.size)⟩
        · have hcd1 : (b0 != b1) = true := by simpa using hne1
          go_region
          have hBw6 : Below w.heap.size w w5.drew := hBw5.drew
          have hB6 := hB5.drew
          have hc6 : w5.drew.cell? ⟨B, n % T.size, none⟩ = some (.int .u8 b0) := hc0
          have hc7 : w5.drew.cell? ⟨B, n % T.size + 1, none⟩ = some (.int .u8 b1) := hc1
          have hlt6 : B < w5.drew.heap.size := Nat.lt_of_lt_of_le hlt hB6.size
          have HR6 : ReadsInt w5.drew .u8 (some ⟨B, 0, none⟩) T.size xs := HR.out.below hB6
          generalize w5.drew = w6 at hBw6 hB6 hc6 hc7 hlt6 HR6 ⊢
          have HR6 := Lib.hid HR6
          clear hc0 hc1 hBw5 hB5
          have HO := Lib.hid (own_lit w6 w6.heap.size 5 .u8 [] (Nat.le_refl _) (by simp))
          go_upto_region 15 with (
            (with_reducible refine gate_builtin (b := .append) (xs := #[.tmp 78, .tmp 79]) rfl ?_)
            at_builtin
            refine print_append_row (w0 := w6) w6.heap.size rfl (.tmp 78) (.tmp 79) 38 5 .u8 1 rfl Tryd.underlying38 info5 (by omega) (.slice (some ⟨w6.heap.size, 0, none⟩) 0 0) [] xs (some ⟨B, 0, none⟩) T.size cp rfl rfl HO.out (ReadsInt.below HR6.out ((Below.refl _ _).alloc (Nat.le_refl _) _)) ((Below.refl _ _).alloc (Nat.le_refl _) _) (by rw [show (w6.alloc (.cells #[] 5)).heap.size = w6.heap.size + 1 by simp [World.alloc, -World.alloc_eq]]; omega) (by simp; omega) ?_
            intro v2 w7 ho hB7 _ _)
          rw [List.nil_append, hxl] at ho
          obtain ⟨g2, cap2, rfl, hgb2, hgl2⟩ := ho.form (by omega)
          have hc8 : w7.cell? ⟨B, n % T.size, none⟩ = some (.int .u8 b0) := (hB7.cell hlt6).trans hc6
          have hc9 : w7.cell? ⟨B, n % T.size + 1, none⟩ = some (.int .u8 b1) := (hB7.cell hlt6).trans hc7
          obtain ⟨hd0, hf0⟩ := own_at ho ((n % T.size : Nat) : Int) (by omega) (by omega)
          obtain ⟨hd1, hf1⟩ := own_at ho ((n % T.size + 1 : Nat) : Int) (by omega) (by omega)
          rw [Int.toNat_natCast] at hd0 hf0 hd1 hf1
          have hgB : g2 ≠ B := by omega
          go_region
          obtain ⟨hs8, hg8⟩ := own_store ho ((n % T.size : Nat) : Int) b1
          rw [Int.toNat_natCast] at hs8 hg8
          obtain ⟨hs9, hg9⟩ := own_store hs8 ((n % T.size + 1 : Nat) : Int) b0
          rw [Int.toNat_natCast] at hs9 hg9
          have hB8 : Below w6.heap.size w6 ((w7.setCell ⟨g2, n % T.size, none⟩ (.int .u8 b1)).setCell ⟨g2, n % T.size + 1, none⟩ (.int .u8 b0)).drew := ((hB7.setCell hgb2 _).setCell hgb2 _).drew
          have hs10 : ((w7.setCell ⟨g2, n % T.size, none⟩ (.int .u8 b1)).setCell ⟨g2, n % T.size + 1, none⟩ (.int .u8 b0)).drew.ownsRow w6.heap.size 5 1 (.slice (some ⟨g2, 0, none⟩) T.size cap2) T.size (nums .u8 ((xs.set (n % T.size) b1).set (n % T.size + 1) b0)) := hs9
          clear hs9 hs8 hg9 hg8 hd0 hd1 hf0 hf1 ho hc8 hc9
          generalize ((w7.setCell ⟨g2, n % T.size, none⟩ (.int .u8 b1)).setCell ⟨g2, n % T.size + 1, none⟩ (.int .u8 b0)).drew = w8 at hs10 hB8 ⊢
          have hc10 : w8.cell? ⟨B, n % T.size, none⟩ = some (.int .u8 b0) := (hB8.cell hlt6).trans hc6
          have hc11 : w8.cell? ⟨B, n % T.size + 1, none⟩ = some (.int .u8 b1) := (hB8.cell hlt6).trans hc7
          have hcv := own_string (P := Tryd.prog) Tryd.underlying38 Tryd.underlying5 Tryd.underlying9 hs10
          have hBw8 : Below w.heap.size w w8 := hBw6.trans (hB8.mono hBw6.size)
          clear hs10 hc6 hc7 hB8 HO HR6
          have hS0 : digit_Sound.f (strOfNums ((xs.set (n % T.size) b1).set (n % T.size + 1) b0)) = some (decide ((b0 = 48 ∧ b1 = 57) ∨ (b0 = 57 ∧ b1 = 48))) := by
            unfold digit_Sound.f
            have htwo := Dg.two_law T hso (n % T.size) b0 b1 (by rw [← HB0.out, HX.out]; rfl) (by rw [← HB1.out, HX.out]; rfl) hne1 h2
            rw [if_pos (by rw [strOfNums_size, List.length_set, List.length_set, hxl]; omega), HX.out]
            exact congrArg some htwo
          generalize strOfNums ((xs.set (n % T.size) b1).set (n % T.size + 1) b0) = st at hcv hS0
          have HS0 := Lib.hid hS0
          clear hS0
          by_cases g0 : b0 = 48
          · by_cases g1 : b1 = 57
            · have hS := HS0.out
              rw [decide_eq_true (Or.inl ⟨g0, g1⟩)] at hS
              have huu : True ∧ True ∧ True ∧ True := ⟨trivial, trivial, trivial, trivial⟩
              obtain ⟨u0, u1, u2, u3⟩ := huu
              go_upto_region 19 with (go_at_call 18; refine (digit_Sound.calls _ _ _ hS).mono ?_; rintro e w9 ⟨rfl, hD9⟩)
              go_wp2_with (first
                | (go_at_call 18; refine (digit_Sound.calls T _ _ hsT).mono ?_; rintro e w10 ⟨rfl, hD10⟩)
                | (go_at_call 9; refine (bursarlaw02_awake.calls true _ awake_e).mono ?_; rintro e w11 ⟨rfl, hB11⟩))
              go_ret
              exact ⟨rfl, hBw8.trans ((hD9.below.trans ((hD10.below.trans (hB11.mono hD10.below.size)).mono hD9.below.size)).mono hBw8.size)⟩
            · have hS := HS0.out
              rw [decide_eq_false (by omega)] at hS
              have huu : ¬ b0 = 57 ∧ True ∧ True ∧ True := ⟨by omega, trivial, trivial, trivial⟩
              obtain ⟨u0, u1, u2, u3⟩ := huu
              go_upto_region 19 with (go_at_call 18; refine (digit_Sound.calls _ _ _ hS).mono ?_; rintro e w9 ⟨rfl, hD9⟩)
              go_wp2_with (first
                | (go_at_call 18; refine (digit_Sound.calls T _ _ hsT).mono ?_; rintro e w10 ⟨rfl, hD10⟩)
                | (go_at_call 9; refine (bursarlaw02_awake.calls true _ awake_e).mono ?_; rintro e w11 ⟨rfl, hB11⟩))
              go_ret
              exact ⟨rfl, hBw8.trans ((hD9.below.trans ((hD10.below.trans (hB11.mono hD10.below.size)).mono hD9.below.size)).mono hBw8.size)⟩
          · by_cases g3 : b0 = 57
            · by_cases g1 : b1 = 48
              · have hS := HS0.out
                rw [decide_eq_true (Or.inr ⟨g3, g1⟩)] at hS
                have huu : True ∧ True ∧ True ∧ True := ⟨trivial, trivial, trivial, trivial⟩
                obtain ⟨u0, u1, u2, u3⟩ := huu
                go_upto_region 19 with (go_at_call 18; refine (digit_Sound.calls _ _ _ hS).mono ?_; rintro e w9 ⟨rfl, hD9⟩)
                go_wp2_with (first
                  | (go_at_call 18; refine (digit_Sound.calls T _ _ hsT).mono ?_; rintro e w10 ⟨rfl, hD10⟩)
                  | (go_at_call 9; refine (bursarlaw02_awake.calls true _ awake_e).mono ?_; rintro e w11 ⟨rfl, hB11⟩))
                go_ret
                exact ⟨rfl, hBw8.trans ((hD9.below.trans ((hD10.below.trans (hB11.mono hD10.below.size)).mono hD9.below.size)).mono hBw8.size)⟩
              · have hS := HS0.out
                rw [decide_eq_false (by omega)] at hS
                have huu : ¬ b0 = 48 ∧ True ∧ True ∧ True := ⟨by omega, trivial, trivial, trivial⟩
                obtain ⟨u0, u1, u2, u3⟩ := huu
                go_upto_region 19 with (go_at_call 18; refine (digit_Sound.calls _ _ _ hS).mono ?_; rintro e w9 ⟨rfl, hD9⟩)
                go_wp2_with (first
                  | (go_at_call 18; refine (digit_Sound.calls T _ _ hsT).mono ?_; rintro e w10 ⟨rfl, hD10⟩)
                  | (go_at_call 9; refine (bursarlaw02_awake.calls true _ awake_e).mono ?_; rintro e w11 ⟨rfl, hB11⟩))
                go_ret
                exact ⟨rfl, hBw8.trans ((hD9.below.trans ((hD10.below.trans (hB11.mono hD10.below.size)).mono hD9.below.size)).mono hBw8.size)⟩
            · have hS := HS0.out
              rw [decide_eq_false (by omega)] at hS
              have huu : True ∧ True ∧ True ∧ True := ⟨trivial, trivial, trivial, trivial⟩
              obtain ⟨u0, u1, u2, u3⟩ := huu
              go_upto_region 19 with (go_at_call 18; refine (digit_Sound.calls _ _ _ hS).mono ?_; rintro e w9 ⟨rfl, hD9⟩)
              go_wp2_with (first
                | (go_at_call 18; refine (digit_Sound.calls T _ _ hsT).mono ?_; rintro e w10 ⟨rfl, hD10⟩)
                | (go_at_call 9; refine (bursarlaw02_awake.calls true _ awake_e).mono ?_; rintro e w11 ⟨rfl, hB11⟩))
              go_ret
              exact ⟨rfl, hBw8.trans ((hD9.below.trans ((hD10.below.trans (hB11.mono hD10.below.size)).mono hD9.below.size)).mono hBw8.size)⟩
      · have hi3 : ¬ (n : Int) % (T.size : Int) + 1 < (T.size : Int) := by omega
        go_region
        have hBw6 : Below w.heap.size w w5.drew := hBw5.drew
        generalize w5.drew = w6 at hBw6 ⊢
        go_wp2_with (first
          | (go_at_call 18; refine (digit_Sound.calls T _ _ hsT).mono ?_; rintro e w7 ⟨rfl, hD7⟩)
          | (go_at_call 9; refine (bursarlaw02_awake.calls true _ awake_e).mono ?_; rintro e w8 ⟨rfl, hB8⟩))
        go_ret
        exact ⟨rfl, hBw6.trans ((hD7.below.trans (hB8.mono hD7.below.size)).mono hBw6.size)⟩
theorem u8_of {n : Int} (h : (Lit.int .u8 n).wf = true) : 0 ≤ n ∧ n < 256 := by
  simp [Lit.wf, IntKind.min, IntKind.max, IntKind.signed, IntKind.bits] at h; omega
theorem finds_walk (a0 : ByteArray) (a1 a2 : Int) (w : World) (w1 : (Lit.int .u8 a1).wf = true) (w2 : (Lit.int .u8 a2).wf = true) :
    Calls Tryd.prog 6 #[.string a0, .int .u8 a1, .int .u8 a2] w fun e w' => e = .returned (.bool true) ∧ Below w.heap.size w w' := by
  obtain ⟨h0, h1⟩ := u8_of w1
  obtain ⟨h2, h3⟩ := u8_of w2
  obtain ⟨n, rfl⟩ : ∃ n : Nat, a1 = n := ⟨a1.toNat, by omega⟩
  obtain ⟨m, rfl⟩ : ∃ m : Nat, a2 = m := ⟨a2.toNat, by omega⟩
  obtain ⟨t, ht, ht2⟩ := few_some a0
  exact finds_w a0 t n m (by omega) (by omega) ht ht2 w
end Go.Proofs.YteghpaomggajdaaDoor.XG
