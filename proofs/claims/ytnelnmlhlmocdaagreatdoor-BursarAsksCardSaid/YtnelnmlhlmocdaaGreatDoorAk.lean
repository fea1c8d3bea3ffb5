/- BursarAsks: the plain law of the message, and the law's walk over the contracts of what it calls. -/
import Derived.Deep.RegionLaw
import Derived.Deep.RegionHeld3
import Derived.Deep.CutBlock
import Derived.Shelf.Abstract
import Derived.Maps.OwnOps
import Derived.Maps.Views
import Derived.Lib.Hide
import Derived.Outline
import Derived.Test.YtnelnmlhlmocdaaGreatDoorXB0
import Derived.Test.YtnelnmlhlmocdaaGreatDoorXB1
import Derived.Test.YtnelnmlhlmocdaaGreatDoorXB2
import Derived.Test.YtnelnmlhlmocdaaGreatDoorXB3
import Derived.Test.YtnelnmlhlmocdaaGreatDoorXB4
import Derived.Test.YtnelnmlhlmocdaaGreatDoorXB5
import Derived.Test.YtnelnmlhlmocdaaGreatDoorXB6
import Derived.Test.YtnelnmlhlmocdaaGreatDoorXB7
import Derived.Test.YtnelnmlhlmocdaaGreatDoorXB8
import Derived.Test.YtnelnmlhlmocdaaGreatDoorXB9
import Derived.Test.YtnelnmlhlmocdaaGreatDoorXB10
namespace Go.Proofs.YtnelnmlhlmocdaaGreatDoor.XB
open Go.RowKit Go.Proofs.YtnelnmlhlmocdaaGreatDoorW.PrintWords Go.Proofs.YtnelnmlhlmocdaaGreatDoorW.PrintLast Go.Proofs.YtnelnmlhlmocdaaGreatDoorW.PrintMore
attribute [local go_sem] max2_int min2_int max_two min_two max_three min_three max_four min_four   -- for this text's walks alone
set_option linter.unusedVariables false
set_option linter.unusedSimpArgs false
/-! ### texts -/
theorem ext_left (a b : ByteArray) (n : Nat) (h : a.size = n) : (a ++ b).extract 0 n = a := by
  apply Pu.ba_ext
  rw [Lib.extract_data, Pu.data_append, List.drop_zero, Nat.sub_zero, ← h, ← Pu.data_len, List.take_left]
theorem ext_right (a b : ByteArray) (n m : Nat) (h : a.size = n) (hm : m = (a ++ b).size) : (a ++ b).extract n m = b := by
  apply Pu.ba_ext
  have hs : (a ++ b).size = a.size + b.size := ByteArray.size_append
  rw [Lib.extract_data, Pu.data_append, ← h, ← Pu.data_len, List.drop_left, hm, hs, ← Pu.data_len, ← Pu.data_len, Nat.add_sub_cancel_left, List.take_of_length_le (Nat.le_refl _)]
theorem ext_mid (a b c : ByteArray) (n m : Nat) (h : a.size = n) (hm : m = n + b.size) : (a ++ (b ++ c)).extract n m = b := by
  apply Pu.ba_ext
  rw [Lib.extract_data, Pu.data_append, Pu.data_append, ← h, ← Pu.data_len, List.drop_left, hm, ← h, ← Pu.data_len, ← Pu.data_len, Nat.add_sub_cancel_left, List.take_left]
theorem wrs {i : Int} (h0 : -4611686018427387904 ≤ i) (h : i ≤ 4611686018427387904) : wrap64 i = i := Pu.wrap_small h0 h
/-! ### one field -/
theorem pack_fix (n kk ll : Int) (v : ByteArray) (ho : spec_Of.f n = some (kk, 0, ll, 0)) (hs : (v.size : Int) = ll) (hok : As.okB kk v = true) (hsz : v.size ≤ 100) (hi : (Lib.itoa (1000 + (v.size : Int))).length = 4) : spec_Pack.f n v = some (v, 0) := by
  have hv : spec_Valid.f n v = some true := by
    unfold spec_Valid.f
    rw [ho, Option.bind_some]
    simp only
    rw [if_pos hs, if_pos trivial]
    unfold spec_pure.f
    rw [if_pos ⟨hok, by omega⟩]
    rfl
  have hit : strconv_Itoa_20.f (1000 + (v.size : Int)) = some ⟨(Lib.itoa (1000 + (v.size : Int))).toArray⟩ := by
    unfold strconv_Itoa_20.f
    rw [if_pos (by omega)]
  have hl : (⟨(Lib.itoa (1000 + (v.size : Int))).toArray⟩ : ByteArray).size = 4 := hi
  unfold spec_Pack.f
  rw [ho, Option.bind_some]
  simp only
  rw [if_pos trivial, hv, Option.bind_some, if_pos rfl, wrs (by omega) (by omega), hit, Option.bind_some, wrs (by omega) (by omega), if_pos (by omega), hl, if_pos (by omega)]
  have e : (⟨(Lib.itoa (1000 + (v.size : Int))).toArray⟩ : ByteArray).extract ((4 : Int) - 0).toNat 4 = ⟨#[]⟩ := by
    apply Pu.size_nil
    rw [ByteArray.size_extract]
    show min 4 _ - 4 = 0
    omega
  rw [e, if_pos (by have : (⟨#[]⟩ : ByteArray).size = 0 := rfl; omega)]
  congr 2
theorem pack_var (n kk ll : Int) (hd v : ByteArray) (ho : spec_Of.f n = some (kk, 2, ll, 0)) (hs : (v.size : Int) < ll) (hok : As.okB kk v = true) (hsz : v.size ≤ 100) (hi : (⟨(Lib.itoa (1000 + (v.size : Int))).toArray⟩ : ByteArray).extract 2 4 = hd) (hi4 : (Lib.itoa (1000 + (v.size : Int))).length = 4) : spec_Pack.f n v = some (hd ++ v, 0) := by
  have hv : spec_Valid.f n v = some true := by
    unfold spec_Valid.f
    rw [ho, Option.bind_some]
    simp only
    rw [if_neg (by omega), if_pos (by omega), if_pos trivial, if_pos hs]
    unfold spec_pure.f
    rw [if_pos ⟨hok, by omega⟩]
    rfl
  have hit : strconv_Itoa_20.f (1000 + (v.size : Int)) = some ⟨(Lib.itoa (1000 + (v.size : Int))).toArray⟩ := by
    unfold strconv_Itoa_20.f
    rw [if_pos (by omega)]
  have hl : (⟨(Lib.itoa (1000 + (v.size : Int))).toArray⟩ : ByteArray).size = 4 := hi4
  have h2 : hd.size = 2 := by
    rw [← hi, ByteArray.size_extract, hl]
    rfl
  unfold spec_Pack.f
  rw [ho, Option.bind_some]
  simp only
  rw [if_pos trivial, hv, Option.bind_some, if_pos rfl, wrs (by omega) (by omega), hit, Option.bind_some, wrs (by omega) (by omega), if_pos (by omega), hl, if_pos (by omega)]
  have e : (⟨(Lib.itoa (1000 + (v.size : Int))).toArray⟩ : ByteArray).extract ((4 : Int) - 2).toNat 4 = hd := hi
  rw [e, if_pos (by omega)]
theorem take_fix (k : Nat) (n kk ll : Int) (v rest : ByteArray) (ho : spec_Of.f n = some (kk, 0, ll, 0)) (hs : (v.size : Int) = ll) (hok : As.okB kk v = true) (hsz : v.size ≤ 100) (hr : rest.size ≤ 1000) : spec_Take.f (k + 1) n (v ++ rest) = some (v, ll, 0) := by
  have hz : (v ++ rest).size = v.size + rest.size := ByteArray.size_append
  unfold spec_Take.f
  rw [ho, Option.bind_some]
  simp only
  rw [if_pos trivial, if_neg (by omega), if_neg (by omega), spec_Take.j0, wrs (by omega) (by omega), hz, if_neg (by omega), if_pos (by omega), if_pos (by omega), if_pos (by omega)]
  have e : (v ++ rest).extract ((0 : Int)).toNat (0 + ll).toNat = v := ext_left v rest _ (by omega)
  rw [e]
  unfold spec_pure.f
  rw [if_pos ⟨hok, by omega⟩, Option.bind_some, if_pos rfl, Int.zero_add]
theorem take_var (k : Nat) (n kk ll : Int) (hd v rest : ByteArray) (ho : spec_Of.f n = some (kk, 2, ll, 0)) (hh : hd.size = 2) (hhd : As.okB 1 hd = true) (hat : Lib.atoi hd.data.toList = some (v.size : Int)) (hs : (v.size : Int) < ll) (hok : As.okB kk v = true) (hsz : v.size ≤ 100) (hr : rest.size ≤ 1000) : spec_Take.f (k + 1) n (hd ++ (v ++ rest)) = some (v, 2 + (v.size : Int), 0) := by
  have hz : (hd ++ (v ++ rest)).size = 2 + (v.size + rest.size) := by rw [ByteArray.size_append, ByteArray.size_append, hh]
  unfold spec_Take.f
  rw [ho, Option.bind_some]
  simp only
  have e0 : (hd ++ (v ++ rest)).extract 0 (2 : Int).toNat = hd := ext_left hd _ _ hh
  rw [if_pos trivial, hz, if_neg (by omega), if_pos (by omega), if_pos (by omega), if_pos (by omega), e0]
  have hp : spec_pure.f 1 0 0 hd = some true := by unfold spec_pure.f; rw [if_pos ⟨hhd, by omega⟩]
  have ha : strconv_Atoi_58.f hd = some ((v.size : Int), none) := by unfold strconv_Atoi_58.f; rw [if_pos (by omega), hat]
  rw [hp, Option.bind_some, if_pos rfl, ha, Option.bind_some]
  simp only
  rw [if_neg (by omega), spec_Take.j0, wrs (by omega) (by omega), hz, if_neg (by omega), if_pos (by omega), if_pos (by omega), if_pos (by omega)]
  have e : (hd ++ (v ++ rest)).extract ((2 : Int)).toNat (2 + (v.size : Int)).toNat = v := ext_mid hd v rest _ _ hh (by omega)
  rw [e]
  unfold spec_pure.f
  rw [if_pos ⟨hok, by omega⟩, Option.bind_some, if_pos rfl]
/-! ### the steps of the loops -/
theorem pk_step (k : Nat) (s : ByteArray) (xs : List S56) (m i : Nat) (f : Int) (val b : ByteArray) (hm : m = xs.length) (hi : i < m) (hxl : m ≤ 100) (hrd : rd_T56 xs (i : Int) = ⟨f, val⟩) (hp : spec_Pack.f f val = some (b, 0)) (hs : s.size + b.size ≤ 100000) :
    iso_pack.l0 (k + 1) s xs (m : Int) (i : Int) = iso_pack.l0 k (s ++ b) xs (m : Int) ((i + 1 : Nat) : Int) := by
  rw [iso_pack.l0, if_pos (by omega), if_pos (by omega), if_pos (by omega), hrd]
  simp only
  rw [hp, Option.bind_some]
  simp only
  rw [if_pos trivial, if_pos (by omega), wrs (by omega) (by omega)]
  rfl
theorem pk_end (k : Nat) (s : ByteArray) (xs : List S56) (m : Int) : iso_pack.l0 (k + 1) s xs m m = some (s, 0) := by
  rw [iso_pack.l0, if_neg (by omega)]
theorem ps_step (k : Nat) (rest next : ByteArray) (ns : List Int) (m i : Nat) (n : Int) (v : ByteArray) (u : Int) (mt : ByteArray) (acc : List S56) (hm : m = ns.length) (hi : i < m) (hxl : m ≤ 100) (hn : rd ns (i : Int) = n) (ht : spec_Take.f k n rest = some (v, u, 0)) (hacc : acc.length ≤ 100) (hu : 0 ≤ u) (hur : u ≤ (rest.size : Int)) (hx : rest.extract u.toNat rest.size = next) :
    iso_Parse.l0 (k + 1) rest ns (m : Int) (i : Int) mt acc = iso_Parse.l0 k next ns (m : Int) ((i + 1 : Nat) : Int) mt (acc ++ [⟨n, v⟩]) := by
  rw [iso_Parse.l0, if_pos (by omega), if_pos (by omega), if_pos (by omega), hn, ht, Option.bind_some]
  simp only
  rw [if_pos trivial, if_pos (by omega), if_pos hu, if_pos hur, hx, wrs (by omega) (by omega)]
  rfl
theorem ps_end (k : Nat) (ns : List Int) (m : Int) (mt : ByteArray) (acc : List S56) : iso_Parse.l0 (k + 1) ⟨#[]⟩ ns m m mt acc = some (mt, acc, 0) := by
  rw [iso_Parse.l0, if_neg (by omega), if_pos (Pu.toList_nil.mpr rfl)]
/-! ### the message -/
def mtT : ByteArray := ⟨#[48, 49, 48, 48]⟩
def codeT : ByteArray := ⟨#[48, 48, 48, 48, 48, 48]⟩
def h16 : ByteArray := ⟨#[49, 54]⟩
def h06 : ByteArray := ⟨#[48, 54]⟩
def L7 (pan am sent stan acq rrn : ByteArray) : List S56 := [⟨2, pan⟩, ⟨3, codeT⟩, ⟨4, am⟩, ⟨7, sent⟩, ⟨11, stan⟩, ⟨32, acq⟩, ⟨37, rrn⟩]
structure Good (pan am sent stan acq rrn : ByteArray) (k : Int) : Prop where
  p16 : pan.size = 16
  pd : As.okB 1 pan = true
  pm : Pu.mayB 1 pan = true
  a12 : am.size = 12
  ad : As.okB 1 am = true
  al : Pu.allD am = true
  ap : Lib.parseIntB 64 am.data.toList = .ok k
  ak : 1 ≤ k
  e10 : sent.size = 10
  ed : As.okB 1 sent = true
  t6 : stan.size = 6
  td : As.okB 1 stan = true
  q6 : acq.size = 6
  qd : As.okB 1 acq = true
  qm : Pu.mayB 2 acq = true
  r12 : rrn.size = 12
  rd : As.okB 2 rrn = true
  rm : Pu.refB rrn = true
section
variable {pan am sent stan acq rrn : ByteArray} {k : Int}
theorem Good.pack2 (g : Good pan am sent stan acq rrn k) : spec_Pack.f 2 pan = some (h16 ++ pan, 0) := pack_var 2 1 19 h16 pan rfl (by rw [g.p16]; decide) g.pd (by rw [g.p16]; decide) (by rw [g.p16]; kernel_rfl) (by rw [g.p16]; kernel_rfl)
theorem Good.pack3 (g : Good pan am sent stan acq rrn k) : spec_Pack.f 3 codeT = some (codeT, 0) := pack_fix 3 1 6 codeT rfl rfl (by decide) (by decide) (by kernel_rfl)
theorem Good.pack4 (g : Good pan am sent stan acq rrn k) : spec_Pack.f 4 am = some (am, 0) := pack_fix 4 1 12 am rfl (by rw [g.a12]; rfl) g.ad (by rw [g.a12]; decide) (by rw [g.a12]; kernel_rfl)
theorem Good.pack7 (g : Good pan am sent stan acq rrn k) : spec_Pack.f 7 sent = some (sent, 0) := pack_fix 7 1 10 sent rfl (by rw [g.e10]; rfl) g.ed (by rw [g.e10]; decide) (by rw [g.e10]; kernel_rfl)
theorem Good.pack11 (g : Good pan am sent stan acq rrn k) : spec_Pack.f 11 stan = some (stan, 0) := pack_fix 11 1 6 stan rfl (by rw [g.t6]; rfl) g.td (by rw [g.t6]; decide) (by rw [g.t6]; kernel_rfl)
theorem Good.pack32 (g : Good pan am sent stan acq rrn k) : spec_Pack.f 32 acq = some (h06 ++ acq, 0) := pack_var 32 1 11 h06 acq rfl (by rw [g.q6]; decide) g.qd (by rw [g.q6]; decide) (by rw [g.q6]; kernel_rfl) (by rw [g.q6]; kernel_rfl)
theorem Good.pack37 (g : Good pan am sent stan acq rrn k) : spec_Pack.f 37 rrn = some (rrn, 0) := pack_fix 37 2 12 rrn rfl (by rw [g.r12]; rfl) g.rd (by rw [g.r12]; decide) (by rw [g.r12]; kernel_rfl)
/-- the octets -/
def octs (pan am sent stan acq rrn : ByteArray) : ByteArray := mtT ++ (hdT ++ (h16 ++ (pan ++ (codeT ++ (am ++ (sent ++ (stan ++ (h06 ++ (acq ++ (rrn ++ ⟨#[]⟩))))))))))
theorem octs_assoc (pan am sent stan acq rrn : ByteArray) : ((((((((mtT ++ hdT) ++ (h16 ++ pan)) ++ codeT) ++ am) ++ sent) ++ stan) ++ (h06 ++ acq)) ++ rrn) = octs pan am sent stan acq rrn := by
  unfold octs
  apply Pu.ba_ext
  have e0 : (⟨#[]⟩ : ByteArray).data.toList = [] := rfl
  simp only [Pu.data_append, List.append_assoc, e0, List.append_nil]
theorem Good.pack (g : Good pan am sent stan acq rrn k) : iso_pack.f 40 mtT (L7 pan am sent stan acq rrn) = some (octs pan am sent stan acq rrn, 0) := by
  have s1 : mtT.size = 4 := rfl
  have s2 : hdT.size = 8 := rfl
  have s3 : h16.size = 2 := rfl
  have s4 : h06.size = 2 := rfl
  have s5 : codeT.size = 6 := rfl
  have hp : mti_Parse.f mtT = some (1, false, false, false, 0) := by unfold mti_Parse.f; exact if_pos rfl
  have hn : iso_numbers.f 40 (L7 pan am sent stan acq rrn) = some hdL := by kernel_rfl
  have hm : bitmap_Map.f 40 hdL = some (hdT, 0) := by kernel_rfl
  unfold iso_pack.f
  rw [hp, Option.bind_some]
  simp only
  rw [if_pos trivial, hn, Option.bind_some, hm, Option.bind_some]
  simp only
  rw [if_pos trivial, if_pos (by omega)]
  show iso_pack.l0 (39 + 1) (mtT ++ hdT) (L7 pan am sent stan acq rrn) ((7 : Nat) : Int) ((0 : Nat) : Int) = _
  rw [pk_step 39 _ _ 7 0 2 pan _ rfl (by omega) (by omega) rfl g.pack2 (by simp only [ByteArray.size_append, s1, s2, s3, s4, s5, g.p16, g.a12, g.e10, g.t6, g.q6, g.r12] <;> omega)]
  rw [pk_step 38 _ _ 7 1 3 codeT _ rfl (by omega) (by omega) rfl g.pack3 (by simp only [ByteArray.size_append, s1, s2, s3, s4, s5, g.p16, g.a12, g.e10, g.t6, g.q6, g.r12] <;> omega)]
  rw [pk_step 37 _ _ 7 2 4 am _ rfl (by omega) (by omega) rfl g.pack4 (by simp only [ByteArray.size_append, s1, s2, s3, s4, s5, g.p16, g.a12, g.e10, g.t6, g.q6, g.r12] <;> omega)]
  rw [pk_step 36 _ _ 7 3 7 sent _ rfl (by omega) (by omega) rfl g.pack7 (by simp only [ByteArray.size_append, s1, s2, s3, s4, s5, g.p16, g.a12, g.e10, g.t6, g.q6, g.r12] <;> omega)]
  rw [pk_step 35 _ _ 7 4 11 stan _ rfl (by omega) (by omega) rfl g.pack11 (by simp only [ByteArray.size_append, s1, s2, s3, s4, s5, g.p16, g.a12, g.e10, g.t6, g.q6, g.r12] <;> omega)]
  rw [pk_step 34 _ _ 7 5 32 acq _ rfl (by omega) (by omega) rfl g.pack32 (by simp only [ByteArray.size_append, s1, s2, s3, s4, s5, g.p16, g.a12, g.e10, g.t6, g.q6, g.r12] <;> omega)]
  rw [pk_step 33 _ _ 7 6 37 rrn _ rfl (by omega) (by omega) rfl g.pack37 (by simp only [ByteArray.size_append, s1, s2, s3, s4, s5, g.p16, g.a12, g.e10, g.t6, g.q6, g.r12] <;> omega)]
  show iso_pack.l0 (32 + 1) _ _ 7 7 = _
  rw [pk_end, octs_assoc]
theorem Good.osize (g : Good pan am sent stan acq rrn k) : (octs pan am sent stan acq rrn).size = 84 := by
  unfold octs
  simp only [ByteArray.size_append, g.p16, g.a12, g.e10, g.t6, g.q6, g.r12, show mtT.size = 4 from rfl, show hdT.size = 8 from rfl, show h16.size = 2 from rfl, show h06.size = 2 from rfl, show codeT.size = 6 from rfl, show (⟨#[]⟩ : ByteArray).size = 0 from rfl]
theorem Good.Pack (g : Good pan am sent stan acq rrn k) : iso_Pack.f 40 mtT (L7 pan am sent stan acq rrn) = some (octs pan am sent stan acq rrn, 0) := by
  unfold iso_Pack.f
  rw [g.pack, Option.bind_some]
  simp only
  rw [if_pos trivial, g.osize, if_neg (by omega)]
theorem Good.check (g : Good pan am sent stan acq rrn k) : iso_Check.f 40 mtT (L7 pan am sent stan acq rrn) = some 0 := by
  unfold iso_Check.f
  rw [g.Pack, Option.bind_some]
end
section
variable {pan am sent stan acq rrn : ByteArray} {k : Int}
theorem Good.parse (g : Good pan am sent stan acq rrn k) : iso_Parse.f 40 (octs pan am sent stan acq rrn) = some (mtT, L7 pan am sent stan acq rrn, 0) := by
  have s1 : mtT.size = 4 := rfl
  have s2 : hdT.size = 8 := rfl
  have s3 : h16.size = 2 := rfl
  have s4 : h06.size = 2 := rfl
  have s5 : codeT.size = 6 := rfl
  have s0 : (⟨#[]⟩ : ByteArray).size = 0 := rfl
  have hz := g.osize
  have hp : mti_Parse.f mtT = some (1, false, false, false, 0) := by unfold mti_Parse.f; exact if_pos rfl
  have e1 : (octs pan am sent stan acq rrn).extract 0 4 = mtT := ext_left _ _ _ s1
  have e2 : (octs pan am sent stan acq rrn).extract 4 84 = hdT ++ (h16 ++ (pan ++ (codeT ++ (am ++ (sent ++ (stan ++ (h06 ++ (acq ++ (rrn ++ ⟨#[]⟩))))))))) := ext_right _ _ _ _ s1 (by rw [← hz]; rfl)
  have e3 : (octs pan am sent stan acq rrn).extract 12 84 = h16 ++ (pan ++ (codeT ++ (am ++ (sent ++ (stan ++ (h06 ++ (acq ++ (rrn ++ ⟨#[]⟩)))))))) := by
    have h : octs pan am sent stan acq rrn = (mtT ++ hdT) ++ (h16 ++ (pan ++ (codeT ++ (am ++ (sent ++ (stan ++ (h06 ++ (acq ++ (rrn ++ ⟨#[]⟩))))))))) := by
      unfold octs
      apply Pu.ba_ext
      simp only [Pu.data_append, List.append_assoc]
    rw [h] at hz ⊢
    exact ext_right _ _ _ _ rfl hz.symm
  have hrd : bitmap_Read.f (hdT ++ (h16 ++ (pan ++ (codeT ++ (am ++ (sent ++ (stan ++ (h06 ++ (acq ++ (rrn ++ ⟨#[]⟩)))))))))) = some (hdL, 8, 0) := by
    unfold bitmap_Read.f
    refine if_pos ⟨?_, ?_, ext_left _ _ _ s2⟩
    · rw [ByteArray.size_append, s2]; omega
    · simp only [ByteArray.size_append, s0, s1, s2, s3, s4, s5, g.p16, g.a12, g.e10, g.t6, g.q6, g.r12] <;> omega
  unfold iso_Parse.f
  rw [hz, if_neg (by omega), if_neg (by omega), if_pos (by omega), e1, hp, Option.bind_some]
  simp only
  rw [if_pos trivial, e2, hrd, Option.bind_some]
  simp only
  rw [if_pos trivial, wrs (by omega) (by omega), if_pos (by omega), if_pos (by omega)]
  show iso_Parse.l0 (39 + 1) ((octs pan am sent stan acq rrn).extract 12 84) hdL ((7 : Nat) : Int) ((0 : Nat) : Int) mtT [] = _
  rw [e3]
  have t2 := take_var 38 2 1 19 h16 pan (codeT ++ (am ++ (sent ++ (stan ++ (h06 ++ (acq ++ (rrn ++ ⟨#[]⟩))))))) rfl rfl (by decide) (by rw [g.p16]; kernel_rfl) (by rw [g.p16]; decide) g.pd (by rw [g.p16]; decide) (by simp only [ByteArray.size_append, s0, s1, s2, s3, s4, s5, g.p16, g.a12, g.e10, g.t6, g.q6, g.r12] <;> omega)
  rw [ps_step 39 _ (codeT ++ (am ++ (sent ++ (stan ++ (h06 ++ (acq ++ (rrn ++ ⟨#[]⟩))))))) hdL 7 0 2 pan _ mtT [] rfl (by omega) (by omega) rfl t2 (by simp) (by omega) (by simp only [ByteArray.size_append, s0, s1, s2, s3, s4, s5, g.p16, g.a12, g.e10, g.t6, g.q6, g.r12] <;> omega) (by
    have h : h16 ++ (pan ++ (codeT ++ (am ++ (sent ++ (stan ++ (h06 ++ (acq ++ (rrn ++ ⟨#[]⟩)))))))) = (h16 ++ pan) ++ (codeT ++ (am ++ (sent ++ (stan ++ (h06 ++ (acq ++ (rrn ++ ⟨#[]⟩))))))) := by
      apply Pu.ba_ext
      simp only [Pu.data_append, List.append_assoc]
    rw [h]
    exact ext_right _ _ _ _ (by rw [ByteArray.size_append, s3, g.p16]; rfl) rfl)]
  have t3 := take_fix 37 3 1 6 codeT (am ++ (sent ++ (stan ++ (h06 ++ (acq ++ (rrn ++ ⟨#[]⟩)))))) rfl rfl (by decide) (by decide) (by simp only [ByteArray.size_append, s0, s1, s2, s3, s4, s5, g.p16, g.a12, g.e10, g.t6, g.q6, g.r12] <;> omega)
  rw [ps_step 38 _ _ hdL 7 1 3 codeT _ mtT _ rfl (by omega) (by omega) rfl t3 (by simp) (by omega) (by simp only [ByteArray.size_append, s0, s1, s2, s3, s4, s5, g.p16, g.a12, g.e10, g.t6, g.q6, g.r12] <;> omega) (ext_right _ _ _ _ s5 rfl)]
  have t4 := take_fix 36 4 1 12 am (sent ++ (stan ++ (h06 ++ (acq ++ (rrn ++ ⟨#[]⟩))))) rfl (by rw [g.a12]; rfl) g.ad (by rw [g.a12]; decide) (by simp only [ByteArray.size_append, s0, s1, s2, s3, s4, s5, g.p16, g.a12, g.e10, g.t6, g.q6, g.r12] <;> omega)
  rw [ps_step 37 _ _ hdL 7 2 4 am _ mtT _ rfl (by omega) (by omega) rfl t4 (by simp) (by omega) (by simp only [ByteArray.size_append, s0, s1, s2, s3, s4, s5, g.p16, g.a12, g.e10, g.t6, g.q6, g.r12] <;> omega) (ext_right _ _ _ _ g.a12 rfl)]
  have t7 := take_fix 35 7 1 10 sent (stan ++ (h06 ++ (acq ++ (rrn ++ ⟨#[]⟩)))) rfl (by rw [g.e10]; rfl) g.ed (by rw [g.e10]; decide) (by simp only [ByteArray.size_append, s0, s1, s2, s3, s4, s5, g.p16, g.a12, g.e10, g.t6, g.q6, g.r12] <;> omega)
  rw [ps_step 36 _ _ hdL 7 3 7 sent _ mtT _ rfl (by omega) (by omega) rfl t7 (by simp) (by omega) (by simp only [ByteArray.size_append, s0, s1, s2, s3, s4, s5, g.p16, g.a12, g.e10, g.t6, g.q6, g.r12] <;> omega) (ext_right _ _ _ _ g.e10 rfl)]
  have t11 := take_fix 34 11 1 6 stan (h06 ++ (acq ++ (rrn ++ ⟨#[]⟩))) rfl (by rw [g.t6]; rfl) g.td (by rw [g.t6]; decide) (by simp only [ByteArray.size_append, s0, s1, s2, s3, s4, s5, g.p16, g.a12, g.e10, g.t6, g.q6, g.r12] <;> omega)
  rw [ps_step 35 _ _ hdL 7 4 11 stan _ mtT _ rfl (by omega) (by omega) rfl t11 (by simp) (by omega) (by simp only [ByteArray.size_append, s0, s1, s2, s3, s4, s5, g.p16, g.a12, g.e10, g.t6, g.q6, g.r12] <;> omega) (ext_right _ _ _ _ g.t6 rfl)]
  have t32 := take_var 33 32 1 11 h06 acq (rrn ++ ⟨#[]⟩) rfl rfl (by decide) (by rw [g.q6]; kernel_rfl) (by rw [g.q6]; decide) g.qd (by rw [g.q6]; decide) (by simp only [ByteArray.size_append, s0, s1, s2, s3, s4, s5, g.p16, g.a12, g.e10, g.t6, g.q6, g.r12] <;> omega)
  rw [ps_step 34 _ (rrn ++ ⟨#[]⟩) hdL 7 5 32 acq _ mtT _ rfl (by omega) (by omega) rfl t32 (by simp) (by omega) (by simp only [ByteArray.size_append, s0, s1, s2, s3, s4, s5, g.p16, g.a12, g.e10, g.t6, g.q6, g.r12] <;> omega) (by
    have h : h06 ++ (acq ++ (rrn ++ ⟨#[]⟩)) = (h06 ++ acq) ++ (rrn ++ ⟨#[]⟩) := by
      apply Pu.ba_ext
      simp only [Pu.data_append, List.append_assoc]
    rw [h]
    exact ext_right _ _ _ _ (by rw [ByteArray.size_append, s4, g.q6]; rfl) rfl)]
  have t37 := take_fix 32 37 2 12 rrn ⟨#[]⟩ rfl (by rw [g.r12]; rfl) g.rd (by rw [g.r12]; decide) (by rw [s0]; omega)
  rw [ps_step 33 _ _ hdL 7 6 37 rrn _ mtT _ rfl (by omega) (by omega) rfl t37 (by simp) (by omega) (by simp only [ByteArray.size_append, s0, g.r12] <;> omega) (ext_right _ _ _ _ g.r12 rfl)]
  exact ps_end 32 hdL 7 mtT _
theorem Good.read (g : Good pan am sent stan acq rrn k) : trade_Read.f mtT (L7 pan am sent stan acq rrn) = some (mtT, pan, codeT, k, sent, stan, acq, rrn, ⟨#[]⟩, 0, 0, ⟨#[]⟩, 0) := by
  unfold trade_Read.f L7
  simp only
  have hc : iso_Check.f 40 mtT [⟨2, pan⟩, ⟨3, codeT⟩, ⟨4, am⟩, ⟨7, sent⟩, ⟨11, stan⟩, ⟨32, acq⟩, ⟨37, rrn⟩] = some 0 := g.check
  rw [if_pos ⟨trivial, trivial, trivial, trivial, trivial, trivial, trivial, rfl, hc, g.al, by rw [g.a12]; decide, g.pm, g.qm, g.rm, by rw [g.r12]; decide⟩, g.ap]
  simp only
  rw [if_pos g.ak]
  rfl
theorem Good.card (g : Good pan am sent stan acq rrn k) : chart_Card.f pan = some (1, pan, 0) := by
  unfold chart_Card.f chart_own.f chart_May.f
  rw [g.pm]
  rfl
/-- the key -/
def keyT (stan rrn acq sent : ByteArray) : ByteArray := ((((⟨#[49]⟩ : ByteArray) ++ stan) ++ rrn) ++ acq) ++ sent
theorem Good.key (g : Good pan am sent stan acq rrn k) : trade_Key.f mtT pan codeT k sent stan acq rrn ⟨#[]⟩ 0 0 ⟨#[]⟩ = some (keyT stan rrn acq sent) := by
  have s1 : mtT.size = 4 := rfl
  have e1 : mtT.extract 1 2 = ⟨#[49]⟩ := by kernel_rfl
  have s6 : (⟨#[49]⟩ : ByteArray).size = 1 := rfl
  have hr : trade_or.f rrn 12 = some rrn := by unfold trade_or.f; exact if_neg (fun h => by have := Pu.toList_nil.mp h; have := g.r12; omega)
  have hq : trade_or.f acq 6 = some acq := by unfold trade_or.f; exact if_neg (fun h => by have := Pu.toList_nil.mp h; have := g.q6; omega)
  unfold trade_Key.f
  rw [s1, if_neg (by omega), if_pos (by omega), e1, hr, hq]
  simp only [Option.bind_some, ByteArray.size_append, s6, g.p16, g.a12, g.e10, g.t6, g.q6, g.r12]
  rfl
theorem Good.refkey (g : Good pan am sent stan acq rrn k) : bursarref20_Key.f 5 mtT pan codeT k sent stan acq rrn ⟨#[]⟩ 0 0 ⟨#[]⟩ = some (keyT stan rrn acq sent) := by
  have s1 : mtT.size = 4 := rfl
  have e1 : mtT.extract 1 2 = ⟨#[49]⟩ := by kernel_rfl
  have s6 : (⟨#[49]⟩ : ByteArray).size = 1 := rfl
  unfold bursarref20_Key.f
  rw [if_neg (fun h => by have := Pu.toList_nil.mp h; have := g.r12; omega), if_neg (fun h => by have := Pu.toList_nil.mp h; have := g.q6; omega), s1, if_pos (by omega), e1]
  simp only [ByteArray.size_append, s6, g.p16, g.a12, g.e10, g.t6, g.q6, g.r12]
  rfl
end
/-! ### the texts out of the numbers -/
theorem digs_d8 (s : ByteArray) : As.digsB s = s.data.toList.all Dg.dig8 := rfl
theorem okB_1 (s : ByteArray) (h : s.data.toList.all Dg.dig8 = true) : As.okB 1 s = true := by
  unfold As.okB
  rw [digs_d8, h]; rfl
theorem okB_dgs (w n : Nat) : As.okB 1 (Dg.ba (Dg.dgs w n)) = true := okB_1 _ (Dg.dgs_dig w n)
theorem allD_dgs (w n : Nat) : Pu.allD (Dg.ba (Dg.dgs w n)) = true := by rw [Dg.all_bs]; exact Dg.dgs_dig w n
theorem size_dgs (w n : Nat) : (Dg.ba (Dg.dgs w n)).size = w := by rw [Dg.ba_size, Dg.dgs_len]
theorem put_dgs (w n : Nat) (hw : 1 ≤ w) (hw2 : w ≤ 19) (hn : n < 10 ^ w) (hb : n < 18446744073709551616) : digit_Put.f (n : Int) (w : Int) = some (Dg.ba (Dg.dgs w n), 0) := by
  unfold digit_Put.f Dg.putS
  rw [if_pos (by omega), if_neg (by omega), Int.toNat_natCast, Int.toNat_natCast, if_pos ((Dg.nDigits_le n w hw).mpr hn)]
theorem parse_dgs (w n : Nat) (hw : 1 ≤ w) (hw2 : w ≤ 18) (hn : n < 10 ^ w) : Lib.parseIntB 64 (Dg.ba (Dg.dgs w n)).data.toList = .ok (n : Int) := by
  obtain ⟨v, rfl⟩ : ∃ v, w = v + 1 := ⟨w - 1, by omega⟩
  have hl := Dg.parse_ok (Dg.ba (Dg.dgs (v + 1) n)) (allD_dgs _ _) (by rw [size_dgs]; omega) (by rw [size_dgs]; omega)
  have hd := Dg.dgs_dig (v + 1) n
  rw [Dg.ba_data] at hl ⊢
  rw [Dg.val_dgs, Nat.mod_eq_of_lt hn] at hl
  rw [Dg.dgs_front] at hl hd ⊢
  rw [List.all_cons, Bool.and_eq_true] at hd
  have hc := hd.1
  unfold Dg.dig8 at hc
  rw [Bool.and_eq_true, decide_eq_true_iff, decide_eq_true_iff] at hc
  have h18 : 10 ^ (v + 1) ≤ 10 ^ 18 := Nat.pow_le_pow_right (by omega) hw2
  unfold Lib.parseIntB
  simp only
  rw [if_neg (by omega), hl]
  simp only
  rw [if_neg (by omega), if_neg (by omega), if_neg (by omega)]
theorem sign_get (s : ByteArray) (h1 : 1 ≤ s.size) (ha : Pu.allD s = true) : Dg.signS s = (s ++ Dg.ba [UInt8.ofNat (48 + (Dg.signD s).toNat)], 0) := by
  unfold Dg.signS
  have hno : ¬ (s.size = 0 ∨ Pu.allD s = false) := by
    rintro (h | h)
    · omega
    · rw [ha] at h; cases h
  rw [if_neg hno, Dg.sign_tail]
theorem refB_ans (rrn : ByteArray) (h : rrn.size = 12) (ha : As.ansB rrn = true) : Pu.refB rrn = true := by
  unfold Pu.refB
  rw [decide_eq_true h, Bool.true_and]
  unfold Pu.bs
  rw [List.all_map, ← ha]
  unfold As.ansB
  congr 1
  funext c
  simp only [Function.comp, Pu.alnum]
  rw [Bool.eq_iff_iff]
  simp
  omega
theorem good_of (n1 n2 n3 n4 n5 : Nat) (rrn : ByteArray) (h2 : 1 ≤ n2) (h2' : n2 < 10 ^ 12) (hr : rrn.size = 12) (ha : As.ansB rrn = true) :
    Good (Dg.signS (Dg.ba (Dg.dgs 15 n1))).1 (Dg.ba (Dg.dgs 12 n2)) (Dg.ba (Dg.dgs 10 n5)) (Dg.ba (Dg.dgs 6 n4)) (Dg.ba (Dg.dgs 6 n3)) rrn (n2 : Int) := by
  have hF := size_dgs 15 n1
  have hs := sign_get (Dg.ba (Dg.dgs 15 n1)) (by omega) (allD_dgs _ _)
  have hr9 := Dg.signD_range (Dg.ba (Dg.dgs 15 n1))
  have hsz : (Dg.ba (Dg.dgs 15 n1) ++ Dg.ba [UInt8.ofNat (48 + (Dg.signD (Dg.ba (Dg.dgs 15 n1))).toNat)]).size = 16 := by rw [ByteArray.size_append, hF, Dg.ba_size]; rfl
  have hsound : Pu.soundB (Dg.ba (Dg.dgs 15 n1) ++ Dg.ba [UInt8.ofNat (48 + (Dg.signD (Dg.ba (Dg.dgs 15 n1))).toNat)]) = true := by
    rw [Dg.sound_tail _ (by omega) (allD_dgs _ _) _ (by omega), decide_eq_true_iff]; omega
  have hall : Pu.allD (Dg.ba (Dg.dgs 15 n1) ++ Dg.ba [UInt8.ofNat (48 + (Dg.signD (Dg.ba (Dg.dgs 15 n1))).toNat)]) = true := by
    unfold Pu.soundB at hsound
    rw [Bool.and_eq_true, Bool.and_eq_true] at hsound
    exact hsound.1.2
  rw [hs]
  simp only
  refine { p16 := hsz, pd := okB_1 _ (by rw [← Dg.all_bs]; exact hall), pm := ?_, a12 := size_dgs _ _, ad := okB_dgs _ _, al := allD_dgs _ _, ap := parse_dgs 12 n2 (by omega) (by omega) h2', ak := by omega, e10 := size_dgs _ _, ed := okB_dgs _ _, t6 := size_dgs _ _, td := okB_dgs _ _, q6 := size_dgs _ _, qd := okB_dgs _ _, qm := ?_, r12 := hr, rd := ?_, rm := refB_ans rrn hr ha }
  · rw [Pu.mayB_1, hsound, hsz]; rfl
  · rw [Pu.mayB_2, allD_dgs, size_dgs]; rfl
  · unfold As.okB
    rw [ha]; rfl
theorem put_call (n wd : Nat) (v wi : Int) (hv : v = (n : Int)) (hwi : wi = (wd : Int)) (hw : 1 ≤ wd) (hw2 : wd ≤ 19) (hn : n < 10 ^ wd) (hb : n < 18446744073709551616) (W : World) (HT : As.Env W) :
    Calls Tryz.prog 4 #[.int .u64 v, .int .i64 wi] W fun e w' => e = .returned (.tuple #[.string (Dg.ba (Dg.dgs wd n)), .int .i64 0]) ∧ Below W.heap.size W w' := by
  subst hv hwi
  exact digit_Put.calls (n : Int) (wd : Int) _ _ W (put_dgs wd n hw hw2 hn hb) (fun _ => HT.tab)
theorem ans_snoc (s ref : ByteArray) (k : Nat) (hk : k < ref.size) (hA : As.ansB s = true) (hc : (48 ≤ ((ref[k]'hk).toNat : Int) ∧ ((ref[k]'hk).toNat : Int) ≤ 57) ∨ (65 ≤ ((ref[k]'hk).toNat : Int) ∧ ((ref[k]'hk).toNat : Int) ≤ 90)) : As.ansB (s ++ ref.extract k (k + 1)) = true := by
  unfold As.ansB at hA ⊢
  have hd : (ref.extract k (k + 1)).data.toList = [ref[k]'hk] := by
    rw [Lib.extract_data, Nat.add_sub_cancel_left, List.drop_eq_getElem_cons (by rw [Pu.data_len]; exact hk)]
    rfl
  rw [Pu.data_append, List.all_append, hA, hd, Bool.true_and, List.all_cons, List.all_nil, Bool.and_true]
  simp
  omega
theorem put_msg (A : Option Addr) (c m : Nat) (l : List S56) (n : Int) (v : ByteArray) (W : World) (hm : m = l.length) (hC : Kd.C k56 W A m l) (hc : m ≤ c) (hl : m ≤ 19) (hgt : l.all (fun x => decide (x.f0 > n)) = true) :
    Calls Tryz.prog 6 #[.agg #[.string ⟨#[48, 49, 48, 48]⟩, .slice A m c], .int .i64 n, .string v] W fun e w' => ∃ A1 c1, e = .returned (.agg #[.string ⟨#[48, 49, 48, 48]⟩, .slice A1 (m + 1) c1]) ∧ Kd.C k56 w' A1 (m + 1) (⟨n, v⟩ :: l) ∧ m + 1 ≤ c1 ∧ Kd.R k56 56 w' W.heap.size (fun _ => True) (.slice A1 (m + 1) c1) (⟨n, v⟩ :: l) ∧ Below W.heap.size W w' := by
  subst hm
  refine (iso_Put.calls ⟨#[48, 49, 48, 48]⟩ A c l n v ⟨#[48, 49, 48, 48]⟩ (⟨n, v⟩ :: l) W hC hc (by unfold iso_Put.f; rw [if_pos ⟨hl, hgt⟩])).mono ?_
  rintro e w' ⟨v1, rfl, hR, hB⟩
  obtain ⟨A1, c1, rfl⟩ := Kd.R_slice hR
  obtain ⟨-, hle, hC1⟩ := Kd.R_reads' hR
  exact ⟨A1, c1, rfl, hC1, hle, hR, hB⟩
set_option maxHeartbeats 8000000 in
set_option maxRecDepth 100000 in
theorem law_w (card amount acqn stann sent : Nat) (ref : ByteArray) (b1 : card < 18446744073709551616) (b2 : amount < 18446744073709551616) (b3 : acqn < 4294967296) (b4 : stann < 4294967296) (b5 : sent < 18446744073709551616) (w : World) (HT0 : As.Env w) :
    Calls Tryz.prog 3 #[.agg #[.int .u64 card, .int .u64 amount, .int .u32 acqn, .int .u32 stann, .string ref, .int .u64 sent]] w fun e w' => e = .returned (.bool true) ∧ Below w.heap.size w w' := by
  have hu := Tryz.underlying25
  have hu2 := Tryz.underlying32
  have hb := blk_new w (.cells #[.int .u64 card, .int .u64 amount, .int .u32 acqn, .int .u32 stann, .string ref, .int .u64 sent] 25 (0, 0))
  have hB := below_alloc (Below.refl w.heap.size w) (.cells #[.int .u64 card, .int .u64 amount, .int .u32 acqn, .int .u32 stann, .string ref, .int .u64 sent] 25 (0, 0))
  have HT := Lib.hid HT0
  -- the numbers, the texts
  have m1 : (card : Int) % 1000000000000000 = ((card % 1000000000000000 : Nat) : Int) := by omega
  have m2 : 1 + (amount : Int) % 999999999999 = ((1 + amount % 999999999999 : Nat) : Int) := by omega
  have m3 : (acqn : Int) % 1000000 = ((acqn % 1000000 : Nat) : Int) := by omega
  have m4 : (stann : Int) % 1000000 = ((stann % 1000000 : Nat) : Int) := by omega
  have m5 : (sent : Int) % 10000000000 = ((sent % 10000000000 : Nat) : Int) := by omega
  have p1 := fun W HW => put_call (card % 1000000000000000) 15 _ 15 m1 rfl (by omega) (by omega) (by omega) (by omega) W HW
  have p2 := fun W HW => put_call (1 + amount % 999999999999) 12 _ 12 m2 rfl (by omega) (by omega) (by omega) (by omega) W HW
  have p3 := fun W HW => put_call (acqn % 1000000) 6 _ 6 m3 rfl (by omega) (by omega) (by omega) (by omega) W HW
  have p4 := fun W HW => put_call (stann % 1000000) 6 _ 6 m4 rfl (by omega) (by omega) (by omega) (by omega) W HW
  have p5 := fun W HW => put_call (sent % 10000000000) 10 _ 10 m5 rfl (by omega) (by omega) (by omega) (by omega) W HW
  have hgood := fun rrn hr ha => good_of (card % 1000000000000000) (1 + amount % 999999999999) (acqn % 1000000) (stann % 1000000) (sent % 10000000000) rrn (by omega) (by omega) hr ha
  have hsg := sign_get (Dg.ba (Dg.dgs 15 (card % 1000000000000000))) (by rw [size_dgs]; omega) (allD_dgs _ _)
  have p6 := fun W => digit_Sign.calls (Dg.ba (Dg.dgs 15 (card % 1000000000000000))) (Dg.signS (Dg.ba (Dg.dgs 15 (card % 1000000000000000)))).1 0 W (by unfold digit_Sign.f; rw [if_pos (by rw [size_dgs]; omega), hsg])
  rw [← m2] at hgood
  clear hsg m1 m2 m3 m4 m5
  generalize (Dg.signS (Dg.ba (Dg.dgs 15 (card % 1000000000000000)))).1 = pan at hgood p6
  generalize Dg.ba (Dg.dgs 15 (card % 1000000000000000)) = first at p1 p6
  generalize Dg.ba (Dg.dgs 12 (1 + amount % 999999999999)) = am at p2 hgood
  generalize Dg.ba (Dg.dgs 6 (acqn % 1000000)) = acq at p3 hgood
  generalize Dg.ba (Dg.dgs 6 (stann % 1000000)) = stan at p4 hgood
  generalize Dg.ba (Dg.dgs 10 (sent % 10000000000)) = snt at p5 hgood
  have HG := Lib.hid hgood
  have P2 := Lib.hid p2
  have P3 := Lib.hid p3
  have P4 := Lib.hid p4
  have P5 := Lib.hid p5
  have P6 := Lib.hid p6
  clear hgood HT0 p2 p3 p4 p5 p6
  go_enter Tryz.func3, Tryz.ntmps3
  go_upto_region 1 with fail
  generalize w.alloc (.cells #[.int .u64 card, .int .u64 amount, .int .u32 acqn, .int .u32 stann, .string ref, .int .u64 sent] 25 (0, 0)) = W0 at hb hB ⊢
  have c0 : W0.cell? ⟨w.heap.size, 0, none⟩ = some (.int .u64 card) := (blk_cell hb 0).trans rfl
  have q1 := p1 W0 (HT.out.below hB)
  clear p1
  go_upto_region 2 with (go_at_call 4; refine q1.mono ?_; rintro e w1 ⟨rfl, hb1⟩)
  have hd1 := blk_below hb hb1
  have hD1 := hB.trans (hb1.mono hB.size)
  clear hb hB hb1 q1 c0
  have q6 := P6.out w1
  go_upto_region 3 with (go_at_call 5; refine q6.mono ?_; rintro e w2 ⟨rfl, hb2⟩)
  have hd2 := blk_below hd1 hb2
  have hD2 := hD1.trans (hb2.mono hD1.size)
  clear hd1 hD1 hb2 q6 P6
  have c1 : w2.cell? ⟨w.heap.size, 1, none⟩ = some (.int .u64 amount) := (blk_cell hd2 1).trans rfl
  have q2 := P2.out w2 (HT.out.below hD2)
  clear P2
  go_upto_region 4 with (go_at_call 4; refine q2.mono ?_; rintro e w3 ⟨rfl, hb3⟩)
  have hd3 := blk_below hd2 hb3
  have hD3 := hD2.trans (hb3.mono hD2.size)
  clear hd2 hD2 hb3 q2 c1
  have c2 : w3.cell? ⟨w.heap.size, 2, none⟩ = some (.int .u32 acqn) := (blk_cell hd3 2).trans rfl
  have q3 := P3.out w3 (HT.out.below hD3)
  clear P3
  go_upto_region 5 with (go_at_call 4; refine q3.mono ?_; rintro e w4 ⟨rfl, hb4⟩)
  have hd4 := blk_below hd3 hb4
  have hD4 := hD3.trans (hb4.mono hD3.size)
  clear hd3 hD3 hb4 q3 c2
  have c3 : w4.cell? ⟨w.heap.size, 3, none⟩ = some (.int .u32 stann) := (blk_cell hd4 3).trans rfl
  have q4 := P4.out w4 (HT.out.below hD4)
  clear P4
  go_upto_region 6 with (go_at_call 4; refine q4.mono ?_; rintro e w5 ⟨rfl, hb5⟩)
  have hd5 := blk_below hd4 hb5
  have hD5 := hD4.trans (hb5.mono hD4.size)
  clear hd4 hD4 hb5 q4 c3
  have c5 : w5.cell? ⟨w.heap.size, 5, none⟩ = some (.int .u64 sent) := (blk_cell hd5 5).trans rfl
  have q5 := P5.out w5 (HT.out.below hD5)
  clear P5
  go_upto_block 0 with (go_at_call 4; refine q5.mono ?_; rintro e w6 ⟨rfl, hb6⟩)
  have hd6 := blk_below hd5 hb6
  have hD6 := hD5.trans (hb6.mono hD5.size)
  clear hd5 hD5 hb6 q5 c5
  have c4 : w6.cell? ⟨w.heap.size, 4, none⟩ = some (.string ref) := (blk_cell hd6 4).trans rfl
  have HD6 := Lib.hid hD6
  have Hd6 := Lib.hid hd6
  clear hD6 hd6
  go_cut [15] from 16 to 134 (fun v15 wc => ∃ s : ByteArray, v15 = .string s ∧ s.size ≤ 12 ∧ Hid (As.ansB s = true) ∧ w6 = wc)
  case first =>
    go_wp2_with fail
    go_loopg [15, 16] 100 (fun gg s15 s16 wr => ∃ (k : Nat) (s : ByteArray), k ≤ 100 ∧ 100 - k ≤ gg ∧ s16 = .int .i64 k ∧ s15 = .string s ∧ s.size ≤ 12 ∧ Hid (As.ansB s = true) ∧ w6 = wr)
    case atStart => exact ⟨0, ⟨#[]⟩, by omega, by omega, rfl, rfl, by decide, Lib.hid rfl, rfl⟩
    case round =>
      obtain ⟨k, s, hk, hg, rfl, rfl, hs, HA, rfl⟩ := hrel
      by_cases h1 : k < ref.size
      · have hz1 : (k : Int) < (ref.size : Int) := by omega
        by_cases h2 : k < 100
        · have hz2 : (k : Int) < 100 := by omega
          by_cases h3 : s.size < 12
          · have hz3 : (s.size : Int) < 12 := by omega
            have hz4 : (k : Int) + 1 ≤ (ref.size : Int) := by omega
            have hz5 : (k : Int) ≤ (k : Int) + 1 := by omega
            have hz6 : (0 : Int) ≤ (k : Int) + 1 := by omega
            have hz7 : ((k : Int) + 1).toNat = k + 1 := by omega
            have hz8 : ¬ 9223372036854775807 < s.size + (ref.extract k (k + 1)).size := by rw [ByteArray.size_extract]; omega
            have hz9 := hz8
            rw [ByteArray.size_extract] at hz9
            go_wp2
            all_goals
              go_roundg (100 - (k + 1))
              case measure => omega
              case rel =>
                first
                  | exact ⟨k + 1, s, by omega, by omega, by simp, rfl, hs, HA, rfl⟩
                  | exact ⟨k + 1, s ++ ref.extract k (k + 1), by omega, by omega, by simp, rfl, by rw [ByteArray.size_append, ByteArray.size_extract]; omega, Lib.hid (ans_snoc s ref k h1 HA.out (by omega)), rfl⟩
          · have hz3 : ¬ (s.size : Int) < 12 := by omega
            go_wp2
            go_meet
            exact ⟨s, rfl, hs, HA, rfl⟩
        · have hz2 : ¬ (k : Int) < 100 := by omega
          go_wp2
          go_meet
          exact ⟨s, rfl, hs, HA, rfl⟩
      · have hz1 : ¬ (k : Int) < (ref.size : Int) := by omega
        go_wp2
        go_meet
        exact ⟨s, rfl, hs, HA, rfl⟩
  case rest =>
    obtain ⟨s, rfl, hs, HA, rfl⟩ := hcut
    go_upto_block 2 with fail
    go_cut [15] from 135 to 139 (fun v15 wc => ∃ s : ByteArray, v15 = .string s ∧ s.size = 12 ∧ Hid (As.ansB s = true) ∧ w6 = wc)
    case first =>
      go_wp2_with fail
      go_loopg [15] 12 (fun gg s15 wr => ∃ s : ByteArray, s.size ≤ 12 ∧ 12 - s.size ≤ gg ∧ s15 = .string s ∧ Hid (As.ansB s = true) ∧ w6 = wr)
      case atStart => exact ⟨s, hs, by omega, rfl, HA, rfl⟩
      case round =>
        clear HA hs s
        obtain ⟨s, hs, hg, rfl, HA, rfl⟩ := hrel
        by_cases h3 : s.size < 12
        · have hz3 : (s.size : Int) < 12 := by omega
          have hz8 : ¬ 9223372036854775807 < s.size + 1 := by omega
          go_wp2
          go_roundg (12 - (s.size + 1))
          case measure => omega
          case rel => exact ⟨s ++ ⟨#[48]⟩, by rw [ByteArray.size_append]; show s.size + 1 ≤ 12; omega, by rw [ByteArray.size_append]; show 12 - (s.size + 1) ≤ _; omega, rfl, Lib.hid (by unfold As.ansB; rw [Pu.data_append, List.all_append]; have h := HA.out; unfold As.ansB at h; rw [h]; rfl), rfl⟩
        · have hz3 : ¬ (s.size : Int) < 12 := by omega
          go_wp2
          go_meet
          exact ⟨s, rfl, by omega, HA, rfl⟩
    case rest =>
      clear HA hs s
      obtain ⟨rrn, rfl, hs, HA, rfl⟩ := hcut
      have g := HG.out rrn hs HA.out
      clear HG HA hs
      have hM := blk_new w6 (.cells #[.string ⟨#[48, 49, 48, 48]⟩, .slice none 0 0] 32 (0, 0))
      have hb7 := blk_alloc Hd6.out (.cells #[.string ⟨#[48, 49, 48, 48]⟩, .slice none 0 0] 32 (0, 0))
      have hD7 := below_alloc HD6.out (.cells #[.string ⟨#[48, 49, 48, 48]⟩, .slice none 0 0] 32 (0, 0))
      have hMl : w.heap.size < w6.heap.size := blk_lt Hd6.out
      go_upto_region 19 with fail
      clear c4 HD6 Hd6
      generalize w6.alloc (.cells #[.string ⟨#[48, 49, 48, 48]⟩, .slice none 0 0] 32 (0, 0)) = W7 at hM hb7 hD7 ⊢
      generalize w6.heap.size = M at hM hMl ⊢
      have c0 : W7.cell? ⟨M, 0, none⟩ = some (.string ⟨#[48, 49, 48, 48]⟩) := (blk_cell hM 0).trans rfl
      have c1 : W7.cell? ⟨M, 1, none⟩ = some (.slice none 0 0) := (blk_cell hM 1).trans rfl
      have hC0 : Kd.C k56 W7 none 0 [] := ⟨rfl, by omega, fun h => absurd h (Nat.lt_irrefl 0)⟩
      have q37 := put_msg none 0 0 [] 37 rrn W7 rfl hC0 (by omega) (by omega) rfl
      clear hC0
      have HM := Lib.hid hM
      have Hb7 := Lib.hid hb7
      have HD7 := Lib.hid hD7
      clear hM hb7 hD7
      go_upto_region 20 with (first
        | (go_at_call 6; refine q37.mono ?_; clear q37; rintro e w8 ⟨A1, k1, rfl, hC1, hk1, -, hb8⟩; have q32 := put_msg A1 k1 1 _ 32 acq w8 rfl hC1 hk1 (by omega) rfl; have HB8 := Lib.hid hb8; clear hC1 hb8)
        | (go_at_call 6; refine q32.mono ?_; clear q32; rintro e w9 ⟨A2, k2, rfl, hC2, hk2, -, hb9⟩; have q11 := put_msg A2 k2 2 _ 11 stan w9 rfl hC2 hk2 (by omega) rfl; have HB9 := Lib.hid (HB8.out.trans (hb9.mono HB8.out.size)); clear hC2 hb9)
        | (go_at_call 6; refine q11.mono ?_; clear q11; rintro e w10 ⟨A3, k3, rfl, hC3, hk3, -, hb10⟩; have q7 := put_msg A3 k3 3 _ 7 snt w10 rfl hC3 hk3 (by omega) rfl; have HB10 := Lib.hid (HB9.out.trans (hb10.mono HB9.out.size)); clear hC3 hb10)
        | (go_at_call 6; refine q7.mono ?_; clear q7; rintro e w11 ⟨A4, k4, rfl, -, hk4, hR4, hb11⟩; have HB11 := Lib.hid (HB10.out.trans (hb11.mono HB10.out.size)); have hM11 := blk_below HM.out HB11.out; have d0 : w11.cell? ⟨M, 0, none⟩ = some (.string ⟨#[48, 49, 48, 48]⟩) := (blk_cell hM11 0).trans rfl; have d1 : w11.cell? ⟨M, 1, none⟩ = some (.slice none 0 0) := (blk_cell hM11 1).trans rfl; have f0 := blk_frozen hM11 0; have f1 := blk_frozen hM11 1; have HM11 := Lib.hid hM11; have HR4 := Lib.hid hR4; clear hM11 hb11 hR4))
      have hM12 := blk_put (blk_put HM11.out 0 (.string ⟨#[48, 49, 48, 48]⟩) rfl) 1 (.slice A4 4 k4) rfl
      have hR12 := Kd.R_set (Kd.R_set HR4.out HM11.out (by decide) 0 (.string ⟨#[48, 49, 48, 48]⟩)) (blk_put HM11.out 0 (.string ⟨#[48, 49, 48, 48]⟩) rfl) (by decide) 1 (.slice A4 4 k4)
      have hb12 := blk_far (blk_far (blk_below Hb7.out HB11.out) (p := ⟨M, 0, none⟩) (by show w.heap.size ≠ M; omega) (.string ⟨#[48, 49, 48, 48]⟩)) (p := ⟨M, 1, none⟩) (by show w.heap.size ≠ M; omega) (.slice A4 4 k4)
      have hD12 := below_set (v := .slice A4 4 k4) (j := 1) (below_set (v := .string ⟨#[48, 49, 48, 48]⟩) (j := 0) (HD7.out.trans (HB11.out.mono HD7.out.size)) (show w.heap.size ≤ M by omega)) (show w.heap.size ≤ M by omega)
      clear d0 d1 f0 f1 c0 c1 HM HD7 Hb7 HB8 HB9 HB10 HB11 HM11 HR4
      generalize (w11.setCell ⟨M, 0, none⟩ (.string ⟨#[48, 49, 48, 48]⟩)).setCell ⟨M, 1, none⟩ (.slice A4 4 k4) = W12 at hM12 hR12 hb12 hD12 ⊢
      have c0 : W12.cell? ⟨M, 0, none⟩ = some (.string ⟨#[48, 49, 48, 48]⟩) := (blk_cell hM12 0).trans rfl
      have c1 : W12.cell? ⟨M, 1, none⟩ = some (.slice A4 4 k4) := (blk_cell hM12 1).trans rfl
      obtain ⟨-, -, hC12⟩ := Kd.R_reads' hR12
      have q4 := put_msg A4 k4 4 _ 4 am W12 rfl hC12 hk4 (by omega) rfl
      have HM := Lib.hid hM12
      have Hb := Lib.hid hb12
      have HD := Lib.hid hD12
      clear hM12 hR12 hb12 hD12 hC12
      go_upto_region 21 with (first
        | (go_at_call 6; refine q4.mono ?_; clear q4; rintro e w13 ⟨A5, k5, rfl, hC5, hk5, -, hb13⟩; have q3 := put_msg A5 k5 5 _ 3 ⟨#[48, 48, 48, 48, 48, 48]⟩ w13 rfl hC5 hk5 (by omega) rfl; have HB13 := Lib.hid hb13; clear hC5 hb13)
        | (go_at_call 6; refine q3.mono ?_; clear q3; rintro e w14 ⟨A6, k6, rfl, hC6, hk6, -, hb14⟩; have q2 := put_msg A6 k6 6 _ 2 pan w14 rfl hC6 hk6 (by omega) rfl; have HB14 := Lib.hid (HB13.out.trans (hb14.mono HB13.out.size)); clear hC6 hb14)
        | (go_at_call 6; refine q2.mono ?_; clear q2; rintro e w15 ⟨A7, k7, rfl, -, hk7, hR7, hb15⟩; have HB15 := Lib.hid (HB14.out.trans (hb15.mono HB14.out.size)); have hM15 := blk_below HM.out HB15.out; have d0 : w15.cell? ⟨M, 0, none⟩ = some (.string ⟨#[48, 49, 48, 48]⟩) := (blk_cell hM15 0).trans rfl; have d1 : w15.cell? ⟨M, 1, none⟩ = some (.slice A4 4 k4) := (blk_cell hM15 1).trans rfl; have f0 := blk_frozen hM15 0; have f1 := blk_frozen hM15 1; have HM15 := Lib.hid hM15; have HR7 := Lib.hid hR7; clear hM15 hb15 hR7))
      have hM16 := blk_put (blk_put HM15.out 0 (.string ⟨#[48, 49, 48, 48]⟩) rfl) 1 (.slice A7 7 k7) rfl
      have hR16 := Kd.R_set (Kd.R_set HR7.out HM15.out (by decide) 0 (.string ⟨#[48, 49, 48, 48]⟩)) (blk_put HM15.out 0 (.string ⟨#[48, 49, 48, 48]⟩) rfl) (by decide) 1 (.slice A7 7 k7)
      have hb16 := blk_far (blk_far (blk_below Hb.out HB15.out) (p := ⟨M, 0, none⟩) (by show w.heap.size ≠ M; omega) (.string ⟨#[48, 49, 48, 48]⟩)) (p := ⟨M, 1, none⟩) (by show w.heap.size ≠ M; omega) (.slice A7 7 k7)
      have hD16 := below_set (v := .slice A7 7 k7) (j := 1) (below_set (v := .string ⟨#[48, 49, 48, 48]⟩) (j := 0) (HD.out.trans (HB15.out.mono HD.out.size)) (show w.heap.size ≤ M by omega)) (show w.heap.size ≤ M by omega)
      clear d0 d1 f0 f1 c0 c1 HM HD Hb HB13 HB14 HB15 HM15 HR7
      generalize (w15.setCell ⟨M, 0, none⟩ (.string ⟨#[48, 49, 48, 48]⟩)).setCell ⟨M, 1, none⟩ (.slice A7 7 k7) = W16 at hM16 hR16 hb16 hD16 ⊢
      have c0 : W16.cell? ⟨M, 0, none⟩ = some (.string ⟨#[48, 49, 48, 48]⟩) := (blk_cell hM16 0).trans rfl
      have c1 : W16.cell? ⟨M, 1, none⟩ = some (.slice A7 7 k7) := (blk_cell hM16 1).trans rfl
      obtain ⟨-, -, hC16⟩ := Kd.R_reads' hR16
      have hpk := iso_Pack.calls 40 mtT A7 k7 (L7 pan am snt stan acq rrn) (octs pan am snt stan acq rrn) 0 W16 hC16 hk7 g.Pack (HT.out.below hD16)
      obtain ⟨O, hO⟩ : ∃ O, O = octs pan am snt stan acq rrn := ⟨_, rfl⟩
      have hps := fun W HW => iso_Parse.calls 40 O mtT (L7 pan am snt stan acq rrn) 0 W (by rw [hO]; exact g.parse) HW
      rw [← hO] at hpk
      unfold mtT at hpk hps
      clear hO hR16 hC16
      have Hb := Lib.hid hb16
      have HD := Lib.hid hD16
      have HPS := Lib.hid hps
      clear hM16 hb16 hD16 hps
      go_upto_region 22 with (go_at_call 7; refine hpk.mono ?_; rintro e w17 ⟨rfl, hb17⟩)
      have hb17' := blk_below Hb.out hb17
      have hD17 := HD.out.trans (hb17.mono HD.out.size)
      have hps := HPS.out w17 (HT.out.below hD17)
      clear hpk HPS Hb HD hb17 c0 c1
      go_upto_region 23 with (go_at_call 8; refine hps.mono ?_; rintro e w18 ⟨v18, rfl, hR18, hB18⟩; obtain ⟨A8, k8, rfl⟩ := Kd.R_slice hR18)
      have hn1 := blk_new w18 (.cells #[.string ⟨#[48, 49, 48, 48]⟩, .slice A8 (L7 pan am snt stan acq rrn).length k8] 32 (0, 0))
      have hb18 := blk_alloc (blk_below hb17' hB18) (.cells #[.string ⟨#[48, 49, 48, 48]⟩, .slice A8 (L7 pan am snt stan acq rrn).length k8] 32 (0, 0))
      have hD18 := below_alloc (hD17.trans (hB18.mono hD17.size)) (.cells #[.string ⟨#[48, 49, 48, 48]⟩, .slice A8 (L7 pan am snt stan acq rrn).length k8] 32 (0, 0))
      have hQl : w.heap.size < w18.heap.size := blk_lt (blk_below hb17' hB18)
      have hR19 := Kd.R_below hR18 ((Below.refl w18.heap.size w18).alloc (Nat.le_refl _) (.cells #[.string ⟨#[48, 49, 48, 48]⟩, .slice A8 (L7 pan am snt stan acq rrn).length k8] 32 (0, 0)))
      clear hps hb17' hD17 hR18 hB18
      generalize w18.alloc (.cells #[.string ⟨#[48, 49, 48, 48]⟩, .slice A8 (L7 pan am snt stan acq rrn).length k8] 32 (0, 0)) = W19 at hn1 hb18 hD18 hR19 ⊢
      generalize w18.heap.size = Q at hn1 hQl ⊢
      obtain ⟨-, hk8, hC19⟩ := Kd.R_reads' hR19
      have c0 : W19.cell? ⟨Q, 0, none⟩ = some (.string ⟨#[48, 49, 48, 48]⟩) := (blk_cell hn1 0).trans rfl
      have c1 : W19.cell? ⟨Q, 1, none⟩ = some (.slice A8 (L7 pan am snt stan acq rrn).length k8) := (blk_cell hn1 1).trans rfl
      have hrd := trade_Read.calls mtT A8 k8 (L7 pan am snt stan acq rrn) _ _ _ _ _ _ _ _ _ _ _ _ _ W19 hC19 hk8 g.read (HT.out.below hD18)
      have hcd := fun W => chart_Card.calls pan 1 pan 0 W g.card
      have hmy := fun W => chart_May.calls 1 pan true W (by unfold chart_May.f; rw [g.pm])
      have hrf := fun W => hold_Ref.calls rrn true W (by unfold hold_Ref.f; rw [if_pos (by rw [g.r12]; omega), g.rm])
      have hky := fun W => trade_Key.calls mtT pan codeT (1 + (amount : Int) % 999999999999) snt stan acq rrn ⟨#[]⟩ 0 0 ⟨#[]⟩ _ W g.key
      have hrk := fun W => bursarref20_Key.calls 5 mtT pan codeT (1 + (amount : Int) % 999999999999) snt stan acq rrn ⟨#[]⟩ 0 0 ⟨#[]⟩ _ W g.refkey
      unfold mtT codeT at hrd hky hrk
      unfold keyT at hky hrk
      have hsm := fun W => bursartop_worksSums.calls true W rfl
      have HKY := Lib.hid hky
      have HRK := Lib.hid hrk
      have HSM := Lib.hid hsm
      have Hb := Lib.hid hb18
      have HD := Lib.hid hD18
      have HG := Lib.hid g
      clear hn1 hR19 hC19 hb18 hD18 hky hrk hsm g
      go_upto_region 24 with (go_at_call 9; refine hrd.mono ?_; rintro e w20 ⟨rfl, hb20⟩)
      have hn2 := blk_new w20 (.cells #[.string ⟨#[48, 49, 48, 48]⟩, .string pan, .string ⟨#[48, 48, 48, 48, 48, 48]⟩, .int .i64 (1 + (amount : Int) % 999999999999), .string snt, .string stan, .string acq, .string rrn, .string ⟨#[]⟩, .int .i64 0, .int .i64 0, .string ⟨#[]⟩] 38 (0, 0))
      have hb20' := blk_alloc (blk_below Hb.out hb20) (.cells #[.string ⟨#[48, 49, 48, 48]⟩, .string pan, .string ⟨#[48, 48, 48, 48, 48, 48]⟩, .int .i64 (1 + (amount : Int) % 999999999999), .string snt, .string stan, .string acq, .string rrn, .string ⟨#[]⟩, .int .i64 0, .int .i64 0, .string ⟨#[]⟩] 38 (0, 0))
      have hD20 := below_alloc (HD.out.trans (hb20.mono HD.out.size)) (.cells #[.string ⟨#[48, 49, 48, 48]⟩, .string pan, .string ⟨#[48, 48, 48, 48, 48, 48]⟩, .int .i64 (1 + (amount : Int) % 999999999999), .string snt, .string stan, .string acq, .string rrn, .string ⟨#[]⟩, .int .i64 0, .int .i64 0, .string ⟨#[]⟩] 38 (0, 0))
      have hRl : w.heap.size < w20.heap.size := blk_lt (blk_below Hb.out hb20)
      clear hrd hb20 Hb HD c0 c1
      generalize w20.alloc (.cells #[.string ⟨#[48, 49, 48, 48]⟩, .string pan, .string ⟨#[48, 48, 48, 48, 48, 48]⟩, .int .i64 (1 + (amount : Int) % 999999999999), .string snt, .string stan, .string acq, .string rrn, .string ⟨#[]⟩, .int .i64 0, .int .i64 0, .string ⟨#[]⟩] 38 (0, 0)) = W21 at hn2 hb20' hD20 ⊢
      generalize w20.heap.size = R at hn2 hRl ⊢
      have c1 : W21.cell? ⟨R, 1, none⟩ = some (.string pan) := (blk_cell hn2 1).trans rfl
      go_upto_region 25 with (go_at_call 10; refine (hcd _).mono ?_; rintro e w22 ⟨rfl, hb22⟩)
      have hn3 := blk_new w22 (.cells #[.int .i64 1, .string pan] 42 (0, 0))
      have hR22 := blk_alloc (blk_below hn2 hb22) (.cells #[.int .i64 1, .string pan] 42 (0, 0))
      have hb22' := blk_alloc (blk_below hb20' hb22) (.cells #[.int .i64 1, .string pan] 42 (0, 0))
      have hD22 := below_alloc (hD20.trans (hb22.mono hD20.size)) (.cells #[.int .i64 1, .string pan] 42 (0, 0))
      clear hn2 hb20' hD20 hb22 c1 hcd
      generalize w22.alloc (.cells #[.int .i64 1, .string pan] 42 (0, 0)) = W23 at hn3 hR22 hb22' hD22 ⊢
      generalize w22.heap.size = CB at hn3 ⊢
      have c0 : W23.cell? ⟨CB, 0, none⟩ = some (.int .i64 1) := (blk_cell hn3 0).trans rfl
      have c1 : W23.cell? ⟨CB, 1, none⟩ = some (.string pan) := (blk_cell hn3 1).trans rfl
      have HR22 := Lib.hid hR22
      have Hb := Lib.hid hb22'
      have HD := Lib.hid hD22
      clear hR22 hb22' hD22 hn3
      go_upto_region 27 with (first
        | (go_at_call 11; refine (hmy _).mono ?_; rintro e w24 ⟨rfl, hb24⟩; have hR24 := blk_below HR22.out hb24; have e7 : w24.cell? ⟨R, 7, none⟩ = some (.string rrn) := (blk_cell hR24 7).trans rfl; have HR24 := Lib.hid hR24; have HB24 := Lib.hid hb24; clear hR24 hb24)
        | (go_at_call 12; refine (hrf _).mono ?_; rintro e w25 ⟨rfl, hd25⟩; have hb25 := hd25.below; have HR25 := Lib.hid (blk_below HR24.out hb25); have HB25 := Lib.hid (HB24.out.trans (hb25.mono HB24.out.size)); have hb26 := blk_below Hb.out HB25.out; have k1 : w25.cell? ⟨w.heap.size, 1, none⟩ = some (.int .u64 amount) := (blk_cell hb26 1).trans rfl; clear hd25 hb25 hb26))
      have hn4 := blk_new w25 (.cells #[.string ⟨#[48, 49, 48, 48]⟩, .string pan, .string ⟨#[48, 48, 48, 48, 48, 48]⟩, .int .i64 (1 + (amount : Int) % 999999999999), .string snt, .string stan, .string acq, .string rrn, .string ⟨#[]⟩, .int .i64 0, .int .i64 0, .string ⟨#[]⟩] 38 (0, 0))
      have hR26 := blk_alloc HR25.out (.cells #[.string ⟨#[48, 49, 48, 48]⟩, .string pan, .string ⟨#[48, 48, 48, 48, 48, 48]⟩, .int .i64 (1 + (amount : Int) % 999999999999), .string snt, .string stan, .string acq, .string rrn, .string ⟨#[]⟩, .int .i64 0, .int .i64 0, .string ⟨#[]⟩] 38 (0, 0))
      have hD26 := below_alloc (HD.out.trans (HB25.out.mono HD.out.size)) (.cells #[.string ⟨#[48, 49, 48, 48]⟩, .string pan, .string ⟨#[48, 48, 48, 48, 48, 48]⟩, .int .i64 (1 + (amount : Int) % 999999999999), .string snt, .string stan, .string acq, .string rrn, .string ⟨#[]⟩, .int .i64 0, .int .i64 0, .string ⟨#[]⟩] 38 (0, 0))
      go_upto_region 28 with fail
      have hRN : R < w25.heap.size := blk_lt HR25.out
      clear c0 c1 e7 k1 HR22 Hb HD HR24 HB24 HR25 HB25 hmy hrf
      generalize w25.alloc (.cells #[.string ⟨#[48, 49, 48, 48]⟩, .string pan, .string ⟨#[48, 48, 48, 48, 48, 48]⟩, .int .i64 (1 + (amount : Int) % 999999999999), .string snt, .string stan, .string acq, .string rrn, .string ⟨#[]⟩, .int .i64 0, .int .i64 0, .string ⟨#[]⟩] 38 (0, 0)) = W26 at hn4 hR26 hD26 ⊢
      generalize w25.heap.size = N at hn4 hRN ⊢
      have tw : ∀ W : World, W.heap[R]? = some (.cells #[.string ⟨#[48, 49, 48, 48]⟩, .string pan, .string ⟨#[48, 48, 48, 48, 48, 48]⟩, .int .i64 (1 + (amount : Int) % 999999999999), .string snt, .string stan, .string acq, .string rrn, .string ⟨#[]⟩, .int .i64 0, .int .i64 0, .string ⟨#[]⟩] 38 (0, 0)) → W.heap[N]? = some (.cells #[.string ⟨#[48, 49, 48, 48]⟩, .string pan, .string ⟨#[48, 48, 48, 48, 48, 48]⟩, .int .i64 (1 + (amount : Int) % 999999999999), .string snt, .string stan, .string acq, .string rrn, .string ⟨#[]⟩, .int .i64 0, .int .i64 0, .string ⟨#[]⟩] 38 (0, 0)) → W.cell? ⟨R, 0, none⟩ = some (.string ⟨#[48, 49, 48, 48]⟩) ∧ W.cell? ⟨R, 1, none⟩ = some (.string pan) ∧ W.cell? ⟨R, 2, none⟩ = some (.string ⟨#[48, 48, 48, 48, 48, 48]⟩) ∧ W.cell? ⟨R, 3, none⟩ = some (.int .i64 (1 + (amount : Int) % 999999999999)) ∧ W.cell? ⟨R, 4, none⟩ = some (.string snt) ∧ W.cell? ⟨R, 5, none⟩ = some (.string stan) ∧ W.cell? ⟨R, 6, none⟩ = some (.string acq) ∧ W.cell? ⟨R, 7, none⟩ = some (.string rrn) ∧ W.cell? ⟨R, 8, none⟩ = some (.string ⟨#[]⟩) ∧ W.cell? ⟨R, 9, none⟩ = some (.int .i64 0) ∧ W.cell? ⟨R, 10, none⟩ = some (.int .i64 0) ∧ W.cell? ⟨R, 11, none⟩ = some (.string ⟨#[]⟩) ∧ W.cell? ⟨N, 0, none⟩ = some (.string ⟨#[48, 49, 48, 48]⟩) ∧ W.cell? ⟨N, 1, none⟩ = some (.string pan) ∧ W.cell? ⟨N, 2, none⟩ = some (.string ⟨#[48, 48, 48, 48, 48, 48]⟩) ∧ W.cell? ⟨N, 3, none⟩ = some (.int .i64 (1 + (amount : Int) % 999999999999)) ∧ W.cell? ⟨N, 4, none⟩ = some (.string snt) ∧ W.cell? ⟨N, 5, none⟩ = some (.string stan) ∧ W.cell? ⟨N, 6, none⟩ = some (.string acq) ∧ W.cell? ⟨N, 7, none⟩ = some (.string rrn) ∧ W.cell? ⟨N, 8, none⟩ = some (.string ⟨#[]⟩) ∧ W.cell? ⟨N, 9, none⟩ = some (.int .i64 0) ∧ W.cell? ⟨N, 10, none⟩ = some (.int .i64 0) ∧ W.cell? ⟨N, 11, none⟩ = some (.string ⟨#[]⟩) := fun W hr hn => ⟨(blk_cell hr 0).trans rfl, (blk_cell hr 1).trans rfl, (blk_cell hr 2).trans rfl, (blk_cell hr 3).trans rfl, (blk_cell hr 4).trans rfl, (blk_cell hr 5).trans rfl, (blk_cell hr 6).trans rfl, (blk_cell hr 7).trans rfl, (blk_cell hr 8).trans rfl, (blk_cell hr 9).trans rfl, (blk_cell hr 10).trans rfl, (blk_cell hr 11).trans rfl, (blk_cell hn 0).trans rfl, (blk_cell hn 1).trans rfl, (blk_cell hn 2).trans rfl, (blk_cell hn 3).trans rfl, (blk_cell hn 4).trans rfl, (blk_cell hn 5).trans rfl, (blk_cell hn 6).trans rfl, (blk_cell hn 7).trans rfl, (blk_cell hn 8).trans rfl, (blk_cell hn 9).trans rfl, (blk_cell hn 10).trans rfl, (blk_cell hn 11).trans rfl⟩
      have TW := Lib.hid tw
      have HRa := Lib.hid hR26
      have HNa := Lib.hid hn4
      have HDa := Lib.hid hD26
      clear tw hR26 hn4 hD26
      have hs2 := HG.out.t6
      have hs3 := HG.out.r12
      have hs4 := HG.out.q6
      have hs5 := HG.out.e10
      have hk1 := HKY.out
      go_region_held3 (fun W' => W'.cell? ⟨R, 0, none⟩ = some (.string ⟨#[48, 49, 48, 48]⟩) ∧ W'.cell? ⟨R, 1, none⟩ = some (.string pan) ∧ W'.cell? ⟨R, 2, none⟩ = some (.string ⟨#[48, 48, 48, 48, 48, 48]⟩) ∧ W'.cell? ⟨R, 3, none⟩ = some (.int .i64 (1 + (amount : Int) % 999999999999)) ∧ W'.cell? ⟨R, 4, none⟩ = some (.string snt) ∧ W'.cell? ⟨R, 5, none⟩ = some (.string stan) ∧ W'.cell? ⟨R, 6, none⟩ = some (.string acq) ∧ W'.cell? ⟨R, 7, none⟩ = some (.string rrn) ∧ W'.cell? ⟨R, 8, none⟩ = some (.string ⟨#[]⟩) ∧ W'.cell? ⟨R, 9, none⟩ = some (.int .i64 0) ∧ W'.cell? ⟨R, 10, none⟩ = some (.int .i64 0) ∧ W'.cell? ⟨R, 11, none⟩ = some (.string ⟨#[]⟩) ∧ W'.cell? ⟨N, 0, none⟩ = some (.string ⟨#[48, 49, 48, 48]⟩) ∧ W'.cell? ⟨N, 1, none⟩ = some (.string pan) ∧ W'.cell? ⟨N, 2, none⟩ = some (.string ⟨#[48, 48, 48, 48, 48, 48]⟩) ∧ W'.cell? ⟨N, 3, none⟩ = some (.int .i64 (1 + (amount : Int) % 999999999999)) ∧ W'.cell? ⟨N, 4, none⟩ = some (.string snt) ∧ W'.cell? ⟨N, 5, none⟩ = some (.string stan) ∧ W'.cell? ⟨N, 6, none⟩ = some (.string acq) ∧ W'.cell? ⟨N, 7, none⟩ = some (.string rrn) ∧ W'.cell? ⟨N, 8, none⟩ = some (.string ⟨#[]⟩) ∧ W'.cell? ⟨N, 9, none⟩ = some (.int .i64 0) ∧ W'.cell? ⟨N, 10, none⟩ = some (.int .i64 0) ∧ W'.cell? ⟨N, 11, none⟩ = some (.string ⟨#[]⟩)) (first | exact TW.out _ HRa.out HNa.out | exact TW.out _ HRb.out HNb.out | exact TW.out _ HRc.out HNc.out | exact TW.out _ HRd.out HNd.out | exact TW.out _ HRe.out HNe.out) (first
        | (go_at_call 13; refine (hk1 _).mono ?_; clear hk1; rintro e wb ⟨rfl, hb0⟩; have hb := (below_drew1 (Below.refl W26.heap.size W26)).trans hb0; have HRb := Lib.hid (blk_below HRa.out hb); have HNb := Lib.hid (blk_below HNa.out hb); have HDb := Lib.hid (HDa.out.trans (hb.mono HDa.out.size)); have hk2 := HKY.out; clear hb hb0)
        | (go_at_call 13; refine (hk2 _).mono ?_; clear hk2; rintro e wc ⟨rfl, hc⟩; have HRc := Lib.hid (blk_below HRb.out hc); have HNc := Lib.hid (blk_below HNb.out hc); have HDc := Lib.hid (HDb.out.trans (hc.mono HDb.out.size)); clear hc)
        | (go_at_call 14; refine (HRK.out _).mono ?_; rintro e wd ⟨rfl, hd⟩; have HRd := Lib.hid (blk_below HRc.out hd); have HNd := Lib.hid (blk_below HNc.out hd); have HDd := Lib.hid (HDc.out.trans (hd.mono HDc.out.size)); clear hd)
        | (go_at_call 15; refine (HSM.out _).mono ?_; rintro e we ⟨rfl, he⟩; have HRe := Lib.hid (blk_below HRd.out he); have HNe := Lib.hid (blk_below HNd.out he); have HDe := Lib.hid (HDd.out.trans (he.mono HDd.out.size)); clear he))
      clear TW HRa HNa HDa HRb HNb HDb HRc HNc HDc HRd HNd HDd HRe HNe
      go_wp2
      go_ret
      exact ⟨rfl, HDe.out⟩
/-! ### the law's contract -/
def bursartop_BursarAsks.f (k : Nat) (a0_0 : Int) (a0_1 : Int) (a0_2 : Int) (a0_3 : Int) (a0_4 : ByteArray) (a0_5 : Int) : Option Bool :=
  if 0 ≤ a0_0 ∧ a0_0 < 18446744073709551616 ∧ 0 ≤ a0_1 ∧ a0_1 < 18446744073709551616 ∧ 0 ≤ a0_2 ∧ a0_2 < 4294967296 ∧ 0 ≤ a0_3 ∧ a0_3 < 4294967296 ∧ 0 ≤ a0_5 ∧ a0_5 < 18446744073709551616 then some true else none
theorem bursartop_BursarAsks.calls (k : Nat) (a0_0 : Int) (a0_1 : Int) (a0_2 : Int) (a0_3 : Int) (a0_4 : ByteArray) (a0_5 : Int) (r : Bool) (w : World) (h : bursartop_BursarAsks.f k a0_0 a0_1 a0_2 a0_3 a0_4 a0_5 = some r) (HT0 : As.Env w) :
    Calls Tryz.prog 3 #[.agg #[.int .u64 a0_0, .int .u64 a0_1, .int .u32 a0_2, .int .u32 a0_3, .string a0_4, .int .u64 a0_5]] w fun e w' => e = .returned (.bool r) ∧ Below w.heap.size w w' := by
  unfold bursartop_BursarAsks.f at h
  split at h
  case isFalse => cases h
  case isTrue hb =>
  obtain rfl := Option.some.inj h
  obtain ⟨n0, rfl⟩ : ∃ n : Nat, a0_0 = n := ⟨a0_0.toNat, by omega⟩
  obtain ⟨n1, rfl⟩ : ∃ n : Nat, a0_1 = n := ⟨a0_1.toNat, by omega⟩
  obtain ⟨n2, rfl⟩ : ∃ n : Nat, a0_2 = n := ⟨a0_2.toNat, by omega⟩
  obtain ⟨n3, rfl⟩ : ∃ n : Nat, a0_3 = n := ⟨a0_3.toNat, by omega⟩
  obtain ⟨n5, rfl⟩ : ∃ n : Nat, a0_5 = n := ⟨a0_5.toNat, by omega⟩
  exact law_w n0 n1 n2 n3 n5 a0_4 (by omega) (by omega) (by omega) (by omega) (by omega) w HT0
theorem asks_pure (a0_0 : Int) (a0_1 : Int) (a0_2 : Int) (a0_3 : Int) (a0_4 : ByteArray) (a0_5 : Int) (g0 : (Lit.int .u64 a0_0).wf = true) (g1 : (Lit.int .u64 a0_1).wf = true) (g2 : (Lit.int .u32 a0_2).wf = true) (g3 : (Lit.int .u32 a0_3).wf = true) (g5 : (Lit.int .u64 a0_5).wf = true) :
    bursartop_BursarAsks.f 1 a0_0 a0_1 a0_2 a0_3 a0_4 a0_5 = some true := by
  simp only [Lit.wf, IntKind.min, IntKind.max, IntKind.signed, IntKind.bits, Bool.and_eq_true, decide_eq_true_eq] at g0 g1 g2 g3 g5
  simp at g0 g1 g2 g3 g5
  unfold bursartop_BursarAsks.f
  rw [if_pos (by omega)]
end Go.Proofs.YtnelnmlhlmocdaaGreatDoor.XB
