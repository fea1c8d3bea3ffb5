/- What is known of the program's types. -/
import Derived.Test.YtddlmcaclbkopaaOw
import Derived.Test.YtddlmcaclbkopaaProg
import Derived.KernelRfl
namespace Go.Proofs.Ytddlmcaclbkopaa.Ot
open Go.RowKit Go.Proofs.YtddlmcaclbkopaaW.PrintWords
set_option linter.unusedSimpArgs false
def scalL : List Nat := [2, 3, 4, 5, 6, 9, 10, 11, 12, 20, 21, 30, 88, 109, 112, 120, 121, 122, 125, 126]
def struL : List Nat := [7, 8, 13, 14, 18, 19, 22, 23, 24, 25, 26, 27, 28, 29, 31, 32, 35, 36, 52, 53, 63, 64, 72, 73, 78, 79, 85, 86, 114, 115, 117, 118, 127, 128]
def scal (t : Nat) : Bool := scalL.elem t
def stru (t : Nat) : Bool := struL.elem t
def sz : Nat → Nat
  | 7 => 4
  | 8 => 4
  | 13 => 2
  | 14 => 2
  | 18 => 1
  | 19 => 1
  | 22 => 12
  | 23 => 12
  | 24 => 7
  | 25 => 7
  | 26 => 25
  | 27 => 25
  | 28 => 6
  | 29 => 6
  | 31 => 33
  | 32 => 33
  | 35 => 6
  | 36 => 6
  | 52 => 15
  | 53 => 15
  | 63 => 3
  | 64 => 3
  | 72 => 2
  | 73 => 2
  | 78 => 25
  | 79 => 25
  | 85 => 2
  | 86 => 2
  | 114 => 4
  | 115 => 4
  | 117 => 0
  | 118 => 0
  | 127 => 11
  | 128 => 11
  | _ => 1
theorem i2 : (Try.prog.info? 2).map (·.size) = some 1 := by kernel_rfl
theorem i3 : (Try.prog.info? 3).map (·.size) = some 1 := by kernel_rfl
theorem i4 : (Try.prog.info? 4).map (·.size) = some 1 := by kernel_rfl
theorem i5 : (Try.prog.info? 5).map (·.size) = some 1 := by kernel_rfl
theorem i6 : (Try.prog.info? 6).map (·.size) = some 1 := by kernel_rfl
theorem i9 : (Try.prog.info? 9).map (·.size) = some 1 := by kernel_rfl
theorem i10 : (Try.prog.info? 10).map (·.size) = some 1 := by kernel_rfl
theorem i11 : (Try.prog.info? 11).map (·.size) = some 1 := by kernel_rfl
theorem i12 : (Try.prog.info? 12).map (·.size) = some 1 := by kernel_rfl
theorem i20 : (Try.prog.info? 20).map (·.size) = some 1 := by kernel_rfl
theorem i21 : (Try.prog.info? 21).map (·.size) = some 1 := by kernel_rfl
theorem i30 : (Try.prog.info? 30).map (·.size) = some 1 := by kernel_rfl
theorem i88 : (Try.prog.info? 88).map (·.size) = some 1 := by kernel_rfl
theorem i109 : (Try.prog.info? 109).map (·.size) = some 1 := by kernel_rfl
theorem i112 : (Try.prog.info? 112).map (·.size) = some 1 := by kernel_rfl
theorem i120 : (Try.prog.info? 120).map (·.size) = some 1 := by kernel_rfl
theorem i121 : (Try.prog.info? 121).map (·.size) = some 1 := by kernel_rfl
theorem i122 : (Try.prog.info? 122).map (·.size) = some 1 := by kernel_rfl
theorem i125 : (Try.prog.info? 125).map (·.size) = some 1 := by kernel_rfl
theorem i126 : (Try.prog.info? 126).map (·.size) = some 1 := by kernel_rfl
theorem i7 : (Try.prog.info? 7).map (·.size) = some 4 := by kernel_rfl
theorem i8 : (Try.prog.info? 8).map (·.size) = some 4 := by kernel_rfl
theorem i13 : (Try.prog.info? 13).map (·.size) = some 2 := by kernel_rfl
theorem i14 : (Try.prog.info? 14).map (·.size) = some 2 := by kernel_rfl
theorem i18 : (Try.prog.info? 18).map (·.size) = some 1 := by kernel_rfl
theorem i19 : (Try.prog.info? 19).map (·.size) = some 1 := by kernel_rfl
theorem i22 : (Try.prog.info? 22).map (·.size) = some 12 := by kernel_rfl
theorem i23 : (Try.prog.info? 23).map (·.size) = some 12 := by kernel_rfl
theorem i24 : (Try.prog.info? 24).map (·.size) = some 7 := by kernel_rfl
theorem i25 : (Try.prog.info? 25).map (·.size) = some 7 := by kernel_rfl
theorem i26 : (Try.prog.info? 26).map (·.size) = some 25 := by kernel_rfl
theorem i27 : (Try.prog.info? 27).map (·.size) = some 25 := by kernel_rfl
theorem i28 : (Try.prog.info? 28).map (·.size) = some 6 := by kernel_rfl
theorem i29 : (Try.prog.info? 29).map (·.size) = some 6 := by kernel_rfl
theorem i31 : (Try.prog.info? 31).map (·.size) = some 33 := by kernel_rfl
theorem i32 : (Try.prog.info? 32).map (·.size) = some 33 := by kernel_rfl
theorem i35 : (Try.prog.info? 35).map (·.size) = some 6 := by kernel_rfl
theorem i36 : (Try.prog.info? 36).map (·.size) = some 6 := by kernel_rfl
theorem i52 : (Try.prog.info? 52).map (·.size) = some 15 := by kernel_rfl
theorem i53 : (Try.prog.info? 53).map (·.size) = some 15 := by kernel_rfl
theorem i63 : (Try.prog.info? 63).map (·.size) = some 3 := by kernel_rfl
theorem i64 : (Try.prog.info? 64).map (·.size) = some 3 := by kernel_rfl
theorem i72 : (Try.prog.info? 72).map (·.size) = some 2 := by kernel_rfl
theorem i73 : (Try.prog.info? 73).map (·.size) = some 2 := by kernel_rfl
theorem i78 : (Try.prog.info? 78).map (·.size) = some 25 := by kernel_rfl
theorem i79 : (Try.prog.info? 79).map (·.size) = some 25 := by kernel_rfl
theorem i85 : (Try.prog.info? 85).map (·.size) = some 2 := by kernel_rfl
theorem i86 : (Try.prog.info? 86).map (·.size) = some 2 := by kernel_rfl
theorem i114 : (Try.prog.info? 114).map (·.size) = some 4 := by kernel_rfl
theorem i115 : (Try.prog.info? 115).map (·.size) = some 4 := by kernel_rfl
theorem i117 : (Try.prog.info? 117).map (·.size) = some 0 := by kernel_rfl
theorem i118 : (Try.prog.info? 118).map (·.size) = some 0 := by kernel_rfl
theorem i127 : (Try.prog.info? 127).map (·.size) = some 11 := by kernel_rfl
theorem i128 : (Try.prog.info? 128).map (·.size) = some 11 := by kernel_rfl
theorem one : ∀ t, scal t = true → ∃ d, Try.prog.underlying t = some d ∧ Ow.rowB d = false := fun t h => by
    have h := List.mem_of_elem_eq_true h
    simp only [scalL, struL, List.mem_cons, List.not_mem_nil, or_false] at h
    rcases h with rfl | rfl | rfl | rfl | rfl | rfl | rfl | rfl | rfl | rfl | rfl | rfl | rfl | rfl | rfl | rfl | rfl | rfl | rfl | rfl
    · exact ⟨_, Try.underlying2, rfl⟩
    · exact ⟨_, Try.underlying3, rfl⟩
    · exact ⟨_, Try.underlying4, rfl⟩
    · exact ⟨_, Try.underlying5, rfl⟩
    · exact ⟨_, Try.underlying6, rfl⟩
    · exact ⟨_, Try.underlying9, rfl⟩
    · exact ⟨_, Try.underlying10, rfl⟩
    · exact ⟨_, Try.underlying11, rfl⟩
    · exact ⟨_, Try.underlying12, rfl⟩
    · exact ⟨_, Try.underlying20, rfl⟩
    · exact ⟨_, Try.underlying21, rfl⟩
    · exact ⟨_, Try.underlying30, rfl⟩
    · exact ⟨_, Try.underlying88, rfl⟩
    · exact ⟨_, Try.underlying109, rfl⟩
    · exact ⟨_, Try.underlying112, rfl⟩
    · exact ⟨_, Try.underlying120, rfl⟩
    · exact ⟨_, Try.underlying121, rfl⟩
    · exact ⟨_, Try.underlying122, rfl⟩
    · exact ⟨_, Try.underlying125, rfl⟩
    · exact ⟨_, Try.underlying126, rfl⟩
theorem row : ∀ t, stru t = true → ∃ d, Try.prog.underlying t = some d ∧ Ow.rowB d = true := fun t h => by
    have h := List.mem_of_elem_eq_true h
    simp only [scalL, struL, List.mem_cons, List.not_mem_nil, or_false] at h
    rcases h with rfl | rfl | rfl | rfl | rfl | rfl | rfl | rfl | rfl | rfl | rfl | rfl | rfl | rfl | rfl | rfl | rfl | rfl | rfl | rfl | rfl | rfl | rfl | rfl | rfl | rfl | rfl | rfl | rfl | rfl | rfl | rfl | rfl | rfl
    · exact ⟨_, Try.underlying7, rfl⟩
    · exact ⟨_, Try.underlying8, rfl⟩
    · exact ⟨_, Try.underlying13, rfl⟩
    · exact ⟨_, Try.underlying14, rfl⟩
    · exact ⟨_, Try.underlying18, rfl⟩
    · exact ⟨_, Try.underlying19, rfl⟩
    · exact ⟨_, Try.underlying22, rfl⟩
    · exact ⟨_, Try.underlying23, rfl⟩
    · exact ⟨_, Try.underlying24, rfl⟩
    · exact ⟨_, Try.underlying25, rfl⟩
    · exact ⟨_, Try.underlying26, rfl⟩
    · exact ⟨_, Try.underlying27, rfl⟩
    · exact ⟨_, Try.underlying28, rfl⟩
    · exact ⟨_, Try.underlying29, rfl⟩
    · exact ⟨_, Try.underlying31, rfl⟩
    · exact ⟨_, Try.underlying32, rfl⟩
    · exact ⟨_, Try.underlying35, rfl⟩
    · exact ⟨_, Try.underlying36, rfl⟩
    · exact ⟨_, Try.underlying52, rfl⟩
    · exact ⟨_, Try.underlying53, rfl⟩
    · exact ⟨_, Try.underlying63, rfl⟩
    · exact ⟨_, Try.underlying64, rfl⟩
    · exact ⟨_, Try.underlying72, rfl⟩
    · exact ⟨_, Try.underlying73, rfl⟩
    · exact ⟨_, Try.underlying78, rfl⟩
    · exact ⟨_, Try.underlying79, rfl⟩
    · exact ⟨_, Try.underlying85, rfl⟩
    · exact ⟨_, Try.underlying86, rfl⟩
    · exact ⟨_, Try.underlying114, rfl⟩
    · exact ⟨_, Try.underlying115, rfl⟩
    · exact ⟨_, Try.underlying117, rfl⟩
    · exact ⟨_, Try.underlying118, rfl⟩
    · exact ⟨_, Try.underlying127, rfl⟩
    · exact ⟨_, Try.underlying128, rfl⟩
theorem size1 : ∀ t, scal t = true → (Try.prog.info? t).map (·.size) = some (sz t) := fun t h => by
    have h := List.mem_of_elem_eq_true h
    simp only [scalL, struL, List.mem_cons, List.not_mem_nil, or_false] at h
    rcases h with rfl | rfl | rfl | rfl | rfl | rfl | rfl | rfl | rfl | rfl | rfl | rfl | rfl | rfl | rfl | rfl | rfl | rfl | rfl | rfl
    · exact i2
    · exact i3
    · exact i4
    · exact i5
    · exact i6
    · exact i9
    · exact i10
    · exact i11
    · exact i12
    · exact i20
    · exact i21
    · exact i30
    · exact i88
    · exact i109
    · exact i112
    · exact i120
    · exact i121
    · exact i122
    · exact i125
    · exact i126
theorem size2 : ∀ t, stru t = true → (Try.prog.info? t).map (·.size) = some (sz t) := fun t h => by
    have h := List.mem_of_elem_eq_true h
    simp only [scalL, struL, List.mem_cons, List.not_mem_nil, or_false] at h
    rcases h with rfl | rfl | rfl | rfl | rfl | rfl | rfl | rfl | rfl | rfl | rfl | rfl | rfl | rfl | rfl | rfl | rfl | rfl | rfl | rfl | rfl | rfl | rfl | rfl | rfl | rfl | rfl | rfl | rfl | rfl | rfl | rfl | rfl | rfl
    · exact i7
    · exact i8
    · exact i13
    · exact i14
    · exact i18
    · exact i19
    · exact i22
    · exact i23
    · exact i24
    · exact i25
    · exact i26
    · exact i27
    · exact i28
    · exact i29
    · exact i31
    · exact i32
    · exact i35
    · exact i36
    · exact i52
    · exact i53
    · exact i63
    · exact i64
    · exact i72
    · exact i73
    · exact i78
    · exact i79
    · exact i85
    · exact i86
    · exact i114
    · exact i115
    · exact i117
    · exact i118
    · exact i127
    · exact i128
def blL : List Nat := [7, 8, 13, 14, 22, 23, 24, 25, 26, 27, 28, 29, 31, 32, 35, 36, 52, 53, 63, 64, 72, 73, 78, 79, 85, 86]
def bl (t : Nat) : Bool := blL.elem t
def zero : Nat → Array Value
  | 7 => #[.int .i64 0, .int .i64 0, .bool false, .int .u8 0]
  | 8 => #[.int .i64 0, .int .i64 0, .bool false, .int .u8 0]
  | 13 => #[.string (⟨#[]⟩ : ByteArray), .int .u64 0]
  | 14 => #[.string (⟨#[]⟩ : ByteArray), .int .u64 0]
  | 22 => #[.string (⟨#[]⟩ : ByteArray), .string (⟨#[]⟩ : ByteArray), .string (⟨#[]⟩ : ByteArray), .int .i64 0, .string (⟨#[]⟩ : ByteArray), .string (⟨#[]⟩ : ByteArray), .string (⟨#[]⟩ : ByteArray), .string (⟨#[]⟩ : ByteArray), .string (⟨#[]⟩ : ByteArray), .int .i64 0, .int .i64 0, .string (⟨#[]⟩ : ByteArray)]
  | 23 => #[.string (⟨#[]⟩ : ByteArray), .string (⟨#[]⟩ : ByteArray), .string (⟨#[]⟩ : ByteArray), .int .i64 0, .string (⟨#[]⟩ : ByteArray), .string (⟨#[]⟩ : ByteArray), .string (⟨#[]⟩ : ByteArray), .string (⟨#[]⟩ : ByteArray), .string (⟨#[]⟩ : ByteArray), .int .i64 0, .int .i64 0, .string (⟨#[]⟩ : ByteArray)]
  | 24 => #[.string (⟨#[]⟩ : ByteArray), .string (⟨#[]⟩ : ByteArray), .string (⟨#[]⟩ : ByteArray), .int .i64 0, .int .i64 0, .int .i64 0, .bool false]
  | 25 => #[.string (⟨#[]⟩ : ByteArray), .string (⟨#[]⟩ : ByteArray), .string (⟨#[]⟩ : ByteArray), .int .i64 0, .int .i64 0, .int .i64 0, .bool false]
  | 26 => #[.string (⟨#[]⟩ : ByteArray), .string (⟨#[]⟩ : ByteArray), .string (⟨#[]⟩ : ByteArray), .int .i64 0, .string (⟨#[]⟩ : ByteArray), .string (⟨#[]⟩ : ByteArray), .string (⟨#[]⟩ : ByteArray), .string (⟨#[]⟩ : ByteArray), .string (⟨#[]⟩ : ByteArray), .int .i64 0, .int .i64 0, .string (⟨#[]⟩ : ByteArray), .bool false, .int .i64 0, .string (⟨#[]⟩ : ByteArray), .string (⟨#[]⟩ : ByteArray), .string (⟨#[]⟩ : ByteArray), .int .i64 0, .int .i64 0, .int .i64 0, .bool false, .bool false, .int .i64 0, .int .i64 0, .bool false]
  | 27 => #[.string (⟨#[]⟩ : ByteArray), .string (⟨#[]⟩ : ByteArray), .string (⟨#[]⟩ : ByteArray), .int .i64 0, .string (⟨#[]⟩ : ByteArray), .string (⟨#[]⟩ : ByteArray), .string (⟨#[]⟩ : ByteArray), .string (⟨#[]⟩ : ByteArray), .string (⟨#[]⟩ : ByteArray), .int .i64 0, .int .i64 0, .string (⟨#[]⟩ : ByteArray), .bool false, .int .i64 0, .string (⟨#[]⟩ : ByteArray), .string (⟨#[]⟩ : ByteArray), .string (⟨#[]⟩ : ByteArray), .int .i64 0, .int .i64 0, .int .i64 0, .bool false, .bool false, .int .i64 0, .int .i64 0, .bool false]
  | 28 => #[.string (⟨#[]⟩ : ByteArray), .string (⟨#[]⟩ : ByteArray), .string (⟨#[]⟩ : ByteArray), .int .i64 0, .int .i64 0, .int .i64 0]
  | 29 => #[.string (⟨#[]⟩ : ByteArray), .string (⟨#[]⟩ : ByteArray), .string (⟨#[]⟩ : ByteArray), .int .i64 0, .int .i64 0, .int .i64 0]
  | 31 => #[.string (⟨#[]⟩ : ByteArray), .string (⟨#[]⟩ : ByteArray), .string (⟨#[]⟩ : ByteArray), .int .i64 0, .string (⟨#[]⟩ : ByteArray), .string (⟨#[]⟩ : ByteArray), .string (⟨#[]⟩ : ByteArray), .string (⟨#[]⟩ : ByteArray), .string (⟨#[]⟩ : ByteArray), .int .i64 0, .int .i64 0, .string (⟨#[]⟩ : ByteArray), .bool false, .int .i64 0, .string (⟨#[]⟩ : ByteArray), .string (⟨#[]⟩ : ByteArray), .string (⟨#[]⟩ : ByteArray), .int .i64 0, .int .i64 0, .int .i64 0, .bool false, .bool false, .int .i64 0, .int .i64 0, .bool false, .string (⟨#[]⟩ : ByteArray), .string (⟨#[]⟩ : ByteArray), .string (⟨#[]⟩ : ByteArray), .int .i64 0, .int .i64 0, .int .i64 0, .bool false, .int .u16 0]
  | 32 => #[.string (⟨#[]⟩ : ByteArray), .string (⟨#[]⟩ : ByteArray), .string (⟨#[]⟩ : ByteArray), .int .i64 0, .string (⟨#[]⟩ : ByteArray), .string (⟨#[]⟩ : ByteArray), .string (⟨#[]⟩ : ByteArray), .string (⟨#[]⟩ : ByteArray), .string (⟨#[]⟩ : ByteArray), .int .i64 0, .int .i64 0, .string (⟨#[]⟩ : ByteArray), .bool false, .int .i64 0, .string (⟨#[]⟩ : ByteArray), .string (⟨#[]⟩ : ByteArray), .string (⟨#[]⟩ : ByteArray), .int .i64 0, .int .i64 0, .int .i64 0, .bool false, .bool false, .int .i64 0, .int .i64 0, .bool false, .string (⟨#[]⟩ : ByteArray), .string (⟨#[]⟩ : ByteArray), .string (⟨#[]⟩ : ByteArray), .int .i64 0, .int .i64 0, .int .i64 0, .bool false, .int .u16 0]
  | 35 => #[.int .i64 0, .int .i64 0, .string (⟨#[]⟩ : ByteArray), .string (⟨#[]⟩ : ByteArray), .string (⟨#[]⟩ : ByteArray), .int .i64 0]
  | 36 => #[.int .i64 0, .int .i64 0, .string (⟨#[]⟩ : ByteArray), .string (⟨#[]⟩ : ByteArray), .string (⟨#[]⟩ : ByteArray), .int .i64 0]
  | 52 => #[.string (⟨#[]⟩ : ByteArray), .string (⟨#[]⟩ : ByteArray), .string (⟨#[]⟩ : ByteArray), .string (⟨#[]⟩ : ByteArray), .int .i64 0, .int .i64 0, .int .i64 0, .bool false, .bool false, .int .i64 0, .int .i64 0, .string (⟨#[]⟩ : ByteArray), .string (⟨#[]⟩ : ByteArray), .string (⟨#[]⟩ : ByteArray), .int .i64 0]
  | 53 => #[.string (⟨#[]⟩ : ByteArray), .string (⟨#[]⟩ : ByteArray), .string (⟨#[]⟩ : ByteArray), .string (⟨#[]⟩ : ByteArray), .int .i64 0, .int .i64 0, .int .i64 0, .bool false, .bool false, .int .i64 0, .int .i64 0, .string (⟨#[]⟩ : ByteArray), .string (⟨#[]⟩ : ByteArray), .string (⟨#[]⟩ : ByteArray), .int .i64 0]
  | 63 => #[.string (⟨#[]⟩ : ByteArray), .int .i64 0, .int .i64 0]
  | 64 => #[.string (⟨#[]⟩ : ByteArray), .int .i64 0, .int .i64 0]
  | 72 => #[.int .i64 0, .string (⟨#[]⟩ : ByteArray)]
  | 73 => #[.int .i64 0, .string (⟨#[]⟩ : ByteArray)]
  | 78 => #[.string (⟨#[]⟩ : ByteArray), .string (⟨#[]⟩ : ByteArray), .string (⟨#[]⟩ : ByteArray), .int .i64 0, .string (⟨#[]⟩ : ByteArray), .string (⟨#[]⟩ : ByteArray), .string (⟨#[]⟩ : ByteArray), .string (⟨#[]⟩ : ByteArray), .string (⟨#[]⟩ : ByteArray), .int .i64 0, .int .i64 0, .string (⟨#[]⟩ : ByteArray), .bool false, .int .i64 0, .string (⟨#[]⟩ : ByteArray), .string (⟨#[]⟩ : ByteArray), .string (⟨#[]⟩ : ByteArray), .int .i64 0, .int .i64 0, .int .i64 0, .bool false, .bool false, .int .i64 0, .int .i64 0, .bool false]
  | 79 => #[.string (⟨#[]⟩ : ByteArray), .string (⟨#[]⟩ : ByteArray), .string (⟨#[]⟩ : ByteArray), .int .i64 0, .string (⟨#[]⟩ : ByteArray), .string (⟨#[]⟩ : ByteArray), .string (⟨#[]⟩ : ByteArray), .string (⟨#[]⟩ : ByteArray), .string (⟨#[]⟩ : ByteArray), .int .i64 0, .int .i64 0, .string (⟨#[]⟩ : ByteArray), .bool false, .int .i64 0, .string (⟨#[]⟩ : ByteArray), .string (⟨#[]⟩ : ByteArray), .string (⟨#[]⟩ : ByteArray), .int .i64 0, .int .i64 0, .int .i64 0, .bool false, .bool false, .int .i64 0, .int .i64 0, .bool false]
  | 85 => #[.bool false, .string (⟨#[]⟩ : ByteArray)]
  | 86 => #[.bool false, .string (⟨#[]⟩ : ByteArray)]
  | _ => #[]
def places : Nat → List (Nat × Nat)
  | 7 => [(0, 1), (1, 1), (2, 1), (3, 1)]
  | 8 => [(0, 1), (1, 1), (2, 1), (3, 1)]
  | 13 => [(0, 1), (1, 1)]
  | 14 => [(0, 1), (1, 1)]
  | 22 => [(0, 1), (1, 1), (2, 1), (3, 1), (4, 1), (5, 1), (6, 1), (7, 1), (8, 1), (9, 1), (10, 1), (11, 1)]
  | 23 => [(0, 1), (1, 1), (2, 1), (3, 1), (4, 1), (5, 1), (6, 1), (7, 1), (8, 1), (9, 1), (10, 1), (11, 1)]
  | 24 => [(0, 1), (1, 1), (2, 1), (3, 1), (4, 1), (5, 1), (6, 1)]
  | 25 => [(0, 1), (1, 1), (2, 1), (3, 1), (4, 1), (5, 1), (6, 1)]
  | 26 => [(0, 12), (12, 1), (13, 1), (14, 7), (21, 1), (22, 1), (23, 1), (24, 1)]
  | 27 => [(0, 12), (12, 1), (13, 1), (14, 7), (21, 1), (22, 1), (23, 1), (24, 1)]
  | 28 => [(0, 1), (1, 1), (2, 1), (3, 1), (4, 1), (5, 1)]
  | 29 => [(0, 1), (1, 1), (2, 1), (3, 1), (4, 1), (5, 1)]
  | 31 => [(0, 25), (25, 6), (31, 1), (32, 1)]
  | 32 => [(0, 25), (25, 6), (31, 1), (32, 1)]
  | 35 => [(0, 1), (1, 1), (2, 1), (3, 1), (4, 1), (5, 1)]
  | 36 => [(0, 1), (1, 1), (2, 1), (3, 1), (4, 1), (5, 1)]
  | 52 => [(0, 1), (1, 7), (8, 1), (9, 6)]
  | 53 => [(0, 1), (1, 7), (8, 1), (9, 6)]
  | 63 => [(0, 1), (1, 1), (2, 1)]
  | 64 => [(0, 1), (1, 1), (2, 1)]
  | 72 => [(0, 1), (1, 1)]
  | 73 => [(0, 1), (1, 1)]
  | 78 => [(0, 25)]
  | 79 => [(0, 25)]
  | 85 => [(0, 1), (1, 1)]
  | 86 => [(0, 1), (1, 1)]
  | _ => []
theorem z7 : (Try.prog.info? 7).bind (fun i => i.zero.map (·.cells)) = some (zero 7) := by kernel_rfl
theorem z8 : (Try.prog.info? 8).bind (fun i => i.zero.map (·.cells)) = some (zero 8) := by kernel_rfl
theorem z13 : (Try.prog.info? 13).bind (fun i => i.zero.map (·.cells)) = some (zero 13) := by kernel_rfl
theorem z14 : (Try.prog.info? 14).bind (fun i => i.zero.map (·.cells)) = some (zero 14) := by kernel_rfl
theorem z22 : (Try.prog.info? 22).bind (fun i => i.zero.map (·.cells)) = some (zero 22) := by kernel_rfl
theorem z23 : (Try.prog.info? 23).bind (fun i => i.zero.map (·.cells)) = some (zero 23) := by kernel_rfl
theorem z24 : (Try.prog.info? 24).bind (fun i => i.zero.map (·.cells)) = some (zero 24) := by kernel_rfl
theorem z25 : (Try.prog.info? 25).bind (fun i => i.zero.map (·.cells)) = some (zero 25) := by kernel_rfl
theorem z26 : (Try.prog.info? 26).bind (fun i => i.zero.map (·.cells)) = some (zero 26) := by kernel_rfl
theorem z27 : (Try.prog.info? 27).bind (fun i => i.zero.map (·.cells)) = some (zero 27) := by kernel_rfl
theorem z28 : (Try.prog.info? 28).bind (fun i => i.zero.map (·.cells)) = some (zero 28) := by kernel_rfl
theorem z29 : (Try.prog.info? 29).bind (fun i => i.zero.map (·.cells)) = some (zero 29) := by kernel_rfl
theorem z31 : (Try.prog.info? 31).bind (fun i => i.zero.map (·.cells)) = some (zero 31) := by kernel_rfl
theorem z32 : (Try.prog.info? 32).bind (fun i => i.zero.map (·.cells)) = some (zero 32) := by kernel_rfl
theorem z35 : (Try.prog.info? 35).bind (fun i => i.zero.map (·.cells)) = some (zero 35) := by kernel_rfl
theorem z36 : (Try.prog.info? 36).bind (fun i => i.zero.map (·.cells)) = some (zero 36) := by kernel_rfl
theorem z52 : (Try.prog.info? 52).bind (fun i => i.zero.map (·.cells)) = some (zero 52) := by kernel_rfl
theorem z53 : (Try.prog.info? 53).bind (fun i => i.zero.map (·.cells)) = some (zero 53) := by kernel_rfl
theorem z63 : (Try.prog.info? 63).bind (fun i => i.zero.map (·.cells)) = some (zero 63) := by kernel_rfl
theorem z64 : (Try.prog.info? 64).bind (fun i => i.zero.map (·.cells)) = some (zero 64) := by kernel_rfl
theorem z72 : (Try.prog.info? 72).bind (fun i => i.zero.map (·.cells)) = some (zero 72) := by kernel_rfl
theorem z73 : (Try.prog.info? 73).bind (fun i => i.zero.map (·.cells)) = some (zero 73) := by kernel_rfl
theorem z78 : (Try.prog.info? 78).bind (fun i => i.zero.map (·.cells)) = some (zero 78) := by kernel_rfl
theorem z79 : (Try.prog.info? 79).bind (fun i => i.zero.map (·.cells)) = some (zero 79) := by kernel_rfl
theorem z85 : (Try.prog.info? 85).bind (fun i => i.zero.map (·.cells)) = some (zero 85) := by kernel_rfl
theorem z86 : (Try.prog.info? 86).bind (fun i => i.zero.map (·.cells)) = some (zero 86) := by kernel_rfl
theorem bz : ∀ t, bl t = true → (Try.prog.info? t).bind (fun i => i.zero.map (·.cells)) = some (zero t) := fun t h => by
    have h := List.mem_of_elem_eq_true h
    simp only [scalL, blL, List.mem_cons, List.not_mem_nil, or_false] at h
    rcases h with rfl | rfl | rfl | rfl | rfl | rfl | rfl | rfl | rfl | rfl | rfl | rfl | rfl | rfl | rfl | rfl | rfl | rfl | rfl | rfl | rfl | rfl | rfl | rfl | rfl | rfl
    · exact z7
    · exact z8
    · exact z13
    · exact z14
    · exact z22
    · exact z23
    · exact z24
    · exact z25
    · exact z26
    · exact z27
    · exact z28
    · exact z29
    · exact z31
    · exact z32
    · exact z35
    · exact z36
    · exact z52
    · exact z53
    · exact z63
    · exact z64
    · exact z72
    · exact z73
    · exact z78
    · exact z79
    · exact z85
    · exact z86
theorem bp : ∀ t, bl t = true → ∃ fields : Array Field, Try.prog.underlying t = some (.struct fields) ∧ fields.toList.mapM (fun f => (Try.prog.info? f.type).map fun i => (f.offset, i.size)) = some (places t) := fun t h => by
    have h := List.mem_of_elem_eq_true h
    simp only [scalL, blL, List.mem_cons, List.not_mem_nil, or_false] at h
    rcases h with rfl | rfl | rfl | rfl | rfl | rfl | rfl | rfl | rfl | rfl | rfl | rfl | rfl | rfl | rfl | rfl | rfl | rfl | rfl | rfl | rfl | rfl | rfl | rfl | rfl | rfl
    · exact ⟨_, Try.underlying7, by kernel_rfl⟩
    · exact ⟨_, Try.underlying8, by kernel_rfl⟩
    · exact ⟨_, Try.underlying13, by kernel_rfl⟩
    · exact ⟨_, Try.underlying14, by kernel_rfl⟩
    · exact ⟨_, Try.underlying22, by kernel_rfl⟩
    · exact ⟨_, Try.underlying23, by kernel_rfl⟩
    · exact ⟨_, Try.underlying24, by kernel_rfl⟩
    · exact ⟨_, Try.underlying25, by kernel_rfl⟩
    · exact ⟨_, Try.underlying26, by kernel_rfl⟩
    · exact ⟨_, Try.underlying27, by kernel_rfl⟩
    · exact ⟨_, Try.underlying28, by kernel_rfl⟩
    · exact ⟨_, Try.underlying29, by kernel_rfl⟩
    · exact ⟨_, Try.underlying31, by kernel_rfl⟩
    · exact ⟨_, Try.underlying32, by kernel_rfl⟩
    · exact ⟨_, Try.underlying35, by kernel_rfl⟩
    · exact ⟨_, Try.underlying36, by kernel_rfl⟩
    · exact ⟨_, Try.underlying52, by kernel_rfl⟩
    · exact ⟨_, Try.underlying53, by kernel_rfl⟩
    · exact ⟨_, Try.underlying63, by kernel_rfl⟩
    · exact ⟨_, Try.underlying64, by kernel_rfl⟩
    · exact ⟨_, Try.underlying72, by kernel_rfl⟩
    · exact ⟨_, Try.underlying73, by kernel_rfl⟩
    · exact ⟨_, Try.underlying78, by kernel_rfl⟩
    · exact ⟨_, Try.underlying79, by kernel_rfl⟩
    · exact ⟨_, Try.underlying85, by kernel_rfl⟩
    · exact ⟨_, Try.underlying86, by kernel_rfl⟩
def flL : List (Nat × Nat × Nat × Nat) := [(7, 0, 0, 2), (7, 1, 1, 3), (7, 2, 2, 4), (7, 3, 3, 6), (8, 0, 0, 2), (8, 1, 1, 3), (8, 2, 2, 4), (8, 3, 3, 6), (13, 0, 0, 9), (13, 1, 1, 12), (14, 0, 0, 9), (14, 1, 1, 12), (22, 0, 0, 9), (22, 1, 1, 9), (22, 2, 2, 9), (22, 3, 3, 2), (22, 4, 4, 9), (22, 5, 5, 9), (22, 6, 6, 9), (22, 7, 7, 9), (22, 8, 8, 9), (22, 9, 9, 2), (22, 10, 10, 2), (22, 11, 11, 9), (23, 0, 0, 9), (23, 1, 1, 9), (23, 2, 2, 9), (23, 3, 3, 2), (23, 4, 4, 9), (23, 5, 5, 9), (23, 6, 6, 9), (23, 7, 7, 9), (23, 8, 8, 9), (23, 9, 9, 2), (23, 10, 10, 2), (23, 11, 11, 9), (24, 0, 0, 9), (24, 1, 1, 9), (24, 2, 2, 9), (24, 3, 3, 2), (24, 4, 4, 2), (24, 5, 5, 3), (24, 6, 6, 4), (25, 0, 0, 9), (25, 1, 1, 9), (25, 2, 2, 9), (25, 3, 3, 2), (25, 4, 4, 2), (25, 5, 5, 3), (25, 6, 6, 4), (26, 0, 0, 23), (26, 1, 12, 4), (26, 2, 13, 2), (26, 3, 14, 25), (26, 4, 21, 4), (26, 5, 22, 3), (26, 6, 23, 3), (26, 7, 24, 4), (27, 0, 0, 23), (27, 1, 12, 4), (27, 2, 13, 2), (27, 3, 14, 25), (27, 4, 21, 4), (27, 5, 22, 3), (27, 6, 23, 3), (27, 7, 24, 4), (28, 0, 0, 9), (28, 1, 1, 9), (28, 2, 2, 9), (28, 3, 3, 3), (28, 4, 4, 2), (28, 5, 5, 3), (29, 0, 0, 9), (29, 1, 1, 9), (29, 2, 2, 9), (29, 3, 3, 3), (29, 4, 4, 2), (29, 5, 5, 3), (31, 0, 0, 27), (31, 1, 25, 29), (31, 2, 31, 4), (31, 3, 32, 30), (32, 0, 0, 27), (32, 1, 25, 29), (32, 2, 31, 4), (32, 3, 32, 30), (35, 0, 0, 3), (35, 1, 1, 3), (35, 2, 2, 9), (35, 3, 3, 9), (35, 4, 4, 9), (35, 5, 5, 2), (36, 0, 0, 3), (36, 1, 1, 3), (36, 2, 2, 9), (36, 3, 3, 9), (36, 4, 4, 9), (36, 5, 5, 2), (52, 0, 0, 9), (52, 1, 1, 25), (52, 2, 8, 4), (52, 3, 9, 36), (53, 0, 0, 9), (53, 1, 1, 25), (53, 2, 8, 4), (53, 3, 9, 36), (63, 0, 0, 9), (63, 1, 1, 3), (63, 2, 2, 3), (64, 0, 0, 9), (64, 1, 1, 3), (64, 2, 2, 3), (72, 0, 0, 3), (72, 1, 1, 9), (73, 0, 0, 3), (73, 1, 1, 9), (78, 0, 0, 27), (79, 0, 0, 27), (85, 0, 0, 4), (85, 1, 1, 9), (86, 0, 0, 4), (86, 1, 1, 9), (114, 3, 3, 9), (115, 3, 3, 9), (127, 0, 0, 12), (127, 1, 1, 12), (127, 2, 2, 120), (127, 3, 3, 121), (127, 4, 4, 5), (127, 5, 5, 5), (127, 6, 6, 122), (127, 9, 9, 125), (127, 10, 10, 126), (128, 0, 0, 12), (128, 1, 1, 12), (128, 2, 2, 120), (128, 3, 3, 121), (128, 4, 4, 5), (128, 5, 5, 5), (128, 6, 6, 122), (128, 9, 9, 125), (128, 10, 10, 126)]
def fo (t i : Nat) : Option (Nat × Nat) := (flL.find? fun x => x.1 == t && x.2.1 == i).map fun x => (x.2.2.1, x.2.2.2)
theorem fls : ∀ x ∈ flL, (scal x.2.2.2 || stru x.2.2.2) = true ∧ ∃ (fields : Array Field) (f : Field), Try.prog.underlying x.1 = some (.struct fields) ∧ fields[x.2.1]? = some f ∧ f.offset = x.2.2.1 ∧ f.type = x.2.2.2 := fun x h => by
    simp only [flL, List.mem_cons, List.not_mem_nil, or_false] at h
    rcases h with rfl | rfl | rfl | rfl | rfl | rfl | rfl | rfl | rfl | rfl | rfl | rfl | rfl | rfl | rfl | rfl | rfl | rfl | rfl | rfl | rfl | rfl | rfl | rfl | rfl | rfl | rfl | rfl | rfl | rfl | rfl | rfl | rfl | rfl | rfl | rfl | rfl | rfl | rfl | rfl | rfl | rfl | rfl | rfl | rfl | rfl | rfl | rfl | rfl | rfl | rfl | rfl | rfl | rfl | rfl | rfl | rfl | rfl | rfl | rfl | rfl | rfl | rfl | rfl | rfl | rfl | rfl | rfl | rfl | rfl | rfl | rfl | rfl | rfl | rfl | rfl | rfl | rfl | rfl | rfl | rfl | rfl | rfl | rfl | rfl | rfl | rfl | rfl | rfl | rfl | rfl | rfl | rfl | rfl | rfl | rfl | rfl | rfl | rfl | rfl | rfl | rfl | rfl | rfl | rfl | rfl | rfl | rfl | rfl | rfl | rfl | rfl | rfl | rfl | rfl | rfl | rfl | rfl | rfl | rfl | rfl | rfl | rfl | rfl | rfl | rfl | rfl | rfl | rfl | rfl | rfl | rfl | rfl | rfl | rfl | rfl | rfl | rfl | rfl | rfl | rfl | rfl
    · exact ⟨by decide, _, _, Try.underlying7, rfl, rfl, rfl⟩
    · exact ⟨by decide, _, _, Try.underlying7, rfl, rfl, rfl⟩
    · exact ⟨by decide, _, _, Try.underlying7, rfl, rfl, rfl⟩
    · exact ⟨by decide, _, _, Try.underlying7, rfl, rfl, rfl⟩
    · exact ⟨by decide, _, _, Try.underlying8, rfl, rfl, rfl⟩
    · exact ⟨by decide, _, _, Try.underlying8, rfl, rfl, rfl⟩
    · exact ⟨by decide, _, _, Try.underlying8, rfl, rfl, rfl⟩
    · exact ⟨by decide, _, _, Try.underlying8, rfl, rfl, rfl⟩
    · exact ⟨by decide, _, _, Try.underlying13, rfl, rfl, rfl⟩
    · exact ⟨by decide, _, _, Try.underlying13, rfl, rfl, rfl⟩
    · exact ⟨by decide, _, _, Try.underlying14, rfl, rfl, rfl⟩
    · exact ⟨by decide, _, _, Try.underlying14, rfl, rfl, rfl⟩
    · exact ⟨by decide, _, _, Try.underlying22, rfl, rfl, rfl⟩
    · exact ⟨by decide, _, _, Try.underlying22, rfl, rfl, rfl⟩
    · exact ⟨by decide, _, _, Try.underlying22, rfl, rfl, rfl⟩
    · exact ⟨by decide, _, _, Try.underlying22, rfl, rfl, rfl⟩
    · exact ⟨by decide, _, _, Try.underlying22, rfl, rfl, rfl⟩
    · exact ⟨by decide, _, _, Try.underlying22, rfl, rfl, rfl⟩
    · exact ⟨by decide, _, _, Try.underlying22, rfl, rfl, rfl⟩
    · exact ⟨by decide, _, _, Try.underlying22, rfl, rfl, rfl⟩
    · exact ⟨by decide, _, _, Try.underlying22, rfl, rfl, rfl⟩
    · exact ⟨by decide, _, _, Try.underlying22, rfl, rfl, rfl⟩
    · exact ⟨by decide, _, _, Try.underlying22, rfl, rfl, rfl⟩
    · exact ⟨by decide, _, _, Try.underlying22, rfl, rfl, rfl⟩
    · exact ⟨by decide, _, _, Try.underlying23, rfl, rfl, rfl⟩
    · exact ⟨by decide, _, _, Try.underlying23, rfl, rfl, rfl⟩
    · exact ⟨by decide, _, _, Try.underlying23, rfl, rfl, rfl⟩
    · exact ⟨by decide, _, _, Try.underlying23, rfl, rfl, rfl⟩
    · exact ⟨by decide, _, _, Try.underlying23, rfl, rfl, rfl⟩
    · exact ⟨by decide, _, _, Try.underlying23, rfl, rfl, rfl⟩
    · exact ⟨by decide, _, _, Try.underlying23, rfl, rfl, rfl⟩
    · exact ⟨by decide, _, _, Try.underlying23, rfl, rfl, rfl⟩
    · exact ⟨by decide, _, _, Try.underlying23, rfl, rfl, rfl⟩
    · exact ⟨by decide, _, _, Try.underlying23, rfl, rfl, rfl⟩
    · exact ⟨by decide, _, _, Try.underlying23, rfl, rfl, rfl⟩
    · exact ⟨by decide, _, _, Try.underlying23, rfl, rfl, rfl⟩
    · exact ⟨by decide, _, _, Try.underlying24, rfl, rfl, rfl⟩
    · exact ⟨by decide, _, _, Try.underlying24, rfl, rfl, rfl⟩
    · exact ⟨by decide, _, _, Try.underlying24, rfl, rfl, rfl⟩
    · exact ⟨by decide, _, _, Try.underlying24, rfl, rfl, rfl⟩
    · exact ⟨by decide, _, _, Try.underlying24, rfl, rfl, rfl⟩
    · exact ⟨by decide, _, _, Try.underlying24, rfl, rfl, rfl⟩
    · exact ⟨by decide, _, _, Try.underlying24, rfl, rfl, rfl⟩
    · exact ⟨by decide, _, _, Try.underlying25, rfl, rfl, rfl⟩
    · exact ⟨by decide, _, _, Try.underlying25, rfl, rfl, rfl⟩
    · exact ⟨by decide, _, _, Try.underlying25, rfl, rfl, rfl⟩
    · exact ⟨by decide, _, _, Try.underlying25, rfl, rfl, rfl⟩
    · exact ⟨by decide, _, _, Try.underlying25, rfl, rfl, rfl⟩
    · exact ⟨by decide, _, _, Try.underlying25, rfl, rfl, rfl⟩
    · exact ⟨by decide, _, _, Try.underlying25, rfl, rfl, rfl⟩
    · exact ⟨by decide, _, _, Try.underlying26, rfl, rfl, rfl⟩
    · exact ⟨by decide, _, _, Try.underlying26, rfl, rfl, rfl⟩
    · exact ⟨by decide, _, _, Try.underlying26, rfl, rfl, rfl⟩
    · exact ⟨by decide, _, _, Try.underlying26, rfl, rfl, rfl⟩
    · exact ⟨by decide, _, _, Try.underlying26, rfl, rfl, rfl⟩
    · exact ⟨by decide, _, _, Try.underlying26, rfl, rfl, rfl⟩
    · exact ⟨by decide, _, _, Try.underlying26, rfl, rfl, rfl⟩
    · exact ⟨by decide, _, _, Try.underlying26, rfl, rfl, rfl⟩
    · exact ⟨by decide, _, _, Try.underlying27, rfl, rfl, rfl⟩
    · exact ⟨by decide, _, _, Try.underlying27, rfl, rfl, rfl⟩
    · exact ⟨by decide, _, _, Try.underlying27, rfl, rfl, rfl⟩
    · exact ⟨by decide, _, _, Try.underlying27, rfl, rfl, rfl⟩
    · exact ⟨by decide, _, _, Try.underlying27, rfl, rfl, rfl⟩
    · exact ⟨by decide, _, _, Try.underlying27, rfl, rfl, rfl⟩
    · exact ⟨by decide, _, _, Try.underlying27, rfl, rfl, rfl⟩
    · exact ⟨by decide, _, _, Try.underlying27, rfl, rfl, rfl⟩
    · exact ⟨by decide, _, _, Try.underlying28, rfl, rfl, rfl⟩
    · exact ⟨by decide, _, _, Try.underlying28, rfl, rfl, rfl⟩
    · exact ⟨by decide, _, _, Try.underlying28, rfl, rfl, rfl⟩
    · exact ⟨by decide, _, _, Try.underlying28, rfl, rfl, rfl⟩
    · exact ⟨by decide, _, _, Try.underlying28, rfl, rfl, rfl⟩
    · exact ⟨by decide, _, _, Try.underlying28, rfl, rfl, rfl⟩
    · exact ⟨by decide, _, _, Try.underlying29, rfl, rfl, rfl⟩
    · exact ⟨by decide, _, _, Try.underlying29, rfl, rfl, rfl⟩
    · exact ⟨by decide, _, _, Try.underlying29, rfl, rfl, rfl⟩
    · exact ⟨by decide, _, _, Try.underlying29, rfl, rfl, rfl⟩
    · exact ⟨by decide, _, _, Try.underlying29, rfl, rfl, rfl⟩
    · exact ⟨by decide, _, _, Try.underlying29, rfl, rfl, rfl⟩
    · exact ⟨by decide, _, _, Try.underlying31, rfl, rfl, rfl⟩
    · exact ⟨by decide, _, _, Try.underlying31, rfl, rfl, rfl⟩
    · exact ⟨by decide, _, _, Try.underlying31, rfl, rfl, rfl⟩
    · exact ⟨by decide, _, _, Try.underlying31, rfl, rfl, rfl⟩
    · exact ⟨by decide, _, _, Try.underlying32, rfl, rfl, rfl⟩
    · exact ⟨by decide, _, _, Try.underlying32, rfl, rfl, rfl⟩
    · exact ⟨by decide, _, _, Try.underlying32, rfl, rfl, rfl⟩
    · exact ⟨by decide, _, _, Try.underlying32, rfl, rfl, rfl⟩
    · exact ⟨by decide, _, _, Try.underlying35, rfl, rfl, rfl⟩
    · exact ⟨by decide, _, _, Try.underlying35, rfl, rfl, rfl⟩
    · exact ⟨by decide, _, _, Try.underlying35, rfl, rfl, rfl⟩
    · exact ⟨by decide, _, _, Try.underlying35, rfl, rfl, rfl⟩
    · exact ⟨by decide, _, _, Try.underlying35, rfl, rfl, rfl⟩
    · exact ⟨by decide, _, _, Try.underlying35, rfl, rfl, rfl⟩
    · exact ⟨by decide, _, _, Try.underlying36, rfl, rfl, rfl⟩
    · exact ⟨by decide, _, _, Try.underlying36, rfl, rfl, rfl⟩
    · exact ⟨by decide, _, _, Try.underlying36, rfl, rfl, rfl⟩
    · exact ⟨by decide, _, _, Try.underlying36, rfl, rfl, rfl⟩
    · exact ⟨by decide, _, _, Try.underlying36, rfl, rfl, rfl⟩
    · exact ⟨by decide, _, _, Try.underlying36, rfl, rfl, rfl⟩
    · exact ⟨by decide, _, _, Try.underlying52, rfl, rfl, rfl⟩
    · exact ⟨by decide, _, _, Try.underlying52, rfl, rfl, rfl⟩
    · exact ⟨by decide, _, _, Try.underlying52, rfl, rfl, rfl⟩
    · exact ⟨by decide, _, _, Try.underlying52, rfl, rfl, rfl⟩
    · exact ⟨by decide, _, _, Try.underlying53, rfl, rfl, rfl⟩
    · exact ⟨by decide, _, _, Try.underlying53, rfl, rfl, rfl⟩
    · exact ⟨by decide, _, _, Try.underlying53, rfl, rfl, rfl⟩
    · exact ⟨by decide, _, _, Try.underlying53, rfl, rfl, rfl⟩
    · exact ⟨by decide, _, _, Try.underlying63, rfl, rfl, rfl⟩
    · exact ⟨by decide, _, _, Try.underlying63, rfl, rfl, rfl⟩
    · exact ⟨by decide, _, _, Try.underlying63, rfl, rfl, rfl⟩
    · exact ⟨by decide, _, _, Try.underlying64, rfl, rfl, rfl⟩
    · exact ⟨by decide, _, _, Try.underlying64, rfl, rfl, rfl⟩
    · exact ⟨by decide, _, _, Try.underlying64, rfl, rfl, rfl⟩
    · exact ⟨by decide, _, _, Try.underlying72, rfl, rfl, rfl⟩
    · exact ⟨by decide, _, _, Try.underlying72, rfl, rfl, rfl⟩
    · exact ⟨by decide, _, _, Try.underlying73, rfl, rfl, rfl⟩
    · exact ⟨by decide, _, _, Try.underlying73, rfl, rfl, rfl⟩
    · exact ⟨by decide, _, _, Try.underlying78, rfl, rfl, rfl⟩
    · exact ⟨by decide, _, _, Try.underlying79, rfl, rfl, rfl⟩
    · exact ⟨by decide, _, _, Try.underlying85, rfl, rfl, rfl⟩
    · exact ⟨by decide, _, _, Try.underlying85, rfl, rfl, rfl⟩
    · exact ⟨by decide, _, _, Try.underlying86, rfl, rfl, rfl⟩
    · exact ⟨by decide, _, _, Try.underlying86, rfl, rfl, rfl⟩
    · exact ⟨by decide, _, _, Try.underlying114, rfl, rfl, rfl⟩
    · exact ⟨by decide, _, _, Try.underlying115, rfl, rfl, rfl⟩
    · exact ⟨by decide, _, _, Try.underlying127, rfl, rfl, rfl⟩
    · exact ⟨by decide, _, _, Try.underlying127, rfl, rfl, rfl⟩
    · exact ⟨by decide, _, _, Try.underlying127, rfl, rfl, rfl⟩
    · exact ⟨by decide, _, _, Try.underlying127, rfl, rfl, rfl⟩
    · exact ⟨by decide, _, _, Try.underlying127, rfl, rfl, rfl⟩
    · exact ⟨by decide, _, _, Try.underlying127, rfl, rfl, rfl⟩
    · exact ⟨by decide, _, _, Try.underlying127, rfl, rfl, rfl⟩
    · exact ⟨by decide, _, _, Try.underlying127, rfl, rfl, rfl⟩
    · exact ⟨by decide, _, _, Try.underlying127, rfl, rfl, rfl⟩
    · exact ⟨by decide, _, _, Try.underlying128, rfl, rfl, rfl⟩
    · exact ⟨by decide, _, _, Try.underlying128, rfl, rfl, rfl⟩
    · exact ⟨by decide, _, _, Try.underlying128, rfl, rfl, rfl⟩
    · exact ⟨by decide, _, _, Try.underlying128, rfl, rfl, rfl⟩
    · exact ⟨by decide, _, _, Try.underlying128, rfl, rfl, rfl⟩
    · exact ⟨by decide, _, _, Try.underlying128, rfl, rfl, rfl⟩
    · exact ⟨by decide, _, _, Try.underlying128, rfl, rfl, rfl⟩
    · exact ⟨by decide, _, _, Try.underlying128, rfl, rfl, rfl⟩
    · exact ⟨by decide, _, _, Try.underlying128, rfl, rfl, rfl⟩
theorem fl : Ow.Flds Try.prog fo scal stru := ⟨fun t i off ft h => by
  unfold fo at h
  cases hf : flL.find? (fun x => x.1 == t && x.2.1 == i) with
  | none => rw [hf] at h; cases h
  | some x =>
    rw [hf] at h
    simp only [Option.map_some, Option.some.injEq, Prod.mk.injEq] at h
    have hx := List.find?_some hf
    simp only [Bool.and_eq_true, beq_iff_eq] at hx
    have := fls x (List.mem_of_find?_eq_some hf)
    rw [← h.1, ← h.2, ← hx.1, ← hx.2]
    exact this⟩
theorem bd : Ow.Builds Try.prog bl zero places := ⟨bz, bp⟩
theorem ty : Ow.Types Try.prog scal stru sz := ⟨one, row, fun t h => by
  rcases Bool.or_eq_true_iff.mp h with h | h
  · exact size1 t h
  · exact size2 t h⟩
end Go.Proofs.Ytddlmcaclbkopaa.Ot
