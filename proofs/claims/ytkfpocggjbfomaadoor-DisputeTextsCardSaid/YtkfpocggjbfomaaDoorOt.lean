/- What is known of the program's types. -/
import Derived.Test.YtkfpocggjbfomaaDoorOw
import Derived.Test.YtkfpocggjbfomaaDoorProg
import Derived.KernelRfl
namespace Go.Proofs.YtkfpocggjbfomaaDoor.Ot
open Go.RowKit Go.Proofs.YtkfpocggjbfomaaDoorW.PrintWords
set_option linter.unusedSimpArgs false
def scalL : List Nat := [2, 3, 4, 5, 6, 9, 10, 11, 12, 20, 21, 26, 37, 61, 77, 91, 102, 131, 132, 134, 135]
def struL : List Nat := [7, 8, 13, 14, 18, 19, 22, 23, 46, 47, 49, 50, 53, 54, 55, 56, 57, 58, 70, 71, 82, 83, 109, 110, 121, 122, 126, 127, 129, 130, 136, 137]
def scal (t : Nat) : Bool := scalL.elem t
def stru (t : Nat) : Bool := struL.elem t
def sz : Nat → Nat
  | 7 => 4
  | 8 => 4
  | 13 => 2
  | 14 => 2
  | 18 => 1
  | 19 => 1
  | 22 => 6
  | 23 => 6
  | 46 => 2
  | 47 => 2
  | 49 => 6
  | 50 => 6
  | 53 => 12
  | 54 => 12
  | 55 => 7
  | 56 => 7
  | 57 => 25
  | 58 => 25
  | 70 => 3
  | 71 => 3
  | 82 => 2
  | 83 => 2
  | 109 => 3
  | 110 => 3
  | 121 => 1
  | 122 => 1
  | 126 => 4
  | 127 => 4
  | 129 => 0
  | 130 => 0
  | 136 => 11
  | 137 => 11
  | _ => 1
theorem i2 : (Tryd.prog.info? 2).map (·.size) = some 1 := by kernel_rfl
theorem i3 : (Tryd.prog.info? 3).map (·.size) = some 1 := by kernel_rfl
theorem i4 : (Tryd.prog.info? 4).map (·.size) = some 1 := by kernel_rfl
theorem i5 : (Tryd.prog.info? 5).map (·.size) = some 1 := by kernel_rfl
theorem i6 : (Tryd.prog.info? 6).map (·.size) = some 1 := by kernel_rfl
theorem i9 : (Tryd.prog.info? 9).map (·.size) = some 1 := by kernel_rfl
theorem i10 : (Tryd.prog.info? 10).map (·.size) = some 1 := by kernel_rfl
theorem i11 : (Tryd.prog.info? 11).map (·.size) = some 1 := by kernel_rfl
theorem i12 : (Tryd.prog.info? 12).map (·.size) = some 1 := by kernel_rfl
theorem i20 : (Tryd.prog.info? 20).map (·.size) = some 1 := by kernel_rfl
theorem i21 : (Tryd.prog.info? 21).map (·.size) = some 1 := by kernel_rfl
theorem i26 : (Tryd.prog.info? 26).map (·.size) = some 1 := by kernel_rfl
theorem i37 : (Tryd.prog.info? 37).map (·.size) = some 1 := by kernel_rfl
theorem i61 : (Tryd.prog.info? 61).map (·.size) = some 1 := by kernel_rfl
theorem i77 : (Tryd.prog.info? 77).map (·.size) = some 1 := by kernel_rfl
theorem i91 : (Tryd.prog.info? 91).map (·.size) = some 1 := by kernel_rfl
theorem i102 : (Tryd.prog.info? 102).map (·.size) = some 1 := by kernel_rfl
theorem i131 : (Tryd.prog.info? 131).map (·.size) = some 1 := by kernel_rfl
theorem i132 : (Tryd.prog.info? 132).map (·.size) = some 1 := by kernel_rfl
theorem i134 : (Tryd.prog.info? 134).map (·.size) = some 1 := by kernel_rfl
theorem i135 : (Tryd.prog.info? 135).map (·.size) = some 1 := by kernel_rfl
theorem i7 : (Tryd.prog.info? 7).map (·.size) = some 4 := by kernel_rfl
theorem i8 : (Tryd.prog.info? 8).map (·.size) = some 4 := by kernel_rfl
theorem i13 : (Tryd.prog.info? 13).map (·.size) = some 2 := by kernel_rfl
theorem i14 : (Tryd.prog.info? 14).map (·.size) = some 2 := by kernel_rfl
theorem i18 : (Tryd.prog.info? 18).map (·.size) = some 1 := by kernel_rfl
theorem i19 : (Tryd.prog.info? 19).map (·.size) = some 1 := by kernel_rfl
theorem i22 : (Tryd.prog.info? 22).map (·.size) = some 6 := by kernel_rfl
theorem i23 : (Tryd.prog.info? 23).map (·.size) = some 6 := by kernel_rfl
theorem i46 : (Tryd.prog.info? 46).map (·.size) = some 2 := by kernel_rfl
theorem i47 : (Tryd.prog.info? 47).map (·.size) = some 2 := by kernel_rfl
theorem i49 : (Tryd.prog.info? 49).map (·.size) = some 6 := by kernel_rfl
theorem i50 : (Tryd.prog.info? 50).map (·.size) = some 6 := by kernel_rfl
theorem i53 : (Tryd.prog.info? 53).map (·.size) = some 12 := by kernel_rfl
theorem i54 : (Tryd.prog.info? 54).map (·.size) = some 12 := by kernel_rfl
theorem i55 : (Tryd.prog.info? 55).map (·.size) = some 7 := by kernel_rfl
theorem i56 : (Tryd.prog.info? 56).map (·.size) = some 7 := by kernel_rfl
theorem i57 : (Tryd.prog.info? 57).map (·.size) = some 25 := by kernel_rfl
theorem i58 : (Tryd.prog.info? 58).map (·.size) = some 25 := by kernel_rfl
theorem i70 : (Tryd.prog.info? 70).map (·.size) = some 3 := by kernel_rfl
theorem i71 : (Tryd.prog.info? 71).map (·.size) = some 3 := by kernel_rfl
theorem i82 : (Tryd.prog.info? 82).map (·.size) = some 2 := by kernel_rfl
theorem i83 : (Tryd.prog.info? 83).map (·.size) = some 2 := by kernel_rfl
theorem i109 : (Tryd.prog.info? 109).map (·.size) = some 3 := by kernel_rfl
theorem i110 : (Tryd.prog.info? 110).map (·.size) = some 3 := by kernel_rfl
theorem i121 : (Tryd.prog.info? 121).map (·.size) = some 1 := by kernel_rfl
theorem i122 : (Tryd.prog.info? 122).map (·.size) = some 1 := by kernel_rfl
theorem i126 : (Tryd.prog.info? 126).map (·.size) = some 4 := by kernel_rfl
theorem i127 : (Tryd.prog.info? 127).map (·.size) = some 4 := by kernel_rfl
theorem i129 : (Tryd.prog.info? 129).map (·.size) = some 0 := by kernel_rfl
theorem i130 : (Tryd.prog.info? 130).map (·.size) = some 0 := by kernel_rfl
theorem i136 : (Tryd.prog.info? 136).map (·.size) = some 11 := by kernel_rfl
theorem i137 : (Tryd.prog.info? 137).map (·.size) = some 11 := by kernel_rfl
theorem one : ∀ t, scal t = true → ∃ d, Tryd.prog.underlying t = some d ∧ Ow.rowB d = false := fun t h => by
    have h := List.mem_of_elem_eq_true h
    simp only [scalL, struL, List.mem_cons, List.not_mem_nil, or_false] at h
    rcases h with rfl | rfl | rfl | rfl | rfl | rfl | rfl | rfl | rfl | rfl | rfl | rfl | rfl | rfl | rfl | rfl | rfl | rfl | rfl | rfl | rfl
    · exact ⟨_, Tryd.underlying2, rfl⟩
    · exact ⟨_, Tryd.underlying3, rfl⟩
    · exact ⟨_, Tryd.underlying4, rfl⟩
    · exact ⟨_, Tryd.underlying5, rfl⟩
    · exact ⟨_, Tryd.underlying6, rfl⟩
    · exact ⟨_, Tryd.underlying9, rfl⟩
    · exact ⟨_, Tryd.underlying10, rfl⟩
    · exact ⟨_, Tryd.underlying11, rfl⟩
    · exact ⟨_, Tryd.underlying12, rfl⟩
    · exact ⟨_, Tryd.underlying20, rfl⟩
    · exact ⟨_, Tryd.underlying21, rfl⟩
    · exact ⟨_, Tryd.underlying26, rfl⟩
    · exact ⟨_, Tryd.underlying37, rfl⟩
    · exact ⟨_, Tryd.underlying61, rfl⟩
    · exact ⟨_, Tryd.underlying77, rfl⟩
    · exact ⟨_, Tryd.underlying91, rfl⟩
    · exact ⟨_, Tryd.underlying102, rfl⟩
    · exact ⟨_, Tryd.underlying131, rfl⟩
    · exact ⟨_, Tryd.underlying132, rfl⟩
    · exact ⟨_, Tryd.underlying134, rfl⟩
    · exact ⟨_, Tryd.underlying135, rfl⟩
theorem row : ∀ t, stru t = true → ∃ d, Tryd.prog.underlying t = some d ∧ Ow.rowB d = true := fun t h => by
    have h := List.mem_of_elem_eq_true h
    simp only [scalL, struL, List.mem_cons, List.not_mem_nil, or_false] at h
    rcases h with rfl | rfl | rfl | rfl | rfl | rfl | rfl | rfl | rfl | rfl | rfl | rfl | rfl | rfl | rfl | rfl | rfl | rfl | rfl | rfl | rfl | rfl | rfl | rfl | rfl | rfl | rfl | rfl | rfl | rfl | rfl | rfl
    · exact ⟨_, Tryd.underlying7, rfl⟩
    · exact ⟨_, Tryd.underlying8, rfl⟩
    · exact ⟨_, Tryd.underlying13, rfl⟩
    · exact ⟨_, Tryd.underlying14, rfl⟩
    · exact ⟨_, Tryd.underlying18, rfl⟩
    · exact ⟨_, Tryd.underlying19, rfl⟩
    · exact ⟨_, Tryd.underlying22, rfl⟩
    · exact ⟨_, Tryd.underlying23, rfl⟩
    · exact ⟨_, Tryd.underlying46, rfl⟩
    · exact ⟨_, Tryd.underlying47, rfl⟩
    · exact ⟨_, Tryd.underlying49, rfl⟩
    · exact ⟨_, Tryd.underlying50, rfl⟩
    · exact ⟨_, Tryd.underlying53, rfl⟩
    · exact ⟨_, Tryd.underlying54, rfl⟩
    · exact ⟨_, Tryd.underlying55, rfl⟩
    · exact ⟨_, Tryd.underlying56, rfl⟩
    · exact ⟨_, Tryd.underlying57, rfl⟩
    · exact ⟨_, Tryd.underlying58, rfl⟩
    · exact ⟨_, Tryd.underlying70, rfl⟩
    · exact ⟨_, Tryd.underlying71, rfl⟩
    · exact ⟨_, Tryd.underlying82, rfl⟩
    · exact ⟨_, Tryd.underlying83, rfl⟩
    · exact ⟨_, Tryd.underlying109, rfl⟩
    · exact ⟨_, Tryd.underlying110, rfl⟩
    · exact ⟨_, Tryd.underlying121, rfl⟩
    · exact ⟨_, Tryd.underlying122, rfl⟩
    · exact ⟨_, Tryd.underlying126, rfl⟩
    · exact ⟨_, Tryd.underlying127, rfl⟩
    · exact ⟨_, Tryd.underlying129, rfl⟩
    · exact ⟨_, Tryd.underlying130, rfl⟩
    · exact ⟨_, Tryd.underlying136, rfl⟩
    · exact ⟨_, Tryd.underlying137, rfl⟩
theorem size1 : ∀ t, scal t = true → (Tryd.prog.info? t).map (·.size) = some (sz t) := fun t h => by
    have h := List.mem_of_elem_eq_true h
    simp only [scalL, struL, List.mem_cons, List.not_mem_nil, or_false] at h
    rcases h with rfl | rfl | rfl | rfl | rfl | rfl | rfl | rfl | rfl | rfl | rfl | rfl | rfl | rfl | rfl | rfl | rfl | rfl | rfl | rfl | rfl
    · exact i2
    · exact i3
    · exact i4
    · exact i5
    · exact i6
    · exact i9
    · exact i10
    · exact i11
    · exact i12
    · exact i20
    · exact i21
    · exact i26
    · exact i37
    · exact i61
    · exact i77
    · exact i91
    · exact i102
    · exact i131
    · exact i132
    · exact i134
    · exact i135
theorem size2 : ∀ t, stru t = true → (Tryd.prog.info? t).map (·.size) = some (sz t) := fun t h => by
    have h := List.mem_of_elem_eq_true h
    simp only [scalL, struL, List.mem_cons, List.not_mem_nil, or_false] at h
    rcases h with rfl | rfl | rfl | rfl | rfl | rfl | rfl | rfl | rfl | rfl | rfl | rfl | rfl | rfl | rfl | rfl | rfl | rfl | rfl | rfl | rfl | rfl | rfl | rfl | rfl | rfl | rfl | rfl | rfl | rfl | rfl | rfl
    · exact i7
    · exact i8
    · exact i13
    · exact i14
    · exact i18
    · exact i19
    · exact i22
    · exact i23
    · exact i46
    · exact i47
    · exact i49
    · exact i50
    · exact i53
    · exact i54
    · exact i55
    · exact i56
    · exact i57
    · exact i58
    · exact i70
    · exact i71
    · exact i82
    · exact i83
    · exact i109
    · exact i110
    · exact i121
    · exact i122
    · exact i126
    · exact i127
    · exact i129
    · exact i130
    · exact i136
    · exact i137
def blL : List Nat := [7, 8, 13, 14, 22, 23, 46, 47, 49, 50, 53, 54, 55, 56, 57, 58, 70, 71, 121, 122]
def bl (t : Nat) : Bool := blL.elem t
def zero : Nat → Array Value
  | 7 => #[.int .i64 0, .int .i64 0, .bool false, .int .u8 0]
  | 8 => #[.int .i64 0, .int .i64 0, .bool false, .int .u8 0]
  | 13 => #[.string (⟨#[]⟩ : ByteArray), .int .u64 0]
  | 14 => #[.string (⟨#[]⟩ : ByteArray), .int .u64 0]
  | 22 => #[.string (⟨#[]⟩ : ByteArray), .string (⟨#[]⟩ : ByteArray), .string (⟨#[]⟩ : ByteArray), .int .i64 0, .int .i64 0, .int .i64 0]
  | 23 => #[.string (⟨#[]⟩ : ByteArray), .string (⟨#[]⟩ : ByteArray), .string (⟨#[]⟩ : ByteArray), .int .i64 0, .int .i64 0, .int .i64 0]
  | 46 => #[.int .i64 0, .string (⟨#[]⟩ : ByteArray)]
  | 47 => #[.int .i64 0, .string (⟨#[]⟩ : ByteArray)]
  | 49 => #[.int .i64 0, .int .i64 0, .string (⟨#[]⟩ : ByteArray), .string (⟨#[]⟩ : ByteArray), .string (⟨#[]⟩ : ByteArray), .int .i64 0]
  | 50 => #[.int .i64 0, .int .i64 0, .string (⟨#[]⟩ : ByteArray), .string (⟨#[]⟩ : ByteArray), .string (⟨#[]⟩ : ByteArray), .int .i64 0]
  | 53 => #[.string (⟨#[]⟩ : ByteArray), .string (⟨#[]⟩ : ByteArray), .string (⟨#[]⟩ : ByteArray), .int .i64 0, .string (⟨#[]⟩ : ByteArray), .string (⟨#[]⟩ : ByteArray), .string (⟨#[]⟩ : ByteArray), .string (⟨#[]⟩ : ByteArray), .string (⟨#[]⟩ : ByteArray), .int .i64 0, .int .i64 0, .string (⟨#[]⟩ : ByteArray)]
  | 54 => #[.string (⟨#[]⟩ : ByteArray), .string (⟨#[]⟩ : ByteArray), .string (⟨#[]⟩ : ByteArray), .int .i64 0, .string (⟨#[]⟩ : ByteArray), .string (⟨#[]⟩ : ByteArray), .string (⟨#[]⟩ : ByteArray), .string (⟨#[]⟩ : ByteArray), .string (⟨#[]⟩ : ByteArray), .int .i64 0, .int .i64 0, .string (⟨#[]⟩ : ByteArray)]
  | 55 => #[.string (⟨#[]⟩ : ByteArray), .string (⟨#[]⟩ : ByteArray), .string (⟨#[]⟩ : ByteArray), .int .i64 0, .int .i64 0, .int .i64 0, .bool false]
  | 56 => #[.string (⟨#[]⟩ : ByteArray), .string (⟨#[]⟩ : ByteArray), .string (⟨#[]⟩ : ByteArray), .int .i64 0, .int .i64 0, .int .i64 0, .bool false]
  | 57 => #[.string (⟨#[]⟩ : ByteArray), .string (⟨#[]⟩ : ByteArray), .string (⟨#[]⟩ : ByteArray), .int .i64 0, .string (⟨#[]⟩ : ByteArray), .string (⟨#[]⟩ : ByteArray), .string (⟨#[]⟩ : ByteArray), .string (⟨#[]⟩ : ByteArray), .string (⟨#[]⟩ : ByteArray), .int .i64 0, .int .i64 0, .string (⟨#[]⟩ : ByteArray), .bool false, .int .i64 0, .string (⟨#[]⟩ : ByteArray), .string (⟨#[]⟩ : ByteArray), .string (⟨#[]⟩ : ByteArray), .int .i64 0, .int .i64 0, .int .i64 0, .bool false, .bool false, .int .i64 0, .int .i64 0, .bool false]
  | 58 => #[.string (⟨#[]⟩ : ByteArray), .string (⟨#[]⟩ : ByteArray), .string (⟨#[]⟩ : ByteArray), .int .i64 0, .string (⟨#[]⟩ : ByteArray), .string (⟨#[]⟩ : ByteArray), .string (⟨#[]⟩ : ByteArray), .string (⟨#[]⟩ : ByteArray), .string (⟨#[]⟩ : ByteArray), .int .i64 0, .int .i64 0, .string (⟨#[]⟩ : ByteArray), .bool false, .int .i64 0, .string (⟨#[]⟩ : ByteArray), .string (⟨#[]⟩ : ByteArray), .string (⟨#[]⟩ : ByteArray), .int .i64 0, .int .i64 0, .int .i64 0, .bool false, .bool false, .int .i64 0, .int .i64 0, .bool false]
  | 70 => #[.string (⟨#[]⟩ : ByteArray), .int .i64 0, .int .i64 0]
  | 71 => #[.string (⟨#[]⟩ : ByteArray), .int .i64 0, .int .i64 0]
  | 121 => #[.string (⟨#[]⟩ : ByteArray)]
  | 122 => #[.string (⟨#[]⟩ : ByteArray)]
  | _ => #[]
def places : Nat → List (Nat × Nat)
  | 7 => [(0, 1), (1, 1), (2, 1), (3, 1)]
  | 8 => [(0, 1), (1, 1), (2, 1), (3, 1)]
  | 13 => [(0, 1), (1, 1)]
  | 14 => [(0, 1), (1, 1)]
  | 22 => [(0, 1), (1, 1), (2, 1), (3, 1), (4, 1), (5, 1)]
  | 23 => [(0, 1), (1, 1), (2, 1), (3, 1), (4, 1), (5, 1)]
  | 46 => [(0, 1), (1, 1)]
  | 47 => [(0, 1), (1, 1)]
  | 49 => [(0, 1), (1, 1), (2, 1), (3, 1), (4, 1), (5, 1)]
  | 50 => [(0, 1), (1, 1), (2, 1), (3, 1), (4, 1), (5, 1)]
  | 53 => [(0, 1), (1, 1), (2, 1), (3, 1), (4, 1), (5, 1), (6, 1), (7, 1), (8, 1), (9, 1), (10, 1), (11, 1)]
  | 54 => [(0, 1), (1, 1), (2, 1), (3, 1), (4, 1), (5, 1), (6, 1), (7, 1), (8, 1), (9, 1), (10, 1), (11, 1)]
  | 55 => [(0, 1), (1, 1), (2, 1), (3, 1), (4, 1), (5, 1), (6, 1)]
  | 56 => [(0, 1), (1, 1), (2, 1), (3, 1), (4, 1), (5, 1), (6, 1)]
  | 57 => [(0, 12), (12, 1), (13, 1), (14, 7), (21, 1), (22, 1), (23, 1), (24, 1)]
  | 58 => [(0, 12), (12, 1), (13, 1), (14, 7), (21, 1), (22, 1), (23, 1), (24, 1)]
  | 70 => [(0, 1), (1, 1), (2, 1)]
  | 71 => [(0, 1), (1, 1), (2, 1)]
  | 121 => [(0, 1)]
  | 122 => [(0, 1)]
  | _ => []
theorem z7 : (Tryd.prog.info? 7).bind (fun i => i.zero.map (·.cells)) = some (zero 7) := by kernel_rfl
theorem z8 : (Tryd.prog.info? 8).bind (fun i => i.zero.map (·.cells)) = some (zero 8) := by kernel_rfl
theorem z13 : (Tryd.prog.info? 13).bind (fun i => i.zero.map (·.cells)) = some (zero 13) := by kernel_rfl
theorem z14 : (Tryd.prog.info? 14).bind (fun i => i.zero.map (·.cells)) = some (zero 14) := by kernel_rfl
theorem z22 : (Tryd.prog.info? 22).bind (fun i => i.zero.map (·.cells)) = some (zero 22) := by kernel_rfl
theorem z23 : (Tryd.prog.info? 23).bind (fun i => i.zero.map (·.cells)) = some (zero 23) := by kernel_rfl
theorem z46 : (Tryd.prog.info? 46).bind (fun i => i.zero.map (·.cells)) = some (zero 46) := by kernel_rfl
theorem z47 : (Tryd.prog.info? 47).bind (fun i => i.zero.map (·.cells)) = some (zero 47) := by kernel_rfl
theorem z49 : (Tryd.prog.info? 49).bind (fun i => i.zero.map (·.cells)) = some (zero 49) := by kernel_rfl
theorem z50 : (Tryd.prog.info? 50).bind (fun i => i.zero.map (·.cells)) = some (zero 50) := by kernel_rfl
theorem z53 : (Tryd.prog.info? 53).bind (fun i => i.zero.map (·.cells)) = some (zero 53) := by kernel_rfl
theorem z54 : (Tryd.prog.info? 54).bind (fun i => i.zero.map (·.cells)) = some (zero 54) := by kernel_rfl
theorem z55 : (Tryd.prog.info? 55).bind (fun i => i.zero.map (·.cells)) = some (zero 55) := by kernel_rfl
theorem z56 : (Tryd.prog.info? 56).bind (fun i => i.zero.map (·.cells)) = some (zero 56) := by kernel_rfl
theorem z57 : (Tryd.prog.info? 57).bind (fun i => i.zero.map (·.cells)) = some (zero 57) := by kernel_rfl
theorem z58 : (Tryd.prog.info? 58).bind (fun i => i.zero.map (·.cells)) = some (zero 58) := by kernel_rfl
theorem z70 : (Tryd.prog.info? 70).bind (fun i => i.zero.map (·.cells)) = some (zero 70) := by kernel_rfl
theorem z71 : (Tryd.prog.info? 71).bind (fun i => i.zero.map (·.cells)) = some (zero 71) := by kernel_rfl
theorem z121 : (Tryd.prog.info? 121).bind (fun i => i.zero.map (·.cells)) = some (zero 121) := by kernel_rfl
theorem z122 : (Tryd.prog.info? 122).bind (fun i => i.zero.map (·.cells)) = some (zero 122) := by kernel_rfl
theorem bz : ∀ t, bl t = true → (Tryd.prog.info? t).bind (fun i => i.zero.map (·.cells)) = some (zero t) := fun t h => by
    have h := List.mem_of_elem_eq_true h
    simp only [scalL, blL, List.mem_cons, List.not_mem_nil, or_false] at h
    rcases h with rfl | rfl | rfl | rfl | rfl | rfl | rfl | rfl | rfl | rfl | rfl | rfl | rfl | rfl | rfl | rfl | rfl | rfl | rfl | rfl
    · exact z7
    · exact z8
    · exact z13
    · exact z14
    · exact z22
    · exact z23
    · exact z46
    · exact z47
    · exact z49
    · exact z50
    · exact z53
    · exact z54
    · exact z55
    · exact z56
    · exact z57
    · exact z58
    · exact z70
    · exact z71
    · exact z121
    · exact z122
theorem bp : ∀ t, bl t = true → ∃ fields : Array Field, Tryd.prog.underlying t = some (.struct fields) ∧ fields.toList.mapM (fun f => (Tryd.prog.info? f.type).map fun i => (f.offset, i.size)) = some (places t) := fun t h => by
    have h := List.mem_of_elem_eq_true h
    simp only [scalL, blL, List.mem_cons, List.not_mem_nil, or_false] at h
    rcases h with rfl | rfl | rfl | rfl | rfl | rfl | rfl | rfl | rfl | rfl | rfl | rfl | rfl | rfl | rfl | rfl | rfl | rfl | rfl | rfl
    · exact ⟨_, Tryd.underlying7, by kernel_rfl⟩
    · exact ⟨_, Tryd.underlying8, by kernel_rfl⟩
    · exact ⟨_, Tryd.underlying13, by kernel_rfl⟩
    · exact ⟨_, Tryd.underlying14, by kernel_rfl⟩
    · exact ⟨_, Tryd.underlying22, by kernel_rfl⟩
    · exact ⟨_, Tryd.underlying23, by kernel_rfl⟩
    · exact ⟨_, Tryd.underlying46, by kernel_rfl⟩
    · exact ⟨_, Tryd.underlying47, by kernel_rfl⟩
    · exact ⟨_, Tryd.underlying49, by kernel_rfl⟩
    · exact ⟨_, Tryd.underlying50, by kernel_rfl⟩
    · exact ⟨_, Tryd.underlying53, by kernel_rfl⟩
    · exact ⟨_, Tryd.underlying54, by kernel_rfl⟩
    · exact ⟨_, Tryd.underlying55, by kernel_rfl⟩
    · exact ⟨_, Tryd.underlying56, by kernel_rfl⟩
    · exact ⟨_, Tryd.underlying57, by kernel_rfl⟩
    · exact ⟨_, Tryd.underlying58, by kernel_rfl⟩
    · exact ⟨_, Tryd.underlying70, by kernel_rfl⟩
    · exact ⟨_, Tryd.underlying71, by kernel_rfl⟩
    · exact ⟨_, Tryd.underlying121, by kernel_rfl⟩
    · exact ⟨_, Tryd.underlying122, by kernel_rfl⟩
def flL : List (Nat × Nat × Nat × Nat) := [(7, 0, 0, 2), (7, 1, 1, 3), (7, 2, 2, 4), (7, 3, 3, 6), (8, 0, 0, 2), (8, 1, 1, 3), (8, 2, 2, 4), (8, 3, 3, 6), (13, 0, 0, 9), (13, 1, 1, 12), (14, 0, 0, 9), (14, 1, 1, 12), (22, 0, 0, 9), (22, 1, 1, 9), (22, 2, 2, 9), (22, 3, 3, 3), (22, 4, 4, 2), (22, 5, 5, 3), (23, 0, 0, 9), (23, 1, 1, 9), (23, 2, 2, 9), (23, 3, 3, 3), (23, 4, 4, 2), (23, 5, 5, 3), (46, 0, 0, 3), (46, 1, 1, 9), (47, 0, 0, 3), (47, 1, 1, 9), (49, 0, 0, 3), (49, 1, 1, 3), (49, 2, 2, 9), (49, 3, 3, 9), (49, 4, 4, 9), (49, 5, 5, 2), (50, 0, 0, 3), (50, 1, 1, 3), (50, 2, 2, 9), (50, 3, 3, 9), (50, 4, 4, 9), (50, 5, 5, 2), (53, 0, 0, 9), (53, 1, 1, 9), (53, 2, 2, 9), (53, 3, 3, 2), (53, 4, 4, 9), (53, 5, 5, 9), (53, 6, 6, 9), (53, 7, 7, 9), (53, 8, 8, 9), (53, 9, 9, 2), (53, 10, 10, 2), (53, 11, 11, 9), (54, 0, 0, 9), (54, 1, 1, 9), (54, 2, 2, 9), (54, 3, 3, 2), (54, 4, 4, 9), (54, 5, 5, 9), (54, 6, 6, 9), (54, 7, 7, 9), (54, 8, 8, 9), (54, 9, 9, 2), (54, 10, 10, 2), (54, 11, 11, 9), (55, 0, 0, 9), (55, 1, 1, 9), (55, 2, 2, 9), (55, 3, 3, 2), (55, 4, 4, 2), (55, 5, 5, 3), (55, 6, 6, 4), (56, 0, 0, 9), (56, 1, 1, 9), (56, 2, 2, 9), (56, 3, 3, 2), (56, 4, 4, 2), (56, 5, 5, 3), (56, 6, 6, 4), (57, 0, 0, 54), (57, 1, 12, 4), (57, 2, 13, 2), (57, 3, 14, 56), (57, 4, 21, 4), (57, 5, 22, 3), (57, 6, 23, 3), (57, 7, 24, 4), (58, 0, 0, 54), (58, 1, 12, 4), (58, 2, 13, 2), (58, 3, 14, 56), (58, 4, 21, 4), (58, 5, 22, 3), (58, 6, 23, 3), (58, 7, 24, 4), (70, 0, 0, 9), (70, 1, 1, 3), (70, 2, 2, 3), (71, 0, 0, 9), (71, 1, 1, 3), (71, 2, 2, 3), (109, 0, 0, 9), (109, 1, 1, 9), (110, 0, 0, 9), (110, 1, 1, 9), (121, 0, 0, 9), (122, 0, 0, 9), (126, 3, 3, 9), (127, 3, 3, 9), (136, 0, 0, 12), (136, 1, 1, 12), (136, 2, 2, 102), (136, 3, 3, 131), (136, 4, 4, 5), (136, 5, 5, 5), (136, 6, 6, 132), (136, 9, 9, 134), (136, 10, 10, 135), (137, 0, 0, 12), (137, 1, 1, 12), (137, 2, 2, 102), (137, 3, 3, 131), (137, 4, 4, 5), (137, 5, 5, 5), (137, 6, 6, 132), (137, 9, 9, 134), (137, 10, 10, 135)]
def fo (t i : Nat) : Option (Nat × Nat) := (flL.find? fun x => x.1 == t && x.2.1 == i).map fun x => (x.2.2.1, x.2.2.2)
theorem fls : ∀ x ∈ flL, (scal x.2.2.2 || stru x.2.2.2) = true ∧ ∃ (fields : Array Field) (f : Field), Tryd.prog.underlying x.1 = some (.struct fields) ∧ fields[x.2.1]? = some f ∧ f.offset = x.2.2.1 ∧ f.type = x.2.2.2 := fun x h => by
    simp only [flL, List.mem_cons, List.not_mem_nil, or_false] at h
    rcases h with rfl | rfl | rfl | rfl | rfl | rfl | rfl | rfl | rfl | rfl | rfl | rfl | rfl | rfl | rfl | rfl | rfl | rfl | rfl | rfl | rfl | rfl | rfl | rfl | rfl | rfl | rfl | rfl | rfl | rfl | rfl | rfl | rfl | rfl | rfl | rfl | rfl | rfl | rfl | rfl | rfl | rfl | rfl | rfl | rfl | rfl | rfl | rfl | rfl | rfl | rfl | rfl | rfl | rfl | rfl | rfl | rfl | rfl | rfl | rfl | rfl | rfl | rfl | rfl | rfl | rfl | rfl | rfl | rfl | rfl | rfl | rfl | rfl | rfl | rfl | rfl | rfl | rfl | rfl | rfl | rfl | rfl | rfl | rfl | rfl | rfl | rfl | rfl | rfl | rfl | rfl | rfl | rfl | rfl | rfl | rfl | rfl | rfl | rfl | rfl | rfl | rfl | rfl | rfl | rfl | rfl | rfl | rfl | rfl | rfl | rfl | rfl | rfl | rfl | rfl | rfl | rfl | rfl | rfl | rfl | rfl | rfl | rfl | rfl | rfl | rfl
    · exact ⟨by decide, _, _, Tryd.underlying7, rfl, rfl, rfl⟩
    · exact ⟨by decide, _, _, Tryd.underlying7, rfl, rfl, rfl⟩
    · exact ⟨by decide, _, _, Tryd.underlying7, rfl, rfl, rfl⟩
    · exact ⟨by decide, _, _, Tryd.underlying7, rfl, rfl, rfl⟩
    · exact ⟨by decide, _, _, Tryd.underlying8, rfl, rfl, rfl⟩
    · exact ⟨by decide, _, _, Tryd.underlying8, rfl, rfl, rfl⟩
    · exact ⟨by decide, _, _, Tryd.underlying8, rfl, rfl, rfl⟩
    · exact ⟨by decide, _, _, Tryd.underlying8, rfl, rfl, rfl⟩
    · exact ⟨by decide, _, _, Tryd.underlying13, rfl, rfl, rfl⟩
    · exact ⟨by decide, _, _, Tryd.underlying13, rfl, rfl, rfl⟩
    · exact ⟨by decide, _, _, Tryd.underlying14, rfl, rfl, rfl⟩
    · exact ⟨by decide, _, _, Tryd.underlying14, rfl, rfl, rfl⟩
    · exact ⟨by decide, _, _, Tryd.underlying22, rfl, rfl, rfl⟩
    · exact ⟨by decide, _, _, Tryd.underlying22, rfl, rfl, rfl⟩
    · exact ⟨by decide, _, _, Tryd.underlying22, rfl, rfl, rfl⟩
    · exact ⟨by decide, _, _, Tryd.underlying22, rfl, rfl, rfl⟩
    · exact ⟨by decide, _, _, Tryd.underlying22, rfl, rfl, rfl⟩
    · exact ⟨by decide, _, _, Tryd.underlying22, rfl, rfl, rfl⟩
    · exact ⟨by decide, _, _, Tryd.underlying23, rfl, rfl, rfl⟩
    · exact ⟨by decide, _, _, Tryd.underlying23, rfl, rfl, rfl⟩
    · exact ⟨by decide, _, _, Tryd.underlying23, rfl, rfl, rfl⟩
    · exact ⟨by decide, _, _, Tryd.underlying23, rfl, rfl, rfl⟩
    · exact ⟨by decide, _, _, Tryd.underlying23, rfl, rfl, rfl⟩
    · exact ⟨by decide, _, _, Tryd.underlying23, rfl, rfl, rfl⟩
    · exact ⟨by decide, _, _, Tryd.underlying46, rfl, rfl, rfl⟩
    · exact ⟨by decide, _, _, Tryd.underlying46, rfl, rfl, rfl⟩
    · exact ⟨by decide, _, _, Tryd.underlying47, rfl, rfl, rfl⟩
    · exact ⟨by decide, _, _, Tryd.underlying47, rfl, rfl, rfl⟩
    · exact ⟨by decide, _, _, Tryd.underlying49, rfl, rfl, rfl⟩
    · exact ⟨by decide, _, _, Tryd.underlying49, rfl, rfl, rfl⟩
    · exact ⟨by decide, _, _, Tryd.underlying49, rfl, rfl, rfl⟩
    · exact ⟨by decide, _, _, Tryd.underlying49, rfl, rfl, rfl⟩
    · exact ⟨by decide, _, _, Tryd.underlying49, rfl, rfl, rfl⟩
    · exact ⟨by decide, _, _, Tryd.underlying49, rfl, rfl, rfl⟩
    · exact ⟨by decide, _, _, Tryd.underlying50, rfl, rfl, rfl⟩
    · exact ⟨by decide, _, _, Tryd.underlying50, rfl, rfl, rfl⟩
    · exact ⟨by decide, _, _, Tryd.underlying50, rfl, rfl, rfl⟩
    · exact ⟨by decide, _, _, Tryd.underlying50, rfl, rfl, rfl⟩
    · exact ⟨by decide, _, _, Tryd.underlying50, rfl, rfl, rfl⟩
    · exact ⟨by decide, _, _, Tryd.underlying50, rfl, rfl, rfl⟩
    · exact ⟨by decide, _, _, Tryd.underlying53, rfl, rfl, rfl⟩
    · exact ⟨by decide, _, _, Tryd.underlying53, rfl, rfl, rfl⟩
    · exact ⟨by decide, _, _, Tryd.underlying53, rfl, rfl, rfl⟩
    · exact ⟨by decide, _, _, Tryd.underlying53, rfl, rfl, rfl⟩
    · exact ⟨by decide, _, _, Tryd.underlying53, rfl, rfl, rfl⟩
    · exact ⟨by decide, _, _, Tryd.underlying53, rfl, rfl, rfl⟩
    · exact ⟨by decide, _, _, Tryd.underlying53, rfl, rfl, rfl⟩
    · exact ⟨by decide, _, _, Tryd.underlying53, rfl, rfl, rfl⟩
    · exact ⟨by decide, _, _, Tryd.underlying53, rfl, rfl, rfl⟩
    · exact ⟨by decide, _, _, Tryd.underlying53, rfl, rfl, rfl⟩
    · exact ⟨by decide, _, _, Tryd.underlying53, rfl, rfl, rfl⟩
    · exact ⟨by decide, _, _, Tryd.underlying53, rfl, rfl, rfl⟩
    · exact ⟨by decide, _, _, Tryd.underlying54, rfl, rfl, rfl⟩
    · exact ⟨by decide, _, _, Tryd.underlying54, rfl, rfl, rfl⟩
    · exact ⟨by decide, _, _, Tryd.underlying54, rfl, rfl, rfl⟩
    · exact ⟨by decide, _, _, Tryd.underlying54, rfl, rfl, rfl⟩
    · exact ⟨by decide, _, _, Tryd.underlying54, rfl, rfl, rfl⟩
    · exact ⟨by decide, _, _, Tryd.underlying54, rfl, rfl, rfl⟩
    · exact ⟨by decide, _, _, Tryd.underlying54, rfl, rfl, rfl⟩
    · exact ⟨by decide, _, _, Tryd.underlying54, rfl, rfl, rfl⟩
    · exact ⟨by decide, _, _, Tryd.underlying54, rfl, rfl, rfl⟩
    · exact ⟨by decide, _, _, Tryd.underlying54, rfl, rfl, rfl⟩
    · exact ⟨by decide, _, _, Tryd.underlying54, rfl, rfl, rfl⟩
    · exact ⟨by decide, _, _, Tryd.underlying54, rfl, rfl, rfl⟩
    · exact ⟨by decide, _, _, Tryd.underlying55, rfl, rfl, rfl⟩
    · exact ⟨by decide, _, _, Tryd.underlying55, rfl, rfl, rfl⟩
    · exact ⟨by decide, _, _, Tryd.underlying55, rfl, rfl, rfl⟩
    · exact ⟨by decide, _, _, Tryd.underlying55, rfl, rfl, rfl⟩
    · exact ⟨by decide, _, _, Tryd.underlying55, rfl, rfl, rfl⟩
    · exact ⟨by decide, _, _, Tryd.underlying55, rfl, rfl, rfl⟩
    · exact ⟨by decide, _, _, Tryd.underlying55, rfl, rfl, rfl⟩
    · exact ⟨by decide, _, _, Tryd.underlying56, rfl, rfl, rfl⟩
    · exact ⟨by decide, _, _, Tryd.underlying56, rfl, rfl, rfl⟩
    · exact ⟨by decide, _, _, Tryd.underlying56, rfl, rfl, rfl⟩
    · exact ⟨by decide, _, _, Tryd.underlying56, rfl, rfl, rfl⟩
    · exact ⟨by decide, _, _, Tryd.underlying56, rfl, rfl, rfl⟩
    · exact ⟨by decide, _, _, Tryd.underlying56, rfl, rfl, rfl⟩
    · exact ⟨by decide, _, _, Tryd.underlying56, rfl, rfl, rfl⟩
    · exact ⟨by decide, _, _, Tryd.underlying57, rfl, rfl, rfl⟩
    · exact ⟨by decide, _, _, Tryd.underlying57, rfl, rfl, rfl⟩
    · exact ⟨by decide, _, _, Tryd.underlying57, rfl, rfl, rfl⟩
    · exact ⟨by decide, _, _, Tryd.underlying57, rfl, rfl, rfl⟩
    · exact ⟨by decide, _, _, Tryd.underlying57, rfl, rfl, rfl⟩
    · exact ⟨by decide, _, _, Tryd.underlying57, rfl, rfl, rfl⟩
    · exact ⟨by decide, _, _, Tryd.underlying57, rfl, rfl, rfl⟩
    · exact ⟨by decide, _, _, Tryd.underlying57, rfl, rfl, rfl⟩
    · exact ⟨by decide, _, _, Tryd.underlying58, rfl, rfl, rfl⟩
    · exact ⟨by decide, _, _, Tryd.underlying58, rfl, rfl, rfl⟩
    · exact ⟨by decide, _, _, Tryd.underlying58, rfl, rfl, rfl⟩
    · exact ⟨by decide, _, _, Tryd.underlying58, rfl, rfl, rfl⟩
    · exact ⟨by decide, _, _, Tryd.underlying58, rfl, rfl, rfl⟩
    · exact ⟨by decide, _, _, Tryd.underlying58, rfl, rfl, rfl⟩
    · exact ⟨by decide, _, _, Tryd.underlying58, rfl, rfl, rfl⟩
    · exact ⟨by decide, _, _, Tryd.underlying58, rfl, rfl, rfl⟩
    · exact ⟨by decide, _, _, Tryd.underlying70, rfl, rfl, rfl⟩
    · exact ⟨by decide, _, _, Tryd.underlying70, rfl, rfl, rfl⟩
    · exact ⟨by decide, _, _, Tryd.underlying70, rfl, rfl, rfl⟩
    · exact ⟨by decide, _, _, Tryd.underlying71, rfl, rfl, rfl⟩
    · exact ⟨by decide, _, _, Tryd.underlying71, rfl, rfl, rfl⟩
    · exact ⟨by decide, _, _, Tryd.underlying71, rfl, rfl, rfl⟩
    · exact ⟨by decide, _, _, Tryd.underlying109, rfl, rfl, rfl⟩
    · exact ⟨by decide, _, _, Tryd.underlying109, rfl, rfl, rfl⟩
    · exact ⟨by decide, _, _, Tryd.underlying110, rfl, rfl, rfl⟩
    · exact ⟨by decide, _, _, Tryd.underlying110, rfl, rfl, rfl⟩
    · exact ⟨by decide, _, _, Tryd.underlying121, rfl, rfl, rfl⟩
    · exact ⟨by decide, _, _, Tryd.underlying122, rfl, rfl, rfl⟩
    · exact ⟨by decide, _, _, Tryd.underlying126, rfl, rfl, rfl⟩
    · exact ⟨by decide, _, _, Tryd.underlying127, rfl, rfl, rfl⟩
    · exact ⟨by decide, _, _, Tryd.underlying136, rfl, rfl, rfl⟩
    · exact ⟨by decide, _, _, Tryd.underlying136, rfl, rfl, rfl⟩
    · exact ⟨by decide, _, _, Tryd.underlying136, rfl, rfl, rfl⟩
    · exact ⟨by decide, _, _, Tryd.underlying136, rfl, rfl, rfl⟩
    · exact ⟨by decide, _, _, Tryd.underlying136, rfl, rfl, rfl⟩
    · exact ⟨by decide, _, _, Tryd.underlying136, rfl, rfl, rfl⟩
    · exact ⟨by decide, _, _, Tryd.underlying136, rfl, rfl, rfl⟩
    · exact ⟨by decide, _, _, Tryd.underlying136, rfl, rfl, rfl⟩
    · exact ⟨by decide, _, _, Tryd.underlying136, rfl, rfl, rfl⟩
    · exact ⟨by decide, _, _, Tryd.underlying137, rfl, rfl, rfl⟩
    · exact ⟨by decide, _, _, Tryd.underlying137, rfl, rfl, rfl⟩
    · exact ⟨by decide, _, _, Tryd.underlying137, rfl, rfl, rfl⟩
    · exact ⟨by decide, _, _, Tryd.underlying137, rfl, rfl, rfl⟩
    · exact ⟨by decide, _, _, Tryd.underlying137, rfl, rfl, rfl⟩
    · exact ⟨by decide, _, _, Tryd.underlying137, rfl, rfl, rfl⟩
    · exact ⟨by decide, _, _, Tryd.underlying137, rfl, rfl, rfl⟩
    · exact ⟨by decide, _, _, Tryd.underlying137, rfl, rfl, rfl⟩
    · exact ⟨by decide, _, _, Tryd.underlying137, rfl, rfl, rfl⟩
theorem fl : Ow.Flds Tryd.prog fo scal stru := ⟨fun t i off ft h => by
  unfold fo at h
  cases hf : flL.find? (fun x => x.1 == t && x.2.1 == i) with
  | none => rw [hf] at h; cases h
  | some x =>
    rw [hf] at h
    simp only [Option.map_some, Option.some.injEq, Prod.mk.injEq] at h
    have hx := List.find?_some hf
    simp only [Bool.and_eq_true, beq_iff_eq] at hx
    have := fls x (List.mem_of_find?_eq_some hf)
    rw [← h.1, ← h.2, ← hx.1, ← hx.2]
    exact this⟩
theorem bd : Ow.Builds Tryd.prog bl zero places := ⟨bz, bp⟩
theorem ty : Ow.Types Tryd.prog scal stru sz := ⟨one, row, fun t h => by
  rcases Bool.or_eq_true_iff.mp h with h | h
  · exact size1 t h
  · exact size2 t h⟩
end Go.Proofs.YtkfpocggjbfomaaDoor.Ot
