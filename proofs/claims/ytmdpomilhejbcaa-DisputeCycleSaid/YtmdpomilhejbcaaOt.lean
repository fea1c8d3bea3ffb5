/- What is known of the program's types. -/
import Derived.Test.YtmdpomilhejbcaaOw
import Derived.Test.YtmdpomilhejbcaaProg
import Derived.KernelRfl
namespace Go.Proofs.Ytmdpomilhejbcaa.Ot
open Go.RowKit Go.Proofs.YtmdpomilhejbcaaW.PrintWords
set_option linter.unusedSimpArgs false
def scalL : List Nat := [2, 3, 4, 5, 6, 9, 10, 11, 12, 20, 21, 28, 63, 81, 84, 93, 94, 95, 98, 99]
def struL : List Nat := [7, 8, 13, 14, 18, 19, 22, 23, 24, 25, 26, 27, 32, 33, 36, 37, 42, 43, 53, 54, 59, 60, 66, 67, 87, 88, 90, 91, 100, 101]
def scal (t : Nat) : Bool := scalL.elem t
def stru (t : Nat) : Bool := struL.elem t
def sz : Nat → Nat
  | 7 => 4
  | 8 => 4
  | 13 => 2
  | 14 => 2
  | 18 => 1
  | 19 => 1
  | 22 => 12
  | 23 => 12
  | 24 => 7
  | 25 => 7
  | 26 => 25
  | 27 => 25
  | 32 => 6
  | 33 => 6
  | 36 => 6
  | 37 => 6
  | 42 => 15
  | 43 => 15
  | 53 => 3
  | 54 => 3
  | 59 => 2
  | 60 => 2
  | 66 => 2
  | 67 => 2
  | 87 => 4
  | 88 => 4
  | 90 => 0
  | 91 => 0
  | 100 => 11
  | 101 => 11
  | _ => 1
theorem i2 : (Try.prog.info? 2).map (·.size) = some 1 := by kernel_rfl
theorem i3 : (Try.prog.info? 3).map (·.size) = some 1 := by kernel_rfl
theorem i4 : (Try.prog.info? 4).map (·.size) = some 1 := by kernel_rfl
theorem i5 : (Try.prog.info? 5).map (·.size) = some 1 := by kernel_rfl
theorem i6 : (Try.prog.info? 6).map (·.size) = some 1 := by kernel_rfl
theorem i9 : (Try.prog.info? 9).map (·.size) = some 1 := by kernel_rfl
theorem i10 : (Try.prog.info? 10).map (·.size) = some 1 := by kernel_rfl
theorem i11 : (Try.prog.info? 11).map (·.size) = some 1 := by kernel_rfl
theorem i12 : (Try.prog.info? 12).map (·.size) = some 1 := by kernel_rfl
theorem i20 : (Try.prog.info? 20).map (·.size) = some 1 := by kernel_rfl
theorem i21 : (Try.prog.info? 21).map (·.size) = some 1 := by kernel_rfl
theorem i28 : (Try.prog.info? 28).map (·.size) = some 1 := by kernel_rfl
theorem i63 : (Try.prog.info? 63).map (·.size) = some 1 := by kernel_rfl
theorem i81 : (Try.prog.info? 81).map (·.size) = some 1 := by kernel_rfl
theorem i84 : (Try.prog.info? 84).map (·.size) = some 1 := by kernel_rfl
theorem i93 : (Try.prog.info? 93).map (·.size) = some 1 := by kernel_rfl
theorem i94 : (Try.prog.info? 94).map (·.size) = some 1 := by kernel_rfl
theorem i95 : (Try.prog.info? 95).map (·.size) = some 1 := by kernel_rfl
theorem i98 : (Try.prog.info? 98).map (·.size) = some 1 := by kernel_rfl
theorem i99 : (Try.prog.info? 99).map (·.size) = some 1 := by kernel_rfl
theorem i7 : (Try.prog.info? 7).map (·.size) = some 4 := by kernel_rfl
theorem i8 : (Try.prog.info? 8).map (·.size) = some 4 := by kernel_rfl
theorem i13 : (Try.prog.info? 13).map (·.size) = some 2 := by kernel_rfl
theorem i14 : (Try.prog.info? 14).map (·.size) = some 2 := by kernel_rfl
theorem i18 : (Try.prog.info? 18).map (·.size) = some 1 := by kernel_rfl
theorem i19 : (Try.prog.info? 19).map (·.size) = some 1 := by kernel_rfl
theorem i22 : (Try.prog.info? 22).map (·.size) = some 12 := by kernel_rfl
theorem i23 : (Try.prog.info? 23).map (·.size) = some 12 := by kernel_rfl
theorem i24 : (Try.prog.info? 24).map (·.size) = some 7 := by kernel_rfl
theorem i25 : (Try.prog.info? 25).map (·.size) = some 7 := by kernel_rfl
theorem i26 : (Try.prog.info? 26).map (·.size) = some 25 := by kernel_rfl
theorem i27 : (Try.prog.info? 27).map (·.size) = some 25 := by kernel_rfl
theorem i32 : (Try.prog.info? 32).map (·.size) = some 6 := by kernel_rfl
theorem i33 : (Try.prog.info? 33).map (·.size) = some 6 := by kernel_rfl
theorem i36 : (Try.prog.info? 36).map (·.size) = some 6 := by kernel_rfl
theorem i37 : (Try.prog.info? 37).map (·.size) = some 6 := by kernel_rfl
theorem i42 : (Try.prog.info? 42).map (·.size) = some 15 := by kernel_rfl
theorem i43 : (Try.prog.info? 43).map (·.size) = some 15 := by kernel_rfl
theorem i53 : (Try.prog.info? 53).map (·.size) = some 3 := by kernel_rfl
theorem i54 : (Try.prog.info? 54).map (·.size) = some 3 := by kernel_rfl
theorem i59 : (Try.prog.info? 59).map (·.size) = some 2 := by kernel_rfl
theorem i60 : (Try.prog.info? 60).map (·.size) = some 2 := by kernel_rfl
theorem i66 : (Try.prog.info? 66).map (·.size) = some 2 := by kernel_rfl
theorem i67 : (Try.prog.info? 67).map (·.size) = some 2 := by kernel_rfl
theorem i87 : (Try.prog.info? 87).map (·.size) = some 4 := by kernel_rfl
theorem i88 : (Try.prog.info? 88).map (·.size) = some 4 := by kernel_rfl
theorem i90 : (Try.prog.info? 90).map (·.size) = some 0 := by kernel_rfl
theorem i91 : (Try.prog.info? 91).map (·.size) = some 0 := by kernel_rfl
theorem i100 : (Try.prog.info? 100).map (·.size) = some 11 := by kernel_rfl
theorem i101 : (Try.prog.info? 101).map (·.size) = some 11 := by kernel_rfl
theorem one : ∀ t, scal t = true → ∃ d, Try.prog.underlying t = some d ∧ Ow.rowB d = false := fun t h => by
    have h := List.mem_of_elem_eq_true h
    simp only [scalL, struL, List.mem_cons, List.not_mem_nil, or_false] at h
    rcases h with rfl | rfl | rfl | rfl | rfl | rfl | rfl | rfl | rfl | rfl | rfl | rfl | rfl | rfl | rfl | rfl | rfl | rfl | rfl | rfl
    · exact ⟨_, Try.underlying2, rfl⟩
    · exact ⟨_, Try.underlying3, rfl⟩
    · exact ⟨_, Try.underlying4, rfl⟩
    · exact ⟨_, Try.underlying5, rfl⟩
    · exact ⟨_, Try.underlying6, rfl⟩
    · exact ⟨_, Try.underlying9, rfl⟩
    · exact ⟨_, Try.underlying10, rfl⟩
    · exact ⟨_, Try.underlying11, rfl⟩
    · exact ⟨_, Try.underlying12, rfl⟩
    · exact ⟨_, Try.underlying20, rfl⟩
    · exact ⟨_, Try.underlying21, rfl⟩
    · exact ⟨_, Try.underlying28, rfl⟩
    · exact ⟨_, Try.underlying63, rfl⟩
    · exact ⟨_, Try.underlying81, rfl⟩
    · exact ⟨_, Try.underlying84, rfl⟩
    · exact ⟨_, Try.underlying93, rfl⟩
    · exact ⟨_, Try.underlying94, rfl⟩
    · exact ⟨_, Try.underlying95, rfl⟩
    · exact ⟨_, Try.underlying98, rfl⟩
    · exact ⟨_, Try.underlying99, rfl⟩
theorem row : ∀ t, stru t = true → ∃ d, Try.prog.underlying t = some d ∧ Ow.rowB d = true := fun t h => by
    have h := List.mem_of_elem_eq_true h
    simp only [scalL, struL, List.mem_cons, List.not_mem_nil, or_false] at h
    rcases h with rfl | rfl | rfl | rfl | rfl | rfl | rfl | rfl | rfl | rfl | rfl | rfl | rfl | rfl | rfl | rfl | rfl | rfl | rfl | rfl | rfl | rfl | rfl | rfl | rfl | rfl | rfl | rfl | rfl | rfl
    · exact ⟨_, Try.underlying7, rfl⟩
    · exact ⟨_, Try.underlying8, rfl⟩
    · exact ⟨_, Try.underlying13, rfl⟩
    · exact ⟨_, Try.underlying14, rfl⟩
    · exact ⟨_, Try.underlying18, rfl⟩
    · exact ⟨_, Try.underlying19, rfl⟩
    · exact ⟨_, Try.underlying22, rfl⟩
    · exact ⟨_, Try.underlying23, rfl⟩
    · exact ⟨_, Try.underlying24, rfl⟩
    · exact ⟨_, Try.underlying25, rfl⟩
    · exact ⟨_, Try.underlying26, rfl⟩
    · exact ⟨_, Try.underlying27, rfl⟩
    · exact ⟨_, Try.underlying32, rfl⟩
    · exact ⟨_, Try.underlying33, rfl⟩
    · exact ⟨_, Try.underlying36, rfl⟩
    · exact ⟨_, Try.underlying37, rfl⟩
    · exact ⟨_, Try.underlying42, rfl⟩
    · exact ⟨_, Try.underlying43, rfl⟩
    · exact ⟨_, Try.underlying53, rfl⟩
    · exact ⟨_, Try.underlying54, rfl⟩
    · exact ⟨_, Try.underlying59, rfl⟩
    · exact ⟨_, Try.underlying60, rfl⟩
    · exact ⟨_, Try.underlying66, rfl⟩
    · exact ⟨_, Try.underlying67, rfl⟩
    · exact ⟨_, Try.underlying87, rfl⟩
    · exact ⟨_, Try.underlying88, rfl⟩
    · exact ⟨_, Try.underlying90, rfl⟩
    · exact ⟨_, Try.underlying91, rfl⟩
    · exact ⟨_, Try.underlying100, rfl⟩
    · exact ⟨_, Try.underlying101, rfl⟩
theorem size1 : ∀ t, scal t = true → (Try.prog.info? t).map (·.size) = some (sz t) := fun t h => by
    have h := List.mem_of_elem_eq_true h
    simp only [scalL, struL, List.mem_cons, List.not_mem_nil, or_false] at h
    rcases h with rfl | rfl | rfl | rfl | rfl | rfl | rfl | rfl | rfl | rfl | rfl | rfl | rfl | rfl | rfl | rfl | rfl | rfl | rfl | rfl
    · exact i2
    · exact i3
    · exact i4
    · exact i5
    · exact i6
    · exact i9
    · exact i10
    · exact i11
    · exact i12
    · exact i20
    · exact i21
    · exact i28
    · exact i63
    · exact i81
    · exact i84
    · exact i93
    · exact i94
    · exact i95
    · exact i98
    · exact i99
theorem size2 : ∀ t, stru t = true → (Try.prog.info? t).map (·.size) = some (sz t) := fun t h => by
    have h := List.mem_of_elem_eq_true h
    simp only [scalL, struL, List.mem_cons, List.not_mem_nil, or_false] at h
    rcases h with rfl | rfl | rfl | rfl | rfl | rfl | rfl | rfl | rfl | rfl | rfl | rfl | rfl | rfl | rfl | rfl | rfl | rfl | rfl | rfl | rfl | rfl | rfl | rfl | rfl | rfl | rfl | rfl | rfl | rfl
    · exact i7
    · exact i8
    · exact i13
    · exact i14
    · exact i18
    · exact i19
    · exact i22
    · exact i23
    · exact i24
    · exact i25
    · exact i26
    · exact i27
    · exact i32
    · exact i33
    · exact i36
    · exact i37
    · exact i42
    · exact i43
    · exact i53
    · exact i54
    · exact i59
    · exact i60
    · exact i66
    · exact i67
    · exact i87
    · exact i88
    · exact i90
    · exact i91
    · exact i100
    · exact i101
def blL : List Nat := [7, 8, 13, 14, 22, 23, 24, 25, 26, 27, 32, 33, 36, 37, 42, 43, 53, 54, 59, 60, 66, 67]
def bl (t : Nat) : Bool := blL.elem t
def zero : Nat → Array Value
  | 7 => #[.int .i64 0, .int .i64 0, .bool false, .int .u8 0]
  | 8 => #[.int .i64 0, .int .i64 0, .bool false, .int .u8 0]
  | 13 => #[.string (⟨#[]⟩ : ByteArray), .int .u64 0]
  | 14 => #[.string (⟨#[]⟩ : ByteArray), .int .u64 0]
  | 22 => #[.string (⟨#[]⟩ : ByteArray), .string (⟨#[]⟩ : ByteArray), .string (⟨#[]⟩ : ByteArray), .int .i64 0, .string (⟨#[]⟩ : ByteArray), .string (⟨#[]⟩ : ByteArray), .string (⟨#[]⟩ : ByteArray), .string (⟨#[]⟩ : ByteArray), .string (⟨#[]⟩ : ByteArray), .int .i64 0, .int .i64 0, .string (⟨#[]⟩ : ByteArray)]
  | 23 => #[.string (⟨#[]⟩ : ByteArray), .string (⟨#[]⟩ : ByteArray), .string (⟨#[]⟩ : ByteArray), .int .i64 0, .string (⟨#[]⟩ : ByteArray), .string (⟨#[]⟩ : ByteArray), .string (⟨#[]⟩ : ByteArray), .string (⟨#[]⟩ : ByteArray), .string (⟨#[]⟩ : ByteArray), .int .i64 0, .int .i64 0, .string (⟨#[]⟩ : ByteArray)]
  | 24 => #[.string (⟨#[]⟩ : ByteArray), .string (⟨#[]⟩ : ByteArray), .string (⟨#[]⟩ : ByteArray), .int .i64 0, .int .i64 0, .int .i64 0, .bool false]
  | 25 => #[.string (⟨#[]⟩ : ByteArray), .string (⟨#[]⟩ : ByteArray), .string (⟨#[]⟩ : ByteArray), .int .i64 0, .int .i64 0, .int .i64 0, .bool false]
  | 26 => #[.string (⟨#[]⟩ : ByteArray), .string (⟨#[]⟩ : ByteArray), .string (⟨#[]⟩ : ByteArray), .int .i64 0, .string (⟨#[]⟩ : ByteArray), .string (⟨#[]⟩ : ByteArray), .string (⟨#[]⟩ : ByteArray), .string (⟨#[]⟩ : ByteArray), .string (⟨#[]⟩ : ByteArray), .int .i64 0, .int .i64 0, .string (⟨#[]⟩ : ByteArray), .bool false, .int .i64 0, .string (⟨#[]⟩ : ByteArray), .string (⟨#[]⟩ : ByteArray), .string (⟨#[]⟩ : ByteArray), .int .i64 0, .int .i64 0, .int .i64 0, .bool false, .bool false, .int .i64 0, .int .i64 0, .bool false]
  | 27 => #[.string (⟨#[]⟩ : ByteArray), .string (⟨#[]⟩ : ByteArray), .string (⟨#[]⟩ : ByteArray), .int .i64 0, .string (⟨#[]⟩ : ByteArray), .string (⟨#[]⟩ : ByteArray), .string (⟨#[]⟩ : ByteArray), .string (⟨#[]⟩ : ByteArray), .string (⟨#[]⟩ : ByteArray), .int .i64 0, .int .i64 0, .string (⟨#[]⟩ : ByteArray), .bool false, .int .i64 0, .string (⟨#[]⟩ : ByteArray), .string (⟨#[]⟩ : ByteArray), .string (⟨#[]⟩ : ByteArray), .int .i64 0, .int .i64 0, .int .i64 0, .bool false, .bool false, .int .i64 0, .int .i64 0, .bool false]
  | 32 => #[.string (⟨#[]⟩ : ByteArray), .string (⟨#[]⟩ : ByteArray), .string (⟨#[]⟩ : ByteArray), .int .i64 0, .int .i64 0, .int .i64 0]
  | 33 => #[.string (⟨#[]⟩ : ByteArray), .string (⟨#[]⟩ : ByteArray), .string (⟨#[]⟩ : ByteArray), .int .i64 0, .int .i64 0, .int .i64 0]
  | 36 => #[.int .i64 0, .int .i64 0, .string (⟨#[]⟩ : ByteArray), .string (⟨#[]⟩ : ByteArray), .string (⟨#[]⟩ : ByteArray), .int .i64 0]
  | 37 => #[.int .i64 0, .int .i64 0, .string (⟨#[]⟩ : ByteArray), .string (⟨#[]⟩ : ByteArray), .string (⟨#[]⟩ : ByteArray), .int .i64 0]
  | 42 => #[.string (⟨#[]⟩ : ByteArray), .string (⟨#[]⟩ : ByteArray), .string (⟨#[]⟩ : ByteArray), .string (⟨#[]⟩ : ByteArray), .int .i64 0, .int .i64 0, .int .i64 0, .bool false, .bool false, .int .i64 0, .int .i64 0, .string (⟨#[]⟩ : ByteArray), .string (⟨#[]⟩ : ByteArray), .string (⟨#[]⟩ : ByteArray), .int .i64 0]
  | 43 => #[.string (⟨#[]⟩ : ByteArray), .string (⟨#[]⟩ : ByteArray), .string (⟨#[]⟩ : ByteArray), .string (⟨#[]⟩ : ByteArray), .int .i64 0, .int .i64 0, .int .i64 0, .bool false, .bool false, .int .i64 0, .int .i64 0, .string (⟨#[]⟩ : ByteArray), .string (⟨#[]⟩ : ByteArray), .string (⟨#[]⟩ : ByteArray), .int .i64 0]
  | 53 => #[.string (⟨#[]⟩ : ByteArray), .int .i64 0, .int .i64 0]
  | 54 => #[.string (⟨#[]⟩ : ByteArray), .int .i64 0, .int .i64 0]
  | 59 => #[.bool false, .string (⟨#[]⟩ : ByteArray)]
  | 60 => #[.bool false, .string (⟨#[]⟩ : ByteArray)]
  | 66 => #[.int .i64 0, .string (⟨#[]⟩ : ByteArray)]
  | 67 => #[.int .i64 0, .string (⟨#[]⟩ : ByteArray)]
  | _ => #[]
def places : Nat → List (Nat × Nat)
  | 7 => [(0, 1), (1, 1), (2, 1), (3, 1)]
  | 8 => [(0, 1), (1, 1), (2, 1), (3, 1)]
  | 13 => [(0, 1), (1, 1)]
  | 14 => [(0, 1), (1, 1)]
  | 22 => [(0, 1), (1, 1), (2, 1), (3, 1), (4, 1), (5, 1), (6, 1), (7, 1), (8, 1), (9, 1), (10, 1), (11, 1)]
  | 23 => [(0, 1), (1, 1), (2, 1), (3, 1), (4, 1), (5, 1), (6, 1), (7, 1), (8, 1), (9, 1), (10, 1), (11, 1)]
  | 24 => [(0, 1), (1, 1), (2, 1), (3, 1), (4, 1), (5, 1), (6, 1)]
  | 25 => [(0, 1), (1, 1), (2, 1), (3, 1), (4, 1), (5, 1), (6, 1)]
  | 26 => [(0, 12), (12, 1), (13, 1), (14, 7), (21, 1), (22, 1), (23, 1), (24, 1)]
  | 27 => [(0, 12), (12, 1), (13, 1), (14, 7), (21, 1), (22, 1), (23, 1), (24, 1)]
  | 32 => [(0, 1), (1, 1), (2, 1), (3, 1), (4, 1), (5, 1)]
  | 33 => [(0, 1), (1, 1), (2, 1), (3, 1), (4, 1), (5, 1)]
  | 36 => [(0, 1), (1, 1), (2, 1), (3, 1), (4, 1), (5, 1)]
  | 37 => [(0, 1), (1, 1), (2, 1), (3, 1), (4, 1), (5, 1)]
  | 42 => [(0, 1), (1, 7), (8, 1), (9, 6)]
  | 43 => [(0, 1), (1, 7), (8, 1), (9, 6)]
  | 53 => [(0, 1), (1, 1), (2, 1)]
  | 54 => [(0, 1), (1, 1), (2, 1)]
  | 59 => [(0, 1), (1, 1)]
  | 60 => [(0, 1), (1, 1)]
  | 66 => [(0, 1), (1, 1)]
  | 67 => [(0, 1), (1, 1)]
  | _ => []
theorem z7 : (Try.prog.info? 7).bind (fun i => i.zero.map (·.cells)) = some (zero 7) := by kernel_rfl
theorem z8 : (Try.prog.info? 8).bind (fun i => i.zero.map (·.cells)) = some (zero 8) := by kernel_rfl
theorem z13 : (Try.prog.info? 13).bind (fun i => i.zero.map (·.cells)) = some (zero 13) := by kernel_rfl
theorem z14 : (Try.prog.info? 14).bind (fun i => i.zero.map (·.cells)) = some (zero 14) := by kernel_rfl
theorem z22 : (Try.prog.info? 22).bind (fun i => i.zero.map (·.cells)) = some (zero 22) := by kernel_rfl
theorem z23 : (Try.prog.info? 23).bind (fun i => i.zero.map (·.cells)) = some (zero 23) := by kernel_rfl
theorem z24 : (Try.prog.info? 24).bind (fun i => i.zero.map (·.cells)) = some (zero 24) := by kernel_rfl
theorem z25 : (Try.prog.info? 25).bind (fun i => i.zero.map (·.cells)) = some (zero 25) := by kernel_rfl
theorem z26 : (Try.prog.info? 26).bind (fun i => i.zero.map (·.cells)) = some (zero 26) := by kernel_rfl
theorem z27 : (Try.prog.info? 27).bind (fun i => i.zero.map (·.cells)) = some (zero 27) := by kernel_rfl
theorem z32 : (Try.prog.info? 32).bind (fun i => i.zero.map (·.cells)) = some (zero 32) := by kernel_rfl
theorem z33 : (Try.prog.info? 33).bind (fun i => i.zero.map (·.cells)) = some (zero 33) := by kernel_rfl
theorem z36 : (Try.prog.info? 36).bind (fun i => i.zero.map (·.cells)) = some (zero 36) := by kernel_rfl
theorem z37 : (Try.prog.info? 37).bind (fun i => i.zero.map (·.cells)) = some (zero 37) := by kernel_rfl
theorem z42 : (Try.prog.info? 42).bind (fun i => i.zero.map (·.cells)) = some (zero 42) := by kernel_rfl
theorem z43 : (Try.prog.info? 43).bind (fun i => i.zero.map (·.cells)) = some (zero 43) := by kernel_rfl
theorem z53 : (Try.prog.info? 53).bind (fun i => i.zero.map (·.cells)) = some (zero 53) := by kernel_rfl
theorem z54 : (Try.prog.info? 54).bind (fun i => i.zero.map (·.cells)) = some (zero 54) := by kernel_rfl
theorem z59 : (Try.prog.info? 59).bind (fun i => i.zero.map (·.cells)) = some (zero 59) := by kernel_rfl
theorem z60 : (Try.prog.info? 60).bind (fun i => i.zero.map (·.cells)) = some (zero 60) := by kernel_rfl
theorem z66 : (Try.prog.info? 66).bind (fun i => i.zero.map (·.cells)) = some (zero 66) := by kernel_rfl
theorem z67 : (Try.prog.info? 67).bind (fun i => i.zero.map (·.cells)) = some (zero 67) := by kernel_rfl
theorem bz : ∀ t, bl t = true → (Try.prog.info? t).bind (fun i => i.zero.map (·.cells)) = some (zero t) := fun t h => by
    have h := List.mem_of_elem_eq_true h
    simp only [scalL, blL, List.mem_cons, List.not_mem_nil, or_false] at h
    rcases h with rfl | rfl | rfl | rfl | rfl | rfl | rfl | rfl | rfl | rfl | rfl | rfl | rfl | rfl | rfl | rfl | rfl | rfl | rfl | rfl | rfl | rfl
    · exact z7
    · exact z8
    · exact z13
    · exact z14
    · exact z22
    · exact z23
    · exact z24
    · exact z25
    · exact z26
    · exact z27
    · exact z32
    · exact z33
    · exact z36
    · exact z37
    · exact z42
    · exact z43
    · exact z53
    · exact z54
    · exact z59
    · exact z60
    · exact z66
    · exact z67
theorem bp : ∀ t, bl t = true → ∃ fields : Array Field, Try.prog.underlying t = some (.struct fields) ∧ fields.toList.mapM (fun f => (Try.prog.info? f.type).map fun i => (f.offset, i.size)) = some (places t) := fun t h => by
    have h := List.mem_of_elem_eq_true h
    simp only [scalL, blL, List.mem_cons, List.not_mem_nil, or_false] at h
    rcases h with rfl | rfl | rfl | rfl | rfl | rfl | rfl | rfl | rfl | rfl | rfl | rfl | rfl | rfl | rfl | rfl | rfl | rfl | rfl | rfl | rfl | rfl
    · exact ⟨_, Try.underlying7, by kernel_rfl⟩
    · exact ⟨_, Try.underlying8, by kernel_rfl⟩
    · exact ⟨_, Try.underlying13, by kernel_rfl⟩
    · exact ⟨_, Try.underlying14, by kernel_rfl⟩
    · exact ⟨_, Try.underlying22, by kernel_rfl⟩
    · exact ⟨_, Try.underlying23, by kernel_rfl⟩
    · exact ⟨_, Try.underlying24, by kernel_rfl⟩
    · exact ⟨_, Try.underlying25, by kernel_rfl⟩
    · exact ⟨_, Try.underlying26, by kernel_rfl⟩
    · exact ⟨_, Try.underlying27, by kernel_rfl⟩
    · exact ⟨_, Try.underlying32, by kernel_rfl⟩
    · exact ⟨_, Try.underlying33, by kernel_rfl⟩
    · exact ⟨_, Try.underlying36, by kernel_rfl⟩
    · exact ⟨_, Try.underlying37, by kernel_rfl⟩
    · exact ⟨_, Try.underlying42, by kernel_rfl⟩
    · exact ⟨_, Try.underlying43, by kernel_rfl⟩
    · exact ⟨_, Try.underlying53, by kernel_rfl⟩
    · exact ⟨_, Try.underlying54, by kernel_rfl⟩
    · exact ⟨_, Try.underlying59, by kernel_rfl⟩
    · exact ⟨_, Try.underlying60, by kernel_rfl⟩
    · exact ⟨_, Try.underlying66, by kernel_rfl⟩
    · exact ⟨_, Try.underlying67, by kernel_rfl⟩
def flL : List (Nat × Nat × Nat × Nat) := [(7, 0, 0, 2), (7, 1, 1, 3), (7, 2, 2, 4), (7, 3, 3, 6), (8, 0, 0, 2), (8, 1, 1, 3), (8, 2, 2, 4), (8, 3, 3, 6), (13, 0, 0, 9), (13, 1, 1, 12), (14, 0, 0, 9), (14, 1, 1, 12), (22, 0, 0, 9), (22, 1, 1, 9), (22, 2, 2, 9), (22, 3, 3, 2), (22, 4, 4, 9), (22, 5, 5, 9), (22, 6, 6, 9), (22, 7, 7, 9), (22, 8, 8, 9), (22, 9, 9, 2), (22, 10, 10, 2), (22, 11, 11, 9), (23, 0, 0, 9), (23, 1, 1, 9), (23, 2, 2, 9), (23, 3, 3, 2), (23, 4, 4, 9), (23, 5, 5, 9), (23, 6, 6, 9), (23, 7, 7, 9), (23, 8, 8, 9), (23, 9, 9, 2), (23, 10, 10, 2), (23, 11, 11, 9), (24, 0, 0, 9), (24, 1, 1, 9), (24, 2, 2, 9), (24, 3, 3, 2), (24, 4, 4, 2), (24, 5, 5, 3), (24, 6, 6, 4), (25, 0, 0, 9), (25, 1, 1, 9), (25, 2, 2, 9), (25, 3, 3, 2), (25, 4, 4, 2), (25, 5, 5, 3), (25, 6, 6, 4), (26, 0, 0, 23), (26, 1, 12, 4), (26, 2, 13, 2), (26, 3, 14, 25), (26, 4, 21, 4), (26, 5, 22, 3), (26, 6, 23, 3), (26, 7, 24, 4), (27, 0, 0, 23), (27, 1, 12, 4), (27, 2, 13, 2), (27, 3, 14, 25), (27, 4, 21, 4), (27, 5, 22, 3), (27, 6, 23, 3), (27, 7, 24, 4), (32, 0, 0, 9), (32, 1, 1, 9), (32, 2, 2, 9), (32, 3, 3, 3), (32, 4, 4, 2), (32, 5, 5, 3), (33, 0, 0, 9), (33, 1, 1, 9), (33, 2, 2, 9), (33, 3, 3, 3), (33, 4, 4, 2), (33, 5, 5, 3), (36, 0, 0, 3), (36, 1, 1, 3), (36, 2, 2, 9), (36, 3, 3, 9), (36, 4, 4, 9), (36, 5, 5, 2), (37, 0, 0, 3), (37, 1, 1, 3), (37, 2, 2, 9), (37, 3, 3, 9), (37, 4, 4, 9), (37, 5, 5, 2), (42, 0, 0, 9), (42, 1, 1, 25), (42, 2, 8, 4), (42, 3, 9, 37), (43, 0, 0, 9), (43, 1, 1, 25), (43, 2, 8, 4), (43, 3, 9, 37), (53, 0, 0, 9), (53, 1, 1, 3), (53, 2, 2, 3), (54, 0, 0, 9), (54, 1, 1, 3), (54, 2, 2, 3), (59, 0, 0, 4), (59, 1, 1, 9), (60, 0, 0, 4), (60, 1, 1, 9), (66, 0, 0, 3), (66, 1, 1, 9), (67, 0, 0, 3), (67, 1, 1, 9), (87, 3, 3, 9), (88, 3, 3, 9), (100, 0, 0, 12), (100, 1, 1, 12), (100, 2, 2, 93), (100, 3, 3, 94), (100, 4, 4, 5), (100, 5, 5, 5), (100, 6, 6, 95), (100, 9, 9, 98), (100, 10, 10, 99), (101, 0, 0, 12), (101, 1, 1, 12), (101, 2, 2, 93), (101, 3, 3, 94), (101, 4, 4, 5), (101, 5, 5, 5), (101, 6, 6, 95), (101, 9, 9, 98), (101, 10, 10, 99)]
def fo (t i : Nat) : Option (Nat × Nat) := (flL.find? fun x => x.1 == t && x.2.1 == i).map fun x => (x.2.2.1, x.2.2.2)
theorem fls : ∀ x ∈ flL, (scal x.2.2.2 || stru x.2.2.2) = true ∧ ∃ (fields : Array Field) (f : Field), Try.prog.underlying x.1 = some (.struct fields) ∧ fields[x.2.1]? = some f ∧ f.offset = x.2.2.1 ∧ f.type = x.2.2.2 := fun x h => by
    simp only [flL, List.mem_cons, List.not_mem_nil, or_false] at h
    rcases h with rfl | rfl | rfl | rfl | rfl | rfl | rfl | rfl | rfl | rfl | rfl | rfl | rfl | rfl | rfl | rfl | rfl | rfl | rfl | rfl | rfl | rfl | rfl | rfl | rfl | rfl | rfl | rfl | rfl | rfl | rfl | rfl | rfl | rfl | rfl | rfl | rfl | rfl | rfl | rfl | rfl | rfl | rfl | rfl | rfl | rfl | rfl | rfl | rfl | rfl | rfl | rfl | rfl | rfl | rfl | rfl | rfl | rfl | rfl | rfl | rfl | rfl | rfl | rfl | rfl | rfl | rfl | rfl | rfl | rfl | rfl | rfl | rfl | rfl | rfl | rfl | rfl | rfl | rfl | rfl | rfl | rfl | rfl | rfl | rfl | rfl | rfl | rfl | rfl | rfl | rfl | rfl | rfl | rfl | rfl | rfl | rfl | rfl | rfl | rfl | rfl | rfl | rfl | rfl | rfl | rfl | rfl | rfl | rfl | rfl | rfl | rfl | rfl | rfl | rfl | rfl | rfl | rfl | rfl | rfl | rfl | rfl | rfl | rfl | rfl | rfl | rfl | rfl | rfl | rfl | rfl | rfl
    · exact ⟨by decide, _, _, Try.underlying7, rfl, rfl, rfl⟩
    · exact ⟨by decide, _, _, Try.underlying7, rfl, rfl, rfl⟩
    · exact ⟨by decide, _, _, Try.underlying7, rfl, rfl, rfl⟩
    · exact ⟨by decide, _, _, Try.underlying7, rfl, rfl, rfl⟩
    · exact ⟨by decide, _, _, Try.underlying8, rfl, rfl, rfl⟩
    · exact ⟨by decide, _, _, Try.underlying8, rfl, rfl, rfl⟩
    · exact ⟨by decide, _, _, Try.underlying8, rfl, rfl, rfl⟩
    · exact ⟨by decide, _, _, Try.underlying8, rfl, rfl, rfl⟩
    · exact ⟨by decide, _, _, Try.underlying13, rfl, rfl, rfl⟩
    · exact ⟨by decide, _, _, Try.underlying13, rfl, rfl, rfl⟩
    · exact ⟨by decide, _, _, Try.underlying14, rfl, rfl, rfl⟩
    · exact ⟨by decide, _, _, Try.underlying14, rfl, rfl, rfl⟩
    · exact ⟨by decide, _, _, Try.underlying22, rfl, rfl, rfl⟩
    · exact ⟨by decide, _, _, Try.underlying22, rfl, rfl, rfl⟩
    · exact ⟨by decide, _, _, Try.underlying22, rfl, rfl, rfl⟩
    · exact ⟨by decide, _, _, Try.underlying22, rfl, rfl, rfl⟩
    · exact ⟨by decide, _, _, Try.underlying22, rfl, rfl, rfl⟩
    · exact ⟨by decide, _, _, Try.underlying22, rfl, rfl, rfl⟩
    · exact ⟨by decide, _, _, Try.underlying22, rfl, rfl, rfl⟩
    · exact ⟨by decide, _, _, Try.underlying22, rfl, rfl, rfl⟩
    · exact ⟨by decide, _, _, Try.underlying22, rfl, rfl, rfl⟩
    · exact ⟨by decide, _, _, Try.underlying22, rfl, rfl, rfl⟩
    · exact ⟨by decide, _, _, Try.underlying22, rfl, rfl, rfl⟩
    · exact ⟨by decide, _, _, Try.underlying22, rfl, rfl, rfl⟩
    · exact ⟨by decide, _, _, Try.underlying23, rfl, rfl, rfl⟩
    · exact ⟨by decide, _, _, Try.underlying23, rfl, rfl, rfl⟩
    · exact ⟨by decide, _, _, Try.underlying23, rfl, rfl, rfl⟩
    · exact ⟨by decide, _, _, Try.underlying23, rfl, rfl, rfl⟩
    · exact ⟨by decide, _, _, Try.underlying23, rfl, rfl, rfl⟩
    · exact ⟨by decide, _, _, Try.underlying23, rfl, rfl, rfl⟩
    · exact ⟨by decide, _, _, Try.underlying23, rfl, rfl, rfl⟩
    · exact ⟨by decide, _, _, Try.underlying23, rfl, rfl, rfl⟩
    · exact ⟨by decide, _, _, Try.underlying23, rfl, rfl, rfl⟩
    · exact ⟨by decide, _, _, Try.underlying23, rfl, rfl, rfl⟩
    · exact ⟨by decide, _, _, Try.underlying23, rfl, rfl, rfl⟩
    · exact ⟨by decide, _, _, Try.underlying23, rfl, rfl, rfl⟩
    · exact ⟨by decide, _, _, Try.underlying24, rfl, rfl, rfl⟩
    · exact ⟨by decide, _, _, Try.underlying24, rfl, rfl, rfl⟩
    · exact ⟨by decide, _, _, Try.underlying24, rfl, rfl, rfl⟩
    · exact ⟨by decide, _, _, Try.underlying24, rfl, rfl, rfl⟩
    · exact ⟨by decide, _, _, Try.underlying24, rfl, rfl, rfl⟩
    · exact ⟨by decide, _, _, Try.underlying24, rfl, rfl, rfl⟩
    · exact ⟨by decide, _, _, Try.underlying24, rfl, rfl, rfl⟩
    · exact ⟨by decide, _, _, Try.underlying25, rfl, rfl, rfl⟩
    · exact ⟨by decide, _, _, Try.underlying25, rfl, rfl, rfl⟩
    · exact ⟨by decide, _, _, Try.underlying25, rfl, rfl, rfl⟩
    · exact ⟨by decide, _, _, Try.underlying25, rfl, rfl, rfl⟩
    · exact ⟨by decide, _, _, Try.underlying25, rfl, rfl, rfl⟩
    · exact ⟨by decide, _, _, Try.underlying25, rfl, rfl, rfl⟩
    · exact ⟨by decide, _, _, Try.underlying25, rfl, rfl, rfl⟩
    · exact ⟨by decide, _, _, Try.underlying26, rfl, rfl, rfl⟩
    · exact ⟨by decide, _, _, Try.underlying26, rfl, rfl, rfl⟩
    · exact ⟨by decide, _, _, Try.underlying26, rfl, rfl, rfl⟩
    · exact ⟨by decide, _, _, Try.underlying26, rfl, rfl, rfl⟩
    · exact ⟨by decide, _, _, Try.underlying26, rfl, rfl, rfl⟩
    · exact ⟨by decide, _, _, Try.underlying26, rfl, rfl, rfl⟩
    · exact ⟨by decide, _, _, Try.underlying26, rfl, rfl, rfl⟩
    · exact ⟨by decide, _, _, Try.underlying26, rfl, rfl, rfl⟩
    · exact ⟨by decide, _, _, Try.underlying27, rfl, rfl, rfl⟩
    · exact ⟨by decide, _, _, Try.underlying27, rfl, rfl, rfl⟩
    · exact ⟨by decide, _, _, Try.underlying27, rfl, rfl, rfl⟩
    · exact ⟨by decide, _, _, Try.underlying27, rfl, rfl, rfl⟩
    · exact ⟨by decide, _, _, Try.underlying27, rfl, rfl, rfl⟩
    · exact ⟨by decide, _, _, Try.underlying27, rfl, rfl, rfl⟩
    · exact ⟨by decide, _, _, Try.underlying27, rfl, rfl, rfl⟩
    · exact ⟨by decide, _, _, Try.underlying27, rfl, rfl, rfl⟩
    · exact ⟨by decide, _, _, Try.underlying32, rfl, rfl, rfl⟩
    · exact ⟨by decide, _, _, Try.underlying32, rfl, rfl, rfl⟩
    · exact ⟨by decide, _, _, Try.underlying32, rfl, rfl, rfl⟩
    · exact ⟨by decide, _, _, Try.underlying32, rfl, rfl, rfl⟩
    · exact ⟨by decide, _, _, Try.underlying32, rfl, rfl, rfl⟩
    · exact ⟨by decide, _, _, Try.underlying32, rfl, rfl, rfl⟩
    · exact ⟨by decide, _, _, Try.underlying33, rfl, rfl, rfl⟩
    · exact ⟨by decide, _, _, Try.underlying33, rfl, rfl, rfl⟩
    · exact ⟨by decide, _, _, Try.underlying33, rfl, rfl, rfl⟩
    · exact ⟨by decide, _, _, Try.underlying33, rfl, rfl, rfl⟩
    · exact ⟨by decide, _, _, Try.underlying33, rfl, rfl, rfl⟩
    · exact ⟨by decide, _, _, Try.underlying33, rfl, rfl, rfl⟩
    · exact ⟨by decide, _, _, Try.underlying36, rfl, rfl, rfl⟩
    · exact ⟨by decide, _, _, Try.underlying36, rfl, rfl, rfl⟩
    · exact ⟨by decide, _, _, Try.underlying36, rfl, rfl, rfl⟩
    · exact ⟨by decide, _, _, Try.underlying36, rfl, rfl, rfl⟩
    · exact ⟨by decide, _, _, Try.underlying36, rfl, rfl, rfl⟩
    · exact ⟨by decide, _, _, Try.underlying36, rfl, rfl, rfl⟩
    · exact ⟨by decide, _, _, Try.underlying37, rfl, rfl, rfl⟩
    · exact ⟨by decide, _, _, Try.underlying37, rfl, rfl, rfl⟩
    · exact ⟨by decide, _, _, Try.underlying37, rfl, rfl, rfl⟩
    · exact ⟨by decide, _, _, Try.underlying37, rfl, rfl, rfl⟩
    · exact ⟨by decide, _, _, Try.underlying37, rfl, rfl, rfl⟩
    · exact ⟨by decide, _, _, Try.underlying37, rfl, rfl, rfl⟩
    · exact ⟨by decide, _, _, Try.underlying42, rfl, rfl, rfl⟩
    · exact ⟨by decide, _, _, Try.underlying42, rfl, rfl, rfl⟩
    · exact ⟨by decide, _, _, Try.underlying42, rfl, rfl, rfl⟩
    · exact ⟨by decide, _, _, Try.underlying42, rfl, rfl, rfl⟩
    · exact ⟨by decide, _, _, Try.underlying43, rfl, rfl, rfl⟩
    · exact ⟨by decide, _, _, Try.underlying43, rfl, rfl, rfl⟩
    · exact ⟨by decide, _, _, Try.underlying43, rfl, rfl, rfl⟩
    · exact ⟨by decide, _, _, Try.underlying43, rfl, rfl, rfl⟩
    · exact ⟨by decide, _, _, Try.underlying53, rfl, rfl, rfl⟩
    · exact ⟨by decide, _, _, Try.underlying53, rfl, rfl, rfl⟩
    · exact ⟨by decide, _, _, Try.underlying53, rfl, rfl, rfl⟩
    · exact ⟨by decide, _, _, Try.underlying54, rfl, rfl, rfl⟩
    · exact ⟨by decide, _, _, Try.underlying54, rfl, rfl, rfl⟩
    · exact ⟨by decide, _, _, Try.underlying54, rfl, rfl, rfl⟩
    · exact ⟨by decide, _, _, Try.underlying59, rfl, rfl, rfl⟩
    · exact ⟨by decide, _, _, Try.underlying59, rfl, rfl, rfl⟩
    · exact ⟨by decide, _, _, Try.underlying60, rfl, rfl, rfl⟩
    · exact ⟨by decide, _, _, Try.underlying60, rfl, rfl, rfl⟩
    · exact ⟨by decide, _, _, Try.underlying66, rfl, rfl, rfl⟩
    · exact ⟨by decide, _, _, Try.underlying66, rfl, rfl, rfl⟩
    · exact ⟨by decide, _, _, Try.underlying67, rfl, rfl, rfl⟩
    · exact ⟨by decide, _, _, Try.underlying67, rfl, rfl, rfl⟩
    · exact ⟨by decide, _, _, Try.underlying87, rfl, rfl, rfl⟩
    · exact ⟨by decide, _, _, Try.underlying88, rfl, rfl, rfl⟩
    · exact ⟨by decide, _, _, Try.underlying100, rfl, rfl, rfl⟩
    · exact ⟨by decide, _, _, Try.underlying100, rfl, rfl, rfl⟩
    · exact ⟨by decide, _, _, Try.underlying100, rfl, rfl, rfl⟩
    · exact ⟨by decide, _, _, Try.underlying100, rfl, rfl, rfl⟩
    · exact ⟨by decide, _, _, Try.underlying100, rfl, rfl, rfl⟩
    · exact ⟨by decide, _, _, Try.underlying100, rfl, rfl, rfl⟩
    · exact ⟨by decide, _, _, Try.underlying100, rfl, rfl, rfl⟩
    · exact ⟨by decide, _, _, Try.underlying100, rfl, rfl, rfl⟩
    · exact ⟨by decide, _, _, Try.underlying100, rfl, rfl, rfl⟩
    · exact ⟨by decide, _, _, Try.underlying101, rfl, rfl, rfl⟩
    · exact ⟨by decide, _, _, Try.underlying101, rfl, rfl, rfl⟩
    · exact ⟨by decide, _, _, Try.underlying101, rfl, rfl, rfl⟩
    · exact ⟨by decide, _, _, Try.underlying101, rfl, rfl, rfl⟩
    · exact ⟨by decide, _, _, Try.underlying101, rfl, rfl, rfl⟩
    · exact ⟨by decide, _, _, Try.underlying101, rfl, rfl, rfl⟩
    · exact ⟨by decide, _, _, Try.underlying101, rfl, rfl, rfl⟩
    · exact ⟨by decide, _, _, Try.underlying101, rfl, rfl, rfl⟩
    · exact ⟨by decide, _, _, Try.underlying101, rfl, rfl, rfl⟩
theorem fl : Ow.Flds Try.prog fo scal stru := ⟨fun t i off ft h => by
  unfold fo at h
  cases hf : flL.find? (fun x => x.1 == t && x.2.1 == i) with
  | none => rw [hf] at h; cases h
  | some x =>
    rw [hf] at h
    simp only [Option.map_some, Option.some.injEq, Prod.mk.injEq] at h
    have hx := List.find?_some hf
    simp only [Bool.and_eq_true, beq_iff_eq] at hx
    have := fls x (List.mem_of_find?_eq_some hf)
    rw [← h.1, ← h.2, ← hx.1, ← hx.2]
    exact this⟩
theorem bd : Ow.Builds Try.prog bl zero places := ⟨bz, bp⟩
theorem ty : Ow.Types Try.prog scal stru sz := ⟨one, row, fun t h => by
  rcases Bool.or_eq_true_iff.mp h with h | h
  · exact size1 t h
  · exact size2 t h⟩
end Go.Proofs.Ytmdpomilhejbcaa.Ot
