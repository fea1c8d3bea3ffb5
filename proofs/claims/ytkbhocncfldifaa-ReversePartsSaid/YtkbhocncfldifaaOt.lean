/- What is known of the program's types. -/
import Derived.Test.YtkbhocncfldifaaOw
import Derived.Test.YtkbhocncfldifaaProg
import Derived.KernelRfl
namespace Go.Proofs.Ytkbhocncfldifaa.Ot
open Go.RowKit Go.Proofs.YtkbhocncfldifaaW.PrintWords
def scalL : List Nat := [2, 3, 4, 5, 6, 9, 10, 11, 12, 20, 21, 25, 53, 117, 118, 119, 122, 123]
def struL : List Nat := [7, 8, 13, 14, 18, 19, 22, 23, 40, 41, 58, 59, 60, 61, 62, 63, 65, 66, 67, 68, 88, 89, 111, 112, 114, 115, 124, 125]
def scal (t : Nat) : Bool := scalL.elem t
def stru (t : Nat) : Bool := struL.elem t
def sz : Nat → Nat
  | 7 => 4
  | 8 => 4
  | 13 => 2
  | 14 => 2
  | 18 => 1
  | 19 => 1
  | 22 => 2
  | 23 => 2
  | 40 => 5
  | 41 => 5
  | 58 => 12
  | 59 => 12
  | 60 => 7
  | 61 => 7
  | 62 => 25
  | 63 => 25
  | 65 => 6
  | 66 => 6
  | 67 => 15
  | 68 => 15
  | 88 => 25
  | 89 => 25
  | 111 => 4
  | 112 => 4
  | 114 => 0
  | 115 => 0
  | 124 => 11
  | 125 => 11
  | _ => 1
theorem i2 : (Try.prog.info? 2).map (·.size) = some 1 := by kernel_rfl
theorem i3 : (Try.prog.info? 3).map (·.size) = some 1 := by kernel_rfl
theorem i4 : (Try.prog.info? 4).map (·.size) = some 1 := by kernel_rfl
theorem i5 : (Try.prog.info? 5).map (·.size) = some 1 := by kernel_rfl
theorem i6 : (Try.prog.info? 6).map (·.size) = some 1 := by kernel_rfl
theorem i9 : (Try.prog.info? 9).map (·.size) = some 1 := by kernel_rfl
theorem i10 : (Try.prog.info? 10).map (·.size) = some 1 := by kernel_rfl
theorem i11 : (Try.prog.info? 11).map (·.size) = some 1 := by kernel_rfl
theorem i12 : (Try.prog.info? 12).map (·.size) = some 1 := by kernel_rfl
theorem i20 : (Try.prog.info? 20).map (·.size) = some 1 := by kernel_rfl
theorem i21 : (Try.prog.info? 21).map (·.size) = some 1 := by kernel_rfl
theorem i25 : (Try.prog.info? 25).map (·.size) = some 1 := by kernel_rfl
theorem i53 : (Try.prog.info? 53).map (·.size) = some 1 := by kernel_rfl
theorem i117 : (Try.prog.info? 117).map (·.size) = some 1 := by kernel_rfl
theorem i118 : (Try.prog.info? 118).map (·.size) = some 1 := by kernel_rfl
theorem i119 : (Try.prog.info? 119).map (·.size) = some 1 := by kernel_rfl
theorem i122 : (Try.prog.info? 122).map (·.size) = some 1 := by kernel_rfl
theorem i123 : (Try.prog.info? 123).map (·.size) = some 1 := by kernel_rfl
theorem i7 : (Try.prog.info? 7).map (·.size) = some 4 := by kernel_rfl
theorem i8 : (Try.prog.info? 8).map (·.size) = some 4 := by kernel_rfl
theorem i13 : (Try.prog.info? 13).map (·.size) = some 2 := by kernel_rfl
theorem i14 : (Try.prog.info? 14).map (·.size) = some 2 := by kernel_rfl
theorem i18 : (Try.prog.info? 18).map (·.size) = some 1 := by kernel_rfl
theorem i19 : (Try.prog.info? 19).map (·.size) = some 1 := by kernel_rfl
theorem i22 : (Try.prog.info? 22).map (·.size) = some 2 := by kernel_rfl
theorem i23 : (Try.prog.info? 23).map (·.size) = some 2 := by kernel_rfl
theorem i40 : (Try.prog.info? 40).map (·.size) = some 5 := by kernel_rfl
theorem i41 : (Try.prog.info? 41).map (·.size) = some 5 := by kernel_rfl
theorem i58 : (Try.prog.info? 58).map (·.size) = some 12 := by kernel_rfl
theorem i59 : (Try.prog.info? 59).map (·.size) = some 12 := by kernel_rfl
theorem i60 : (Try.prog.info? 60).map (·.size) = some 7 := by kernel_rfl
theorem i61 : (Try.prog.info? 61).map (·.size) = some 7 := by kernel_rfl
theorem i62 : (Try.prog.info? 62).map (·.size) = some 25 := by kernel_rfl
theorem i63 : (Try.prog.info? 63).map (·.size) = some 25 := by kernel_rfl
theorem i65 : (Try.prog.info? 65).map (·.size) = some 6 := by kernel_rfl
theorem i66 : (Try.prog.info? 66).map (·.size) = some 6 := by kernel_rfl
theorem i67 : (Try.prog.info? 67).map (·.size) = some 15 := by kernel_rfl
theorem i68 : (Try.prog.info? 68).map (·.size) = some 15 := by kernel_rfl
theorem i88 : (Try.prog.info? 88).map (·.size) = some 25 := by kernel_rfl
theorem i89 : (Try.prog.info? 89).map (·.size) = some 25 := by kernel_rfl
theorem i111 : (Try.prog.info? 111).map (·.size) = some 4 := by kernel_rfl
theorem i112 : (Try.prog.info? 112).map (·.size) = some 4 := by kernel_rfl
theorem i114 : (Try.prog.info? 114).map (·.size) = some 0 := by kernel_rfl
theorem i115 : (Try.prog.info? 115).map (·.size) = some 0 := by kernel_rfl
theorem i124 : (Try.prog.info? 124).map (·.size) = some 11 := by kernel_rfl
theorem i125 : (Try.prog.info? 125).map (·.size) = some 11 := by kernel_rfl
theorem one : ∀ t, scal t = true → ∃ d, Try.prog.underlying t = some d ∧ Ow.rowB d = false := fun t h => by
    have h := List.mem_of_elem_eq_true h
    simp only [scalL, struL, List.mem_cons, List.not_mem_nil, or_false] at h
    rcases h with rfl | rfl | rfl | rfl | rfl | rfl | rfl | rfl | rfl | rfl | rfl | rfl | rfl | rfl | rfl | rfl | rfl | rfl
    · exact ⟨_, Try.underlying2, rfl⟩
    · exact ⟨_, Try.underlying3, rfl⟩
    · exact ⟨_, Try.underlying4, rfl⟩
    · exact ⟨_, Try.underlying5, rfl⟩
    · exact ⟨_, Try.underlying6, rfl⟩
    · exact ⟨_, Try.underlying9, rfl⟩
    · exact ⟨_, Try.underlying10, rfl⟩
    · exact ⟨_, Try.underlying11, rfl⟩
    · exact ⟨_, Try.underlying12, rfl⟩
    · exact ⟨_, Try.underlying20, rfl⟩
    · exact ⟨_, Try.underlying21, rfl⟩
    · exact ⟨_, Try.underlying25, rfl⟩
    · exact ⟨_, Try.underlying53, rfl⟩
    · exact ⟨_, Try.underlying117, rfl⟩
    · exact ⟨_, Try.underlying118, rfl⟩
    · exact ⟨_, Try.underlying119, rfl⟩
    · exact ⟨_, Try.underlying122, rfl⟩
    · exact ⟨_, Try.underlying123, rfl⟩
theorem row : ∀ t, stru t = true → ∃ d, Try.prog.underlying t = some d ∧ Ow.rowB d = true := fun t h => by
    have h := List.mem_of_elem_eq_true h
    simp only [scalL, struL, List.mem_cons, List.not_mem_nil, or_false] at h
    rcases h with rfl | rfl | rfl | rfl | rfl | rfl | rfl | rfl | rfl | rfl | rfl | rfl | rfl | rfl | rfl | rfl | rfl | rfl | rfl | rfl | rfl | rfl | rfl | rfl | rfl | rfl | rfl | rfl
    · exact ⟨_, Try.underlying7, rfl⟩
    · exact ⟨_, Try.underlying8, rfl⟩
    · exact ⟨_, Try.underlying13, rfl⟩
    · exact ⟨_, Try.underlying14, rfl⟩
    · exact ⟨_, Try.underlying18, rfl⟩
    · exact ⟨_, Try.underlying19, rfl⟩
    · exact ⟨_, Try.underlying22, rfl⟩
    · exact ⟨_, Try.underlying23, rfl⟩
    · exact ⟨_, Try.underlying40, rfl⟩
    · exact ⟨_, Try.underlying41, rfl⟩
    · exact ⟨_, Try.underlying58, rfl⟩
    · exact ⟨_, Try.underlying59, rfl⟩
    · exact ⟨_, Try.underlying60, rfl⟩
    · exact ⟨_, Try.underlying61, rfl⟩
    · exact ⟨_, Try.underlying62, rfl⟩
    · exact ⟨_, Try.underlying63, rfl⟩
    · exact ⟨_, Try.underlying65, rfl⟩
    · exact ⟨_, Try.underlying66, rfl⟩
    · exact ⟨_, Try.underlying67, rfl⟩
    · exact ⟨_, Try.underlying68, rfl⟩
    · exact ⟨_, Try.underlying88, rfl⟩
    · exact ⟨_, Try.underlying89, rfl⟩
    · exact ⟨_, Try.underlying111, rfl⟩
    · exact ⟨_, Try.underlying112, rfl⟩
    · exact ⟨_, Try.underlying114, rfl⟩
    · exact ⟨_, Try.underlying115, rfl⟩
    · exact ⟨_, Try.underlying124, rfl⟩
    · exact ⟨_, Try.underlying125, rfl⟩
theorem size1 : ∀ t, scal t = true → (Try.prog.info? t).map (·.size) = some (sz t) := fun t h => by
    have h := List.mem_of_elem_eq_true h
    simp only [scalL, struL, List.mem_cons, List.not_mem_nil, or_false] at h
    rcases h with rfl | rfl | rfl | rfl | rfl | rfl | rfl | rfl | rfl | rfl | rfl | rfl | rfl | rfl | rfl | rfl | rfl | rfl
    · exact i2
    · exact i3
    · exact i4
    · exact i5
    · exact i6
    · exact i9
    · exact i10
    · exact i11
    · exact i12
    · exact i20
    · exact i21
    · exact i25
    · exact i53
    · exact i117
    · exact i118
    · exact i119
    · exact i122
    · exact i123
theorem size2 : ∀ t, stru t = true → (Try.prog.info? t).map (·.size) = some (sz t) := fun t h => by
    have h := List.mem_of_elem_eq_true h
    simp only [scalL, struL, List.mem_cons, List.not_mem_nil, or_false] at h
    rcases h with rfl | rfl | rfl | rfl | rfl | rfl | rfl | rfl | rfl | rfl | rfl | rfl | rfl | rfl | rfl | rfl | rfl | rfl | rfl | rfl | rfl | rfl | rfl | rfl | rfl | rfl | rfl | rfl
    · exact i7
    · exact i8
    · exact i13
    · exact i14
    · exact i18
    · exact i19
    · exact i22
    · exact i23
    · exact i40
    · exact i41
    · exact i58
    · exact i59
    · exact i60
    · exact i61
    · exact i62
    · exact i63
    · exact i65
    · exact i66
    · exact i67
    · exact i68
    · exact i88
    · exact i89
    · exact i111
    · exact i112
    · exact i114
    · exact i115
    · exact i124
    · exact i125
def blL : List Nat := [7, 8, 13, 14, 22, 23, 40, 41, 58, 59, 60, 61, 62, 63, 65, 66, 67, 68, 88, 89]
def bl (t : Nat) : Bool := blL.elem t
def zero : Nat → Array Value
  | 7 => #[.int .i64 0, .int .i64 0, .bool false, .int .u8 0]
  | 8 => #[.int .i64 0, .int .i64 0, .bool false, .int .u8 0]
  | 13 => #[.string (⟨#[]⟩ : ByteArray), .int .u64 0]
  | 14 => #[.string (⟨#[]⟩ : ByteArray), .int .u64 0]
  | 22 => #[.int .i64 0, .string (⟨#[]⟩ : ByteArray)]
  | 23 => #[.int .i64 0, .string (⟨#[]⟩ : ByteArray)]
  | 40 => #[.int .i64 0, .string (⟨#[]⟩ : ByteArray), .string (⟨#[]⟩ : ByteArray), .string (⟨#[]⟩ : ByteArray), .int .i64 0]
  | 41 => #[.int .i64 0, .string (⟨#[]⟩ : ByteArray), .string (⟨#[]⟩ : ByteArray), .string (⟨#[]⟩ : ByteArray), .int .i64 0]
  | 58 => #[.string (⟨#[]⟩ : ByteArray), .string (⟨#[]⟩ : ByteArray), .string (⟨#[]⟩ : ByteArray), .int .i64 0, .string (⟨#[]⟩ : ByteArray), .string (⟨#[]⟩ : ByteArray), .string (⟨#[]⟩ : ByteArray), .string (⟨#[]⟩ : ByteArray), .string (⟨#[]⟩ : ByteArray), .int .i64 0, .int .i64 0, .string (⟨#[]⟩ : ByteArray)]
  | 59 => #[.string (⟨#[]⟩ : ByteArray), .string (⟨#[]⟩ : ByteArray), .string (⟨#[]⟩ : ByteArray), .int .i64 0, .string (⟨#[]⟩ : ByteArray), .string (⟨#[]⟩ : ByteArray), .string (⟨#[]⟩ : ByteArray), .string (⟨#[]⟩ : ByteArray), .string (⟨#[]⟩ : ByteArray), .int .i64 0, .int .i64 0, .string (⟨#[]⟩ : ByteArray)]
  | 60 => #[.string (⟨#[]⟩ : ByteArray), .string (⟨#[]⟩ : ByteArray), .string (⟨#[]⟩ : ByteArray), .int .i64 0, .int .i64 0, .int .i64 0, .bool false]
  | 61 => #[.string (⟨#[]⟩ : ByteArray), .string (⟨#[]⟩ : ByteArray), .string (⟨#[]⟩ : ByteArray), .int .i64 0, .int .i64 0, .int .i64 0, .bool false]
  | 62 => #[.string (⟨#[]⟩ : ByteArray), .string (⟨#[]⟩ : ByteArray), .string (⟨#[]⟩ : ByteArray), .int .i64 0, .string (⟨#[]⟩ : ByteArray), .string (⟨#[]⟩ : ByteArray), .string (⟨#[]⟩ : ByteArray), .string (⟨#[]⟩ : ByteArray), .string (⟨#[]⟩ : ByteArray), .int .i64 0, .int .i64 0, .string (⟨#[]⟩ : ByteArray), .bool false, .int .i64 0, .string (⟨#[]⟩ : ByteArray), .string (⟨#[]⟩ : ByteArray), .string (⟨#[]⟩ : ByteArray), .int .i64 0, .int .i64 0, .int .i64 0, .bool false, .bool false, .int .i64 0, .int .i64 0, .bool false]
  | 63 => #[.string (⟨#[]⟩ : ByteArray), .string (⟨#[]⟩ : ByteArray), .string (⟨#[]⟩ : ByteArray), .int .i64 0, .string (⟨#[]⟩ : ByteArray), .string (⟨#[]⟩ : ByteArray), .string (⟨#[]⟩ : ByteArray), .string (⟨#[]⟩ : ByteArray), .string (⟨#[]⟩ : ByteArray), .int .i64 0, .int .i64 0, .string (⟨#[]⟩ : ByteArray), .bool false, .int .i64 0, .string (⟨#[]⟩ : ByteArray), .string (⟨#[]⟩ : ByteArray), .string (⟨#[]⟩ : ByteArray), .int .i64 0, .int .i64 0, .int .i64 0, .bool false, .bool false, .int .i64 0, .int .i64 0, .bool false]
  | 65 => #[.int .i64 0, .int .i64 0, .string (⟨#[]⟩ : ByteArray), .string (⟨#[]⟩ : ByteArray), .string (⟨#[]⟩ : ByteArray), .int .i64 0]
  | 66 => #[.int .i64 0, .int .i64 0, .string (⟨#[]⟩ : ByteArray), .string (⟨#[]⟩ : ByteArray), .string (⟨#[]⟩ : ByteArray), .int .i64 0]
  | 67 => #[.string (⟨#[]⟩ : ByteArray), .string (⟨#[]⟩ : ByteArray), .string (⟨#[]⟩ : ByteArray), .string (⟨#[]⟩ : ByteArray), .int .i64 0, .int .i64 0, .int .i64 0, .bool false, .bool false, .int .i64 0, .int .i64 0, .string (⟨#[]⟩ : ByteArray), .string (⟨#[]⟩ : ByteArray), .string (⟨#[]⟩ : ByteArray), .int .i64 0]
  | 68 => #[.string (⟨#[]⟩ : ByteArray), .string (⟨#[]⟩ : ByteArray), .string (⟨#[]⟩ : ByteArray), .string (⟨#[]⟩ : ByteArray), .int .i64 0, .int .i64 0, .int .i64 0, .bool false, .bool false, .int .i64 0, .int .i64 0, .string (⟨#[]⟩ : ByteArray), .string (⟨#[]⟩ : ByteArray), .string (⟨#[]⟩ : ByteArray), .int .i64 0]
  | 88 => #[.string (⟨#[]⟩ : ByteArray), .string (⟨#[]⟩ : ByteArray), .string (⟨#[]⟩ : ByteArray), .int .i64 0, .string (⟨#[]⟩ : ByteArray), .string (⟨#[]⟩ : ByteArray), .string (⟨#[]⟩ : ByteArray), .string (⟨#[]⟩ : ByteArray), .string (⟨#[]⟩ : ByteArray), .int .i64 0, .int .i64 0, .string (⟨#[]⟩ : ByteArray), .bool false, .int .i64 0, .string (⟨#[]⟩ : ByteArray), .string (⟨#[]⟩ : ByteArray), .string (⟨#[]⟩ : ByteArray), .int .i64 0, .int .i64 0, .int .i64 0, .bool false, .bool false, .int .i64 0, .int .i64 0, .bool false]
  | 89 => #[.string (⟨#[]⟩ : ByteArray), .string (⟨#[]⟩ : ByteArray), .string (⟨#[]⟩ : ByteArray), .int .i64 0, .string (⟨#[]⟩ : ByteArray), .string (⟨#[]⟩ : ByteArray), .string (⟨#[]⟩ : ByteArray), .string (⟨#[]⟩ : ByteArray), .string (⟨#[]⟩ : ByteArray), .int .i64 0, .int .i64 0, .string (⟨#[]⟩ : ByteArray), .bool false, .int .i64 0, .string (⟨#[]⟩ : ByteArray), .string (⟨#[]⟩ : ByteArray), .string (⟨#[]⟩ : ByteArray), .int .i64 0, .int .i64 0, .int .i64 0, .bool false, .bool false, .int .i64 0, .int .i64 0, .bool false]
  | _ => #[]
def places : Nat → List (Nat × Nat)
  | 7 => [(0, 1), (1, 1), (2, 1), (3, 1)]
  | 8 => [(0, 1), (1, 1), (2, 1), (3, 1)]
  | 13 => [(0, 1), (1, 1)]
  | 14 => [(0, 1), (1, 1)]
  | 22 => [(0, 1), (1, 1)]
  | 23 => [(0, 1), (1, 1)]
  | 40 => [(0, 1), (1, 1), (2, 1), (3, 1), (4, 1)]
  | 41 => [(0, 1), (1, 1), (2, 1), (3, 1), (4, 1)]
  | 58 => [(0, 1), (1, 1), (2, 1), (3, 1), (4, 1), (5, 1), (6, 1), (7, 1), (8, 1), (9, 1), (10, 1), (11, 1)]
  | 59 => [(0, 1), (1, 1), (2, 1), (3, 1), (4, 1), (5, 1), (6, 1), (7, 1), (8, 1), (9, 1), (10, 1), (11, 1)]
  | 60 => [(0, 1), (1, 1), (2, 1), (3, 1), (4, 1), (5, 1), (6, 1)]
  | 61 => [(0, 1), (1, 1), (2, 1), (3, 1), (4, 1), (5, 1), (6, 1)]
  | 62 => [(0, 12), (12, 1), (13, 1), (14, 7), (21, 1), (22, 1), (23, 1), (24, 1)]
  | 63 => [(0, 12), (12, 1), (13, 1), (14, 7), (21, 1), (22, 1), (23, 1), (24, 1)]
  | 65 => [(0, 1), (1, 1), (2, 1), (3, 1), (4, 1), (5, 1)]
  | 66 => [(0, 1), (1, 1), (2, 1), (3, 1), (4, 1), (5, 1)]
  | 67 => [(0, 1), (1, 7), (8, 1), (9, 6)]
  | 68 => [(0, 1), (1, 7), (8, 1), (9, 6)]
  | 88 => [(0, 25)]
  | 89 => [(0, 25)]
  | _ => []
theorem z7 : (Try.prog.info? 7).bind (fun i => i.zero.map (·.cells)) = some (zero 7) := by kernel_rfl
theorem z8 : (Try.prog.info? 8).bind (fun i => i.zero.map (·.cells)) = some (zero 8) := by kernel_rfl
theorem z13 : (Try.prog.info? 13).bind (fun i => i.zero.map (·.cells)) = some (zero 13) := by kernel_rfl
theorem z14 : (Try.prog.info? 14).bind (fun i => i.zero.map (·.cells)) = some (zero 14) := by kernel_rfl
theorem z22 : (Try.prog.info? 22).bind (fun i => i.zero.map (·.cells)) = some (zero 22) := by kernel_rfl
theorem z23 : (Try.prog.info? 23).bind (fun i => i.zero.map (·.cells)) = some (zero 23) := by kernel_rfl
theorem z40 : (Try.prog.info? 40).bind (fun i => i.zero.map (·.cells)) = some (zero 40) := by kernel_rfl
theorem z41 : (Try.prog.info? 41).bind (fun i => i.zero.map (·.cells)) = some (zero 41) := by kernel_rfl
theorem z58 : (Try.prog.info? 58).bind (fun i => i.zero.map (·.cells)) = some (zero 58) := by kernel_rfl
theorem z59 : (Try.prog.info? 59).bind (fun i => i.zero.map (·.cells)) = some (zero 59) := by kernel_rfl
theorem z60 : (Try.prog.info? 60).bind (fun i => i.zero.map (·.cells)) = some (zero 60) := by kernel_rfl
theorem z61 : (Try.prog.info? 61).bind (fun i => i.zero.map (·.cells)) = some (zero 61) := by kernel_rfl
theorem z62 : (Try.prog.info? 62).bind (fun i => i.zero.map (·.cells)) = some (zero 62) := by kernel_rfl
theorem z63 : (Try.prog.info? 63).bind (fun i => i.zero.map (·.cells)) = some (zero 63) := by kernel_rfl
theorem z65 : (Try.prog.info? 65).bind (fun i => i.zero.map (·.cells)) = some (zero 65) := by kernel_rfl
theorem z66 : (Try.prog.info? 66).bind (fun i => i.zero.map (·.cells)) = some (zero 66) := by kernel_rfl
theorem z67 : (Try.prog.info? 67).bind (fun i => i.zero.map (·.cells)) = some (zero 67) := by kernel_rfl
theorem z68 : (Try.prog.info? 68).bind (fun i => i.zero.map (·.cells)) = some (zero 68) := by kernel_rfl
theorem z88 : (Try.prog.info? 88).bind (fun i => i.zero.map (·.cells)) = some (zero 88) := by kernel_rfl
theorem z89 : (Try.prog.info? 89).bind (fun i => i.zero.map (·.cells)) = some (zero 89) := by kernel_rfl
theorem bz : ∀ t, bl t = true → (Try.prog.info? t).bind (fun i => i.zero.map (·.cells)) = some (zero t) := fun t h => by
    have h := List.mem_of_elem_eq_true h
    simp only [scalL, blL, List.mem_cons, List.not_mem_nil, or_false] at h
    rcases h with rfl | rfl | rfl | rfl | rfl | rfl | rfl | rfl | rfl | rfl | rfl | rfl | rfl | rfl | rfl | rfl | rfl | rfl | rfl | rfl
    · exact z7
    · exact z8
    · exact z13
    · exact z14
    · exact z22
    · exact z23
    · exact z40
    · exact z41
    · exact z58
    · exact z59
    · exact z60
    · exact z61
    · exact z62
    · exact z63
    · exact z65
    · exact z66
    · exact z67
    · exact z68
    · exact z88
    · exact z89
theorem bp : ∀ t, bl t = true → ∃ fields : Array Field, Try.prog.underlying t = some (.struct fields) ∧ fields.toList.mapM (fun f => (Try.prog.info? f.type).map fun i => (f.offset, i.size)) = some (places t) := fun t h => by
    have h := List.mem_of_elem_eq_true h
    simp only [scalL, blL, List.mem_cons, List.not_mem_nil, or_false] at h
    rcases h with rfl | rfl | rfl | rfl | rfl | rfl | rfl | rfl | rfl | rfl | rfl | rfl | rfl | rfl | rfl | rfl | rfl | rfl | rfl | rfl
    · exact ⟨_, Try.underlying7, by kernel_rfl⟩
    · exact ⟨_, Try.underlying8, by kernel_rfl⟩
    · exact ⟨_, Try.underlying13, by kernel_rfl⟩
    · exact ⟨_, Try.underlying14, by kernel_rfl⟩
    · exact ⟨_, Try.underlying22, by kernel_rfl⟩
    · exact ⟨_, Try.underlying23, by kernel_rfl⟩
    · exact ⟨_, Try.underlying40, by kernel_rfl⟩
    · exact ⟨_, Try.underlying41, by kernel_rfl⟩
    · exact ⟨_, Try.underlying58, by kernel_rfl⟩
    · exact ⟨_, Try.underlying59, by kernel_rfl⟩
    · exact ⟨_, Try.underlying60, by kernel_rfl⟩
    · exact ⟨_, Try.underlying61, by kernel_rfl⟩
    · exact ⟨_, Try.underlying62, by kernel_rfl⟩
    · exact ⟨_, Try.underlying63, by kernel_rfl⟩
    · exact ⟨_, Try.underlying65, by kernel_rfl⟩
    · exact ⟨_, Try.underlying66, by kernel_rfl⟩
    · exact ⟨_, Try.underlying67, by kernel_rfl⟩
    · exact ⟨_, Try.underlying68, by kernel_rfl⟩
    · exact ⟨_, Try.underlying88, by kernel_rfl⟩
    · exact ⟨_, Try.underlying89, by kernel_rfl⟩
theorem bd : Ow.Builds Try.prog bl zero places := ⟨bz, bp⟩
theorem ty : Ow.Types Try.prog scal stru sz := ⟨one, row, fun t h => by
  rcases Bool.or_eq_true_iff.mp h with h | h
  · exact size1 t h
  · exact size2 t h⟩
end Go.Proofs.Ytkbhocncfldifaa.Ot
