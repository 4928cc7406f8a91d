/- The program's table of types, and how arguments are read; what a printed walk needs. -/
import Derived.Test.YtaklafpfbhaoaaaDoorProg
import Derived.ChangeArms
import Derived.OpenShut
import Derived.ProofKit
import Derived.Test.YtaklafpfbhaoaaaDoorMachC
import Derived.Test.YtaklafpfbhaoaaaDoorMachE
set_option linter.unusedVariables false
set_option linter.unusedSimpArgs false
set_option linter.constructorNameAsVariable false
section
namespace Go.Proofs.Tryd
open Go Go.AM
def tab : Tab := fun t => match t with
  | 1 => ⟨1, 8, .nilFunc, .func⟩
  | 2 => ⟨1, 8, .int .i64 0, .int .i64⟩
  | 3 => ⟨1, 8, .int .i64 0, .int .i64⟩
  | 4 => ⟨1, 1, .bool false, .bool⟩
  | 5 => ⟨1, 1, .int .u8 0, .int .u8⟩
  | 6 => ⟨1, 1, .int .u8 0, .int .u8⟩
  | 7 => ⟨4, 24, .agg #[.int .i64 0, .int .i64 0, .bool false, .int .u8 0], .str [(0, 2), (1, 3), (2, 4), (3, 6)]⟩
  | 8 => ⟨4, 24, .agg #[.int .i64 0, .int .i64 0, .bool false, .int .u8 0], .str [(0, 2), (1, 3), (2, 4), (3, 6)]⟩
  | 9 => ⟨1, 16, .string ⟨#[]⟩, .string⟩
  | 10 => ⟨1, 16, .string ⟨#[]⟩, .string⟩
  | 11 => ⟨1, 16, .string ⟨#[]⟩, .string⟩
  | 12 => ⟨1, 8, .int .u64 0, .int .u64⟩
  | 13 => ⟨2, 24, .agg #[.string ⟨#[]⟩, .int .u64 0], .str [(0, 9), (1, 12)]⟩
  | 14 => ⟨2, 24, .agg #[.string ⟨#[]⟩, .int .u64 0], .str [(0, 9), (1, 12)]⟩
  | 15 => ⟨1, 8, .pointer none, .ptr 109⟩
  | 16 => ⟨1, 8, .pointer none, .ptr 112⟩
  | 17 => ⟨1, 8, .pointer none, .ptr 120⟩
  | 18 => ⟨1, 8, .agg #[.pointer none], .str [(0, 17)]⟩
  | 19 => ⟨1, 8, .agg #[.pointer none], .str [(0, 17)]⟩
  | 20 => ⟨1, 16, .nilIface, .iface⟩
  | 21 => ⟨1, 4, .int .i32 0, .int .i32⟩
  | 22 => ⟨1, 8, .int .i64 0, .int .i64⟩
  | 23 => ⟨1, 24, .slice none 0 0, .slc 3⟩
  | 24 => ⟨5, 56, .agg #[.int .i64 0, .int .i64 0, .int .i64 0, .int .i64 0, .slice none 0 0], .str [(0, 22), (1, 3), (2, 3), (3, 3), (4, 23)]⟩
  | 25 => ⟨5, 56, .agg #[.int .i64 0, .int .i64 0, .int .i64 0, .int .i64 0, .slice none 0 0], .str [(0, 22), (1, 3), (2, 3), (3, 3), (4, 23)]⟩
  | 26 => ⟨1, 8, .nilFunc, .func⟩
  | 28 => ⟨1, 8, .nilFunc, .func⟩
  | 29 => ⟨1, 8, .nilFunc, .func⟩
  | 30 => ⟨1, 8, .nilFunc, .func⟩
  | 31 => ⟨1, 8, .nilFunc, .func⟩
  | 32 => ⟨1, 24, .slice none 0 0, .slc 39⟩
  | 33 => ⟨1, 24, .slice none 0 0, .slc 53⟩
  | 34 => ⟨2, 48, .agg #[.slice none 0 0, .slice none 0 0], .str [(0, 32), (1, 33)]⟩
  | 35 => ⟨2, 48, .agg #[.slice none 0 0, .slice none 0 0], .str [(0, 32), (1, 33)]⟩
  | 36 => ⟨1, 8, .nilFunc, .func⟩
  | 37 => ⟨1, 8, .nilFunc, .func⟩
  | 38 => ⟨1, 8, .nilFunc, .func⟩
  | 39 => ⟨1, 24, .slice none 0 0, .slc 25⟩
  | 40 => ⟨1, 8, .nilFunc, .func⟩
  | 41 => ⟨1, 8, .nilFunc, .func⟩
  | 42 => ⟨1, 8, .nilFunc, .func⟩
  | 43 => ⟨1, 8, .nilFunc, .func⟩
  | 44 => ⟨1, 8, .int .i64 0, .int .i64⟩
  | 45 => ⟨4, 32, .agg #[.int .i64 0, .int .i64 0, .int .i64 0, .int .i64 0], .str [(0, 44), (1, 44), (2, 44), (3, 3)]⟩
  | 46 => ⟨4, 32, .agg #[.int .i64 0, .int .i64 0, .int .i64 0, .int .i64 0], .str [(0, 44), (1, 44), (2, 44), (3, 3)]⟩
  | 48 => ⟨1, 8, .nilFunc, .func⟩
  | 49 => ⟨3, 24, .agg #[.int .i64 0, .int .i64 0, .int .i64 0], .arr 3 44⟩
  | 50 => ⟨3, 24, .agg #[.int .i64 0, .int .i64 0, .int .i64 0], .arr 3 3⟩
  | 51 => ⟨1, 8, .nilFunc, .func⟩
  | 52 => ⟨5, 48, .agg #[.string ⟨#[]⟩, .int .i64 0, .int .i64 0, .int .i64 0, .int .i64 0], .str [(0, 9), (1, 3), (2, 3), (3, 3), (4, 3)]⟩
  | 53 => ⟨5, 48, .agg #[.string ⟨#[]⟩, .int .i64 0, .int .i64 0, .int .i64 0, .int .i64 0], .str [(0, 9), (1, 3), (2, 3), (3, 3), (4, 3)]⟩
  | 54 => ⟨1, 8, .nilFunc, .func⟩
  | 55 => ⟨1, 8, .pointer none, .ptr 57⟩
  | 56 => ⟨5, 104, .agg #[.slice none 0 0, .slice none 0 0, .slice none 0 0, .slice none 0 0, .int .i64 0], .str [(0, 35), (2, 23), (3, 39), (4, 3)]⟩
  | 57 => ⟨5, 104, .agg #[.slice none 0 0, .slice none 0 0, .slice none 0 0, .slice none 0 0, .int .i64 0], .str [(0, 35), (2, 23), (3, 39), (4, 3)]⟩
  | 58 => ⟨1, 8, .nilFunc, .func⟩
  | 59 => ⟨1, 8, .nilFunc, .func⟩
  | 60 => ⟨1, 8, .pointer none, .ptr 63⟩
  | 61 => ⟨1, 24, .slice none 0 0, .slc 5⟩
  | 62 => ⟨2, 32, .agg #[.pointer none, .slice none 0 0], .str [(0, 60), (1, 61)]⟩
  | 63 => ⟨2, 32, .agg #[.pointer none, .slice none 0 0], .str [(0, 60), (1, 61)]⟩
  | 64 => ⟨1, 16, .nilIface, .iface⟩
  | 65 => ⟨1, 16, .nilIface, .iface⟩
  | 67 => ⟨1, 8, .nilFunc, .func⟩
  | 68 => ⟨1, 8, .nilFunc, .func⟩
  | 69 => ⟨1, 8, .nilFunc, .func⟩
  | 70 => ⟨1, 8, .nilFunc, .func⟩
  | 71 => ⟨1, 8, .nilFunc, .func⟩
  | 72 => ⟨1, 8, .nilFunc, .func⟩
  | 73 => ⟨1, 8, .nilFunc, .func⟩
  | 74 => ⟨1, 8, .nilFunc, .func⟩
  | 75 => ⟨1, 24, .slice none 0 0, .slc 76⟩
  | 76 => ⟨1, 24, .slice none 0 0, .slc 4⟩
  | 77 => ⟨1, 24, .slice none 0 0, .slc 9⟩
  | 78 => ⟨1, 8, .nilFunc, .func⟩
  | 79 => ⟨1, 8, .pointer none, .ptr 5⟩
  | 80 => ⟨1, 8, .nilFunc, .func⟩
  | 81 => ⟨1, 8, .nilFunc, .func⟩
  | 82 => ⟨1, 8, .nilFunc, .func⟩
  | 83 => ⟨1, 4, .int .u32 0, .int .u32⟩
  | 84 => ⟨1, 4, .int .u32 0, .int .u32⟩
  | 85 => ⟨1, 8, .map none, .map 3 84⟩
  | 86 => ⟨1, 8, .nilFunc, .func⟩
  | 89 => ⟨1, 8, .nilFunc, .func⟩
  | 90 => ⟨1, 8, .nilFunc, .func⟩
  | 91 => ⟨1, 8, .nilFunc, .func⟩
  | 92 => ⟨1, 8, .nilFunc, .func⟩
  | 93 => ⟨24, 24, .agg #[.int .u8 0, .int .u8 0, .int .u8 0, .int .u8 0, .int .u8 0, .int .u8 0, .int .u8 0, .int .u8 0, .int .u8 0, .int .u8 0, .int .u8 0, .int .u8 0, .int .u8 0, .int .u8 0, .int .u8 0, .int .u8 0, .int .u8 0, .int .u8 0, .int .u8 0, .int .u8 0, .int .u8 0, .int .u8 0, .int .u8 0, .int .u8 0], .arr 24 5⟩
  | 94 => ⟨1, 8, .int .u64 0, .int .u64⟩
  | 95 => ⟨1, 8, .nilFunc, .func⟩
  | 96 => ⟨1, 8, .nilFunc, .func⟩
  | 98 => ⟨1, 8, .nilFunc, .func⟩
  | 99 => ⟨1, 8, .nilFunc, .func⟩
  | 100 => ⟨1, 8, .nilFunc, .func⟩
  | 101 => ⟨20, 160, .agg #[.int .u64 0, .int .u64 0, .int .u64 0, .int .u64 0, .int .u64 0, .int .u64 0, .int .u64 0, .int .u64 0, .int .u64 0, .int .u64 0, .int .u64 0, .int .u64 0, .int .u64 0, .int .u64 0, .int .u64 0, .int .u64 0, .int .u64 0, .int .u64 0, .int .u64 0, .int .u64 0], .arr 20 94⟩
  | 102 => ⟨65, 65, .agg #[.int .u8 0, .int .u8 0, .int .u8 0, .int .u8 0, .int .u8 0, .int .u8 0, .int .u8 0, .int .u8 0, .int .u8 0, .int .u8 0, .int .u8 0, .int .u8 0, .int .u8 0, .int .u8 0, .int .u8 0, .int .u8 0, .int .u8 0, .int .u8 0, .int .u8 0, .int .u8 0, .int .u8 0, .int .u8 0, .int .u8 0, .int .u8 0, .int .u8 0, .int .u8 0, .int .u8 0, .int .u8 0, .int .u8 0, .int .u8 0, .int .u8 0, .int .u8 0, .int .u8 0, .int .u8 0, .int .u8 0, .int .u8 0, .int .u8 0, .int .u8 0, .int .u8 0, .int .u8 0, .int .u8 0, .int .u8 0, .int .u8 0, .int .u8 0, .int .u8 0, .int .u8 0, .int .u8 0, .int .u8 0, .int .u8 0, .int .u8 0, .int .u8 0, .int .u8 0, .int .u8 0, .int .u8 0, .int .u8 0, .int .u8 0, .int .u8 0, .int .u8 0, .int .u8 0, .int .u8 0, .int .u8 0, .int .u8 0, .int .u8 0, .int .u8 0, .int .u8 0], .arr 65 5⟩
  | 103 => ⟨1, 8, .int .u64 0, .int .u64⟩
  | 104 => ⟨1, 8, .nilFunc, .func⟩
  | 105 => ⟨1, 8, .nilFunc, .func⟩
  | 106 => ⟨32, 32, .agg #[.int .u8 0, .int .u8 0, .int .u8 0, .int .u8 0, .int .u8 0, .int .u8 0, .int .u8 0, .int .u8 0, .int .u8 0, .int .u8 0, .int .u8 0, .int .u8 0, .int .u8 0, .int .u8 0, .int .u8 0, .int .u8 0, .int .u8 0, .int .u8 0, .int .u8 0, .int .u8 0, .int .u8 0, .int .u8 0, .int .u8 0, .int .u8 0, .int .u8 0, .int .u8 0, .int .u8 0, .int .u8 0, .int .u8 0, .int .u8 0, .int .u8 0, .int .u8 0], .arr 32 5⟩
  | 107 => ⟨64, 64, .agg #[.int .u8 0, .int .u8 0, .int .u8 0, .int .u8 0, .int .u8 0, .int .u8 0, .int .u8 0, .int .u8 0, .int .u8 0, .int .u8 0, .int .u8 0, .int .u8 0, .int .u8 0, .int .u8 0, .int .u8 0, .int .u8 0, .int .u8 0, .int .u8 0, .int .u8 0, .int .u8 0, .int .u8 0, .int .u8 0, .int .u8 0, .int .u8 0, .int .u8 0, .int .u8 0, .int .u8 0, .int .u8 0, .int .u8 0, .int .u8 0, .int .u8 0, .int .u8 0, .int .u8 0, .int .u8 0, .int .u8 0, .int .u8 0, .int .u8 0, .int .u8 0, .int .u8 0, .int .u8 0, .int .u8 0, .int .u8 0, .int .u8 0, .int .u8 0, .int .u8 0, .int .u8 0, .int .u8 0, .int .u8 0, .int .u8 0, .int .u8 0, .int .u8 0, .int .u8 0, .int .u8 0, .int .u8 0, .int .u8 0, .int .u8 0, .int .u8 0, .int .u8 0, .int .u8 0, .int .u8 0, .int .u8 0, .int .u8 0, .int .u8 0, .int .u8 0], .arr 64 5⟩
  | 108 => ⟨4, 40, .agg #[.pointer none, .pointer none, .pointer none, .string ⟨#[]⟩], .str [(0, 17), (1, 17), (2, 17), (3, 9)]⟩
  | 109 => ⟨4, 40, .agg #[.pointer none, .pointer none, .pointer none, .string ⟨#[]⟩], .str [(0, 17), (1, 17), (2, 17), (3, 9)]⟩
  | 113 => ⟨1, 8, .nilFunc, .func⟩
  | 114 => ⟨1, 1, .int .u8 0, .int .u8⟩
  | 115 => ⟨1, 1, .int .u8 0, .int .u8⟩
  | 116 => ⟨1, 8, .nilFunc, .func⟩
  | 117 => ⟨1, 4, .int .i32 0, .int .i32⟩
  | 118 => ⟨1, 4, .int .i32 0, .int .i32⟩
  | 119 => ⟨11, 48, .agg #[.int .u64 0, .int .u64 0, .int .u32 0, .int .u8 0, .int .u8 0, .int .u8 0, .int .u8 0, .nilFunc, .pointer none, .int .i32 0, .int .i32 0], .str [(0, 12), (1, 12), (2, 83), (3, 114), (4, 5), (5, 5), (6, 115), (7, 116), (8, 79), (9, 117), (10, 118)]⟩
  | 120 => ⟨11, 48, .agg #[.int .u64 0, .int .u64 0, .int .u32 0, .int .u8 0, .int .u8 0, .int .u8 0, .int .u8 0, .nilFunc, .pointer none, .int .i32 0, .int .i32 0], .str [(0, 12), (1, 12), (2, 83), (3, 114), (4, 5), (5, 5), (6, 115), (7, 116), (8, 79), (9, 117), (10, 118)]⟩
  | _ => default
theorem tab1 : tab 1 = ⟨1, 8, .nilFunc, .func⟩ := rfl
theorem tab2 : tab 2 = ⟨1, 8, .int .i64 0, .int .i64⟩ := rfl
theorem tab3 : tab 3 = ⟨1, 8, .int .i64 0, .int .i64⟩ := rfl
theorem tab4 : tab 4 = ⟨1, 1, .bool false, .bool⟩ := rfl
theorem tab5 : tab 5 = ⟨1, 1, .int .u8 0, .int .u8⟩ := rfl
theorem tab6 : tab 6 = ⟨1, 1, .int .u8 0, .int .u8⟩ := rfl
theorem tab7 : tab 7 = ⟨4, 24, .agg #[.int .i64 0, .int .i64 0, .bool false, .int .u8 0], .str [(0, 2), (1, 3), (2, 4), (3, 6)]⟩ := rfl
theorem tab8 : tab 8 = ⟨4, 24, .agg #[.int .i64 0, .int .i64 0, .bool false, .int .u8 0], .str [(0, 2), (1, 3), (2, 4), (3, 6)]⟩ := rfl
theorem tab9 : tab 9 = ⟨1, 16, .string ⟨#[]⟩, .string⟩ := rfl
theorem tab10 : tab 10 = ⟨1, 16, .string ⟨#[]⟩, .string⟩ := rfl
theorem tab11 : tab 11 = ⟨1, 16, .string ⟨#[]⟩, .string⟩ := rfl
theorem tab12 : tab 12 = ⟨1, 8, .int .u64 0, .int .u64⟩ := rfl
theorem tab13 : tab 13 = ⟨2, 24, .agg #[.string ⟨#[]⟩, .int .u64 0], .str [(0, 9), (1, 12)]⟩ := rfl
theorem tab14 : tab 14 = ⟨2, 24, .agg #[.string ⟨#[]⟩, .int .u64 0], .str [(0, 9), (1, 12)]⟩ := rfl
theorem tab15 : tab 15 = ⟨1, 8, .pointer none, .ptr 109⟩ := rfl
theorem tab16 : tab 16 = ⟨1, 8, .pointer none, .ptr 112⟩ := rfl
theorem tab17 : tab 17 = ⟨1, 8, .pointer none, .ptr 120⟩ := rfl
theorem tab18 : tab 18 = ⟨1, 8, .agg #[.pointer none], .str [(0, 17)]⟩ := rfl
theorem tab19 : tab 19 = ⟨1, 8, .agg #[.pointer none], .str [(0, 17)]⟩ := rfl
theorem tab20 : tab 20 = ⟨1, 16, .nilIface, .iface⟩ := rfl
theorem tab21 : tab 21 = ⟨1, 4, .int .i32 0, .int .i32⟩ := rfl
theorem tab22 : tab 22 = ⟨1, 8, .int .i64 0, .int .i64⟩ := rfl
theorem tab23 : tab 23 = ⟨1, 24, .slice none 0 0, .slc 3⟩ := rfl
theorem tab24 : tab 24 = ⟨5, 56, .agg #[.int .i64 0, .int .i64 0, .int .i64 0, .int .i64 0, .slice none 0 0], .str [(0, 22), (1, 3), (2, 3), (3, 3), (4, 23)]⟩ := rfl
theorem tab25 : tab 25 = ⟨5, 56, .agg #[.int .i64 0, .int .i64 0, .int .i64 0, .int .i64 0, .slice none 0 0], .str [(0, 22), (1, 3), (2, 3), (3, 3), (4, 23)]⟩ := rfl
theorem tab26 : tab 26 = ⟨1, 8, .nilFunc, .func⟩ := rfl
theorem tab28 : tab 28 = ⟨1, 8, .nilFunc, .func⟩ := rfl
theorem tab29 : tab 29 = ⟨1, 8, .nilFunc, .func⟩ := rfl
theorem tab30 : tab 30 = ⟨1, 8, .nilFunc, .func⟩ := rfl
theorem tab31 : tab 31 = ⟨1, 8, .nilFunc, .func⟩ := rfl
theorem tab32 : tab 32 = ⟨1, 24, .slice none 0 0, .slc 39⟩ := rfl
theorem tab33 : tab 33 = ⟨1, 24, .slice none 0 0, .slc 53⟩ := rfl
theorem tab34 : tab 34 = ⟨2, 48, .agg #[.slice none 0 0, .slice none 0 0], .str [(0, 32), (1, 33)]⟩ := rfl
theorem tab35 : tab 35 = ⟨2, 48, .agg #[.slice none 0 0, .slice none 0 0], .str [(0, 32), (1, 33)]⟩ := rfl
theorem tab36 : tab 36 = ⟨1, 8, .nilFunc, .func⟩ := rfl
theorem tab37 : tab 37 = ⟨1, 8, .nilFunc, .func⟩ := rfl
theorem tab38 : tab 38 = ⟨1, 8, .nilFunc, .func⟩ := rfl
theorem tab39 : tab 39 = ⟨1, 24, .slice none 0 0, .slc 25⟩ := rfl
theorem tab40 : tab 40 = ⟨1, 8, .nilFunc, .func⟩ := rfl
theorem tab41 : tab 41 = ⟨1, 8, .nilFunc, .func⟩ := rfl
theorem tab42 : tab 42 = ⟨1, 8, .nilFunc, .func⟩ := rfl
theorem tab43 : tab 43 = ⟨1, 8, .nilFunc, .func⟩ := rfl
theorem tab44 : tab 44 = ⟨1, 8, .int .i64 0, .int .i64⟩ := rfl
theorem tab45 : tab 45 = ⟨4, 32, .agg #[.int .i64 0, .int .i64 0, .int .i64 0, .int .i64 0], .str [(0, 44), (1, 44), (2, 44), (3, 3)]⟩ := rfl
theorem tab46 : tab 46 = ⟨4, 32, .agg #[.int .i64 0, .int .i64 0, .int .i64 0, .int .i64 0], .str [(0, 44), (1, 44), (2, 44), (3, 3)]⟩ := rfl
theorem tab48 : tab 48 = ⟨1, 8, .nilFunc, .func⟩ := rfl
theorem tab49 : tab 49 = ⟨3, 24, .agg #[.int .i64 0, .int .i64 0, .int .i64 0], .arr 3 44⟩ := rfl
theorem tab50 : tab 50 = ⟨3, 24, .agg #[.int .i64 0, .int .i64 0, .int .i64 0], .arr 3 3⟩ := rfl
theorem tab51 : tab 51 = ⟨1, 8, .nilFunc, .func⟩ := rfl
theorem tab52 : tab 52 = ⟨5, 48, .agg #[.string ⟨#[]⟩, .int .i64 0, .int .i64 0, .int .i64 0, .int .i64 0], .str [(0, 9), (1, 3), (2, 3), (3, 3), (4, 3)]⟩ := rfl
theorem tab53 : tab 53 = ⟨5, 48, .agg #[.string ⟨#[]⟩, .int .i64 0, .int .i64 0, .int .i64 0, .int .i64 0], .str [(0, 9), (1, 3), (2, 3), (3, 3), (4, 3)]⟩ := rfl
theorem tab54 : tab 54 = ⟨1, 8, .nilFunc, .func⟩ := rfl
theorem tab55 : tab 55 = ⟨1, 8, .pointer none, .ptr 57⟩ := rfl
theorem tab56 : tab 56 = ⟨5, 104, .agg #[.slice none 0 0, .slice none 0 0, .slice none 0 0, .slice none 0 0, .int .i64 0], .str [(0, 35), (2, 23), (3, 39), (4, 3)]⟩ := rfl
theorem tab57 : tab 57 = ⟨5, 104, .agg #[.slice none 0 0, .slice none 0 0, .slice none 0 0, .slice none 0 0, .int .i64 0], .str [(0, 35), (2, 23), (3, 39), (4, 3)]⟩ := rfl
theorem tab58 : tab 58 = ⟨1, 8, .nilFunc, .func⟩ := rfl
theorem tab59 : tab 59 = ⟨1, 8, .nilFunc, .func⟩ := rfl
theorem tab60 : tab 60 = ⟨1, 8, .pointer none, .ptr 63⟩ := rfl
theorem tab61 : tab 61 = ⟨1, 24, .slice none 0 0, .slc 5⟩ := rfl
theorem tab62 : tab 62 = ⟨2, 32, .agg #[.pointer none, .slice none 0 0], .str [(0, 60), (1, 61)]⟩ := rfl
theorem tab63 : tab 63 = ⟨2, 32, .agg #[.pointer none, .slice none 0 0], .str [(0, 60), (1, 61)]⟩ := rfl
theorem tab64 : tab 64 = ⟨1, 16, .nilIface, .iface⟩ := rfl
theorem tab65 : tab 65 = ⟨1, 16, .nilIface, .iface⟩ := rfl
theorem tab67 : tab 67 = ⟨1, 8, .nilFunc, .func⟩ := rfl
theorem tab68 : tab 68 = ⟨1, 8, .nilFunc, .func⟩ := rfl
theorem tab69 : tab 69 = ⟨1, 8, .nilFunc, .func⟩ := rfl
theorem tab70 : tab 70 = ⟨1, 8, .nilFunc, .func⟩ := rfl
theorem tab71 : tab 71 = ⟨1, 8, .nilFunc, .func⟩ := rfl
theorem tab72 : tab 72 = ⟨1, 8, .nilFunc, .func⟩ := rfl
theorem tab73 : tab 73 = ⟨1, 8, .nilFunc, .func⟩ := rfl
theorem tab74 : tab 74 = ⟨1, 8, .nilFunc, .func⟩ := rfl
theorem tab75 : tab 75 = ⟨1, 24, .slice none 0 0, .slc 76⟩ := rfl
theorem tab76 : tab 76 = ⟨1, 24, .slice none 0 0, .slc 4⟩ := rfl
theorem tab77 : tab 77 = ⟨1, 24, .slice none 0 0, .slc 9⟩ := rfl
theorem tab78 : tab 78 = ⟨1, 8, .nilFunc, .func⟩ := rfl
theorem tab79 : tab 79 = ⟨1, 8, .pointer none, .ptr 5⟩ := rfl
theorem tab80 : tab 80 = ⟨1, 8, .nilFunc, .func⟩ := rfl
theorem tab81 : tab 81 = ⟨1, 8, .nilFunc, .func⟩ := rfl
theorem tab82 : tab 82 = ⟨1, 8, .nilFunc, .func⟩ := rfl
theorem tab83 : tab 83 = ⟨1, 4, .int .u32 0, .int .u32⟩ := rfl
theorem tab84 : tab 84 = ⟨1, 4, .int .u32 0, .int .u32⟩ := rfl
theorem tab85 : tab 85 = ⟨1, 8, .map none, .map 3 84⟩ := rfl
theorem tab86 : tab 86 = ⟨1, 8, .nilFunc, .func⟩ := rfl
theorem tab89 : tab 89 = ⟨1, 8, .nilFunc, .func⟩ := rfl
theorem tab90 : tab 90 = ⟨1, 8, .nilFunc, .func⟩ := rfl
theorem tab91 : tab 91 = ⟨1, 8, .nilFunc, .func⟩ := rfl
theorem tab92 : tab 92 = ⟨1, 8, .nilFunc, .func⟩ := rfl
theorem tab93 : tab 93 = ⟨24, 24, .agg #[.int .u8 0, .int .u8 0, .int .u8 0, .int .u8 0, .int .u8 0, .int .u8 0, .int .u8 0, .int .u8 0, .int .u8 0, .int .u8 0, .int .u8 0, .int .u8 0, .int .u8 0, .int .u8 0, .int .u8 0, .int .u8 0, .int .u8 0, .int .u8 0, .int .u8 0, .int .u8 0, .int .u8 0, .int .u8 0, .int .u8 0, .int .u8 0], .arr 24 5⟩ := rfl
theorem tab94 : tab 94 = ⟨1, 8, .int .u64 0, .int .u64⟩ := rfl
theorem tab95 : tab 95 = ⟨1, 8, .nilFunc, .func⟩ := rfl
theorem tab96 : tab 96 = ⟨1, 8, .nilFunc, .func⟩ := rfl
theorem tab98 : tab 98 = ⟨1, 8, .nilFunc, .func⟩ := rfl
theorem tab99 : tab 99 = ⟨1, 8, .nilFunc, .func⟩ := rfl
theorem tab100 : tab 100 = ⟨1, 8, .nilFunc, .func⟩ := rfl
theorem tab101 : tab 101 = ⟨20, 160, .agg #[.int .u64 0, .int .u64 0, .int .u64 0, .int .u64 0, .int .u64 0, .int .u64 0, .int .u64 0, .int .u64 0, .int .u64 0, .int .u64 0, .int .u64 0, .int .u64 0, .int .u64 0, .int .u64 0, .int .u64 0, .int .u64 0, .int .u64 0, .int .u64 0, .int .u64 0, .int .u64 0], .arr 20 94⟩ := rfl
theorem tab102 : tab 102 = ⟨65, 65, .agg #[.int .u8 0, .int .u8 0, .int .u8 0, .int .u8 0, .int .u8 0, .int .u8 0, .int .u8 0, .int .u8 0, .int .u8 0, .int .u8 0, .int .u8 0, .int .u8 0, .int .u8 0, .int .u8 0, .int .u8 0, .int .u8 0, .int .u8 0, .int .u8 0, .int .u8 0, .int .u8 0, .int .u8 0, .int .u8 0, .int .u8 0, .int .u8 0, .int .u8 0, .int .u8 0, .int .u8 0, .int .u8 0, .int .u8 0, .int .u8 0, .int .u8 0, .int .u8 0, .int .u8 0, .int .u8 0, .int .u8 0, .int .u8 0, .int .u8 0, .int .u8 0, .int .u8 0, .int .u8 0, .int .u8 0, .int .u8 0, .int .u8 0, .int .u8 0, .int .u8 0, .int .u8 0, .int .u8 0, .int .u8 0, .int .u8 0, .int .u8 0, .int .u8 0, .int .u8 0, .int .u8 0, .int .u8 0, .int .u8 0, .int .u8 0, .int .u8 0, .int .u8 0, .int .u8 0, .int .u8 0, .int .u8 0, .int .u8 0, .int .u8 0, .int .u8 0, .int .u8 0], .arr 65 5⟩ := rfl
theorem tab103 : tab 103 = ⟨1, 8, .int .u64 0, .int .u64⟩ := rfl
theorem tab104 : tab 104 = ⟨1, 8, .nilFunc, .func⟩ := rfl
theorem tab105 : tab 105 = ⟨1, 8, .nilFunc, .func⟩ := rfl
theorem tab106 : tab 106 = ⟨32, 32, .agg #[.int .u8 0, .int .u8 0, .int .u8 0, .int .u8 0, .int .u8 0, .int .u8 0, .int .u8 0, .int .u8 0, .int .u8 0, .int .u8 0, .int .u8 0, .int .u8 0, .int .u8 0, .int .u8 0, .int .u8 0, .int .u8 0, .int .u8 0, .int .u8 0, .int .u8 0, .int .u8 0, .int .u8 0, .int .u8 0, .int .u8 0, .int .u8 0, .int .u8 0, .int .u8 0, .int .u8 0, .int .u8 0, .int .u8 0, .int .u8 0, .int .u8 0, .int .u8 0], .arr 32 5⟩ := rfl
theorem tab107 : tab 107 = ⟨64, 64, .agg #[.int .u8 0, .int .u8 0, .int .u8 0, .int .u8 0, .int .u8 0, .int .u8 0, .int .u8 0, .int .u8 0, .int .u8 0, .int .u8 0, .int .u8 0, .int .u8 0, .int .u8 0, .int .u8 0, .int .u8 0, .int .u8 0, .int .u8 0, .int .u8 0, .int .u8 0, .int .u8 0, .int .u8 0, .int .u8 0, .int .u8 0, .int .u8 0, .int .u8 0, .int .u8 0, .int .u8 0, .int .u8 0, .int .u8 0, .int .u8 0, .int .u8 0, .int .u8 0, .int .u8 0, .int .u8 0, .int .u8 0, .int .u8 0, .int .u8 0, .int .u8 0, .int .u8 0, .int .u8 0, .int .u8 0, .int .u8 0, .int .u8 0, .int .u8 0, .int .u8 0, .int .u8 0, .int .u8 0, .int .u8 0, .int .u8 0, .int .u8 0, .int .u8 0, .int .u8 0, .int .u8 0, .int .u8 0, .int .u8 0, .int .u8 0, .int .u8 0, .int .u8 0, .int .u8 0, .int .u8 0, .int .u8 0, .int .u8 0, .int .u8 0, .int .u8 0], .arr 64 5⟩ := rfl
theorem tab108 : tab 108 = ⟨4, 40, .agg #[.pointer none, .pointer none, .pointer none, .string ⟨#[]⟩], .str [(0, 17), (1, 17), (2, 17), (3, 9)]⟩ := rfl
theorem tab109 : tab 109 = ⟨4, 40, .agg #[.pointer none, .pointer none, .pointer none, .string ⟨#[]⟩], .str [(0, 17), (1, 17), (2, 17), (3, 9)]⟩ := rfl
theorem tab113 : tab 113 = ⟨1, 8, .nilFunc, .func⟩ := rfl
theorem tab114 : tab 114 = ⟨1, 1, .int .u8 0, .int .u8⟩ := rfl
theorem tab115 : tab 115 = ⟨1, 1, .int .u8 0, .int .u8⟩ := rfl
theorem tab116 : tab 116 = ⟨1, 8, .nilFunc, .func⟩ := rfl
theorem tab117 : tab 117 = ⟨1, 4, .int .i32 0, .int .i32⟩ := rfl
theorem tab118 : tab 118 = ⟨1, 4, .int .i32 0, .int .i32⟩ := rfl
theorem tab119 : tab 119 = ⟨11, 48, .agg #[.int .u64 0, .int .u64 0, .int .u32 0, .int .u8 0, .int .u8 0, .int .u8 0, .int .u8 0, .nilFunc, .pointer none, .int .i32 0, .int .i32 0], .str [(0, 12), (1, 12), (2, 83), (3, 114), (4, 5), (5, 5), (6, 115), (7, 116), (8, 79), (9, 117), (10, 118)]⟩ := rfl
theorem tab120 : tab 120 = ⟨11, 48, .agg #[.int .u64 0, .int .u64 0, .int .u32 0, .int .u8 0, .int .u8 0, .int .u8 0, .int .u8 0, .nilFunc, .pointer none, .int .i32 0, .int .i32 0], .str [(0, 12), (1, 12), (2, 83), (3, 114), (4, 5), (5, 5), (6, 115), (7, 116), (8, 79), (9, 117), (10, 118)]⟩ := rfl
theorem tok1 : TOKt Tryd.prog 1 ⟨1, 8, .nilFunc, .func⟩ := ⟨by kernel_rfl, by kernel_rfl, by kernel_rfl, by kernel_rfl⟩
theorem tok2 : TOKt Tryd.prog 2 ⟨1, 8, .int .i64 0, .int .i64⟩ := ⟨by kernel_rfl, by kernel_rfl, by kernel_rfl, by kernel_rfl⟩
theorem tok3 : TOKt Tryd.prog 3 ⟨1, 8, .int .i64 0, .int .i64⟩ := ⟨by kernel_rfl, by kernel_rfl, by kernel_rfl, by kernel_rfl⟩
theorem tok4 : TOKt Tryd.prog 4 ⟨1, 1, .bool false, .bool⟩ := ⟨by kernel_rfl, by kernel_rfl, by kernel_rfl, by kernel_rfl⟩
theorem tok5 : TOKt Tryd.prog 5 ⟨1, 1, .int .u8 0, .int .u8⟩ := ⟨by kernel_rfl, by kernel_rfl, by kernel_rfl, by kernel_rfl⟩
theorem tok6 : TOKt Tryd.prog 6 ⟨1, 1, .int .u8 0, .int .u8⟩ := ⟨by kernel_rfl, by kernel_rfl, by kernel_rfl, by kernel_rfl⟩
theorem tok7 : TOKt Tryd.prog 7 ⟨4, 24, .agg #[.int .i64 0, .int .i64 0, .bool false, .int .u8 0], .str [(0, 2), (1, 3), (2, 4), (3, 6)]⟩ := ⟨by kernel_rfl, by kernel_rfl, by kernel_rfl, by kernel_rfl⟩
theorem tok8 : TOKt Tryd.prog 8 ⟨4, 24, .agg #[.int .i64 0, .int .i64 0, .bool false, .int .u8 0], .str [(0, 2), (1, 3), (2, 4), (3, 6)]⟩ := ⟨by kernel_rfl, by kernel_rfl, by kernel_rfl, by kernel_rfl⟩
theorem tok9 : TOKt Tryd.prog 9 ⟨1, 16, .string ⟨#[]⟩, .string⟩ := ⟨by kernel_rfl, by kernel_rfl, by kernel_rfl, by kernel_rfl⟩
theorem tok10 : TOKt Tryd.prog 10 ⟨1, 16, .string ⟨#[]⟩, .string⟩ := ⟨by kernel_rfl, by kernel_rfl, by kernel_rfl, by kernel_rfl⟩
theorem tok11 : TOKt Tryd.prog 11 ⟨1, 16, .string ⟨#[]⟩, .string⟩ := ⟨by kernel_rfl, by kernel_rfl, by kernel_rfl, by kernel_rfl⟩
theorem tok12 : TOKt Tryd.prog 12 ⟨1, 8, .int .u64 0, .int .u64⟩ := ⟨by kernel_rfl, by kernel_rfl, by kernel_rfl, by kernel_rfl⟩
theorem tok13 : TOKt Tryd.prog 13 ⟨2, 24, .agg #[.string ⟨#[]⟩, .int .u64 0], .str [(0, 9), (1, 12)]⟩ := ⟨by kernel_rfl, by kernel_rfl, by kernel_rfl, by kernel_rfl⟩
theorem tok14 : TOKt Tryd.prog 14 ⟨2, 24, .agg #[.string ⟨#[]⟩, .int .u64 0], .str [(0, 9), (1, 12)]⟩ := ⟨by kernel_rfl, by kernel_rfl, by kernel_rfl, by kernel_rfl⟩
theorem tok15 : TOKt Tryd.prog 15 ⟨1, 8, .pointer none, .ptr 109⟩ := ⟨by kernel_rfl, by kernel_rfl, by kernel_rfl, by kernel_rfl⟩
theorem tok16 : TOKt Tryd.prog 16 ⟨1, 8, .pointer none, .ptr 112⟩ := ⟨by kernel_rfl, by kernel_rfl, by kernel_rfl, by kernel_rfl⟩
theorem tok17 : TOKt Tryd.prog 17 ⟨1, 8, .pointer none, .ptr 120⟩ := ⟨by kernel_rfl, by kernel_rfl, by kernel_rfl, by kernel_rfl⟩
theorem tok18 : TOKt Tryd.prog 18 ⟨1, 8, .agg #[.pointer none], .str [(0, 17)]⟩ := ⟨by kernel_rfl, by kernel_rfl, by kernel_rfl, by kernel_rfl⟩
theorem tok19 : TOKt Tryd.prog 19 ⟨1, 8, .agg #[.pointer none], .str [(0, 17)]⟩ := ⟨by kernel_rfl, by kernel_rfl, by kernel_rfl, by kernel_rfl⟩
theorem tok20 : TOKt Tryd.prog 20 ⟨1, 16, .nilIface, .iface⟩ := ⟨by kernel_rfl, by kernel_rfl, by kernel_rfl, by kernel_rfl⟩
theorem tok21 : TOKt Tryd.prog 21 ⟨1, 4, .int .i32 0, .int .i32⟩ := ⟨by kernel_rfl, by kernel_rfl, by kernel_rfl, by kernel_rfl⟩
theorem tok22 : TOKt Tryd.prog 22 ⟨1, 8, .int .i64 0, .int .i64⟩ := ⟨by kernel_rfl, by kernel_rfl, by kernel_rfl, by kernel_rfl⟩
theorem tok23 : TOKt Tryd.prog 23 ⟨1, 24, .slice none 0 0, .slc 3⟩ := ⟨by kernel_rfl, by kernel_rfl, by kernel_rfl, by kernel_rfl⟩
theorem tok24 : TOKt Tryd.prog 24 ⟨5, 56, .agg #[.int .i64 0, .int .i64 0, .int .i64 0, .int .i64 0, .slice none 0 0], .str [(0, 22), (1, 3), (2, 3), (3, 3), (4, 23)]⟩ := ⟨by kernel_rfl, by kernel_rfl, by kernel_rfl, by kernel_rfl⟩
theorem tok25 : TOKt Tryd.prog 25 ⟨5, 56, .agg #[.int .i64 0, .int .i64 0, .int .i64 0, .int .i64 0, .slice none 0 0], .str [(0, 22), (1, 3), (2, 3), (3, 3), (4, 23)]⟩ := ⟨by kernel_rfl, by kernel_rfl, by kernel_rfl, by kernel_rfl⟩
theorem tok26 : TOKt Tryd.prog 26 ⟨1, 8, .nilFunc, .func⟩ := ⟨by kernel_rfl, by kernel_rfl, by kernel_rfl, by kernel_rfl⟩
theorem tok28 : TOKt Tryd.prog 28 ⟨1, 8, .nilFunc, .func⟩ := ⟨by kernel_rfl, by kernel_rfl, by kernel_rfl, by kernel_rfl⟩
theorem tok29 : TOKt Tryd.prog 29 ⟨1, 8, .nilFunc, .func⟩ := ⟨by kernel_rfl, by kernel_rfl, by kernel_rfl, by kernel_rfl⟩
theorem tok30 : TOKt Tryd.prog 30 ⟨1, 8, .nilFunc, .func⟩ := ⟨by kernel_rfl, by kernel_rfl, by kernel_rfl, by kernel_rfl⟩
theorem tok31 : TOKt Tryd.prog 31 ⟨1, 8, .nilFunc, .func⟩ := ⟨by kernel_rfl, by kernel_rfl, by kernel_rfl, by kernel_rfl⟩
theorem tok32 : TOKt Tryd.prog 32 ⟨1, 24, .slice none 0 0, .slc 39⟩ := ⟨by kernel_rfl, by kernel_rfl, by kernel_rfl, by kernel_rfl⟩
theorem tok33 : TOKt Tryd.prog 33 ⟨1, 24, .slice none 0 0, .slc 53⟩ := ⟨by kernel_rfl, by kernel_rfl, by kernel_rfl, by kernel_rfl⟩
theorem tok34 : TOKt Tryd.prog 34 ⟨2, 48, .agg #[.slice none 0 0, .slice none 0 0], .str [(0, 32), (1, 33)]⟩ := ⟨by kernel_rfl, by kernel_rfl, by kernel_rfl, by kernel_rfl⟩
theorem tok35 : TOKt Tryd.prog 35 ⟨2, 48, .agg #[.slice none 0 0, .slice none 0 0], .str [(0, 32), (1, 33)]⟩ := ⟨by kernel_rfl, by kernel_rfl, by kernel_rfl, by kernel_rfl⟩
theorem tok36 : TOKt Tryd.prog 36 ⟨1, 8, .nilFunc, .func⟩ := ⟨by kernel_rfl, by kernel_rfl, by kernel_rfl, by kernel_rfl⟩
theorem tok37 : TOKt Tryd.prog 37 ⟨1, 8, .nilFunc, .func⟩ := ⟨by kernel_rfl, by kernel_rfl, by kernel_rfl, by kernel_rfl⟩
theorem tok38 : TOKt Tryd.prog 38 ⟨1, 8, .nilFunc, .func⟩ := ⟨by kernel_rfl, by kernel_rfl, by kernel_rfl, by kernel_rfl⟩
theorem tok39 : TOKt Tryd.prog 39 ⟨1, 24, .slice none 0 0, .slc 25⟩ := ⟨by kernel_rfl, by kernel_rfl, by kernel_rfl, by kernel_rfl⟩
theorem tok40 : TOKt Tryd.prog 40 ⟨1, 8, .nilFunc, .func⟩ := ⟨by kernel_rfl, by kernel_rfl, by kernel_rfl, by kernel_rfl⟩
theorem tok41 : TOKt Tryd.prog 41 ⟨1, 8, .nilFunc, .func⟩ := ⟨by kernel_rfl, by kernel_rfl, by kernel_rfl, by kernel_rfl⟩
theorem tok42 : TOKt Tryd.prog 42 ⟨1, 8, .nilFunc, .func⟩ := ⟨by kernel_rfl, by kernel_rfl, by kernel_rfl, by kernel_rfl⟩
theorem tok43 : TOKt Tryd.prog 43 ⟨1, 8, .nilFunc, .func⟩ := ⟨by kernel_rfl, by kernel_rfl, by kernel_rfl, by kernel_rfl⟩
theorem tok44 : TOKt Tryd.prog 44 ⟨1, 8, .int .i64 0, .int .i64⟩ := ⟨by kernel_rfl, by kernel_rfl, by kernel_rfl, by kernel_rfl⟩
theorem tok45 : TOKt Tryd.prog 45 ⟨4, 32, .agg #[.int .i64 0, .int .i64 0, .int .i64 0, .int .i64 0], .str [(0, 44), (1, 44), (2, 44), (3, 3)]⟩ := ⟨by kernel_rfl, by kernel_rfl, by kernel_rfl, by kernel_rfl⟩
theorem tok46 : TOKt Tryd.prog 46 ⟨4, 32, .agg #[.int .i64 0, .int .i64 0, .int .i64 0, .int .i64 0], .str [(0, 44), (1, 44), (2, 44), (3, 3)]⟩ := ⟨by kernel_rfl, by kernel_rfl, by kernel_rfl, by kernel_rfl⟩
theorem tok48 : TOKt Tryd.prog 48 ⟨1, 8, .nilFunc, .func⟩ := ⟨by kernel_rfl, by kernel_rfl, by kernel_rfl, by kernel_rfl⟩
theorem tok49 : TOKt Tryd.prog 49 ⟨3, 24, .agg #[.int .i64 0, .int .i64 0, .int .i64 0], .arr 3 44⟩ := ⟨by kernel_rfl, by kernel_rfl, by kernel_rfl, by kernel_rfl⟩
theorem tok50 : TOKt Tryd.prog 50 ⟨3, 24, .agg #[.int .i64 0, .int .i64 0, .int .i64 0], .arr 3 3⟩ := ⟨by kernel_rfl, by kernel_rfl, by kernel_rfl, by kernel_rfl⟩
theorem tok51 : TOKt Tryd.prog 51 ⟨1, 8, .nilFunc, .func⟩ := ⟨by kernel_rfl, by kernel_rfl, by kernel_rfl, by kernel_rfl⟩
theorem tok52 : TOKt Tryd.prog 52 ⟨5, 48, .agg #[.string ⟨#[]⟩, .int .i64 0, .int .i64 0, .int .i64 0, .int .i64 0], .str [(0, 9), (1, 3), (2, 3), (3, 3), (4, 3)]⟩ := ⟨by kernel_rfl, by kernel_rfl, by kernel_rfl, by kernel_rfl⟩
theorem tok53 : TOKt Tryd.prog 53 ⟨5, 48, .agg #[.string ⟨#[]⟩, .int .i64 0, .int .i64 0, .int .i64 0, .int .i64 0], .str [(0, 9), (1, 3), (2, 3), (3, 3), (4, 3)]⟩ := ⟨by kernel_rfl, by kernel_rfl, by kernel_rfl, by kernel_rfl⟩
theorem tok54 : TOKt Tryd.prog 54 ⟨1, 8, .nilFunc, .func⟩ := ⟨by kernel_rfl, by kernel_rfl, by kernel_rfl, by kernel_rfl⟩
theorem tok55 : TOKt Tryd.prog 55 ⟨1, 8, .pointer none, .ptr 57⟩ := ⟨by kernel_rfl, by kernel_rfl, by kernel_rfl, by kernel_rfl⟩
theorem tok56 : TOKt Tryd.prog 56 ⟨5, 104, .agg #[.slice none 0 0, .slice none 0 0, .slice none 0 0, .slice none 0 0, .int .i64 0], .str [(0, 35), (2, 23), (3, 39), (4, 3)]⟩ := ⟨by kernel_rfl, by kernel_rfl, by kernel_rfl, by kernel_rfl⟩
theorem tok57 : TOKt Tryd.prog 57 ⟨5, 104, .agg #[.slice none 0 0, .slice none 0 0, .slice none 0 0, .slice none 0 0, .int .i64 0], .str [(0, 35), (2, 23), (3, 39), (4, 3)]⟩ := ⟨by kernel_rfl, by kernel_rfl, by kernel_rfl, by kernel_rfl⟩
theorem tok58 : TOKt Tryd.prog 58 ⟨1, 8, .nilFunc, .func⟩ := ⟨by kernel_rfl, by kernel_rfl, by kernel_rfl, by kernel_rfl⟩
theorem tok59 : TOKt Tryd.prog 59 ⟨1, 8, .nilFunc, .func⟩ := ⟨by kernel_rfl, by kernel_rfl, by kernel_rfl, by kernel_rfl⟩
theorem tok60 : TOKt Tryd.prog 60 ⟨1, 8, .pointer none, .ptr 63⟩ := ⟨by kernel_rfl, by kernel_rfl, by kernel_rfl, by kernel_rfl⟩
theorem tok61 : TOKt Tryd.prog 61 ⟨1, 24, .slice none 0 0, .slc 5⟩ := ⟨by kernel_rfl, by kernel_rfl, by kernel_rfl, by kernel_rfl⟩
theorem tok62 : TOKt Tryd.prog 62 ⟨2, 32, .agg #[.pointer none, .slice none 0 0], .str [(0, 60), (1, 61)]⟩ := ⟨by kernel_rfl, by kernel_rfl, by kernel_rfl, by kernel_rfl⟩
theorem tok63 : TOKt Tryd.prog 63 ⟨2, 32, .agg #[.pointer none, .slice none 0 0], .str [(0, 60), (1, 61)]⟩ := ⟨by kernel_rfl, by kernel_rfl, by kernel_rfl, by kernel_rfl⟩
theorem tok64 : TOKt Tryd.prog 64 ⟨1, 16, .nilIface, .iface⟩ := ⟨by kernel_rfl, by kernel_rfl, by kernel_rfl, by kernel_rfl⟩
theorem tok65 : TOKt Tryd.prog 65 ⟨1, 16, .nilIface, .iface⟩ := ⟨by kernel_rfl, by kernel_rfl, by kernel_rfl, by kernel_rfl⟩
theorem tok67 : TOKt Tryd.prog 67 ⟨1, 8, .nilFunc, .func⟩ := ⟨by kernel_rfl, by kernel_rfl, by kernel_rfl, by kernel_rfl⟩
theorem tok68 : TOKt Tryd.prog 68 ⟨1, 8, .nilFunc, .func⟩ := ⟨by kernel_rfl, by kernel_rfl, by kernel_rfl, by kernel_rfl⟩
theorem tok69 : TOKt Tryd.prog 69 ⟨1, 8, .nilFunc, .func⟩ := ⟨by kernel_rfl, by kernel_rfl, by kernel_rfl, by kernel_rfl⟩
theorem tok70 : TOKt Tryd.prog 70 ⟨1, 8, .nilFunc, .func⟩ := ⟨by kernel_rfl, by kernel_rfl, by kernel_rfl, by kernel_rfl⟩
theorem tok71 : TOKt Tryd.prog 71 ⟨1, 8, .nilFunc, .func⟩ := ⟨by kernel_rfl, by kernel_rfl, by kernel_rfl, by kernel_rfl⟩
theorem tok72 : TOKt Tryd.prog 72 ⟨1, 8, .nilFunc, .func⟩ := ⟨by kernel_rfl, by kernel_rfl, by kernel_rfl, by kernel_rfl⟩
theorem tok73 : TOKt Tryd.prog 73 ⟨1, 8, .nilFunc, .func⟩ := ⟨by kernel_rfl, by kernel_rfl, by kernel_rfl, by kernel_rfl⟩
theorem tok74 : TOKt Tryd.prog 74 ⟨1, 8, .nilFunc, .func⟩ := ⟨by kernel_rfl, by kernel_rfl, by kernel_rfl, by kernel_rfl⟩
theorem tok75 : TOKt Tryd.prog 75 ⟨1, 24, .slice none 0 0, .slc 76⟩ := ⟨by kernel_rfl, by kernel_rfl, by kernel_rfl, by kernel_rfl⟩
theorem tok76 : TOKt Tryd.prog 76 ⟨1, 24, .slice none 0 0, .slc 4⟩ := ⟨by kernel_rfl, by kernel_rfl, by kernel_rfl, by kernel_rfl⟩
theorem tok77 : TOKt Tryd.prog 77 ⟨1, 24, .slice none 0 0, .slc 9⟩ := ⟨by kernel_rfl, by kernel_rfl, by kernel_rfl, by kernel_rfl⟩
theorem tok78 : TOKt Tryd.prog 78 ⟨1, 8, .nilFunc, .func⟩ := ⟨by kernel_rfl, by kernel_rfl, by kernel_rfl, by kernel_rfl⟩
theorem tok79 : TOKt Tryd.prog 79 ⟨1, 8, .pointer none, .ptr 5⟩ := ⟨by kernel_rfl, by kernel_rfl, by kernel_rfl, by kernel_rfl⟩
theorem tok80 : TOKt Tryd.prog 80 ⟨1, 8, .nilFunc, .func⟩ := ⟨by kernel_rfl, by kernel_rfl, by kernel_rfl, by kernel_rfl⟩
theorem tok81 : TOKt Tryd.prog 81 ⟨1, 8, .nilFunc, .func⟩ := ⟨by kernel_rfl, by kernel_rfl, by kernel_rfl, by kernel_rfl⟩
theorem tok82 : TOKt Tryd.prog 82 ⟨1, 8, .nilFunc, .func⟩ := ⟨by kernel_rfl, by kernel_rfl, by kernel_rfl, by kernel_rfl⟩
theorem tok83 : TOKt Tryd.prog 83 ⟨1, 4, .int .u32 0, .int .u32⟩ := ⟨by kernel_rfl, by kernel_rfl, by kernel_rfl, by kernel_rfl⟩
theorem tok84 : TOKt Tryd.prog 84 ⟨1, 4, .int .u32 0, .int .u32⟩ := ⟨by kernel_rfl, by kernel_rfl, by kernel_rfl, by kernel_rfl⟩
theorem tok85 : TOKt Tryd.prog 85 ⟨1, 8, .map none, .map 3 84⟩ := ⟨by kernel_rfl, by kernel_rfl, by kernel_rfl, by kernel_rfl⟩
theorem tok86 : TOKt Tryd.prog 86 ⟨1, 8, .nilFunc, .func⟩ := ⟨by kernel_rfl, by kernel_rfl, by kernel_rfl, by kernel_rfl⟩
theorem tok89 : TOKt Tryd.prog 89 ⟨1, 8, .nilFunc, .func⟩ := ⟨by kernel_rfl, by kernel_rfl, by kernel_rfl, by kernel_rfl⟩
theorem tok90 : TOKt Tryd.prog 90 ⟨1, 8, .nilFunc, .func⟩ := ⟨by kernel_rfl, by kernel_rfl, by kernel_rfl, by kernel_rfl⟩
theorem tok91 : TOKt Tryd.prog 91 ⟨1, 8, .nilFunc, .func⟩ := ⟨by kernel_rfl, by kernel_rfl, by kernel_rfl, by kernel_rfl⟩
theorem tok92 : TOKt Tryd.prog 92 ⟨1, 8, .nilFunc, .func⟩ := ⟨by kernel_rfl, by kernel_rfl, by kernel_rfl, by kernel_rfl⟩
theorem tok93 : TOKt Tryd.prog 93 ⟨24, 24, .agg #[.int .u8 0, .int .u8 0, .int .u8 0, .int .u8 0, .int .u8 0, .int .u8 0, .int .u8 0, .int .u8 0, .int .u8 0, .int .u8 0, .int .u8 0, .int .u8 0, .int .u8 0, .int .u8 0, .int .u8 0, .int .u8 0, .int .u8 0, .int .u8 0, .int .u8 0, .int .u8 0, .int .u8 0, .int .u8 0, .int .u8 0, .int .u8 0], .arr 24 5⟩ := ⟨by kernel_rfl, by kernel_rfl, by kernel_rfl, by kernel_rfl⟩
theorem tok94 : TOKt Tryd.prog 94 ⟨1, 8, .int .u64 0, .int .u64⟩ := ⟨by kernel_rfl, by kernel_rfl, by kernel_rfl, by kernel_rfl⟩
theorem tok95 : TOKt Tryd.prog 95 ⟨1, 8, .nilFunc, .func⟩ := ⟨by kernel_rfl, by kernel_rfl, by kernel_rfl, by kernel_rfl⟩
theorem tok96 : TOKt Tryd.prog 96 ⟨1, 8, .nilFunc, .func⟩ := ⟨by kernel_rfl, by kernel_rfl, by kernel_rfl, by kernel_rfl⟩
theorem tok98 : TOKt Tryd.prog 98 ⟨1, 8, .nilFunc, .func⟩ := ⟨by kernel_rfl, by kernel_rfl, by kernel_rfl, by kernel_rfl⟩
theorem tok99 : TOKt Tryd.prog 99 ⟨1, 8, .nilFunc, .func⟩ := ⟨by kernel_rfl, by kernel_rfl, by kernel_rfl, by kernel_rfl⟩
theorem tok100 : TOKt Tryd.prog 100 ⟨1, 8, .nilFunc, .func⟩ := ⟨by kernel_rfl, by kernel_rfl, by kernel_rfl, by kernel_rfl⟩
theorem tok101 : TOKt Tryd.prog 101 ⟨20, 160, .agg #[.int .u64 0, .int .u64 0, .int .u64 0, .int .u64 0, .int .u64 0, .int .u64 0, .int .u64 0, .int .u64 0, .int .u64 0, .int .u64 0, .int .u64 0, .int .u64 0, .int .u64 0, .int .u64 0, .int .u64 0, .int .u64 0, .int .u64 0, .int .u64 0, .int .u64 0, .int .u64 0], .arr 20 94⟩ := ⟨by kernel_rfl, by kernel_rfl, by kernel_rfl, by kernel_rfl⟩
theorem tok102 : TOKt Tryd.prog 102 ⟨65, 65, .agg #[.int .u8 0, .int .u8 0, .int .u8 0, .int .u8 0, .int .u8 0, .int .u8 0, .int .u8 0, .int .u8 0, .int .u8 0, .int .u8 0, .int .u8 0, .int .u8 0, .int .u8 0, .int .u8 0, .int .u8 0, .int .u8 0, .int .u8 0, .int .u8 0, .int .u8 0, .int .u8 0, .int .u8 0, .int .u8 0, .int .u8 0, .int .u8 0, .int .u8 0, .int .u8 0, .int .u8 0, .int .u8 0, .int .u8 0, .int .u8 0, .int .u8 0, .int .u8 0, .int .u8 0, .int .u8 0, .int .u8 0, .int .u8 0, .int .u8 0, .int .u8 0, .int .u8 0, .int .u8 0, .int .u8 0, .int .u8 0, .int .u8 0, .int .u8 0, .int .u8 0, .int .u8 0, .int .u8 0, .int .u8 0, .int .u8 0, .int .u8 0, .int .u8 0, .int .u8 0, .int .u8 0, .int .u8 0, .int .u8 0, .int .u8 0, .int .u8 0, .int .u8 0, .int .u8 0, .int .u8 0, .int .u8 0, .int .u8 0, .int .u8 0, .int .u8 0, .int .u8 0], .arr 65 5⟩ := ⟨by kernel_rfl, by kernel_rfl, by kernel_rfl, by kernel_rfl⟩
theorem tok103 : TOKt Tryd.prog 103 ⟨1, 8, .int .u64 0, .int .u64⟩ := ⟨by kernel_rfl, by kernel_rfl, by kernel_rfl, by kernel_rfl⟩
theorem tok104 : TOKt Tryd.prog 104 ⟨1, 8, .nilFunc, .func⟩ := ⟨by kernel_rfl, by kernel_rfl, by kernel_rfl, by kernel_rfl⟩
theorem tok105 : TOKt Tryd.prog 105 ⟨1, 8, .nilFunc, .func⟩ := ⟨by kernel_rfl, by kernel_rfl, by kernel_rfl, by kernel_rfl⟩
theorem tok106 : TOKt Tryd.prog 106 ⟨32, 32, .agg #[.int .u8 0, .int .u8 0, .int .u8 0, .int .u8 0, .int .u8 0, .int .u8 0, .int .u8 0, .int .u8 0, .int .u8 0, .int .u8 0, .int .u8 0, .int .u8 0, .int .u8 0, .int .u8 0, .int .u8 0, .int .u8 0, .int .u8 0, .int .u8 0, .int .u8 0, .int .u8 0, .int .u8 0, .int .u8 0, .int .u8 0, .int .u8 0, .int .u8 0, .int .u8 0, .int .u8 0, .int .u8 0, .int .u8 0, .int .u8 0, .int .u8 0, .int .u8 0], .arr 32 5⟩ := ⟨by kernel_rfl, by kernel_rfl, by kernel_rfl, by kernel_rfl⟩
theorem tok107 : TOKt Tryd.prog 107 ⟨64, 64, .agg #[.int .u8 0, .int .u8 0, .int .u8 0, .int .u8 0, .int .u8 0, .int .u8 0, .int .u8 0, .int .u8 0, .int .u8 0, .int .u8 0, .int .u8 0, .int .u8 0, .int .u8 0, .int .u8 0, .int .u8 0, .int .u8 0, .int .u8 0, .int .u8 0, .int .u8 0, .int .u8 0, .int .u8 0, .int .u8 0, .int .u8 0, .int .u8 0, .int .u8 0, .int .u8 0, .int .u8 0, .int .u8 0, .int .u8 0, .int .u8 0, .int .u8 0, .int .u8 0, .int .u8 0, .int .u8 0, .int .u8 0, .int .u8 0, .int .u8 0, .int .u8 0, .int .u8 0, .int .u8 0, .int .u8 0, .int .u8 0, .int .u8 0, .int .u8 0, .int .u8 0, .int .u8 0, .int .u8 0, .int .u8 0, .int .u8 0, .int .u8 0, .int .u8 0, .int .u8 0, .int .u8 0, .int .u8 0, .int .u8 0, .int .u8 0, .int .u8 0, .int .u8 0, .int .u8 0, .int .u8 0, .int .u8 0, .int .u8 0, .int .u8 0, .int .u8 0], .arr 64 5⟩ := ⟨by kernel_rfl, by kernel_rfl, by kernel_rfl, by kernel_rfl⟩
theorem tok108 : TOKt Tryd.prog 108 ⟨4, 40, .agg #[.pointer none, .pointer none, .pointer none, .string ⟨#[]⟩], .str [(0, 17), (1, 17), (2, 17), (3, 9)]⟩ := ⟨by kernel_rfl, by kernel_rfl, by kernel_rfl, by kernel_rfl⟩
theorem tok109 : TOKt Tryd.prog 109 ⟨4, 40, .agg #[.pointer none, .pointer none, .pointer none, .string ⟨#[]⟩], .str [(0, 17), (1, 17), (2, 17), (3, 9)]⟩ := ⟨by kernel_rfl, by kernel_rfl, by kernel_rfl, by kernel_rfl⟩
theorem tok113 : TOKt Tryd.prog 113 ⟨1, 8, .nilFunc, .func⟩ := ⟨by kernel_rfl, by kernel_rfl, by kernel_rfl, by kernel_rfl⟩
theorem tok114 : TOKt Tryd.prog 114 ⟨1, 1, .int .u8 0, .int .u8⟩ := ⟨by kernel_rfl, by kernel_rfl, by kernel_rfl, by kernel_rfl⟩
theorem tok115 : TOKt Tryd.prog 115 ⟨1, 1, .int .u8 0, .int .u8⟩ := ⟨by kernel_rfl, by kernel_rfl, by kernel_rfl, by kernel_rfl⟩
theorem tok116 : TOKt Tryd.prog 116 ⟨1, 8, .nilFunc, .func⟩ := ⟨by kernel_rfl, by kernel_rfl, by kernel_rfl, by kernel_rfl⟩
theorem tok117 : TOKt Tryd.prog 117 ⟨1, 4, .int .i32 0, .int .i32⟩ := ⟨by kernel_rfl, by kernel_rfl, by kernel_rfl, by kernel_rfl⟩
theorem tok118 : TOKt Tryd.prog 118 ⟨1, 4, .int .i32 0, .int .i32⟩ := ⟨by kernel_rfl, by kernel_rfl, by kernel_rfl, by kernel_rfl⟩
theorem tok119 : TOKt Tryd.prog 119 ⟨11, 48, .agg #[.int .u64 0, .int .u64 0, .int .u32 0, .int .u8 0, .int .u8 0, .int .u8 0, .int .u8 0, .nilFunc, .pointer none, .int .i32 0, .int .i32 0], .str [(0, 12), (1, 12), (2, 83), (3, 114), (4, 5), (5, 5), (6, 115), (7, 116), (8, 79), (9, 117), (10, 118)]⟩ := ⟨by kernel_rfl, by kernel_rfl, by kernel_rfl, by kernel_rfl⟩
theorem tok120 : TOKt Tryd.prog 120 ⟨11, 48, .agg #[.int .u64 0, .int .u64 0, .int .u32 0, .int .u8 0, .int .u8 0, .int .u8 0, .int .u8 0, .nilFunc, .pointer none, .int .i32 0, .int .i32 0], .str [(0, 12), (1, 12), (2, 83), (3, 114), (4, 5), (5, 5), (6, 115), (7, 116), (8, 79), (9, 117), (10, 118)]⟩ := ⟨by kernel_rfl, by kernel_rfl, by kernel_rfl, by kernel_rfl⟩
theorem tabOK : TOK Tryd.prog tab := by
  intro t
  unfold tab
  split
  · exact .inr ⟨by decide, tok1⟩
  · exact .inr ⟨by decide, tok2⟩
  · exact .inr ⟨by decide, tok3⟩
  · exact .inr ⟨by decide, tok4⟩
  · exact .inr ⟨by decide, tok5⟩
  · exact .inr ⟨by decide, tok6⟩
  · exact .inr ⟨by decide, tok7⟩
  · exact .inr ⟨by decide, tok8⟩
  · exact .inr ⟨by decide, tok9⟩
  · exact .inr ⟨by decide, tok10⟩
  · exact .inr ⟨by decide, tok11⟩
  · exact .inr ⟨by decide, tok12⟩
  · exact .inr ⟨by decide, tok13⟩
  · exact .inr ⟨by decide, tok14⟩
  · exact .inr ⟨by decide, tok15⟩
  · exact .inr ⟨by decide, tok16⟩
  · exact .inr ⟨by decide, tok17⟩
  · exact .inr ⟨by decide, tok18⟩
  · exact .inr ⟨by decide, tok19⟩
  · exact .inr ⟨by decide, tok20⟩
  · exact .inr ⟨by decide, tok21⟩
  · exact .inr ⟨by decide, tok22⟩
  · exact .inr ⟨by decide, tok23⟩
  · exact .inr ⟨by decide, tok24⟩
  · exact .inr ⟨by decide, tok25⟩
  · exact .inr ⟨by decide, tok26⟩
  · exact .inr ⟨by decide, tok28⟩
  · exact .inr ⟨by decide, tok29⟩
  · exact .inr ⟨by decide, tok30⟩
  · exact .inr ⟨by decide, tok31⟩
  · exact .inr ⟨by decide, tok32⟩
  · exact .inr ⟨by decide, tok33⟩
  · exact .inr ⟨by decide, tok34⟩
  · exact .inr ⟨by decide, tok35⟩
  · exact .inr ⟨by decide, tok36⟩
  · exact .inr ⟨by decide, tok37⟩
  · exact .inr ⟨by decide, tok38⟩
  · exact .inr ⟨by decide, tok39⟩
  · exact .inr ⟨by decide, tok40⟩
  · exact .inr ⟨by decide, tok41⟩
  · exact .inr ⟨by decide, tok42⟩
  · exact .inr ⟨by decide, tok43⟩
  · exact .inr ⟨by decide, tok44⟩
  · exact .inr ⟨by decide, tok45⟩
  · exact .inr ⟨by decide, tok46⟩
  · exact .inr ⟨by decide, tok48⟩
  · exact .inr ⟨by decide, tok49⟩
  · exact .inr ⟨by decide, tok50⟩
  · exact .inr ⟨by decide, tok51⟩
  · exact .inr ⟨by decide, tok52⟩
  · exact .inr ⟨by decide, tok53⟩
  · exact .inr ⟨by decide, tok54⟩
  · exact .inr ⟨by decide, tok55⟩
  · exact .inr ⟨by decide, tok56⟩
  · exact .inr ⟨by decide, tok57⟩
  · exact .inr ⟨by decide, tok58⟩
  · exact .inr ⟨by decide, tok59⟩
  · exact .inr ⟨by decide, tok60⟩
  · exact .inr ⟨by decide, tok61⟩
  · exact .inr ⟨by decide, tok62⟩
  · exact .inr ⟨by decide, tok63⟩
  · exact .inr ⟨by decide, tok64⟩
  · exact .inr ⟨by decide, tok65⟩
  · exact .inr ⟨by decide, tok67⟩
  · exact .inr ⟨by decide, tok68⟩
  · exact .inr ⟨by decide, tok69⟩
  · exact .inr ⟨by decide, tok70⟩
  · exact .inr ⟨by decide, tok71⟩
  · exact .inr ⟨by decide, tok72⟩
  · exact .inr ⟨by decide, tok73⟩
  · exact .inr ⟨by decide, tok74⟩
  · exact .inr ⟨by decide, tok75⟩
  · exact .inr ⟨by decide, tok76⟩
  · exact .inr ⟨by decide, tok77⟩
  · exact .inr ⟨by decide, tok78⟩
  · exact .inr ⟨by decide, tok79⟩
  · exact .inr ⟨by decide, tok80⟩
  · exact .inr ⟨by decide, tok81⟩
  · exact .inr ⟨by decide, tok82⟩
  · exact .inr ⟨by decide, tok83⟩
  · exact .inr ⟨by decide, tok84⟩
  · exact .inr ⟨by decide, tok85⟩
  · exact .inr ⟨by decide, tok86⟩
  · exact .inr ⟨by decide, tok89⟩
  · exact .inr ⟨by decide, tok90⟩
  · exact .inr ⟨by decide, tok91⟩
  · exact .inr ⟨by decide, tok92⟩
  · exact .inr ⟨by decide, tok93⟩
  · exact .inr ⟨by decide, tok94⟩
  · exact .inr ⟨by decide, tok95⟩
  · exact .inr ⟨by decide, tok96⟩
  · exact .inr ⟨by decide, tok98⟩
  · exact .inr ⟨by decide, tok99⟩
  · exact .inr ⟨by decide, tok100⟩
  · exact .inr ⟨by decide, tok101⟩
  · exact .inr ⟨by decide, tok102⟩
  · exact .inr ⟨by decide, tok103⟩
  · exact .inr ⟨by decide, tok104⟩
  · exact .inr ⟨by decide, tok105⟩
  · exact .inr ⟨by decide, tok106⟩
  · exact .inr ⟨by decide, tok107⟩
  · exact .inr ⟨by decide, tok108⟩
  · exact .inr ⟨by decide, tok109⟩
  · exact .inr ⟨by decide, tok113⟩
  · exact .inr ⟨by decide, tok114⟩
  · exact .inr ⟨by decide, tok115⟩
  · exact .inr ⟨by decide, tok116⟩
  · exact .inr ⟨by decide, tok117⟩
  · exact .inr ⟨by decide, tok118⟩
  · exact .inr ⟨by decide, tok119⟩
  · exact .inr ⟨by decide, tok120⟩
  · exact .inl ⟨rfl, rfl⟩
end Go.Proofs.Tryd
end
section
namespace Go.AM
open Go

def dV {H : Type} (T : Tab) : Nat → TypeId → DataW H → List V
  | 0, _, _ => []
  | n + 1, t, d => match (T t).kind, d with
    | .int _, .lit (.int k m) => [.i k m]
    | .bool, .lit (.bool b) => [.b b]
    | .string, .lit (.string s) => [.s s]
    | .slc e, .nil => [.ro (T e).size []]
    | .slc e, .slice elems _ => [.ro (T e).size (elems.map (dV T n e))]
    | .str fs, .agg parts => (List.zipWith (fun (f : Nat × TypeId) p => dV T n f.2 p) fs parts).flatten
    | _, _ => []

/-- The form of what is read. -/
def shp (T : Tab) : Nat → TypeId → List V → Prop
  | 0, _, _ => False
  | n + 1, t, xs => match (T t).kind with
    | .int k => ∃ m, (Lit.int k m).wf = true ∧ xs = [.i k m]
    | .bool => ∃ b, xs = [.b b]
    | .string => ∃ s : List UInt8, s.length ≤ most ∧ xs = [.s s]
    | .slc e => ∃ es : List (List V), es.length ≤ most ∧ xs = [.ro (T e).size es] ∧ ∀ l ∈ es, shp T n e l
    | .str fs => ∃ yss : List (List V), xs = yss.flatten ∧ yss.length = fs.length ∧ ∀ (i : Nat) (f : Nat × TypeId) (ys : List V), fs[i]? = some f → yss[i]? = some ys → shp T n f.2 ys
    | _ => False

def contig (T : Tab) : Nat → List (Nat × TypeId) → Nat → Bool
  | off, [], total => off == total
  | off, f :: r, total => f.1 == off && contig T (off + (T f.2).size) r total

def okT (T : Tab) : Nat → TypeId → Bool
  | 0, _ => false
  | n + 1, t => match (T t).kind with
    | .int _ | .bool | .string => (T t).size == 1
    | .slc e => (T t).size == 1 && okT T n e
    | .str fs => contig T 0 fs (T t).size && fs.all (fun f => okT T n f.2) && (T t).size != 0
    | _ => false

section
variable {H : Type} {enc : TypeId × Value → H} {P : Program} {T : Tab} {w : World} {base : Nat} {spare : Nat → Bool} {held : Bool} {ok : Nat → Prop}

def Reads (ok : Nat → Prop) (w : World) (n : Nat) (xs : List V) (cs : List Value) : Prop :=
  xs.length = n ∧ cs.length = n ∧ ∀ (j : Nat) (x : V) (u : Value), xs[j]? = some x → cs[j]? = some u → PRel ok w x u

theorem Reads.one {x : V} {u : Value} (h : PRel ok w x u) : Reads ok w 1 [x] [u] := by
  refine ⟨rfl, rfl, fun j y z hy hz => ?_⟩
  cases j with
  | zero => simp only [List.getElem?_cons_zero, Option.some.injEq] at hy hz; subst hy; subst hz; exact h
  | succ j => simp at hy

theorem Reads.append {n m : Nat} {xs ys : List V} {cs ds : List Value} (h : Reads ok w n xs cs) (h' : Reads ok w m ys ds) : Reads ok w (n + m) (xs ++ ys) (cs ++ ds) := by
  obtain ⟨h1, h2, h3⟩ := h
  obtain ⟨g1, g2, g3⟩ := h'
  refine ⟨by simp [h1, g1], by simp [h2, g2], fun j x u hx hu => ?_⟩
  rw [List.getElem?_append] at hx hu
  rw [h1] at hx; rw [h2] at hu
  split at hx
  · rw [if_pos (by assumption)] at hu; exact h3 j x u hx hu
  · rw [if_neg (by assumption)] at hu; exact g3 _ x u hx hu

theorem cellsOf_tab (hT : TOK P T) {t : TypeId} (h : (T t).size ≠ 0) : P.cellsOf t = (T t).size := by
  obtain ⟨i, d, h1, _, h3, _⟩ := hT.get h
  simp [Program.cellsOf, h1, h3]

theorem okT_size {n : Nat} {t : TypeId} (h : okT T n t = true) : (T t).size ≠ 0 := by
  cases n with
  | zero => cases h
  | succ n =>
    unfold okT at h
    split at h
    · simp at h; omega
    · simp at h; omega
    · simp at h; omega
    · simp at h; omega
    · simp at h; exact h.2
    · cases h

theorem reads_fields {n : Nat} (cs : List Value) (ih : ∀ f : Nat × TypeId, okT T n f.2 = true → ∀ cs' (x : DataW H × List MemPlace), (∃ m, DataW.trod enc P w base spare held m f.2 cs' = some x) → Reads ok w (T f.2).size (dV T n f.2 x.1) cs' ∧ shp T n f.2 (dV T n f.2 x.1)) (hT : TOK P T) :
    ∀ (fs : List (Nat × TypeId)) (xs : List (DataW H × List MemPlace)) (off total : Nat), contig T off fs total = true → (fs.all fun f => okT T n f.2) = true → total ≤ cs.length → fs.length = xs.length →
      (∀ (i : Nat) (f : Nat × TypeId), fs[i]? = some f → ∃ m, DataW.trod enc P w base spare held m f.2 ((cs.drop f.1).take (P.cellsOf f.2)) = xs[i]?) →
      off ≤ total ∧ Reads ok w (total - off) (List.zipWith (fun (f : Nat × TypeId) p => dV T n f.2 p) fs (xs.map (·.1))).flatten ((cs.drop off).take (total - off))
  | [], xs, off, total, hc, _, _, hl, _ => by
    simp [contig] at hc
    subst hc
    simp only [Nat.sub_self, List.zipWith_nil_left, List.flatten_nil, List.take_zero]
    exact ⟨Nat.le_refl _, rfl, rfl, fun j x u hx => by simp at hx⟩
  | f :: fs, [], _, _, _, _, _, hl, _ => by simp at hl
  | f :: fs, x :: xs, off, total, hc, ha, ht, hl, hx => by
    simp only [contig, Bool.and_eq_true, beq_iff_eq] at hc
    simp only [List.all_cons, Bool.and_eq_true] at ha
    obtain ⟨hle, h2⟩ := reads_fields cs ih hT fs xs (off + (T f.2).size) total hc.2 ha.2 ht (by simpa using hl) (fun i g hg => by simpa using hx (i + 1) g (by simpa using hg))
    obtain ⟨m, h0⟩ := hx 0 f rfl
    rw [List.getElem?_cons_zero] at h0
    have h1 := (ih f ha.1 _ x ⟨m, h0⟩).1
    rw [cellsOf_tab hT (okT_size ha.1), hc.1] at h1
    refine ⟨by omega, ?_⟩
    have h3 := h1.append h2
    rw [show (T f.2).size + (total - (off + (T f.2).size)) = total - off by omega] at h3
    have e : (cs.drop off).take (T f.2).size ++ (cs.drop (off + (T f.2).size)).take (total - (off + (T f.2).size)) = (cs.drop off).take (total - off) := by
      rw [← List.drop_drop, show total - off = (T f.2).size + (total - (off + (T f.2).size)) by omega, List.take_add]
    rw [e] at h3
    simpa using h3

theorem reads_data (hT : TOK P T) (hok : ∀ b, b < w.heap.size → ok b) : ∀ (n : Nat) (t : TypeId), okT T n t = true → ∀ (m : Nat) (cs : List Value) (x : DataW H × List MemPlace),
    DataW.trod enc P w base spare held m t cs = some x → Reads ok w (T t).size (dV T n t x.1) cs ∧ shp T n t (dV T n t x.1)
  | 0, t, h, _, _, _, _ => by cases h
  | n + 1, t, h, m, cs, x, hx => by
    have hs := okT_size h
    unfold okT at h
    split at h
    · rename_i k hk
      obtain ⟨v, rfl, rfl, hw⟩ := DataW.trod_int (hT.int hk) hx
      simp only [beq_iff_eq] at h
      rw [h]
      simp only [dV, shp, hk]
      exact ⟨.one (.i _ _), v, hw, rfl⟩
    · rename_i hk
      obtain ⟨v, rfl, rfl⟩ := DataW.trod_bool (hT.bool hk) hx
      simp only [beq_iff_eq] at h
      rw [h]
      simp only [dV, shp, hk]
      exact ⟨.one (.b _), v, rfl⟩
    · rename_i hk
      obtain ⟨v, rfl, rfl, hw⟩ := DataW.trod_string (hT.string hk) hx
      simp only [beq_iff_eq] at h
      rw [h]
      simp only [dV, shp, hk]
      exact ⟨.one (.s _), _, by rw [Array.length_toList]; exact hw, rfl⟩
    · rename_i e hk
      simp only [Bool.and_eq_true, beq_iff_eq] at h
      have hse := okT_size h.2
      have hce := cellsOf_tab hT hse
      rw [h.1]
      rcases DataW.trod_slice (hT.slc hk) hx with ⟨rfl, rfl⟩ | ⟨a, len, cap, elems, rest, m', rfl, rfl, rfl, hb, hlc, hcap, hlen, hel, _, _⟩
      · simp only [dV, shp, hk]
        exact ⟨.one (.ro0 _ _ _), [], Nat.zero_le _, rfl, fun l hl => by cases hl⟩
      · simp only [dV, shp, hk]
        rw [hce] at hel
        have key : ∀ i, i < len → ∃ cs', w.cells? base (a.add (i * (T e).size)) (T e).size = some cs' ∧ ∃ y, elems[i]? = some y ∧ Reads ok w (T e).size (dV T n e y.1) cs' ∧ shp T n e (dV T n e y.1) := by
          intro i hi
          have h1 := hel i hi
          rw [List.getElem?_eq_getElem (by omega)] at h1 ⊢
          obtain ⟨cs', h2, h3⟩ := Option.bind_eq_some_iff.1 h1
          exact ⟨cs', h2, _, rfl, reads_data hT hok n e h.2 m' cs' _ h3⟩
        refine ⟨.one ?_, _, ?_, rfl, ?_⟩
        rotate_left
        · simp only [List.length_map, hlen]; unfold maxLen at hcap; unfold most; omega
        · intro l hl
          rw [List.map_map] at hl
          obtain ⟨i, hi⟩ := List.mem_iff_getElem?.1 hl
          rw [List.getElem?_map] at hi
          cases hq : elems[i]? with
          | none => rw [hq] at hi; cases hi
          | some y0 =>
            rw [hq] at hi
            obtain rfl := Option.some.inj hi
            obtain ⟨_, _, y, h2, _, h3⟩ := key i (by rw [← hlen]; exact (List.getElem?_eq_some_iff.1 hq).1)
            rw [hq] at h2
            obtain rfl := Option.some.inj h2
            exact h3
        cases len with
        | zero =>
          have : elems = [] := List.eq_nil_of_length_eq_zero hlen
          subst this
          exact .ro0 _ _ _
        | succ len =>
          obtain ⟨cs0, h0, _⟩ := key 0 (by omega)
          obtain ⟨_, hl0, hc0⟩ := World.cells?_some h0
          have hcell := hc0 0 (by omega)
          rw [List.getElem?_eq_getElem (by omega)] at hcell
          have hspot : a.spot = none ∧ a.block < w.heap.size := by
            simp only [Nat.zero_mul, Addr.add, if_true] at hcell
            unfold World.cell? at hcell
            split at hcell
            · rename_i c _ _ hbk
              refine ⟨?_, (Array.getElem?_eq_some_iff.1 hbk).1⟩
              cases hq : a.spot with
              | none => rfl
              | some _ => rw [hq] at hcell; simp at hcell
            · cases hcell
          obtain ⟨blk, off, sp⟩ := a
          obtain ⟨h4, h5⟩ := hspot
          simp only at h4 h5
          subst h4
          have hlen' : (elems.map fun x => dV T n e x.1).length = len + 1 := by simpa using hlen
          have hrow : ∀ i j, i < len + 1 → j < (T e).size → ∃ u, w.cell? ⟨blk, off + i * (T e).size + j, none⟩ = some u ∧ ∀ y, ((elems.map fun x => dV T n e x.1)[i]?).bind (fun l => l[j]?) = some y → PRel ok w y u := by
            intro i j hi hj
            obtain ⟨cs', h1, y, h2, h3⟩ := key i hi
            obtain ⟨_, hl1, hc1⟩ := World.cells?_some h1
            have h4 := hc1 j hj
            rw [List.getElem?_eq_getElem (by omega)] at h4
            rw [Addr.add_none, Addr.add_none] at h4
            refine ⟨_, h4, fun z hz => ?_⟩
            rw [List.getElem?_map, h2] at hz
            exact h3.1.2.2 j z _ hz (List.getElem?_eq_getElem (by omega))
          rw [List.map_map]
          have := PRel.ro (ok := ok) (w := w) (T e).size (elems.map fun x => dV T n e x.1) blk off cap (fun i j => (w.cell? ⟨blk, off + i * (T e).size + j, none⟩).getD undef) (hok _ h5) h5
            (fun l hl => by
              obtain ⟨i, hi⟩ := List.mem_iff_getElem?.1 hl
              have hi' : i < len + 1 := by rw [← hlen']; exact (List.getElem?_eq_some_iff.1 hi).1
              obtain ⟨cs', _, y, h2, h3⟩ := key i hi'
              rw [List.getElem?_map, h2] at hi
              obtain rfl := Option.some.inj hi
              exact h3.1.1)
            (by omega) (by rw [hlen']; unfold maxLen at hcap; unfold most; omega)
            (fun i j hi hj => by
              rw [hlen'] at hi
              obtain ⟨u, h1, _⟩ := hrow i j hi hj
              rw [h1]; rfl)
            (fun i j y hy => by
              have hi : i < len + 1 := by
                rw [← hlen']
                cases hq : (elems.map fun x => dV T n e x.1)[i]? with
                | none => rw [hq] at hy; cases hy
                | some l => exact (List.getElem?_eq_some_iff.1 hq).1
              have hj : j < (T e).size := by
                obtain ⟨cs', _, z, h2, h3⟩ := key i hi
                rw [List.getElem?_map, h2] at hy
                rw [← h3.1.1]
                exact (List.getElem?_eq_some_iff.1 (show (dV T n e z.1)[j]? = some y from hy)).1
              obtain ⟨u, h1, h2⟩ := hrow i j hi hj
              rw [h1]
              exact h2 y hy)
          rw [hlen'] at this
          exact this
    · rename_i fs hk
      simp only [Bool.and_eq_true] at h
      obtain ⟨fields, hu, hfs⟩ := hT.str hk
      obtain ⟨xs, m', rfl, rfl, hlen, hxl, hxf⟩ := DataW.trod_struct hu hx
      simp only [dV, hk]
      rw [cellsOf_tab hT hs] at hlen
      have := reads_fields (n := n) cs (fun f hf cs' y ⟨q, hq⟩ => reads_data hT hok n f.2 hf q cs' y hq) hT fs xs 0 (T t).size h.1.1 h.1.2 (by omega) (by rw [← hfs]; simp [hxl])
        (fun i f hf => by
          rw [← hfs, List.getElem?_map] at hf
          cases hq : fields.toList[i]? with
          | none => rw [hq] at hf; cases hf
          | some g =>
            rw [hq] at hf
            obtain rfl := Option.some.inj hf
            exact ⟨m', hxf i g (by simpa using hq)⟩)
      have h2 := this.2
      rw [Nat.sub_zero, List.drop_zero, ← hlen, List.take_length] at h2
      simp only [shp, hk]
      refine ⟨by rw [← hlen]; exact h2, _, rfl, by simp [← hfs, hxl], fun i f ys hf hy => ?_⟩
      rw [List.getElem?_zipWith] at hy
      rw [hf] at hy
      cases hq : (xs.map (·.1))[i]? with
      | none => rw [hq] at hy; cases hy
      | some y =>
        rw [hq] at hy
        obtain rfl := Option.some.inj hy
        rw [List.getElem?_map] at hq
        cases hq2 : xs[i]? with
        | none => rw [hq2] at hq; cases hq
        | some y2 =>
          rw [hq2] at hq
          obtain rfl := Option.some.inj hq
          have hf' := hf
          rw [← hfs, List.getElem?_map] at hf'
          cases hq3 : fields.toList[i]? with
          | none => rw [hq3] at hf'; cases hf'
          | some g =>
            rw [hq3] at hf'
            obtain rfl := Option.some.inj hf'
            have h5 := hxf i g (by simpa using hq3)
            rw [hq2] at h5
            exact (reads_data hT hok n g.type (List.all_eq_true.1 h.1.2 _ (List.mem_of_getElem? hf)) m' _ _ h5).2
    · cases h

end

end Go.AM
end
section
namespace Go.AM
open Go

section
variable {H : Type} {enc : TypeId × Value → H} {P : Program} {T : Tab}

theorem okc_nil (W : World) (m : Locs) (b : Nat) : okc ⟨W, ownOf m [], fun _ => True, dirOf m []⟩ m [] b :=
  ⟨.inl trivial, fun o _ _ h => by simp [List.getD] at h; exact h.elim⟩

theorem QC.truth {f : FuncId} {args : List V} (h : QC P f args [] (.b true) []) {W : World} (hG : GOK P W fun _ => False) {vs : Array Value} (hs : vs.size = args.length)
    (hr : ∀ (ok : Nat → Prop), (∀ b, ok b) → ∀ (D : Dir) (j : Nat) (x : V) (u : Value), args[j]? = some x → vs[j]? = some u → VRel D ok W x u) :
    Calls P f vs W fun e W' => e = .returned (.bool true) ∧ RowKit.Below W.heap.size W W' := by
  have hl : ∀ o, ([] : List Ob).getD o .unborn = .unborn := fun o => by simp [List.getD]
  have R : HRel ⟨W, ownOf (fun _ => none) [], fun _ => True, dirOf (fun _ => none) []⟩ (fun _ => none) [] W :=
    { ext := .refl _ _, blk := fun o _ _ h => by rw [hl] at h; exact h.elim, inj := fun o _ _ _ _ h => by rw [hl] at h; exact h.elim,
      obs := fun o => by rw [hl]; trivial, new := fun o _ _ h => by rw [hl] at h; exact h.elim, dle := fun o d h => ⟨d, h, .refl d⟩ }
  refine (h.2 W vs (fun _ => none) (fun _ => True) (fun e he => ⟨(hG e he).1, fun g hg => ⟨((hG e he).2 g hg).1, by rintro ⟨o, off, hlv, _⟩; rw [hl] at hlv; exact hlv.elim⟩⟩) R hs (hr _ (okc_nil W _) _)).mono ?_
  rintro e W' ⟨v, m', rfl, R', hv⟩
  have hv := hv.b_inv
  subst hv
  refine ⟨rfl, ⟨R'.ext.os, R'.ext.tape, R'.ext.output, R'.ext.size, fun b hb => R'.ext.block b hb ?_⟩⟩
  rintro ⟨o, off, hlv, _⟩
  rw [hl] at hlv
  exact hlv.elim

theorem arg_struct (hT : TOK P T) {W : World} {base : Nat} {t : TypeId} {v : Value} {d : DataW H} {p : List MemPlace} {fs : List (Nat × TypeId)} {n : Nat} (hk : (T t).kind = .str fs) (ho : okT T n t = true)
    (hv : Value.okWide P W .any base t v) {sp : Nat → Bool} {hd : Bool} {bs : Nat} (h : DataW.Trod enc P W bs sp hd t v d p) :
    ∃ xs, shp T n t xs ∧ ∀ (ok : Nat → Prop), (∀ b, ok b) → ∀ (D : Dir), VRel D ok W (.agg xs) v := by
  obtain ⟨fields, hu, _⟩ := hT.str hk
  unfold Value.okWide at hv
  simp only [hu] at hv
  obtain ⟨cs, rfl, _, _⟩ := hv
  obtain ⟨fuel, hf⟩ := h
  refine ⟨_, (reads_data hT (ok := fun _ => True) (fun _ _ => trivial) n t ho fuel _ _ hf).2, fun ok hok D => ?_⟩
  obtain ⟨h1, h2, h3⟩ := (reads_data hT (ok := ok) (fun b _ => hok b) n t ho fuel _ _ hf).1
  have := VRel.agg (D := D) (ok := ok) (w := W) (dV T n t d) cs.toList (by rw [h1]; exact h2) (fun u hu => by
    obtain ⟨j, hj⟩ := List.mem_iff_getElem?.1 hu
    have hlt : j < cs.toList.length := (List.getElem?_eq_some_iff.1 hj).1
    have hlt2 : j < (dV T n t d).length := by rw [h1]; rw [show cs.toList.length = _ from h2] at hlt; exact hlt
    exact (h3 j _ u (List.getElem?_eq_getElem hlt2) hj).one) (fun j x u hx hu => .pure (h3 j x u hx hu))
  simpa using this

end

end Go.AM
end
section
namespace Go.AM
open Go

inductive Ctl (ρ ν : Type) where
  | ret (r : ρ)
  | go (v : ν)

section
variable {α β ρ ν μ : Type}

def Ctl.bind (c : Ctl ρ ν) (f : ν → Ctl ρ μ) : Ctl ρ μ := match c with
  | .ret r => .ret r
  | .go v => f v
def Ctl.run (c : Ctl ρ ν) (f : ν → ρ) : ρ := match c with
  | .ret r => r
  | .go v => f v
def bnd (a : α) (f : α → β) : β := f a
theorem Ctl.bind_ret {r : ρ} {f : ν → Ctl ρ μ} : (Ctl.ret r : Ctl ρ ν).bind f = .ret r := rfl
theorem Ctl.bind_go {v : ν} {f : ν → Ctl ρ μ} : (Ctl.go v : Ctl ρ ν).bind f = f v := rfl
theorem Ctl.run_ret {r : ρ} {f : ν → ρ} : (Ctl.ret r : Ctl ρ ν).run f = r := rfl
theorem Ctl.run_go {v : ν} {f : ν → ρ} : (Ctl.go v : Ctl ρ ν).run f = f v := rfl
theorem bnd_eq {a : α} {f : α → β} : bnd a f = f a := rfl
theorem bnd_split {a : α} {f : α → β} {r : β} (h : bnd a f = r) : ∃ z, a = z ∧ bnd z f = r := ⟨a, rfl, h⟩
theorem run_split {c : Ctl ρ ν} {f : ν → ρ} {r : ρ} (h : c.run f = r) : ∃ z, c = z ∧ z.run f = r := ⟨c, rfl, h⟩
theorem bind_split {c : Ctl ρ ν} {f : ν → Ctl ρ μ} {r : Ctl ρ μ} (h : c.bind f = r) : ∃ z, c = z ∧ z.bind f = r := ⟨c, rfl, h⟩
theorem bnd_on {z v : α} {f : α → β} {r : β} (h : bnd z f = r) (e : z = v) : f v = r := by subst e; exact h
theorem run_on {z : Ctl ρ ν} {v : ν} {f : ν → ρ} {r : ρ} (h : z.run f = r) (e : z = .go v) : f v = r := by subst e; exact h
theorem bind_on {z : Ctl ρ ν} {v : ν} {f : ν → Ctl ρ μ} {r : Ctl ρ μ} (h : z.bind f = r) (e : z = .go v) : f v = r := by subst e; exact h
theorem run_back {z : Ctl ρ ν} {q : ρ} {f : ν → ρ} {r : ρ} (h : z.run f = r) (e : .ret q = z) : q = r := by subst e; exact h
theorem bind_back {z : Ctl ρ ν} {q : ρ} {f : ν → Ctl ρ μ} {r : Ctl ρ μ} (h : z.bind f = r) (e : .ret q = z) : .ret q = r := by subst e; exact h
theorem pos_on {c : Prop} [Decidable c] {a b r : α} (h : (if c then a else b) = r) (hc : c) : a = r := by rwa [if_pos hc] at h
theorem neg_on {c : Prop} [Decidable c] {a b r : α} (h : (if c then a else b) = r) (hc : ¬ c) : b = r := by rwa [if_neg hc] at h
end

section
variable {P : Program} {k : Nat} {K : Exit → St → Prop} {σ : St}

/-- Wherever code comes to its end, its states are told anew. -/
theorem EV.nrm {α : Type} (I : α → St) {c : Code} (h1 : EV P k c σ (thenK (Join k I) K)) (h2 : ∀ z, K .normal (I z)) : EV P k c σ K := by
  intro E a w hE hr
  refine wp_mono (h1 E a w hE hr) ?_
  rintro e a' w' ⟨σ', h3, h4⟩
  cases e with
  | normal =>
    obtain ⟨y, hy⟩ := h3
    exact ⟨I y, h2 y, hy E a' w' hE.1 h4⟩
  | _ => exact ⟨σ', h3, h4⟩

theorem PRel.rowLen {ok : Nat → Prop} {w : World} {sz : Nat} {es : List (List V)} {u : Value} (h : PRel ok w (.ro sz es) u) : es.length ≤ most := by
  cases h with
  | ro0 => exact Nat.zero_le _
  | ro _ _ _ _ _ _ _ _ _ _ hm => exact hm

/-- A row that a slot holds is not too long. -/
theorem EV.room (j : Nat) {sz : Nat} {es : List (List V)} {c : Code} (hj : σ.t[j]? = some (.ro sz es)) (h : es.length ≤ 9223372036854775807 → EV P k c σ K) : EV P k c σ K := by
  intro E a w hE hr
  obtain ⟨m, R⟩ := hr
  have h1 := R.tmps j
  have h2 : σ.t.getD j .junk = .ro sz es := by rw [List.getD, hj]; rfl
  rw [h2] at h1
  cases h1 with
  | pure hp => exact h hp.rowLen E a w hE ⟨m, R⟩

/-- So is one that a cell of an object holds. -/
theorem EV.roomC (o i j : Nat) {sz ep n : Nat} {es xs : List (List V)} {c : Code} (ho : σ.h.getD o .unborn = .arr ep n xs) (hj : (xs[i]?).bind (fun l => l[j]?) = some (.ro sz es)) (h : es.length ≤ 9223372036854775807 → EV P k c σ K) : EV P k c σ K := by
  intro E a w hE hr
  obtain ⟨m, R⟩ := hr
  have h1 := R.obs o
  rw [ho] at h1
  obtain ⟨_, _, _, h4⟩ := h1
  cases hm : m o with
  | none =>
    rw [hm] at h4
    have : xs = [] := h4
    rw [this] at hj
    simp at hj
  | some l =>
    obtain ⟨blk, off⟩ := l
    rw [hm] at h4
    obtain ⟨cl, e, _, _, hcs⟩ := h4
    obtain ⟨u, _, _, hv⟩ := hcs i j _ hj
    cases hv with
    | pure hp => exact h hp.rowLen E a w hE ⟨m, R⟩

/-- And one of the call's own. -/
theorem EV.roomO (o : Nat) {ep n : Nat} {xs : List (List V)} {c : Code} (ho : σ.h.getD o .unborn = .arr ep n xs) (h : xs.length ≤ 9223372036854775807 → EV P k c σ K) : EV P k c σ K := by
  intro E a w hE hr
  obtain ⟨m, R⟩ := hr
  have h1 := R.obs o
  rw [ho] at h1
  exact h h1.2.2.1 E a w hE ⟨m, R⟩

end

/-- Conversions, as equations. -/
def cvE (lk : Nat → Ob) (x : V) : TK → Option (V × List (Nat × Ob))
  | .int .u8 => (elemsOf 1 lk x).bind fun es => (bytesOf es).map fun l => (.s l, [])
  | _ => none
def cvK (T : Tab) (lk : Nat → Ob) (x : V) : TK → Option (V × List (Nat × Ob))
  | .slc e => cvE lk x (T e).kind
  | _ => none
def cvV (T : Tab) (src : TypeId) (lk : Nat → Ob) : TK → V → Option (V × List (Nat × Ob))
  | .int k, .i _ n => some (.i k (k.wrap n), [])
  | .string, .s u => some (.s u, [])
  | .string, x => cvK T lk x (T src).kind
  | _, _ => none
section
variable {T : Tab} {ev : Operand → V} {lk : Nat → Ob} {nx : Nat}
theorem step_convert {src dst : TypeId} {x : Operand} : step T (.convert src dst x) ev lk nx = if (T src).size ≠ 0 then cvV T src lk (T dst).kind (ev x) else none := by
  simp only [step]
  split
  · generalize ev x = y
    generalize (T dst).kind = kd
    cases kd <;> cases y <;> first | rfl | (simp only [cvV, cvK]; cases (T src).kind <;> first | rfl | (rename_i e; simp only [cvE]; generalize (T e).kind = ke; cases ke <;> first | rfl | (rename_i ki; cases ki <;> first | rfl | (cases elemsOf 1 lk _ <;> rfl))))
  · rfl
theorem cvV_i {src : TypeId} {k k' : IntKind} {n : Int} : cvV T src lk (.int k) (.i k' n) = some (.i k (k.wrap n), []) := rfl
theorem cvV_s {src : TypeId} {u : List UInt8} : cvV T src lk .string (.s u) = some (.s u, []) := rfl
theorem cvV_sl {src : TypeId} {o ep off n : Nat} : cvV T src lk .string (.sl o ep off n) = cvK T lk (.sl o ep off n) (T src).kind := rfl
theorem cvV_ro {src : TypeId} {sz : Nat} {es : List (List V)} : cvV T src lk .string (.ro sz es) = cvK T lk (.ro sz es) (T src).kind := rfl
theorem cvK_slc {x : V} {e : TypeId} : cvK T lk x (.slc e) = cvE lk x (T e).kind := rfl
theorem cvE_u8 {x : V} : cvE lk x (.int .u8) = (elemsOf 1 lk x).bind fun es => (bytesOf es).map fun l => (.s l, []) := rfl
end
end Go.AM
end
