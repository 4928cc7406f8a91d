/- The program's table of types, how arguments are read, what a printed walk needs, and an interpreter of closed calls. -/
import Derived.Test.YtakfpmogpnoibaaGreatDoorProg
import Derived.ChangeArms
import Derived.OpenShut
import Derived.ProofKit
import Derived.LoopN
import Derived.SizedLaws
import Derived.Defers
import Derived.Handed
import Derived.JoinedCond
import Derived.Stop.Joined
import Derived.LaidLaws
import Derived.Test.YtakfpmogpnoibaaGreatDoorMachC
import Derived.Test.YtakfpmogpnoibaaGreatDoorMachE
set_option linter.unusedVariables false
set_option linter.unusedSimpArgs false
set_option linter.constructorNameAsVariable false
section
namespace Go.Proofs.Tryz
open Go Go.AM
def tab_0 : Tab := fun t => match t with
 | 1 => ⟨1, 8, .nilFunc, .func⟩
 | 2 => ⟨1, 8, .int .i64 0, .int .i64⟩
 | 3 => ⟨1, 8, .int .i64 0, .int .i64⟩
 | 4 => ⟨1, 1, .bool false, .bool⟩
 | 5 => ⟨1, 1, .int .u8 0, .int .u8⟩
 | 6 => ⟨1, 1, .int .u8 0, .int .u8⟩
 | 7 => ⟨4, 24, .agg #[.int .i64 0, .int .i64 0, .bool false, .int .u8 0], .str [(0, 2), (1, 3), (2, 4), (3, 6)]⟩
 | 8 => ⟨4, 24, .agg #[.int .i64 0, .int .i64 0, .bool false, .int .u8 0], .str [(0, 2), (1, 3), (2, 4), (3, 6)]⟩
 | 9 => ⟨1, 16, .string ⟨#[]⟩, .string⟩
 | 20 => ⟨1, 16, .nilIface, .iface⟩
 | 22 => ⟨1, 24, .slice none 0 0, .slc 86⟩
 | 23 => ⟨1, 24, .slice none 0 0, .slc 89⟩
 | 24 => ⟨1, 24, .slice none 0 0, .slc 35⟩
 | 26 => ⟨3, 72, .agg #[.slice none 0 0, .slice none 0 0, .slice none 0 0], .str [(0, 22), (1, 23), (2, 24)]⟩
 | 32 => ⟨1, 24, .slice none 0 0, .slc 52⟩
 | 33 => ⟨1, 24, .slice none 0 0, .slc 100⟩
 | 35 => ⟨4, 72, .agg #[.string ⟨#[]⟩, .slice none 0 0, .slice none 0 0, .int .i64 0], .str [(0, 9), (1, 33), (2, 32), (3, 3)]⟩
 | 36 => ⟨1, 8, .int .i64 0, .int .i64⟩
 | 37 => ⟨1, 24, .slice none 0 0, .slc 79⟩
 | 39 => ⟨2, 40, .agg #[.string ⟨#[]⟩, .slice none 0 0], .str [(0, 9), (1, 37)]⟩
 | 41 => ⟨4, 56, .agg #[.bool false, .int .i64 0, .string ⟨#[]⟩, .slice none 0 0], .str [(0, 4), (1, 3), (2, 39)]⟩
 | 42 => ⟨1, 8, .int .i64 0, .int .i64⟩
 | 43 => ⟨1, 24, .slice none 0 0, .slc 45⟩
 | 45 => ⟨3, 48, .agg #[.int .i64 0, .string ⟨#[]⟩, .slice none 0 0], .str [(0, 42), (1, 9), (2, 43)]⟩
 | 46 => ⟨1, 8, .int .i64 0, .int .i64⟩
 | 47 => ⟨1, 24, .slice none 0 0, .slc 41⟩
 | 49 => ⟨6, 104, .agg #[.int .i64 0, .slice none 0 0, .string ⟨#[]⟩, .slice none 0 0, .string ⟨#[]⟩, .string ⟨#[]⟩], .str [(0, 46), (1, 47), (2, 39), (4, 9), (5, 9)]⟩
 | 50 => ⟨1, 24, .slice none 0 0, .slc 136⟩
 | 52 => ⟨21, 352, .agg #[.int .i64 0, .int .i64 0, .string ⟨#[]⟩, .int .i64 0, .string ⟨#[]⟩, .slice none 0 0, .string ⟨#[]⟩, .slice none 0 0, .int .i64 0, .slice none 0 0, .string ⟨#[]⟩, .slice none 0 0, .string ⟨#[]⟩, .string ⟨#[]⟩, .bool false, .int .i64 0, .string ⟨#[]⟩, .slice none 0 0, .slice none 0 0, .slice none 0 0, .slice none 0 0], .str [(0, 36), (1, 3), (2, 9), (3, 45), (6, 39), (8, 49), (14, 41), (18, 32), (19, 32), (20, 50)]⟩
 | _ => default
def tab_1 : Tab := fun t => match t with
 | 74 => ⟨1, 8, .nilFunc, .func⟩
 | 79 => ⟨1, 16, .agg #[.string ⟨#[]⟩], .str [(0, 9)]⟩
 | 83 => ⟨1, 8, .nilFunc, .func⟩
 | 86 => ⟨4, 56, .agg #[.string ⟨#[]⟩, .bool false, .slice none 0 0, .int .i64 0], .str [(0, 9), (1, 4), (2, 33), (3, 3)]⟩
 | 87 => ⟨1, 24, .slice none 0 0, .slc 92⟩
 | 89 => ⟨3, 48, .agg #[.string ⟨#[]⟩, .slice none 0 0, .int .i64 0], .str [(0, 9), (1, 87), (2, 3)]⟩
 | 92 => ⟨4, 64, .agg #[.string ⟨#[]⟩, .int .i64 0, .string ⟨#[]⟩, .slice none 0 0], .str [(0, 9), (1, 45)]⟩
 | 100 => ⟨4, 64, .agg #[.string ⟨#[]⟩, .int .i64 0, .string ⟨#[]⟩, .slice none 0 0], .str [(0, 9), (1, 45)]⟩
 | 101 => ⟨1, 8, .nilFunc, .func⟩
 | 102 => ⟨1, 8, .nilFunc, .func⟩
 | 103 => ⟨1, 8, .nilFunc, .func⟩
 | 105 => ⟨1, 8, .nilFunc, .func⟩
 | 107 => ⟨1, 8, .nilFunc, .func⟩
 | 108 => ⟨1, 8, .nilFunc, .func⟩
 | 113 => ⟨1, 8, .nilFunc, .func⟩
 | 114 => ⟨1, 8, .nilFunc, .func⟩
 | 116 => ⟨1, 8, .nilFunc, .func⟩
 | 117 => ⟨1, 8, .nilFunc, .func⟩
 | 118 => ⟨1, 8, .nilFunc, .func⟩
 | 122 => ⟨1, 8, .pointer none, .ptr 125⟩
 | _ => default
def tab_2 : Tab := fun t => match t with
 | 123 => ⟨1, 24, .slice none 0 0, .slc 5⟩
 | 125 => ⟨2, 32, .agg #[.pointer none, .slice none 0 0], .str [(0, 122), (1, 123)]⟩
 | 127 => ⟨3, 40, .agg #[.pointer none, .slice none 0 0, .int .i64 0], .str [(0, 125), (2, 3)]⟩
 | 130 => ⟨1, 8, .nilFunc, .func⟩
 | 132 => ⟨1, 8, .nilFunc, .func⟩
 | 136 => ⟨3, 56, .agg #[.string ⟨#[]⟩, .string ⟨#[]⟩, .slice none 0 0], .str [(0, 9), (1, 9), (2, 32)]⟩
 | 173 => ⟨1, 8, .nilFunc, .func⟩
 | 175 => ⟨1, 8, .nilFunc, .func⟩
 | 178 => ⟨1, 8, .nilFunc, .func⟩
 | 179 => ⟨1, 8, .pointer none, .ptr 127⟩
 | 180 => ⟨1, 24, .slice none 0 0, .slc 9⟩
 | 182 => ⟨1, 16, .nilIface, .iface⟩
 | _ => default
def tab_3 : Tab := fun t => match t with
 | 189 => ⟨1, 8, .pointer none, .ptr 5⟩
 | 215 => ⟨1, 8, .nilFunc, .func⟩
 | 219 => ⟨20, 320, .agg #[.string ⟨#[]⟩, .string ⟨#[]⟩, .string ⟨#[]⟩, .string ⟨#[]⟩, .string ⟨#[]⟩, .string ⟨#[]⟩, .string ⟨#[]⟩, .string ⟨#[]⟩, .string ⟨#[]⟩, .string ⟨#[]⟩, .string ⟨#[]⟩, .string ⟨#[]⟩, .string ⟨#[]⟩, .string ⟨#[]⟩, .string ⟨#[]⟩, .string ⟨#[]⟩, .string ⟨#[]⟩, .string ⟨#[]⟩, .string ⟨#[]⟩, .string ⟨#[]⟩], .arr 20 9⟩
 | 220 => ⟨1, 8, .nilFunc, .func⟩
 | 224 => ⟨1, 8, .nilFunc, .func⟩
 | 225 => ⟨1, 8, .int .u64 0, .int .u64⟩
 | 241 => ⟨1, 8, .nilFunc, .func⟩
 | 244 => ⟨1, 4, .int .u32 0, .int .u32⟩
 | 247 => ⟨1, 8, .int .u64 0, .int .u64⟩
 | _ => default
def tab_4 : Tab := fun t => match t with
 | 253 => ⟨24, 24, .agg #[.int .u8 0, .int .u8 0, .int .u8 0, .int .u8 0, .int .u8 0, .int .u8 0, .int .u8 0, .int .u8 0, .int .u8 0, .int .u8 0, .int .u8 0, .int .u8 0, .int .u8 0, .int .u8 0, .int .u8 0, .int .u8 0, .int .u8 0, .int .u8 0, .int .u8 0, .int .u8 0, .int .u8 0, .int .u8 0, .int .u8 0, .int .u8 0], .arr 24 5⟩
 | 261 => ⟨20, 160, .agg #[.int .u64 0, .int .u64 0, .int .u64 0, .int .u64 0, .int .u64 0, .int .u64 0, .int .u64 0, .int .u64 0, .int .u64 0, .int .u64 0, .int .u64 0, .int .u64 0, .int .u64 0, .int .u64 0, .int .u64 0, .int .u64 0, .int .u64 0, .int .u64 0, .int .u64 0, .int .u64 0], .arr 20 247⟩
 | 262 => ⟨65, 65, .agg #[.int .u8 0, .int .u8 0, .int .u8 0, .int .u8 0, .int .u8 0, .int .u8 0, .int .u8 0, .int .u8 0, .int .u8 0, .int .u8 0, .int .u8 0, .int .u8 0, .int .u8 0, .int .u8 0, .int .u8 0, .int .u8 0, .int .u8 0, .int .u8 0, .int .u8 0, .int .u8 0, .int .u8 0, .int .u8 0, .int .u8 0, .int .u8 0, .int .u8 0, .int .u8 0, .int .u8 0, .int .u8 0, .int .u8 0, .int .u8 0, .int .u8 0, .int .u8 0, .int .u8 0, .int .u8 0, .int .u8 0, .int .u8 0, .int .u8 0, .int .u8 0, .int .u8 0, .int .u8 0, .int .u8 0, .int .u8 0, .int .u8 0, .int .u8 0, .int .u8 0, .int .u8 0, .int .u8 0, .int .u8 0, .int .u8 0, .int .u8 0, .int .u8 0, .int .u8 0, .int .u8 0, .int .u8 0, .int .u8 0, .int .u8 0, .int .u8 0, .int .u8 0, .int .u8 0, .int .u8 0, .int .u8 0, .int .u8 0, .int .u8 0, .int .u8 0, .int .u8 0], .arr 65 5⟩
 | 265 => ⟨32, 32, .agg #[.int .u8 0, .int .u8 0, .int .u8 0, .int .u8 0, .int .u8 0, .int .u8 0, .int .u8 0, .int .u8 0, .int .u8 0, .int .u8 0, .int .u8 0, .int .u8 0, .int .u8 0, .int .u8 0, .int .u8 0, .int .u8 0, .int .u8 0, .int .u8 0, .int .u8 0, .int .u8 0, .int .u8 0, .int .u8 0, .int .u8 0, .int .u8 0, .int .u8 0, .int .u8 0, .int .u8 0, .int .u8 0, .int .u8 0, .int .u8 0, .int .u8 0, .int .u8 0], .arr 32 5⟩
 | 266 => ⟨64, 64, .agg #[.int .u8 0, .int .u8 0, .int .u8 0, .int .u8 0, .int .u8 0, .int .u8 0, .int .u8 0, .int .u8 0, .int .u8 0, .int .u8 0, .int .u8 0, .int .u8 0, .int .u8 0, .int .u8 0, .int .u8 0, .int .u8 0, .int .u8 0, .int .u8 0, .int .u8 0, .int .u8 0, .int .u8 0, .int .u8 0, .int .u8 0, .int .u8 0, .int .u8 0, .int .u8 0, .int .u8 0, .int .u8 0, .int .u8 0, .int .u8 0, .int .u8 0, .int .u8 0, .int .u8 0, .int .u8 0, .int .u8 0, .int .u8 0, .int .u8 0, .int .u8 0, .int .u8 0, .int .u8 0, .int .u8 0, .int .u8 0, .int .u8 0, .int .u8 0, .int .u8 0, .int .u8 0, .int .u8 0, .int .u8 0, .int .u8 0, .int .u8 0, .int .u8 0, .int .u8 0, .int .u8 0, .int .u8 0, .int .u8 0, .int .u8 0, .int .u8 0, .int .u8 0, .int .u8 0, .int .u8 0, .int .u8 0, .int .u8 0, .int .u8 0, .int .u8 0], .arr 64 5⟩
 | _ => default
def tab : Tab := fun t => if t ≤ 60 then tab_0 t else if t ≤ 122 then tab_1 t else if t ≤ 182 then tab_2 t else if t ≤ 250 then tab_3 t else tab_4 t
theorem tab1 : tab 1 = ⟨1, 8, .nilFunc, .func⟩ := rfl
theorem tab2 : tab 2 = ⟨1, 8, .int .i64 0, .int .i64⟩ := rfl
theorem tab3 : tab 3 = ⟨1, 8, .int .i64 0, .int .i64⟩ := rfl
theorem tab4 : tab 4 = ⟨1, 1, .bool false, .bool⟩ := rfl
theorem tab5 : tab 5 = ⟨1, 1, .int .u8 0, .int .u8⟩ := rfl
theorem tab6 : tab 6 = ⟨1, 1, .int .u8 0, .int .u8⟩ := rfl
theorem tab7 : tab 7 = ⟨4, 24, .agg #[.int .i64 0, .int .i64 0, .bool false, .int .u8 0], .str [(0, 2), (1, 3), (2, 4), (3, 6)]⟩ := rfl
theorem tab8 : tab 8 = ⟨4, 24, .agg #[.int .i64 0, .int .i64 0, .bool false, .int .u8 0], .str [(0, 2), (1, 3), (2, 4), (3, 6)]⟩ := rfl
theorem tab9 : tab 9 = ⟨1, 16, .string ⟨#[]⟩, .string⟩ := rfl
theorem tab20 : tab 20 = ⟨1, 16, .nilIface, .iface⟩ := rfl
theorem tab22 : tab 22 = ⟨1, 24, .slice none 0 0, .slc 86⟩ := rfl
theorem tab23 : tab 23 = ⟨1, 24, .slice none 0 0, .slc 89⟩ := rfl
theorem tab24 : tab 24 = ⟨1, 24, .slice none 0 0, .slc 35⟩ := rfl
theorem tab26 : tab 26 = ⟨3, 72, .agg #[.slice none 0 0, .slice none 0 0, .slice none 0 0], .str [(0, 22), (1, 23), (2, 24)]⟩ := rfl
theorem tab32 : tab 32 = ⟨1, 24, .slice none 0 0, .slc 52⟩ := rfl
theorem tab33 : tab 33 = ⟨1, 24, .slice none 0 0, .slc 100⟩ := rfl
theorem tab35 : tab 35 = ⟨4, 72, .agg #[.string ⟨#[]⟩, .slice none 0 0, .slice none 0 0, .int .i64 0], .str [(0, 9), (1, 33), (2, 32), (3, 3)]⟩ := rfl
theorem tab36 : tab 36 = ⟨1, 8, .int .i64 0, .int .i64⟩ := rfl
theorem tab37 : tab 37 = ⟨1, 24, .slice none 0 0, .slc 79⟩ := rfl
theorem tab39 : tab 39 = ⟨2, 40, .agg #[.string ⟨#[]⟩, .slice none 0 0], .str [(0, 9), (1, 37)]⟩ := rfl
theorem tab41 : tab 41 = ⟨4, 56, .agg #[.bool false, .int .i64 0, .string ⟨#[]⟩, .slice none 0 0], .str [(0, 4), (1, 3), (2, 39)]⟩ := rfl
theorem tab42 : tab 42 = ⟨1, 8, .int .i64 0, .int .i64⟩ := rfl
theorem tab43 : tab 43 = ⟨1, 24, .slice none 0 0, .slc 45⟩ := rfl
theorem tab45 : tab 45 = ⟨3, 48, .agg #[.int .i64 0, .string ⟨#[]⟩, .slice none 0 0], .str [(0, 42), (1, 9), (2, 43)]⟩ := rfl
theorem tab46 : tab 46 = ⟨1, 8, .int .i64 0, .int .i64⟩ := rfl
theorem tab47 : tab 47 = ⟨1, 24, .slice none 0 0, .slc 41⟩ := rfl
theorem tab49 : tab 49 = ⟨6, 104, .agg #[.int .i64 0, .slice none 0 0, .string ⟨#[]⟩, .slice none 0 0, .string ⟨#[]⟩, .string ⟨#[]⟩], .str [(0, 46), (1, 47), (2, 39), (4, 9), (5, 9)]⟩ := rfl
theorem tab50 : tab 50 = ⟨1, 24, .slice none 0 0, .slc 136⟩ := rfl
theorem tab52 : tab 52 = ⟨21, 352, .agg #[.int .i64 0, .int .i64 0, .string ⟨#[]⟩, .int .i64 0, .string ⟨#[]⟩, .slice none 0 0, .string ⟨#[]⟩, .slice none 0 0, .int .i64 0, .slice none 0 0, .string ⟨#[]⟩, .slice none 0 0, .string ⟨#[]⟩, .string ⟨#[]⟩, .bool false, .int .i64 0, .string ⟨#[]⟩, .slice none 0 0, .slice none 0 0, .slice none 0 0, .slice none 0 0], .str [(0, 36), (1, 3), (2, 9), (3, 45), (6, 39), (8, 49), (14, 41), (18, 32), (19, 32), (20, 50)]⟩ := rfl
theorem tab74 : tab 74 = ⟨1, 8, .nilFunc, .func⟩ := rfl
theorem tab79 : tab 79 = ⟨1, 16, .agg #[.string ⟨#[]⟩], .str [(0, 9)]⟩ := rfl
theorem tab83 : tab 83 = ⟨1, 8, .nilFunc, .func⟩ := rfl
theorem tab86 : tab 86 = ⟨4, 56, .agg #[.string ⟨#[]⟩, .bool false, .slice none 0 0, .int .i64 0], .str [(0, 9), (1, 4), (2, 33), (3, 3)]⟩ := rfl
theorem tab87 : tab 87 = ⟨1, 24, .slice none 0 0, .slc 92⟩ := rfl
theorem tab89 : tab 89 = ⟨3, 48, .agg #[.string ⟨#[]⟩, .slice none 0 0, .int .i64 0], .str [(0, 9), (1, 87), (2, 3)]⟩ := rfl
theorem tab92 : tab 92 = ⟨4, 64, .agg #[.string ⟨#[]⟩, .int .i64 0, .string ⟨#[]⟩, .slice none 0 0], .str [(0, 9), (1, 45)]⟩ := rfl
theorem tab100 : tab 100 = ⟨4, 64, .agg #[.string ⟨#[]⟩, .int .i64 0, .string ⟨#[]⟩, .slice none 0 0], .str [(0, 9), (1, 45)]⟩ := rfl
theorem tab101 : tab 101 = ⟨1, 8, .nilFunc, .func⟩ := rfl
theorem tab102 : tab 102 = ⟨1, 8, .nilFunc, .func⟩ := rfl
theorem tab103 : tab 103 = ⟨1, 8, .nilFunc, .func⟩ := rfl
theorem tab105 : tab 105 = ⟨1, 8, .nilFunc, .func⟩ := rfl
theorem tab107 : tab 107 = ⟨1, 8, .nilFunc, .func⟩ := rfl
theorem tab108 : tab 108 = ⟨1, 8, .nilFunc, .func⟩ := rfl
theorem tab113 : tab 113 = ⟨1, 8, .nilFunc, .func⟩ := rfl
theorem tab114 : tab 114 = ⟨1, 8, .nilFunc, .func⟩ := rfl
theorem tab116 : tab 116 = ⟨1, 8, .nilFunc, .func⟩ := rfl
theorem tab117 : tab 117 = ⟨1, 8, .nilFunc, .func⟩ := rfl
theorem tab118 : tab 118 = ⟨1, 8, .nilFunc, .func⟩ := rfl
theorem tab122 : tab 122 = ⟨1, 8, .pointer none, .ptr 125⟩ := rfl
theorem tab123 : tab 123 = ⟨1, 24, .slice none 0 0, .slc 5⟩ := rfl
theorem tab125 : tab 125 = ⟨2, 32, .agg #[.pointer none, .slice none 0 0], .str [(0, 122), (1, 123)]⟩ := rfl
theorem tab127 : tab 127 = ⟨3, 40, .agg #[.pointer none, .slice none 0 0, .int .i64 0], .str [(0, 125), (2, 3)]⟩ := rfl
theorem tab130 : tab 130 = ⟨1, 8, .nilFunc, .func⟩ := rfl
theorem tab132 : tab 132 = ⟨1, 8, .nilFunc, .func⟩ := rfl
theorem tab136 : tab 136 = ⟨3, 56, .agg #[.string ⟨#[]⟩, .string ⟨#[]⟩, .slice none 0 0], .str [(0, 9), (1, 9), (2, 32)]⟩ := rfl
theorem tab173 : tab 173 = ⟨1, 8, .nilFunc, .func⟩ := rfl
theorem tab175 : tab 175 = ⟨1, 8, .nilFunc, .func⟩ := rfl
theorem tab178 : tab 178 = ⟨1, 8, .nilFunc, .func⟩ := rfl
theorem tab179 : tab 179 = ⟨1, 8, .pointer none, .ptr 127⟩ := rfl
theorem tab180 : tab 180 = ⟨1, 24, .slice none 0 0, .slc 9⟩ := rfl
theorem tab182 : tab 182 = ⟨1, 16, .nilIface, .iface⟩ := rfl
theorem tab189 : tab 189 = ⟨1, 8, .pointer none, .ptr 5⟩ := rfl
theorem tab215 : tab 215 = ⟨1, 8, .nilFunc, .func⟩ := rfl
theorem tab219 : tab 219 = ⟨20, 320, .agg #[.string ⟨#[]⟩, .string ⟨#[]⟩, .string ⟨#[]⟩, .string ⟨#[]⟩, .string ⟨#[]⟩, .string ⟨#[]⟩, .string ⟨#[]⟩, .string ⟨#[]⟩, .string ⟨#[]⟩, .string ⟨#[]⟩, .string ⟨#[]⟩, .string ⟨#[]⟩, .string ⟨#[]⟩, .string ⟨#[]⟩, .string ⟨#[]⟩, .string ⟨#[]⟩, .string ⟨#[]⟩, .string ⟨#[]⟩, .string ⟨#[]⟩, .string ⟨#[]⟩], .arr 20 9⟩ := rfl
theorem tab220 : tab 220 = ⟨1, 8, .nilFunc, .func⟩ := rfl
theorem tab224 : tab 224 = ⟨1, 8, .nilFunc, .func⟩ := rfl
theorem tab225 : tab 225 = ⟨1, 8, .int .u64 0, .int .u64⟩ := rfl
theorem tab241 : tab 241 = ⟨1, 8, .nilFunc, .func⟩ := rfl
theorem tab244 : tab 244 = ⟨1, 4, .int .u32 0, .int .u32⟩ := rfl
theorem tab247 : tab 247 = ⟨1, 8, .int .u64 0, .int .u64⟩ := rfl
theorem tab253 : tab 253 = ⟨24, 24, .agg #[.int .u8 0, .int .u8 0, .int .u8 0, .int .u8 0, .int .u8 0, .int .u8 0, .int .u8 0, .int .u8 0, .int .u8 0, .int .u8 0, .int .u8 0, .int .u8 0, .int .u8 0, .int .u8 0, .int .u8 0, .int .u8 0, .int .u8 0, .int .u8 0, .int .u8 0, .int .u8 0, .int .u8 0, .int .u8 0, .int .u8 0, .int .u8 0], .arr 24 5⟩ := rfl
theorem tab261 : tab 261 = ⟨20, 160, .agg #[.int .u64 0, .int .u64 0, .int .u64 0, .int .u64 0, .int .u64 0, .int .u64 0, .int .u64 0, .int .u64 0, .int .u64 0, .int .u64 0, .int .u64 0, .int .u64 0, .int .u64 0, .int .u64 0, .int .u64 0, .int .u64 0, .int .u64 0, .int .u64 0, .int .u64 0, .int .u64 0], .arr 20 247⟩ := rfl
theorem tab262 : tab 262 = ⟨65, 65, .agg #[.int .u8 0, .int .u8 0, .int .u8 0, .int .u8 0, .int .u8 0, .int .u8 0, .int .u8 0, .int .u8 0, .int .u8 0, .int .u8 0, .int .u8 0, .int .u8 0, .int .u8 0, .int .u8 0, .int .u8 0, .int .u8 0, .int .u8 0, .int .u8 0, .int .u8 0, .int .u8 0, .int .u8 0, .int .u8 0, .int .u8 0, .int .u8 0, .int .u8 0, .int .u8 0, .int .u8 0, .int .u8 0, .int .u8 0, .int .u8 0, .int .u8 0, .int .u8 0, .int .u8 0, .int .u8 0, .int .u8 0, .int .u8 0, .int .u8 0, .int .u8 0, .int .u8 0, .int .u8 0, .int .u8 0, .int .u8 0, .int .u8 0, .int .u8 0, .int .u8 0, .int .u8 0, .int .u8 0, .int .u8 0, .int .u8 0, .int .u8 0, .int .u8 0, .int .u8 0, .int .u8 0, .int .u8 0, .int .u8 0, .int .u8 0, .int .u8 0, .int .u8 0, .int .u8 0, .int .u8 0, .int .u8 0, .int .u8 0, .int .u8 0, .int .u8 0, .int .u8 0], .arr 65 5⟩ := rfl
theorem tab265 : tab 265 = ⟨32, 32, .agg #[.int .u8 0, .int .u8 0, .int .u8 0, .int .u8 0, .int .u8 0, .int .u8 0, .int .u8 0, .int .u8 0, .int .u8 0, .int .u8 0, .int .u8 0, .int .u8 0, .int .u8 0, .int .u8 0, .int .u8 0, .int .u8 0, .int .u8 0, .int .u8 0, .int .u8 0, .int .u8 0, .int .u8 0, .int .u8 0, .int .u8 0, .int .u8 0, .int .u8 0, .int .u8 0, .int .u8 0, .int .u8 0, .int .u8 0, .int .u8 0, .int .u8 0, .int .u8 0], .arr 32 5⟩ := rfl
theorem tab266 : tab 266 = ⟨64, 64, .agg #[.int .u8 0, .int .u8 0, .int .u8 0, .int .u8 0, .int .u8 0, .int .u8 0, .int .u8 0, .int .u8 0, .int .u8 0, .int .u8 0, .int .u8 0, .int .u8 0, .int .u8 0, .int .u8 0, .int .u8 0, .int .u8 0, .int .u8 0, .int .u8 0, .int .u8 0, .int .u8 0, .int .u8 0, .int .u8 0, .int .u8 0, .int .u8 0, .int .u8 0, .int .u8 0, .int .u8 0, .int .u8 0, .int .u8 0, .int .u8 0, .int .u8 0, .int .u8 0, .int .u8 0, .int .u8 0, .int .u8 0, .int .u8 0, .int .u8 0, .int .u8 0, .int .u8 0, .int .u8 0, .int .u8 0, .int .u8 0, .int .u8 0, .int .u8 0, .int .u8 0, .int .u8 0, .int .u8 0, .int .u8 0, .int .u8 0, .int .u8 0, .int .u8 0, .int .u8 0, .int .u8 0, .int .u8 0, .int .u8 0, .int .u8 0, .int .u8 0, .int .u8 0, .int .u8 0, .int .u8 0, .int .u8 0, .int .u8 0, .int .u8 0, .int .u8 0], .arr 64 5⟩ := rfl
theorem tok1 : TOKt Tryz.prog 1 ⟨1, 8, .nilFunc, .func⟩ := ⟨by kernel_rfl, by kernel_rfl, by kernel_rfl, by kernel_rfl, by kernel_rfl⟩
theorem tok2 : TOKt Tryz.prog 2 ⟨1, 8, .int .i64 0, .int .i64⟩ := ⟨by kernel_rfl, by kernel_rfl, by kernel_rfl, by kernel_rfl, by kernel_rfl⟩
theorem tok3 : TOKt Tryz.prog 3 ⟨1, 8, .int .i64 0, .int .i64⟩ := ⟨by kernel_rfl, by kernel_rfl, by kernel_rfl, by kernel_rfl, by kernel_rfl⟩
theorem tok4 : TOKt Tryz.prog 4 ⟨1, 1, .bool false, .bool⟩ := ⟨by kernel_rfl, by kernel_rfl, by kernel_rfl, by kernel_rfl, by kernel_rfl⟩
theorem tok5 : TOKt Tryz.prog 5 ⟨1, 1, .int .u8 0, .int .u8⟩ := ⟨by kernel_rfl, by kernel_rfl, by kernel_rfl, by kernel_rfl, by kernel_rfl⟩
theorem tok6 : TOKt Tryz.prog 6 ⟨1, 1, .int .u8 0, .int .u8⟩ := ⟨by kernel_rfl, by kernel_rfl, by kernel_rfl, by kernel_rfl, by kernel_rfl⟩
theorem tok7 : TOKt Tryz.prog 7 ⟨4, 24, .agg #[.int .i64 0, .int .i64 0, .bool false, .int .u8 0], .str [(0, 2), (1, 3), (2, 4), (3, 6)]⟩ := ⟨by kernel_rfl, by kernel_rfl, by kernel_rfl, by kernel_rfl, by kernel_rfl⟩
theorem tok8 : TOKt Tryz.prog 8 ⟨4, 24, .agg #[.int .i64 0, .int .i64 0, .bool false, .int .u8 0], .str [(0, 2), (1, 3), (2, 4), (3, 6)]⟩ := ⟨by kernel_rfl, by kernel_rfl, by kernel_rfl, by kernel_rfl, by kernel_rfl⟩
theorem tok9 : TOKt Tryz.prog 9 ⟨1, 16, .string ⟨#[]⟩, .string⟩ := ⟨by kernel_rfl, by kernel_rfl, by kernel_rfl, by kernel_rfl, by kernel_rfl⟩
theorem tok20 : TOKt Tryz.prog 20 ⟨1, 16, .nilIface, .iface⟩ := ⟨by kernel_rfl, by kernel_rfl, by kernel_rfl, by kernel_rfl, by kernel_rfl⟩
theorem tok22 : TOKt Tryz.prog 22 ⟨1, 24, .slice none 0 0, .slc 86⟩ := ⟨by kernel_rfl, by kernel_rfl, by kernel_rfl, by kernel_rfl, by kernel_rfl⟩
theorem tok23 : TOKt Tryz.prog 23 ⟨1, 24, .slice none 0 0, .slc 89⟩ := ⟨by kernel_rfl, by kernel_rfl, by kernel_rfl, by kernel_rfl, by kernel_rfl⟩
theorem tok24 : TOKt Tryz.prog 24 ⟨1, 24, .slice none 0 0, .slc 35⟩ := ⟨by kernel_rfl, by kernel_rfl, by kernel_rfl, by kernel_rfl, by kernel_rfl⟩
theorem tok26 : TOKt Tryz.prog 26 ⟨3, 72, .agg #[.slice none 0 0, .slice none 0 0, .slice none 0 0], .str [(0, 22), (1, 23), (2, 24)]⟩ := ⟨by kernel_rfl, by kernel_rfl, by kernel_rfl, by kernel_rfl, by kernel_rfl⟩
theorem tok32 : TOKt Tryz.prog 32 ⟨1, 24, .slice none 0 0, .slc 52⟩ := ⟨by kernel_rfl, by kernel_rfl, by kernel_rfl, by kernel_rfl, by kernel_rfl⟩
theorem tok33 : TOKt Tryz.prog 33 ⟨1, 24, .slice none 0 0, .slc 100⟩ := ⟨by kernel_rfl, by kernel_rfl, by kernel_rfl, by kernel_rfl, by kernel_rfl⟩
theorem tok35 : TOKt Tryz.prog 35 ⟨4, 72, .agg #[.string ⟨#[]⟩, .slice none 0 0, .slice none 0 0, .int .i64 0], .str [(0, 9), (1, 33), (2, 32), (3, 3)]⟩ := ⟨by kernel_rfl, by kernel_rfl, by kernel_rfl, by kernel_rfl, by kernel_rfl⟩
theorem tok36 : TOKt Tryz.prog 36 ⟨1, 8, .int .i64 0, .int .i64⟩ := ⟨by kernel_rfl, by kernel_rfl, by kernel_rfl, by kernel_rfl, by kernel_rfl⟩
theorem tok37 : TOKt Tryz.prog 37 ⟨1, 24, .slice none 0 0, .slc 79⟩ := ⟨by kernel_rfl, by kernel_rfl, by kernel_rfl, by kernel_rfl, by kernel_rfl⟩
theorem tok39 : TOKt Tryz.prog 39 ⟨2, 40, .agg #[.string ⟨#[]⟩, .slice none 0 0], .str [(0, 9), (1, 37)]⟩ := ⟨by kernel_rfl, by kernel_rfl, by kernel_rfl, by kernel_rfl, by kernel_rfl⟩
theorem tok41 : TOKt Tryz.prog 41 ⟨4, 56, .agg #[.bool false, .int .i64 0, .string ⟨#[]⟩, .slice none 0 0], .str [(0, 4), (1, 3), (2, 39)]⟩ := ⟨by kernel_rfl, by kernel_rfl, by kernel_rfl, by kernel_rfl, by kernel_rfl⟩
theorem tok42 : TOKt Tryz.prog 42 ⟨1, 8, .int .i64 0, .int .i64⟩ := ⟨by kernel_rfl, by kernel_rfl, by kernel_rfl, by kernel_rfl, by kernel_rfl⟩
theorem tok43 : TOKt Tryz.prog 43 ⟨1, 24, .slice none 0 0, .slc 45⟩ := ⟨by kernel_rfl, by kernel_rfl, by kernel_rfl, by kernel_rfl, by kernel_rfl⟩
theorem tok45 : TOKt Tryz.prog 45 ⟨3, 48, .agg #[.int .i64 0, .string ⟨#[]⟩, .slice none 0 0], .str [(0, 42), (1, 9), (2, 43)]⟩ := ⟨by kernel_rfl, by kernel_rfl, by kernel_rfl, by kernel_rfl, by kernel_rfl⟩
theorem tok46 : TOKt Tryz.prog 46 ⟨1, 8, .int .i64 0, .int .i64⟩ := ⟨by kernel_rfl, by kernel_rfl, by kernel_rfl, by kernel_rfl, by kernel_rfl⟩
theorem tok47 : TOKt Tryz.prog 47 ⟨1, 24, .slice none 0 0, .slc 41⟩ := ⟨by kernel_rfl, by kernel_rfl, by kernel_rfl, by kernel_rfl, by kernel_rfl⟩
theorem tok49 : TOKt Tryz.prog 49 ⟨6, 104, .agg #[.int .i64 0, .slice none 0 0, .string ⟨#[]⟩, .slice none 0 0, .string ⟨#[]⟩, .string ⟨#[]⟩], .str [(0, 46), (1, 47), (2, 39), (4, 9), (5, 9)]⟩ := ⟨by kernel_rfl, by kernel_rfl, by kernel_rfl, by kernel_rfl, by kernel_rfl⟩
theorem tok50 : TOKt Tryz.prog 50 ⟨1, 24, .slice none 0 0, .slc 136⟩ := ⟨by kernel_rfl, by kernel_rfl, by kernel_rfl, by kernel_rfl, by kernel_rfl⟩
theorem tok52 : TOKt Tryz.prog 52 ⟨21, 352, .agg #[.int .i64 0, .int .i64 0, .string ⟨#[]⟩, .int .i64 0, .string ⟨#[]⟩, .slice none 0 0, .string ⟨#[]⟩, .slice none 0 0, .int .i64 0, .slice none 0 0, .string ⟨#[]⟩, .slice none 0 0, .string ⟨#[]⟩, .string ⟨#[]⟩, .bool false, .int .i64 0, .string ⟨#[]⟩, .slice none 0 0, .slice none 0 0, .slice none 0 0, .slice none 0 0], .str [(0, 36), (1, 3), (2, 9), (3, 45), (6, 39), (8, 49), (14, 41), (18, 32), (19, 32), (20, 50)]⟩ := ⟨by kernel_rfl, by kernel_rfl, by kernel_rfl, by kernel_rfl, by kernel_rfl⟩
theorem tok74 : TOKt Tryz.prog 74 ⟨1, 8, .nilFunc, .func⟩ := ⟨by kernel_rfl, by kernel_rfl, by kernel_rfl, by kernel_rfl, by kernel_rfl⟩
theorem tok79 : TOKt Tryz.prog 79 ⟨1, 16, .agg #[.string ⟨#[]⟩], .str [(0, 9)]⟩ := ⟨by kernel_rfl, by kernel_rfl, by kernel_rfl, by kernel_rfl, by kernel_rfl⟩
theorem tok83 : TOKt Tryz.prog 83 ⟨1, 8, .nilFunc, .func⟩ := ⟨by kernel_rfl, by kernel_rfl, by kernel_rfl, by kernel_rfl, by kernel_rfl⟩
theorem tok86 : TOKt Tryz.prog 86 ⟨4, 56, .agg #[.string ⟨#[]⟩, .bool false, .slice none 0 0, .int .i64 0], .str [(0, 9), (1, 4), (2, 33), (3, 3)]⟩ := ⟨by kernel_rfl, by kernel_rfl, by kernel_rfl, by kernel_rfl, by kernel_rfl⟩
theorem tok87 : TOKt Tryz.prog 87 ⟨1, 24, .slice none 0 0, .slc 92⟩ := ⟨by kernel_rfl, by kernel_rfl, by kernel_rfl, by kernel_rfl, by kernel_rfl⟩
theorem tok89 : TOKt Tryz.prog 89 ⟨3, 48, .agg #[.string ⟨#[]⟩, .slice none 0 0, .int .i64 0], .str [(0, 9), (1, 87), (2, 3)]⟩ := ⟨by kernel_rfl, by kernel_rfl, by kernel_rfl, by kernel_rfl, by kernel_rfl⟩
theorem tok92 : TOKt Tryz.prog 92 ⟨4, 64, .agg #[.string ⟨#[]⟩, .int .i64 0, .string ⟨#[]⟩, .slice none 0 0], .str [(0, 9), (1, 45)]⟩ := ⟨by kernel_rfl, by kernel_rfl, by kernel_rfl, by kernel_rfl, by kernel_rfl⟩
theorem tok100 : TOKt Tryz.prog 100 ⟨4, 64, .agg #[.string ⟨#[]⟩, .int .i64 0, .string ⟨#[]⟩, .slice none 0 0], .str [(0, 9), (1, 45)]⟩ := ⟨by kernel_rfl, by kernel_rfl, by kernel_rfl, by kernel_rfl, by kernel_rfl⟩
theorem tok101 : TOKt Tryz.prog 101 ⟨1, 8, .nilFunc, .func⟩ := ⟨by kernel_rfl, by kernel_rfl, by kernel_rfl, by kernel_rfl, by kernel_rfl⟩
theorem tok102 : TOKt Tryz.prog 102 ⟨1, 8, .nilFunc, .func⟩ := ⟨by kernel_rfl, by kernel_rfl, by kernel_rfl, by kernel_rfl, by kernel_rfl⟩
theorem tok103 : TOKt Tryz.prog 103 ⟨1, 8, .nilFunc, .func⟩ := ⟨by kernel_rfl, by kernel_rfl, by kernel_rfl, by kernel_rfl, by kernel_rfl⟩
theorem tok105 : TOKt Tryz.prog 105 ⟨1, 8, .nilFunc, .func⟩ := ⟨by kernel_rfl, by kernel_rfl, by kernel_rfl, by kernel_rfl, by kernel_rfl⟩
theorem tok107 : TOKt Tryz.prog 107 ⟨1, 8, .nilFunc, .func⟩ := ⟨by kernel_rfl, by kernel_rfl, by kernel_rfl, by kernel_rfl, by kernel_rfl⟩
theorem tok108 : TOKt Tryz.prog 108 ⟨1, 8, .nilFunc, .func⟩ := ⟨by kernel_rfl, by kernel_rfl, by kernel_rfl, by kernel_rfl, by kernel_rfl⟩
theorem tok113 : TOKt Tryz.prog 113 ⟨1, 8, .nilFunc, .func⟩ := ⟨by kernel_rfl, by kernel_rfl, by kernel_rfl, by kernel_rfl, by kernel_rfl⟩
theorem tok114 : TOKt Tryz.prog 114 ⟨1, 8, .nilFunc, .func⟩ := ⟨by kernel_rfl, by kernel_rfl, by kernel_rfl, by kernel_rfl, by kernel_rfl⟩
theorem tok116 : TOKt Tryz.prog 116 ⟨1, 8, .nilFunc, .func⟩ := ⟨by kernel_rfl, by kernel_rfl, by kernel_rfl, by kernel_rfl, by kernel_rfl⟩
theorem tok117 : TOKt Tryz.prog 117 ⟨1, 8, .nilFunc, .func⟩ := ⟨by kernel_rfl, by kernel_rfl, by kernel_rfl, by kernel_rfl, by kernel_rfl⟩
theorem tok118 : TOKt Tryz.prog 118 ⟨1, 8, .nilFunc, .func⟩ := ⟨by kernel_rfl, by kernel_rfl, by kernel_rfl, by kernel_rfl, by kernel_rfl⟩
theorem tok122 : TOKt Tryz.prog 122 ⟨1, 8, .pointer none, .ptr 125⟩ := ⟨by kernel_rfl, by kernel_rfl, by kernel_rfl, by kernel_rfl, by kernel_rfl⟩
theorem tok123 : TOKt Tryz.prog 123 ⟨1, 24, .slice none 0 0, .slc 5⟩ := ⟨by kernel_rfl, by kernel_rfl, by kernel_rfl, by kernel_rfl, by kernel_rfl⟩
theorem tok125 : TOKt Tryz.prog 125 ⟨2, 32, .agg #[.pointer none, .slice none 0 0], .str [(0, 122), (1, 123)]⟩ := ⟨by kernel_rfl, by kernel_rfl, by kernel_rfl, by kernel_rfl, by kernel_rfl⟩
theorem tok127 : TOKt Tryz.prog 127 ⟨3, 40, .agg #[.pointer none, .slice none 0 0, .int .i64 0], .str [(0, 125), (2, 3)]⟩ := ⟨by kernel_rfl, by kernel_rfl, by kernel_rfl, by kernel_rfl, by kernel_rfl⟩
theorem tok130 : TOKt Tryz.prog 130 ⟨1, 8, .nilFunc, .func⟩ := ⟨by kernel_rfl, by kernel_rfl, by kernel_rfl, by kernel_rfl, by kernel_rfl⟩
theorem tok132 : TOKt Tryz.prog 132 ⟨1, 8, .nilFunc, .func⟩ := ⟨by kernel_rfl, by kernel_rfl, by kernel_rfl, by kernel_rfl, by kernel_rfl⟩
theorem tok136 : TOKt Tryz.prog 136 ⟨3, 56, .agg #[.string ⟨#[]⟩, .string ⟨#[]⟩, .slice none 0 0], .str [(0, 9), (1, 9), (2, 32)]⟩ := ⟨by kernel_rfl, by kernel_rfl, by kernel_rfl, by kernel_rfl, by kernel_rfl⟩
theorem tok173 : TOKt Tryz.prog 173 ⟨1, 8, .nilFunc, .func⟩ := ⟨by kernel_rfl, by kernel_rfl, by kernel_rfl, by kernel_rfl, by kernel_rfl⟩
theorem tok175 : TOKt Tryz.prog 175 ⟨1, 8, .nilFunc, .func⟩ := ⟨by kernel_rfl, by kernel_rfl, by kernel_rfl, by kernel_rfl, by kernel_rfl⟩
theorem tok178 : TOKt Tryz.prog 178 ⟨1, 8, .nilFunc, .func⟩ := ⟨by kernel_rfl, by kernel_rfl, by kernel_rfl, by kernel_rfl, by kernel_rfl⟩
theorem tok179 : TOKt Tryz.prog 179 ⟨1, 8, .pointer none, .ptr 127⟩ := ⟨by kernel_rfl, by kernel_rfl, by kernel_rfl, by kernel_rfl, by kernel_rfl⟩
theorem tok180 : TOKt Tryz.prog 180 ⟨1, 24, .slice none 0 0, .slc 9⟩ := ⟨by kernel_rfl, by kernel_rfl, by kernel_rfl, by kernel_rfl, by kernel_rfl⟩
theorem tok182 : TOKt Tryz.prog 182 ⟨1, 16, .nilIface, .iface⟩ := ⟨by kernel_rfl, by kernel_rfl, by kernel_rfl, by kernel_rfl, by kernel_rfl⟩
theorem tok189 : TOKt Tryz.prog 189 ⟨1, 8, .pointer none, .ptr 5⟩ := ⟨by kernel_rfl, by kernel_rfl, by kernel_rfl, by kernel_rfl, by kernel_rfl⟩
theorem tok215 : TOKt Tryz.prog 215 ⟨1, 8, .nilFunc, .func⟩ := ⟨by kernel_rfl, by kernel_rfl, by kernel_rfl, by kernel_rfl, by kernel_rfl⟩
theorem tok219 : TOKt Tryz.prog 219 ⟨20, 320, .agg #[.string ⟨#[]⟩, .string ⟨#[]⟩, .string ⟨#[]⟩, .string ⟨#[]⟩, .string ⟨#[]⟩, .string ⟨#[]⟩, .string ⟨#[]⟩, .string ⟨#[]⟩, .string ⟨#[]⟩, .string ⟨#[]⟩, .string ⟨#[]⟩, .string ⟨#[]⟩, .string ⟨#[]⟩, .string ⟨#[]⟩, .string ⟨#[]⟩, .string ⟨#[]⟩, .string ⟨#[]⟩, .string ⟨#[]⟩, .string ⟨#[]⟩, .string ⟨#[]⟩], .arr 20 9⟩ := ⟨by kernel_rfl, by kernel_rfl, by kernel_rfl, by kernel_rfl, by kernel_rfl⟩
theorem tok220 : TOKt Tryz.prog 220 ⟨1, 8, .nilFunc, .func⟩ := ⟨by kernel_rfl, by kernel_rfl, by kernel_rfl, by kernel_rfl, by kernel_rfl⟩
theorem tok224 : TOKt Tryz.prog 224 ⟨1, 8, .nilFunc, .func⟩ := ⟨by kernel_rfl, by kernel_rfl, by kernel_rfl, by kernel_rfl, by kernel_rfl⟩
theorem tok225 : TOKt Tryz.prog 225 ⟨1, 8, .int .u64 0, .int .u64⟩ := ⟨by kernel_rfl, by kernel_rfl, by kernel_rfl, by kernel_rfl, by kernel_rfl⟩
theorem tok241 : TOKt Tryz.prog 241 ⟨1, 8, .nilFunc, .func⟩ := ⟨by kernel_rfl, by kernel_rfl, by kernel_rfl, by kernel_rfl, by kernel_rfl⟩
theorem tok244 : TOKt Tryz.prog 244 ⟨1, 4, .int .u32 0, .int .u32⟩ := ⟨by kernel_rfl, by kernel_rfl, by kernel_rfl, by kernel_rfl, by kernel_rfl⟩
theorem tok247 : TOKt Tryz.prog 247 ⟨1, 8, .int .u64 0, .int .u64⟩ := ⟨by kernel_rfl, by kernel_rfl, by kernel_rfl, by kernel_rfl, by kernel_rfl⟩
theorem tok253 : TOKt Tryz.prog 253 ⟨24, 24, .agg #[.int .u8 0, .int .u8 0, .int .u8 0, .int .u8 0, .int .u8 0, .int .u8 0, .int .u8 0, .int .u8 0, .int .u8 0, .int .u8 0, .int .u8 0, .int .u8 0, .int .u8 0, .int .u8 0, .int .u8 0, .int .u8 0, .int .u8 0, .int .u8 0, .int .u8 0, .int .u8 0, .int .u8 0, .int .u8 0, .int .u8 0, .int .u8 0], .arr 24 5⟩ := ⟨by kernel_rfl, by kernel_rfl, by kernel_rfl, by kernel_rfl, by kernel_rfl⟩
theorem tok261 : TOKt Tryz.prog 261 ⟨20, 160, .agg #[.int .u64 0, .int .u64 0, .int .u64 0, .int .u64 0, .int .u64 0, .int .u64 0, .int .u64 0, .int .u64 0, .int .u64 0, .int .u64 0, .int .u64 0, .int .u64 0, .int .u64 0, .int .u64 0, .int .u64 0, .int .u64 0, .int .u64 0, .int .u64 0, .int .u64 0, .int .u64 0], .arr 20 247⟩ := ⟨by kernel_rfl, by kernel_rfl, by kernel_rfl, by kernel_rfl, by kernel_rfl⟩
theorem tok262 : TOKt Tryz.prog 262 ⟨65, 65, .agg #[.int .u8 0, .int .u8 0, .int .u8 0, .int .u8 0, .int .u8 0, .int .u8 0, .int .u8 0, .int .u8 0, .int .u8 0, .int .u8 0, .int .u8 0, .int .u8 0, .int .u8 0, .int .u8 0, .int .u8 0, .int .u8 0, .int .u8 0, .int .u8 0, .int .u8 0, .int .u8 0, .int .u8 0, .int .u8 0, .int .u8 0, .int .u8 0, .int .u8 0, .int .u8 0, .int .u8 0, .int .u8 0, .int .u8 0, .int .u8 0, .int .u8 0, .int .u8 0, .int .u8 0, .int .u8 0, .int .u8 0, .int .u8 0, .int .u8 0, .int .u8 0, .int .u8 0, .int .u8 0, .int .u8 0, .int .u8 0, .int .u8 0, .int .u8 0, .int .u8 0, .int .u8 0, .int .u8 0, .int .u8 0, .int .u8 0, .int .u8 0, .int .u8 0, .int .u8 0, .int .u8 0, .int .u8 0, .int .u8 0, .int .u8 0, .int .u8 0, .int .u8 0, .int .u8 0, .int .u8 0, .int .u8 0, .int .u8 0, .int .u8 0, .int .u8 0, .int .u8 0], .arr 65 5⟩ := ⟨by kernel_rfl, by kernel_rfl, by kernel_rfl, by kernel_rfl, by kernel_rfl⟩
theorem tok265 : TOKt Tryz.prog 265 ⟨32, 32, .agg #[.int .u8 0, .int .u8 0, .int .u8 0, .int .u8 0, .int .u8 0, .int .u8 0, .int .u8 0, .int .u8 0, .int .u8 0, .int .u8 0, .int .u8 0, .int .u8 0, .int .u8 0, .int .u8 0, .int .u8 0, .int .u8 0, .int .u8 0, .int .u8 0, .int .u8 0, .int .u8 0, .int .u8 0, .int .u8 0, .int .u8 0, .int .u8 0, .int .u8 0, .int .u8 0, .int .u8 0, .int .u8 0, .int .u8 0, .int .u8 0, .int .u8 0, .int .u8 0], .arr 32 5⟩ := ⟨by kernel_rfl, by kernel_rfl, by kernel_rfl, by kernel_rfl, by kernel_rfl⟩
theorem tok266 : TOKt Tryz.prog 266 ⟨64, 64, .agg #[.int .u8 0, .int .u8 0, .int .u8 0, .int .u8 0, .int .u8 0, .int .u8 0, .int .u8 0, .int .u8 0, .int .u8 0, .int .u8 0, .int .u8 0, .int .u8 0, .int .u8 0, .int .u8 0, .int .u8 0, .int .u8 0, .int .u8 0, .int .u8 0, .int .u8 0, .int .u8 0, .int .u8 0, .int .u8 0, .int .u8 0, .int .u8 0, .int .u8 0, .int .u8 0, .int .u8 0, .int .u8 0, .int .u8 0, .int .u8 0, .int .u8 0, .int .u8 0, .int .u8 0, .int .u8 0, .int .u8 0, .int .u8 0, .int .u8 0, .int .u8 0, .int .u8 0, .int .u8 0, .int .u8 0, .int .u8 0, .int .u8 0, .int .u8 0, .int .u8 0, .int .u8 0, .int .u8 0, .int .u8 0, .int .u8 0, .int .u8 0, .int .u8 0, .int .u8 0, .int .u8 0, .int .u8 0, .int .u8 0, .int .u8 0, .int .u8 0, .int .u8 0, .int .u8 0, .int .u8 0, .int .u8 0, .int .u8 0, .int .u8 0, .int .u8 0], .arr 64 5⟩ := ⟨by kernel_rfl, by kernel_rfl, by kernel_rfl, by kernel_rfl, by kernel_rfl⟩
theorem tabOK_0 (t : TypeId) : ((tab_0 t).size = 0 ∧ (tab_0 t).kind = .other) ∨ ((tab_0 t).size ≠ 0 ∧ TOKt Tryz.prog t (tab_0 t)) := by
 unfold tab_0
 split
 ·exact .inr ⟨by decide, tok1⟩
 ·exact .inr ⟨by decide, tok2⟩
 ·exact .inr ⟨by decide, tok3⟩
 ·exact .inr ⟨by decide, tok4⟩
 ·exact .inr ⟨by decide, tok5⟩
 ·exact .inr ⟨by decide, tok6⟩
 ·exact .inr ⟨by decide, tok7⟩
 ·exact .inr ⟨by decide, tok8⟩
 ·exact .inr ⟨by decide, tok9⟩
 ·exact .inr ⟨by decide, tok20⟩
 ·exact .inr ⟨by decide, tok22⟩
 ·exact .inr ⟨by decide, tok23⟩
 ·exact .inr ⟨by decide, tok24⟩
 ·exact .inr ⟨by decide, tok26⟩
 ·exact .inr ⟨by decide, tok32⟩
 ·exact .inr ⟨by decide, tok33⟩
 ·exact .inr ⟨by decide, tok35⟩
 ·exact .inr ⟨by decide, tok36⟩
 ·exact .inr ⟨by decide, tok37⟩
 ·exact .inr ⟨by decide, tok39⟩
 ·exact .inr ⟨by decide, tok41⟩
 ·exact .inr ⟨by decide, tok42⟩
 ·exact .inr ⟨by decide, tok43⟩
 ·exact .inr ⟨by decide, tok45⟩
 ·exact .inr ⟨by decide, tok46⟩
 ·exact .inr ⟨by decide, tok47⟩
 ·exact .inr ⟨by decide, tok49⟩
 ·exact .inr ⟨by decide, tok50⟩
 ·exact .inr ⟨by decide, tok52⟩
 ·exact .inl ⟨rfl, rfl⟩
theorem tabOK_1 (t : TypeId) : ((tab_1 t).size = 0 ∧ (tab_1 t).kind = .other) ∨ ((tab_1 t).size ≠ 0 ∧ TOKt Tryz.prog t (tab_1 t)) := by
 unfold tab_1
 split
 ·exact .inr ⟨by decide, tok74⟩
 ·exact .inr ⟨by decide, tok79⟩
 ·exact .inr ⟨by decide, tok83⟩
 ·exact .inr ⟨by decide, tok86⟩
 ·exact .inr ⟨by decide, tok87⟩
 ·exact .inr ⟨by decide, tok89⟩
 ·exact .inr ⟨by decide, tok92⟩
 ·exact .inr ⟨by decide, tok100⟩
 ·exact .inr ⟨by decide, tok101⟩
 ·exact .inr ⟨by decide, tok102⟩
 ·exact .inr ⟨by decide, tok103⟩
 ·exact .inr ⟨by decide, tok105⟩
 ·exact .inr ⟨by decide, tok107⟩
 ·exact .inr ⟨by decide, tok108⟩
 ·exact .inr ⟨by decide, tok113⟩
 ·exact .inr ⟨by decide, tok114⟩
 ·exact .inr ⟨by decide, tok116⟩
 ·exact .inr ⟨by decide, tok117⟩
 ·exact .inr ⟨by decide, tok118⟩
 ·exact .inr ⟨by decide, tok122⟩
 ·exact .inl ⟨rfl, rfl⟩
theorem tabOK_2 (t : TypeId) : ((tab_2 t).size = 0 ∧ (tab_2 t).kind = .other) ∨ ((tab_2 t).size ≠ 0 ∧ TOKt Tryz.prog t (tab_2 t)) := by
 unfold tab_2
 split
 ·exact .inr ⟨by decide, tok123⟩
 ·exact .inr ⟨by decide, tok125⟩
 ·exact .inr ⟨by decide, tok127⟩
 ·exact .inr ⟨by decide, tok130⟩
 ·exact .inr ⟨by decide, tok132⟩
 ·exact .inr ⟨by decide, tok136⟩
 ·exact .inr ⟨by decide, tok173⟩
 ·exact .inr ⟨by decide, tok175⟩
 ·exact .inr ⟨by decide, tok178⟩
 ·exact .inr ⟨by decide, tok179⟩
 ·exact .inr ⟨by decide, tok180⟩
 ·exact .inr ⟨by decide, tok182⟩
 ·exact .inl ⟨rfl, rfl⟩
theorem tabOK_3 (t : TypeId) : ((tab_3 t).size = 0 ∧ (tab_3 t).kind = .other) ∨ ((tab_3 t).size ≠ 0 ∧ TOKt Tryz.prog t (tab_3 t)) := by
 unfold tab_3
 split
 ·exact .inr ⟨by decide, tok189⟩
 ·exact .inr ⟨by decide, tok215⟩
 ·exact .inr ⟨by decide, tok219⟩
 ·exact .inr ⟨by decide, tok220⟩
 ·exact .inr ⟨by decide, tok224⟩
 ·exact .inr ⟨by decide, tok225⟩
 ·exact .inr ⟨by decide, tok241⟩
 ·exact .inr ⟨by decide, tok244⟩
 ·exact .inr ⟨by decide, tok247⟩
 ·exact .inl ⟨rfl, rfl⟩
theorem tabOK_4 (t : TypeId) : ((tab_4 t).size = 0 ∧ (tab_4 t).kind = .other) ∨ ((tab_4 t).size ≠ 0 ∧ TOKt Tryz.prog t (tab_4 t)) := by
 unfold tab_4
 split
 ·exact .inr ⟨by decide, tok253⟩
 ·exact .inr ⟨by decide, tok261⟩
 ·exact .inr ⟨by decide, tok262⟩
 ·exact .inr ⟨by decide, tok265⟩
 ·exact .inr ⟨by decide, tok266⟩
 ·exact .inl ⟨rfl, rfl⟩
theorem tabOK : TOK Tryz.prog tab := by
 intro t
 unfold tab
 split
 ·exact tabOK_0 t
 split
 ·exact tabOK_1 t
 split
 ·exact tabOK_2 t
 split
 ·exact tabOK_3 t
 exact tabOK_4 t
end Go.Proofs.Tryz
end
section
namespace Go.AM
open Go

def dV {H : Type} (T : Tab) : Nat → TypeId → DataW H → List V
 | 0, _, _ => []
 | n + 1, t, d => match (T t).kind, d with
  | .int _, .lit (.int k m) => [.i k m]
  | .bool, .lit (.bool b) => [.b b]
  | .string, .lit (.string s) => [.s s]
  | .slc e, .nil => [.ro (T e).size []]
  | .slc e, .slice elems _ => [.ro (T e).size (elems.map (dV T n e))]
  | .str fs, .agg parts => (List.zipWith (fun (f : Nat × TypeId) p => dV T n f.2 p) fs parts).flatten
  | _, _ => []

def shp (T : Tab) : Nat → TypeId → List V → Prop
 | 0, _, _ => False
 | n + 1, t, xs => match (T t).kind with
  | .int k => ∃ m, (Lit.int k m).wf = true ∧ xs = [.i k m]
  | .bool => ∃ b, xs = [.b b]
  | .string => ∃ s : List UInt8, s.length ≤ most ∧ xs = [.s s]
  | .slc e => ∃ es : List (List V), es.length ≤ most ∧ xs = [.ro (T e).size es] ∧ ∀ l ∈ es, shp T n e l
  | .str fs => ∃ yss : List (List V), xs = yss.flatten ∧ yss.length = fs.length ∧ ∀ (i : Nat) (f : Nat × TypeId) (ys : List V), fs[i]? = some f → yss[i]? = some ys → shp T n f.2 ys
  | _ => False

def contig (T : Tab) : Nat → List (Nat × TypeId) → Nat → Bool
 | off, [], total => off == total
 | off, f :: r, total => f.1 == off && contig T (off + (T f.2).size) r total

section
variable {H : Type} {enc : TypeId × Value → H} {P : Program} {T : Tab} {w : World} {base : Nat} {spare : Nat → Bool} {held : Bool} {ok : Nat → Prop}

def Reads (ok : Nat → Prop) (w : World) (n : Nat) (xs : List V) (cs : List Value) : Prop :=
 xs.length = n ∧ cs.length = n ∧ ∀ (j : Nat) (x : V) (u : Value), xs[j]? = some x → cs[j]? = some u → PRel ok w x u

theorem Reads.one {x : V} {u : Value} (h : PRel ok w x u) : Reads ok w 1 [x] [u] := by
 refine ⟨rfl, rfl, fun j y z hy hz => ?_⟩
 cases j with
 | zero => simp only [List.getElem?_cons_zero, Option.some.injEq] at hy hz; subst hy; subst hz; exact h
 | succ j => simp at hy

theorem Reads.append {n m : Nat} {xs ys : List V} {cs ds : List Value} (h : Reads ok w n xs cs) (h' : Reads ok w m ys ds) : Reads ok w (n + m) (xs ++ ys) (cs ++ ds) := by
 obtain ⟨h1, h2, h3⟩ := h
 obtain ⟨g1, g2, g3⟩ := h'
 refine ⟨by simp [h1, g1], by simp [h2, g2], fun j x u hx hu => ?_⟩
 rw [List.getElem?_append] at hx hu
 rw [h1] at hx; rw [h2] at hu
 split at hx
 ·rw [if_pos (by assumption)] at hu; exact h3 j x u hx hu
 ·rw [if_neg (by assumption)] at hu; exact g3 _ x u hx hu

theorem cellsOf_tab (hT : TOK P T) {t : TypeId} (h : (T t).size ≠ 0) : P.cellsOf t = (T t).size := by
 obtain ⟨i, d, h1, _, h3, _⟩ := hT.get h
 simp [Program.cellsOf, h1, h3]

end

end Go.AM
end
section
namespace Go.AM
open Go

section
variable {H : Type} {enc : TypeId × Value → H} {P : Program} {T : Tab}

theorem okc_nil (W : World) (m : Locs) (b : Nat) : okc ⟨W, ownOf m [], fun _ => True, dirOf m [], []⟩ m [] b :=
 ⟨.inl trivial, fun o _ _ h => by simp [List.getD] at h; exact h.elim⟩

theorem QC.truth {f : FuncId} {args : List V} (h : QC P f args [] (.b true) []) {W : World} (hG : GOK P W fun _ => False) {vs : Array Value} (hs : vs.size = args.length)
  (hr : ∀ (ok : Nat → Prop), (∀ b, ok b) → ∀ (D : Dir) (j : Nat) (x : V) (u : Value), args[j]? = some x → vs[j]? = some u → VRel D ok W x u) :
  Calls P f vs W fun e W' => e = .returned (.bool true) ∧ RowKit.Below W.heap.size W W' := by
 have hl : ∀ o, ([] : List Ob).getD o .unborn = .unborn := fun o => by simp [List.getD]
 have R : HRel ⟨W, ownOf (fun _ => none) [], fun _ => True, dirOf (fun _ => none) [], []⟩ (fun _ => none) [] W :=
  { ext := .refl _ _, blk := fun o _ _ h => by rw [hl] at h; exact h.elim, inj := fun o _ _ _ _ h => by rw [hl] at h; exact h.elim,
    obs := fun o => by rw [hl]; trivial, new := fun o _ _ h => by rw [hl] at h; exact h.elim, dle := fun o d h => ⟨d, h, .refl d⟩ }
 refine (h.2 W vs (fun _ => none) (fun _ => True) (fun e he => ⟨(hG e he).1, fun g hg => ⟨((hG e he).2 g hg).1, by rintro ⟨o, off, hlv, _⟩; rw [hl] at hlv; exact hlv.elim⟩⟩) R hs (hr _ (okc_nil W _) _)).mono ?_
 rintro e W' ⟨v, m', rfl, R', hv⟩
 have hv := hv.b_inv
 subst hv
 refine ⟨rfl, ⟨R'.ext.os, R'.ext.tape, R'.ext.output, R'.ext.size, fun b hb => R'.ext.block b hb ?_⟩⟩
 rintro ⟨o, off, hlv, _⟩
 rw [hl] at hlv
 exact hlv.elim

end

end Go.AM
end
section
namespace Go.AM
open Go

inductive Ctl (ρ ν : Type) where
 | ret (r : ρ)
 | go (v : ν)

section
variable {α β ρ ν μ : Type}

def Ctl.bind (c : Ctl ρ ν) (f : ν → Ctl ρ μ) : Ctl ρ μ := match c with
 | .ret r => .ret r
 | .go v => f v
def Ctl.run (c : Ctl ρ ν) (f : ν → ρ) : ρ := match c with
 | .ret r => r
 | .go v => f v
def bnd (a : α) (f : α → β) : β := f a
theorem bnd_split {a : α} {f : α → β} {r : β} (h : bnd a f = r) : ∃ z, a = z ∧ bnd z f = r := ⟨a, rfl, h⟩
theorem run_split {c : Ctl ρ ν} {f : ν → ρ} {r : ρ} (h : c.run f = r) : ∃ z, c = z ∧ z.run f = r := ⟨c, rfl, h⟩
theorem bnd_on {z v : α} {f : α → β} {r : β} (h : bnd z f = r) (e : z = v) : f v = r := by subst e; exact h
theorem run_on {z : Ctl ρ ν} {v : ν} {f : ν → ρ} {r : ρ} (h : z.run f = r) (e : z = .go v) : f v = r := by subst e; exact h
theorem run_back {z : Ctl ρ ν} {q : ρ} {f : ν → ρ} {r : ρ} (h : z.run f = r) (e : .ret q = z) : q = r := by subst e; exact h
theorem pos_on {c : Prop} [Decidable c] {a b r : α} (h : (if c then a else b) = r) (hc : c) : a = r := by rwa [if_pos hc] at h
theorem neg_on {c : Prop} [Decidable c] {a b r : α} (h : (if c then a else b) = r) (hc : ¬ c) : b = r := by rwa [if_neg hc] at h
end

section
variable {P : Program} {k : Nat} {K : Exit → St → Prop} {σ : St}

theorem EV.nrm {α : Type} (I : α → St) {c : Code} (h1 : EV P k c σ (thenK (Join k I) K)) (h2 : ∀ z, K .normal (I z)) : EV P k c σ K := by
 intro E a w hE hr
 refine wp_mono (h1 E a w hE hr) ?_
 rintro e a' w' ⟨σ', h3, h4⟩
 cases e with
 | normal =>
  obtain ⟨y, hy⟩ := h3
  exact ⟨I y, h2 y, hy E a' w' hE.1 h4⟩
 | _ => exact ⟨σ', h3, h4⟩

theorem PRel.rowLen {ok : Nat → Prop} {w : World} {sz : Nat} {es : List (List V)} {u : Value} (h : PRel ok w (.ro sz es) u) : es.length ≤ most := by
 cases h with
 | ro0 => exact Nat.zero_le _
 | ro _ _ _ _ _ _ _ _ _ _ hm => exact hm

theorem EV.room (j : Nat) {sz : Nat} {es : List (List V)} {c : Code} (hj : σ.t[j]? = some (.ro sz es)) (h : es.length ≤ 9223372036854775807 → EV P k c σ K) : EV P k c σ K := by
 intro E a w hE hr
 obtain ⟨m, R⟩ := hr
 have h1 := R.tmps j
 have h2 : σ.t.getD j .junk = .ro sz es := by rw [List.getD, hj]; rfl
 rw [h2] at h1
 cases h1 with
 | pure hp => exact h hp.rowLen E a w hE ⟨m, R⟩

end

def cvE (lk : Nat → Ob) (x : V) : TK → Option (V × List (Nat × Ob))
 | .int .u8 => (elemsOf 1 lk x).bind fun es => (bytesOf es).map fun l => (.s l, [])
 | _ => none
def cvK (T : Tab) (lk : Nat → Ob) (x : V) : TK → Option (V × List (Nat × Ob))
 | .slc e => cvE lk x (T e).kind
 | _ => none
def cvV (T : Tab) (src : TypeId) (lk : Nat → Ob) : TK → V → Option (V × List (Nat × Ob))
 | .int k, .i _ n => some (.i k (k.wrap n), [])
 | .string, .s u => some (.s u, [])
 | .string, x => cvK T lk x (T src).kind
 | _, _ => none
section
variable {T : Tab} {ev : Operand → V} {lk : Nat → Ob} {nx : Nat}
theorem step_convert {src dst : TypeId} {x : Operand} : step T (.convert src dst x) ev lk nx = if (T src).size ≠ 0 then cvV T src lk (T dst).kind (ev x) else none := by
 simp only [step]
 split
 ·generalize ev x = y
  generalize (T dst).kind = kd
  cases kd <;> cases y <;> first | rfl | (simp only [cvV, cvK]; cases (T src).kind <;> first | rfl | (rename_i e; simp only [cvE]; generalize (T e).kind = ke; cases ke <;> first | rfl | (rename_i ki; cases ki <;> first | rfl | (cases elemsOf 1 lk _ <;> rfl))))
 ·rfl
theorem cvV_i {src : TypeId} {k k' : IntKind} {n : Int} : cvV T src lk (.int k) (.i k' n) = some (.i k (k.wrap n), []) := rfl
theorem cvV_s {src : TypeId} {u : List UInt8} : cvV T src lk .string (.s u) = some (.s u, []) := rfl
theorem cvV_sl {src : TypeId} {o ep off n : Nat} : cvV T src lk .string (.sl o ep off n) = cvK T lk (.sl o ep off n) (T src).kind := rfl
theorem cvK_slc {x : V} {e : TypeId} : cvK T lk x (.slc e) = cvE lk x (T e).kind := rfl
theorem cvE_u8 {x : V} : cvE lk x (.int .u8) = (elemsOf 1 lk x).bind fun es => (bytesOf es).map fun l => (.s l, []) := rfl
end
end Go.AM
end
section
namespace Go.AM
open Go

def okS (T : Tab) (S : List TypeId) (t : TypeId) : Bool := match (T t).kind with
 | .int _ | .bool | .string => (T t).size == 1
 | .slc e => (T t).size == 1 && S.contains e
 | .str fs => contig T 0 fs (T t).size && fs.all (fun f => S.contains f.2) && (T t).size != 0
 | _ => false
def closedS (T : Tab) (S : List TypeId) : Bool := S.all (okS T S)

section
variable {H : Type} {enc : TypeId × Value → H} {P : Program} {T : Tab} {w : World} {base : Nat} {spare : Nat → Bool} {held : Bool} {ok : Nat → Prop}

theorem okS_of {S : List TypeId} (hS : closedS T S = true) {t : TypeId} (h : t ∈ S) : okS T S t = true := List.all_eq_true.1 hS t h
theorem okS_size {S : List TypeId} (hS : closedS T S = true) {t : TypeId} (h : t ∈ S) : (T t).size ≠ 0 := by
 have h := okS_of hS h
 unfold okS at h
 split at h
 ·simp at h; omega
 ·simp at h; omega
 ·simp at h; omega
 ·simp at h; omega
 ·simp at h; exact h.2
 ·cases h

theorem reads_fieldsS {S : List TypeId} (hS : closedS T S = true) {n : Nat} (cs : List Value) (ih : ∀ f : Nat × TypeId, f.2 ∈ S → ∀ cs' (x : DataW H × List MemPlace), DataW.trod enc P w base spare held n f.2 cs' = some x → Reads ok w (T f.2).size (dV T n f.2 x.1) cs' ∧ shp T n f.2 (dV T n f.2 x.1)) (hT : TOK P T) :
  ∀ (fs : List (Nat × TypeId)) (xs : List (DataW H × List MemPlace)) (off total : Nat), contig T off fs total = true → (fs.all fun f => S.contains f.2) = true → total ≤ cs.length → fs.length = xs.length →
   (∀ (i : Nat) (f : Nat × TypeId), fs[i]? = some f → DataW.trod enc P w base spare held n f.2 ((cs.drop f.1).take (P.cellsOf f.2)) = xs[i]?) →
   off ≤ total ∧ Reads ok w (total - off) (List.zipWith (fun (f : Nat × TypeId) p => dV T n f.2 p) fs (xs.map (·.1))).flatten ((cs.drop off).take (total - off))
 | [], xs, off, total, hc, _, _, hl, _ => by
  simp [contig] at hc
  subst hc
  simp only [Nat.sub_self, List.zipWith_nil_left, List.flatten_nil, List.take_zero]
  exact ⟨Nat.le_refl _, rfl, rfl, fun j x u hx => by simp at hx⟩
 | f :: fs, [], _, _, _, _, _, hl, _ => by simp at hl
 | f :: fs, x :: xs, off, total, hc, ha, ht, hl, hx => by
  simp only [contig, Bool.and_eq_true, beq_iff_eq] at hc
  simp only [List.all_cons, Bool.and_eq_true] at ha
  obtain ⟨hle, h2⟩ := reads_fieldsS hS cs ih hT fs xs (off + (T f.2).size) total hc.2 ha.2 ht (by simpa using hl) (fun i g hg => by simpa using hx (i + 1) g (by simpa using hg))
  have h0 := hx 0 f rfl
  rw [List.getElem?_cons_zero] at h0
  have h1 := (ih f (by simpa using ha.1) _ x h0).1
  rw [cellsOf_tab hT (okS_size hS (by simpa using ha.1)), hc.1] at h1
  refine ⟨by omega, ?_⟩
  have h3 := h1.append h2
  rw [show (T f.2).size + (total - (off + (T f.2).size)) = total - off by omega] at h3
  have e : (cs.drop off).take (T f.2).size ++ (cs.drop (off + (T f.2).size)).take (total - (off + (T f.2).size)) = (cs.drop off).take (total - off) := by
   rw [← List.drop_drop, show total - off = (T f.2).size + (total - (off + (T f.2).size)) by omega, List.take_add]
  rw [e] at h3
  simpa using h3

theorem reads_dataS (hT : TOK P T) {S : List TypeId} (hS : closedS T S = true) (hok : ∀ b, b < w.heap.size → ok b) : ∀ (m : Nat) (t : TypeId), t ∈ S → ∀ (cs : List Value) (x : DataW H × List MemPlace),
  DataW.trod enc P w base spare held m t cs = some x → Reads ok w (T t).size (dV T m t x.1) cs ∧ shp T m t (dV T m t x.1)
 | 0, t, h, cs, x, hx => by simp [DataW.trod] at hx
 | n + 1, t, h, cs, x, hx => by
  have hs := okS_size hS h
  have h := okS_of hS h
  unfold okS at h
  split at h
  ·rename_i k hk
   obtain ⟨v, rfl, rfl, hw⟩ := DataW.trod_int (hT.int hk) hx
   simp only [beq_iff_eq] at h
   rw [h]
   simp only [dV, shp, hk]
   exact ⟨.one (.i _ _), v, hw, rfl⟩
  ·rename_i hk
   obtain ⟨v, rfl, rfl⟩ := DataW.trod_bool (hT.bool hk) hx
   simp only [beq_iff_eq] at h
   rw [h]
   simp only [dV, shp, hk]
   exact ⟨.one (.b _), v, rfl⟩
  ·rename_i hk
   obtain ⟨v, rfl, rfl, hw⟩ := DataW.trod_string (hT.string hk) hx
   simp only [beq_iff_eq] at h
   rw [h]
   simp only [dV, shp, hk]
   exact ⟨.one (.s _), _, by rw [Array.length_toList]; exact hw, rfl⟩
  ·rename_i e hk
   simp only [Bool.and_eq_true, beq_iff_eq] at h
   have hse := okS_size hS (by simpa using h.2)
   have hce := cellsOf_tab hT hse
   rw [h.1]
   rcases DataW.trod_slice (hT.slc hk) hx with ⟨rfl, rfl⟩ | ⟨a, len, cap, elems, rest, m', hmm, rfl, rfl, hb, hlc, hcap, hlen, hel, _, _⟩
   ·simp only [dV, shp, hk]
    exact ⟨.one (.ro0 _ _ _), [], Nat.zero_le _, rfl, fun l hl => by cases hl⟩
   ·obtain rfl : n = m' := by omega
    simp only [dV, shp, hk]
    rw [hce] at hel
    have key : ∀ i, i < len → ∃ cs', w.cells? base (a.add (i * (T e).size)) (T e).size = some cs' ∧ ∃ y, elems[i]? = some y ∧ Reads ok w (T e).size (dV T n e y.1) cs' ∧ shp T n e (dV T n e y.1) := by
     intro i hi
     have h1 := hel i hi
     rw [List.getElem?_eq_getElem (by omega)] at h1 ⊢
     obtain ⟨cs', h2, h3⟩ := Option.bind_eq_some_iff.1 h1
     exact ⟨cs', h2, _, rfl, reads_dataS hT hS hok n e (by simpa using h.2) cs' _ h3⟩
    refine ⟨.one ?_, _, ?_, rfl, ?_⟩
    rotate_left
    ·simp only [List.length_map, hlen]; unfold maxLen at hcap; unfold most; omega
    ·intro l hl
     rw [List.map_map] at hl
     obtain ⟨i, hi⟩ := List.mem_iff_getElem?.1 hl
     rw [List.getElem?_map] at hi
     cases hq : elems[i]? with
     | none => rw [hq] at hi; cases hi
     | some y0 =>
      rw [hq] at hi
      obtain rfl := Option.some.inj hi
      obtain ⟨_, _, y, h2, _, h3⟩ := key i (by rw [← hlen]; exact (List.getElem?_eq_some_iff.1 hq).1)
      rw [hq] at h2
      obtain rfl := Option.some.inj h2
      exact h3
    cases len with
    | zero =>
     have : elems = [] := List.eq_nil_of_length_eq_zero hlen
     subst this
     exact .ro0 _ _ _
    | succ len =>
     obtain ⟨cs0, h0, _⟩ := key 0 (by omega)
     obtain ⟨_, hl0, hc0⟩ := World.cells?_some h0
     have hcell := hc0 0 (by omega)
     rw [List.getElem?_eq_getElem (by omega)] at hcell
     have hspot : a.spot = none ∧ a.block < w.heap.size := by
      simp only [Nat.zero_mul, Addr.add, if_true] at hcell
      unfold World.cell? at hcell
      split at hcell
      ·rename_i c _ _ hbk
       refine ⟨?_, (Array.getElem?_eq_some_iff.1 hbk).1⟩
       cases hq : a.spot with
       | none => rfl
       | some _ => rw [hq] at hcell; simp at hcell
      ·cases hcell
     obtain ⟨blk, off, sp⟩ := a
     obtain ⟨h4, h5⟩ := hspot
     simp only at h4 h5
     subst h4
     have hlen' : (elems.map fun x => dV T n e x.1).length = len + 1 := by simpa using hlen
     have hrow : ∀ i j, i < len + 1 → j < (T e).size → ∃ u, w.cell? ⟨blk, off + i * (T e).size + j, none⟩ = some u ∧ ∀ y, ((elems.map fun x => dV T n e x.1)[i]?).bind (fun l => l[j]?) = some y → PRel ok w y u := by
      intro i j hi hj
      obtain ⟨cs', h1, y, h2, h3⟩ := key i hi
      obtain ⟨_, hl1, hc1⟩ := World.cells?_some h1
      have h4 := hc1 j hj
      rw [List.getElem?_eq_getElem (by omega)] at h4
      rw [Addr.add_none, Addr.add_none] at h4
      refine ⟨_, h4, fun z hz => ?_⟩
      rw [List.getElem?_map, h2] at hz
      exact h3.1.2.2 j z _ hz (List.getElem?_eq_getElem (by omega))
     rw [List.map_map]
     have := PRel.ro (ok := ok) (w := w) (T e).size (elems.map fun x => dV T n e x.1) blk off cap (fun i j => (w.cell? ⟨blk, off + i * (T e).size + j, none⟩).getD undef) (hok _ h5) h5
      (fun l hl => by
       obtain ⟨i, hi⟩ := List.mem_iff_getElem?.1 hl
       have hi' : i < len + 1 := by rw [← hlen']; exact (List.getElem?_eq_some_iff.1 hi).1
       obtain ⟨cs', _, y, h2, h3⟩ := key i hi'
       rw [List.getElem?_map, h2] at hi
       obtain rfl := Option.some.inj hi
       exact h3.1.1)
      (by omega) (by rw [hlen']; unfold maxLen at hcap; unfold most; omega)
      (fun i j hi hj => by
       rw [hlen'] at hi
       obtain ⟨u, h1, _⟩ := hrow i j hi hj
       rw [h1]; rfl)
      (fun i j y hy => by
       have hi : i < len + 1 := by
        rw [← hlen']
        cases hq : (elems.map fun x => dV T n e x.1)[i]? with
        | none => rw [hq] at hy; cases hy
        | some l => exact (List.getElem?_eq_some_iff.1 hq).1
       have hj : j < (T e).size := by
        obtain ⟨cs', _, z, h2, h3⟩ := key i hi
        rw [List.getElem?_map, h2] at hy
        rw [← h3.1.1]
        exact (List.getElem?_eq_some_iff.1 (show (dV T n e z.1)[j]? = some y from hy)).1
       obtain ⟨u, h1, h2⟩ := hrow i j hi hj
       rw [h1]
       exact h2 y hy)
     rw [hlen'] at this
     exact this
  ·rename_i fs hk
   simp only [Bool.and_eq_true] at h
   obtain ⟨fields, hu, hfs⟩ := hT.str hk
   obtain ⟨xs, m', hmm, rfl, hlen, hxl, hxf⟩ := DataW.trod_struct hu hx
   obtain rfl : n = m' := by omega
   simp only [dV, hk]
   rw [cellsOf_tab hT hs] at hlen
   have := reads_fieldsS hS (n := n) cs (fun f hf cs' y hq => reads_dataS hT hS hok n f.2 hf cs' y hq) hT fs xs 0 (T t).size h.1.1 h.1.2 (by omega) (by rw [← hfs]; simp [hxl])
    (fun i f hf => by
     rw [← hfs, List.getElem?_map] at hf
     cases hq : fields.toList[i]? with
     | none => rw [hq] at hf; cases hf
     | some g =>
      rw [hq] at hf
      obtain rfl := Option.some.inj hf
      exact hxf i g (by simpa using hq))
   have h2 := this.2
   rw [Nat.sub_zero, List.drop_zero, ← hlen, List.take_length] at h2
   simp only [shp, hk]
   refine ⟨by rw [← hlen]; exact h2, _, rfl, by simp [← hfs, hxl], fun i f ys hf hy => ?_⟩
   rw [List.getElem?_zipWith] at hy
   rw [hf] at hy
   cases hq : (xs.map (·.1))[i]? with
   | none => rw [hq] at hy; cases hy
   | some y =>
    rw [hq] at hy
    obtain rfl := Option.some.inj hy
    rw [List.getElem?_map] at hq
    cases hq2 : xs[i]? with
    | none => rw [hq2] at hq; cases hq
    | some y2 =>
     rw [hq2] at hq
     obtain rfl := Option.some.inj hq
     have hf' := hf
     rw [← hfs, List.getElem?_map] at hf'
     cases hq3 : fields.toList[i]? with
     | none => rw [hq3] at hf'; cases hf'
     | some g =>
      rw [hq3] at hf'
      obtain rfl := Option.some.inj hf'
      have h5 := hxf i g (by simpa using hq3)
      rw [hq2] at h5
      exact (reads_dataS hT hS hok n g.type (by simpa using List.all_eq_true.1 h.1.2 _ (List.mem_of_getElem? hf)) _ _ h5).2
  ·cases h

end

end Go.AM
namespace Go.AM
theorem pu_ren0 {μ : Nat → Option Nat} {x : V} (h : Pu x) : ren0 μ x = x := by cases x <;> first | rfl | exact h.elim
theorem pu_map {μ : Nat → Option Nat} {cs : List V} (h : ∀ x ∈ cs, Pu x) : cs.map (ren0 μ) = cs := by
 induction cs with
 | nil => rfl
 | cons x cs ih => rw [List.map_cons, pu_ren0 (h x List.mem_cons_self), ih fun y hy => h y (List.mem_cons_of_mem _ hy)]
end Go.AM
namespace Go.AM
theorem ren_var {μ : Nat → Option Nat} {t : TypeId} {cs : List V} : (Ob.var t cs).ren μ = .var t (cs.map (ren0 μ)) := rfl
theorem ren_row {μ : Nat → Option Nat} {e : TypeId} {ep : Nat} {es : List (List V)} : (Ob.row e ep es).ren μ = .row e ep (es.map fun x => x.map (ren0 μ)) := rfl
end Go.AM
end
section
namespace Go.AM
open Go

theorem pos_on2 {α : Type} {c : Prop} [Decidable c] {a b r : α} (h : (if c then a else b) = r) (hc : c) : c ∧ a = r := ⟨hc, pos_on h hc⟩
theorem neg_on2 {α : Type} {c : Prop} [Decidable c] {a b r : α} (h : (if c then a else b) = r) (hc : ¬ c) : ¬ c ∧ b = r := ⟨hc, neg_on h hc⟩
theorem bor1 (a b : Bool) : (a || !a && b) = (a || b) := by cases a <;> simp
theorem bor2 (a b : Bool) : (!a || a && b) = (!a || b) := by cases a <;> simp
theorem bor3 (a b : Bool) : (a && (!a || b)) = (a && b) := by cases a <;> simp
theorem bor4 (a b : Bool) : (!a && (a || b)) = (!a && b) := by cases a <;> simp
def c0 : V → V → Prop
 | .c v, .ro _ es => v = .slice none 0 0 ∧ es = []
 | x, y => y = x ∧ Pu x
def cvOb (k o ep off n sz : Nat) (es' : List (List V)) : Ob → Prop
 | .arr ep' sz' es => ep' = ep ∧ sz' = sz ∧ k ≤ o ∧ ((off + n ≤ es.length ∧ (es.drop off).take n = es' ∧ (∀ x ∈ es, x.length = sz) ∧ ∀ e ∈ es, ∀ y ∈ e, Pu y) ∨ (off = 0 ∧ es.length = n ∧ (∀ x ∈ es', x.length = sz) ∧ allR c0 es es'))
 | _ => False
theorem allR_mono {R R' : V → V → Prop} (h : ∀ x y, R x y → R' x y) : ∀ {as1 bs : List (List V)}, allR R as1 bs → allR R' as1 bs
 | [], [], _ => trivial
 | a :: as1, b :: bs, hr => by
  have hp : ∀ {xs ys : List V}, allP R xs ys → allP R' xs ys := by
   intro xs
   induction xs with
   | nil => intro ys hh; cases ys with
    | nil => trivial
    | cons => exact hh.elim
   | cons x xs ih => intro ys hh; cases ys with
    | nil => exact hh.elim
    | cons y ys => exact ⟨h _ _ hh.1, ih hh.2⟩
  exact ⟨hp hr.1, allR_mono h hr.2⟩
 | [], _ :: _, hr => hr.elim
 | _ :: _, [], hr => hr.elim
def conv0 (h : List Ob) (k : Nat) : V → V → Prop
 | .sl o ep off n, .ro sz es' => cvOb k o ep off n sz es' (h.getD o .unborn)
 | .c v, .ro _ es => v = .slice none 0 0 ∧ es = []
 | x, y => y = x ∧ Pu x
def conv1 (h : List Ob) (k : Nat) : V → V → Prop
 | .agg cs, .agg cs' => allP (conv0 h k) cs cs'
 | x, y => conv0 h k x y
def convV (h : List Ob) (k : Nat) : V → V → Prop
 | .tup cs, .tup cs' => allP (conv1 h k) cs cs'
 | x, y => conv1 h k x y

section
variable {T : Tab} {k : Nat} {rs : List ResultVar} {σ : St}

theorem conv0_ret {h : List Ob} {x y : V} (hc : conv0 h k x y) : RetP (fun o => h.getD o .unborn) (List.range k) x y := by
 unfold conv0 at hc
 split at hc
 ·rename_i o ep off n sz es'
  unfold cvOb at hc
  split at hc
  ·rename_i ep' sz' es heq
   obtain ⟨rfl, rfl, h1, ⟨h2, rfl, h3, h4⟩ | ⟨rfl, h2, h3, h4⟩⟩ := hc
   ·exact RetP.flat (by simp; omega) heq h2 h3 h4
   ·exact RetP.rows (by simp; omega) heq h2 h3 (allR_mono (fun x y hq => by
     unfold c0 at hq
     split at hq
     ·obtain ⟨rfl, rfl⟩ := hq; exact .nil _
     ·obtain ⟨rfl, hp⟩ := hq; exact .pu hp) h4)
  ·exact hc.elim
 ·obtain ⟨rfl, rfl⟩ := hc
  exact .nil _
 ·obtain ⟨rfl, hp⟩ := hc
  exact .pu hp
theorem conv1_ret {h : List Ob} {x y : V} (hc : conv1 h k x y) : Ret1 (fun o => h.getD o .unborn) (List.range k) x y := by
 unfold conv1 at hc
 split at hc
 ·rename_i cs cs'
  obtain ⟨h1, h2⟩ := allP_get hc
  refine .inr (.inr ⟨cs, cs', rfl, rfl, h1.symm, fun j a b ha hb => .inr ?_⟩)
  obtain ⟨x, hx, hr⟩ := h2 j b hb
  rw [ha] at hx
  obtain rfl := Option.some.inj hx
  exact conv0_ret hr
 ·exact .inr (.inl (conv0_ret hc))
theorem convV_ret {h : List Ob} {x y : V} (hc : convV h k x y) : RetV (fun o => h.getD o .unborn) (List.range k) x y := by
 unfold convV at hc
 split at hc
 ·rename_i cs cs'
  obtain ⟨h1, h2⟩ := allP_get hc
  refine .inr ⟨cs, cs', rfl, rfl, h1.symm, fun j a b ha hb => ?_⟩
  obtain ⟨x, hx, hr⟩ := h2 j b hb
  rw [ha] at hx
  obtain rfl := Option.some.inj hx
  exact conv1_ret hr
 ·exact .inl (conv1_ret hc)

theorem Fin.data {r : V} {objs' : List Ob} (h : finS T σ rs fun x => convV σ.h k x r) (ho : passed σ.h (List.range k) = objs') : Fin T k rs r objs' σ := by
 obtain ⟨l, h1, h2⟩ := finS_inv h
 refine ⟨[], l, List.nodup_nil, by simp, by rw [List.append_nil]; exact ho.symm, h1, ?_⟩
 rw [List.append_nil]
 exact convV_ret h2
end

def ld0 (h : List Ob) (vs : List Nat) : V → V → Prop
 | .sl o ep off n, .ro sz es' => vs.contains o = true ∧ cvOb 0 o ep off n sz es' (h.getD o .unborn)
 | .c v, .ro _ es => v = .slice none 0 0 ∧ es = []
 | x, y => y = x ∧ Pu x
def ld1 (h : List Ob) (vs : List Nat) : V → V → Prop
 | .agg cs, .agg cs' => allP (ld0 h vs) cs cs'
 | x, y => ld0 h vs x y
theorem View.flat {lk : Nat → Ob} {vs : List Nat} {o ep off n sz : Nat} {es : List (List V)} (ho : o ∈ vs) (hl : lk o = .arr ep sz es) (hle : off + n ≤ es.length) (hsz : ∀ x ∈ es, x.length = sz)
  (hp : ∀ e ∈ es, ∀ y ∈ e, Pu y) : View lk vs (.sl o ep off n) (.ro sz ((es.drop off).take n)) := by
 have hget : ∀ (i j : Nat) (y : V), (((es.drop off).take n)[i]?).bind (fun l => l[j]?) = some y → (es[off + i]?).bind (fun l => l[j]?) = some y := by
  intro i j y hy
  rw [List.getElem?_take] at hy
  split at hy
  ·rwa [List.getElem?_drop] at hy
  ·cases hy
 refine .sl (fun i j => (((es.drop off).take n)[i]?).bind (fun l => l[j]?) |>.getD .junk) ho hl hle (by simp; omega) (fun x hx => hsz x (List.mem_of_mem_drop (List.mem_of_mem_take hx))) (fun i j y hy => by rw [hy]; exact hget i j y hy) (fun i j y hy => ?_)
 rw [hy]
 refine .pu ?_
 have h1 := hget i j y hy
 cases hq : es[off + i]? with
 | none => rw [hq] at h1; cases h1
 | some l =>
  rw [hq] at h1
  exact hp l (List.mem_of_getElem? hq) y (List.mem_of_getElem? (show l[j]? = some y from h1))
theorem ld0_view {h : List Ob} {vs : List Nat} {x y : V} (hc : ld0 h vs x y) : View (fun o => h.getD o .unborn) vs x y := by
 unfold ld0 at hc
 split at hc
 ·rename_i o ep off n sz es'
  obtain ⟨hv, hc⟩ := hc
  unfold cvOb at hc
  split at hc
  ·rename_i ep' sz' es heq
   obtain ⟨rfl, rfl, h1, ⟨h2, rfl, h3, h4⟩ | ⟨rfl, h2, h3, h4⟩⟩ := hc
   ·exact View.flat (by simpa using hv) heq h2 h3 h4
   ·exact View.rows (by simpa using hv) heq h2 h3 (allR_mono (fun x y hq => by
     unfold c0 at hq
     split at hq
     ·obtain ⟨rfl, rfl⟩ := hq; exact .nil _
     ·obtain ⟨rfl, hp⟩ := hq; exact .pu hp) h4)
  ·exact hc.elim
 ·obtain ⟨rfl, rfl⟩ := hc
  exact .nil _
 ·obtain ⟨rfl, hp⟩ := hc
  exact .pu hp
theorem ld1_arg {h : List Ob} {vs : List Nat} {x y : V} (hc : ld1 h vs x y) : ArgR (fun o => h.getD o .unborn) [] vs x y := by
 unfold ld1 at hc
 split at hc
 ·rename_i cs cs'
  obtain ⟨h1, h2⟩ := allP_get hc
  refine .inr (.inr ⟨cs, cs', rfl, rfl, h1.symm, fun j a b ha hb => .inr ?_⟩)
  obtain ⟨x, hx, hr⟩ := h2 j b hb
  rw [ha] at hx
  obtain rfl := Option.some.inj hx
  exact ld0_view hr
 ·exact .inr (.inl (ld0_view hc))

section
variable {P : Program} {T : Tab} {ops : Array Oper} {d : Bool}
theorem callG_data {os : List Oper} {dst : Option Nat} {as1 : Array Operand} {tys : Array TypeId} {f : FuncId} {σ : St} {tr : Trc} {args' : List V} {r : V} {C : St → Trc → Prop} (vs : List Nat)
  (qc : QC P f args' [] r []) (ha : allP (ld1 σ.h vs) (as1.toList.map σ.ev) args') (hnr : nr r)
  (h : contG P T ops d os dst vs σ tr C (some (ren (fun _ => none) r, []))) : callG P T ops d os dst (.call ⟨.value (.func f), as1, tys⟩) σ tr C := by
 have hk : (fun i : Nat => (keys ([] : List Nat) σ.h.length ([] : List Ob).length)[i]?) = fun _ => (none : Option Nat) := by
  funext i; simp [keys]
 obtain ⟨h1, h2⟩ := allP_get ha
 have h3 : OpR P T (.call ⟨.value (.func f), as1, tys⟩) σ.ev σ.lk σ.h.length (ren (fun i => (keys ([] : List Nat) σ.h.length ([] : List Ob).length)[i]?) r) (callUpd (keys ([] : List Nat) σ.h.length ([] : List Ob).length) []) ([] ++ vs) := by
  refine .call (f := f) (cap := []) (args' := args') rfl rfl (.inl ⟨rfl, rfl⟩) { nodup := List.nodup_nil, disj := by simp, len := by simpa using h1.symm, args := ?_, qc := qc, view := .inr ⟨hnr, by simp⟩, more := Nat.le_refl _, low := by simp, fresh := by simp }
  intro j x x' hx hx'
  rw [List.append_nil] at hx
  obtain ⟨y, hy, hr⟩ := h2 j x' hx'
  rw [hx] at hy
  obtain rfl := Option.some.inj hy
  exact ld1_arg hr
 rw [hk] at h3
 exact ⟨_, _, _, h3, by simpa [callUpd, keys, contG] using h⟩
end

end Go.AM
end
section
namespace Go.AM
open Go

end Go.AM
end
section
namespace Go.AM
open Go

def hidL1 : V → List Nat
 | .agg cs => cs.flatMap hid
 | .fn _ cs => cs.flatMap hid
 | .bm _ cs => cs.flatMap hid
 | x => hid x
def hidL : V → List Nat
 | .tup cs => cs.flatMap hidL1
 | x => hidL1 x
def Ob.hids : Ob → List Nat
 | .arr _ _ es => es.flatMap fun e => e.flatMap hid
 | .var _ cs => cs.flatMap hid
 | .row _ _ es => es.flatMap fun e => e.flatMap hid
 | _ => []

def reachO (lk : Nat → Ob) : Nat → List Nat → List Nat → List Nat
 | 0, seen, _ => seen
 | _ + 1, seen, [] => seen
 | n + 1, seen, o :: todo => if seen.contains o then reachO lk n seen todo else reachO lk n (seen ++ [o]) ((lk o).hids ++ todo)

def nodupB : List Nat → Bool
 | [] => true
 | x :: l => !l.contains x && nodupB l

theorem nodupB_ok : ∀ {l : List Nat}, nodupB l = true → l.Nodup
 | [], _ => List.nodup_nil
 | x :: l, h => by
  simp only [nodupB, Bool.and_eq_true, Bool.not_eq_true', List.contains_eq_mem, decide_eq_false_iff_not] at h
  exact List.nodup_cons.2 ⟨h.1, nodupB_ok h.2⟩

section
variable (P : Program) (T : Tab) (F : FuncId → Option Func) (O : FuncId → List V → List Ob → Option (V × List Ob))

abbrev ExCall := FuncId → List V → List Ob → Option (V × List Ob)

def exCall (call : ExCall) (σ : St) (args : List V) (f : FuncId) : Option (V × List (Nat × Ob) × List Nat) :=
 let ρ := reachO σ.lk 100000 [] (args.flatMap hidL)
 if nodupB ρ && ρ.all (fun o => decide (o < σ.h.length)) then
  match call f (args.map (ren (toIdx ρ))) (ρ.map fun o => (σ.lk o).ren (toIdx ρ)) with
  | some (r, objs') => if ρ.length ≤ objs'.length then
    some (ren (fun i => (keys ρ σ.h.length objs'.length)[i]?) r, callUpd (keys ρ σ.h.length objs'.length) objs', ρ) else none
  | none => none
 else none

def exOp (call : ExCall) (op : Op) (σ : St) : Option (V × List (Nat × Ob) × List Nat) :=
 if isCall op then match op with
  | .call c => match c.callee with
   | .value fo => match σ.ev fo with
    | .fn f cap => exCall call σ (c.args.toList.map σ.ev ++ cap) f
    | .bm f first => exCall call σ (first ++ c.args.toList.map σ.ev) f
    | _ => none
   | _ => none
  | _ => none
 else match step T op σ.ev σ.lk σ.h.length with
  | some (v, upd) => some (v, upd, touchOf op σ.ev)
  | none => none

def exRun (call : ExCall) (ops : Array Oper) (d : Bool) : List Oper → St → Trc → Option (St × Trc)
 | [], σ, tr => some (σ, tr)
 | o :: os, σ, tr =>
  match (match o.guard with
   | none => some true
   | some (j, want) => match gval ops σ.ev j with
    | .b x => some (x == want)
    | .tup [] => some false
    | _ => none) with
  | some true => match exOp T call o.op σ with
   | some (v, upd, tc) => exRun call ops d os (St.put { σ with h := updL σ.h upd } o.dst v) (if d then tr ++ [(tc, upd.map (·.1))] else [])
   | none => none
  | some false => exRun call ops d os (σ.put o.dst (.tup [])) (if d then tr ++ [([], [])] else [])
  | none => none

def exIter (f : St → Option (Exit × St)) : Nat → St → Option (Exit × St)
 | 0, _ => none
 | n + 1, σ => match f σ with
  | some (.normal, σ') => exIter f n σ'
  | r => r

def exC (call : ExCall) : Code → St → Option (Exit × St)
 | .skip, σ => some (.normal, σ)
 | .label _, σ => some (.normal, σ)
 | .exit i, σ => some (.exit i, σ)
 | .ret, σ => some (.ret, σ)
 | .seq x y, σ => match exC call x σ with
  | some (.normal, σ') => exC call y σ'
  | r => r
 | .cond c x y, σ => match σ.ev c with
  | .b true => exC call x σ
  | .b false => exC call y σ
  | _ => none
 | .block id c, σ => match exC call c σ with
  | some (.exit i, σ') => if i = id then some (.normal, σ') else some (.exit i, σ')
  | r => r
 | .scope c, σ => match exC call c σ with
  | some (.goto _, _) => none
  | r => r
 | .loop c, σ => exIter (fun σ => exC call c σ) 100000 σ
 | .region _ ops d, σ => match exRun T call ops d ops.toList σ [] with
  | some (σ', tr) => if !d || okD ops tr then some (.normal, σ') else none
  | none => none
 | _, _ => none

def exFin (k : Nat) (rs : List ResultVar) (σ : St) : Option (V × List Ob) :=
 match resL T σ rs with
 | none => none
 | some l =>
  let x := packV l
  let extra := (reachO (fun o => σ.h.getD o .unborn) 100000 (List.range k) (hidL x ++ (List.range k).flatMap fun o => (σ.h.getD o .unborn).hids)).drop k
  if nodupB extra && extra.all (fun o => decide (k ≤ o)) then some (ren (toIdx (List.range k ++ extra)) x, passed σ.h (List.range k ++ extra)) else none

end

section
variable {P : Program} {T : Tab} {F : FuncId → Option Func} {O : FuncId → List V → List Ob → Option (V × List Ob)} {call : ExCall}

def CallOK (P : Program) (call : ExCall) : Prop := ∀ f args objs r objs', call f args objs = some (r, objs') → QC P f args objs r objs'

theorem exCall_ok (hc : CallOK P call) {σ : St} {c : Call} {fo : Operand} {f : FuncId} {cap : List V} (h1 : c.callee = .value fo) {L : List V} (h2 : (σ.ev fo = .fn f cap ∧ L = c.args.toList.map σ.ev ++ cap) ∨ (σ.ev fo = .bm f cap ∧ L = cap ++ c.args.toList.map σ.ev)) {v : V} {upd : List (Nat × Ob)} {tc : List Nat}
  (h : exCall call σ L f = some (v, upd, tc)) : OpR P T (.call c) σ.ev σ.lk σ.h.length v upd tc := by
 unfold exCall at h
 dsimp only at h
 split at h
 ·rename_i hb
  simp only [Bool.and_eq_true, List.all_eq_true, decide_eq_true_eq] at hb
  split at h
  ·rename_i r objs' hq
   split at h
   ·rename_i hle
    cases h
    rw [show reachO σ.lk 100000 [] (L.flatMap hidL) = reachO σ.lk 100000 [] (L.flatMap hidL) ++ [] from (List.append_nil _).symm]
    simp only [List.append_nil]
    have := OpR.call (P := P) (T := T) (op := .call c) (ev := σ.ev) (lk := σ.lk) (nx := σ.h.length) (vs := []) rfl h1 h2
     { nodup := nodupB_ok hb.1, disj := by simp, len := by simp, args := ?_, qc := hc _ _ _ _ _ hq, view := .inl rfl, more := hle, low := hb.2, fresh := fun j _ => by simp [St.lk, List.getD] }
    ·simpa using this
    ·intro j x x' hx hx'
     rw [List.getElem?_map, hx] at hx'
     exact .inl (Option.some.inj hx').symm
   ·cases h
  ·cases h
 ·cases h

theorem exOp_ok (hc : CallOK P call) {op : Op} {σ : St} {v : V} {upd : List (Nat × Ob)} {tc : List Nat} (h : exOp T call op σ = some (v, upd, tc)) : OpR P T op σ.ev σ.lk σ.h.length v upd tc := by
 unfold exOp at h
 split at h
 ·split at h
  ·rename_i c
   split at h
   ·rename_i fo h1
    split at h
    ·rename_i f cap h2
     exact exCall_ok hc h1 (.inl ⟨h2, rfl⟩) h
    ·rename_i f cap h2
     exact exCall_ok hc h1 (.inr ⟨h2, rfl⟩) h
    ·cases h
   ·cases h
  ·cases h
 ·split at h
  ·rename_i v' upd' hs
   cases h
   exact .step (fun _ => by simp [St.lk, List.getD]) hs
  ·cases h

theorem exRun_ok (hc : CallOK P call) {ops : Array Oper} {d : Bool} : ∀ {os : List Oper} {σ : St} {tr : Trc} {σ' : St} {tr' : Trc}, exRun T call ops d os σ tr = some (σ', tr') →
  ∃ ss, SeqR P T ops os σ ss σ' ∧ (d = true → tr' = tr ++ ss.map fun s => (s.tc, s.upd.map (·.1)))
 | [], σ, tr, σ', tr', h => by
  simp only [exRun, Option.some.injEq, Prod.mk.injEq] at h
  obtain ⟨rfl, rfl⟩ := h
  exact ⟨[], .nil _, fun _ => by simp⟩
 | o :: os, σ, tr, σ', tr', h => by
  simp only [exRun] at h
  have hg : ∀ b, (match o.guard with
   | none => some true
   | some (j, want) => match gval ops σ.ev j with
    | .b x => some (x == want)
    | .tup [] => some false
    | _ => none) = some b → (b = true → ∀ j want, o.guard = some (j, want) → gval ops σ.ev j = .b want) ∧ (b = false → ∃ j want, o.guard = some (j, want) ∧ offG (gval ops σ.ev j) want) := by
   intro b hb
   split at hb
   ·rename_i hg
    cases hb
    exact ⟨fun _ j want h' => (by rw [hg] at h'; cases h'), fun h' => (by cases h')⟩
   ·rename_i j want hg
    split at hb
    ·rename_i x hv
     simp only [Option.some.injEq] at hb
     refine ⟨fun ht j' want' h' => ?_, fun hf => ⟨j, want, hg, .inl ⟨x, hv, ?_⟩⟩⟩
     ·rw [hg] at h'; cases h'
      rw [ht] at hb
      rw [hv, eq_of_beq hb]
     ·rw [hf] at hb
      rintro rfl
      simp at hb
    ·rename_i hv
     cases hb
     exact ⟨fun h' => by simp at h', fun _ => ⟨j, want, hg, .inr hv⟩⟩
    ·cases hb
  split at h
  ·rename_i hb
   split at h
   ·rename_i v upd tc ho
    obtain ⟨ss, h1, h2⟩ := exRun_ok hc h
    refine ⟨⟨true, v, upd, tc⟩ :: ss, .cons (.run ((hg _ hb).1 rfl) (exOp_ok hc ho)) h1, fun hd => ?_⟩
    rw [h2 hd, hd]
    simp
   ·cases h
  ·rename_i hb
   obtain ⟨j, want, h3, h4⟩ := (hg _ hb).2 rfl
   obtain ⟨ss, h1, h2⟩ := exRun_ok hc h
   refine ⟨⟨false, .tup [], [], []⟩ :: ss, .cons (.skip h3 h4) h1, fun hd => ?_⟩
   rw [h2 hd, hd]
   simp
  ·cases h

theorem exC_ok (hT : TOK P T) (hm : P.follows .mixedOrders = true) (hc : CallOK P call) {k : Nat} : ∀ (c : Code) {σ : St} {e : Exit} {σ' : St} {K : Exit → St → Prop}, exC T call c σ = some (e, σ') → K e σ' → EV P k c σ K
 | .skip, σ, e, σ', K, h, hK => by simp only [exC, Option.some.injEq, Prod.mk.injEq] at h; obtain ⟨rfl, rfl⟩ := h; exact .skip hK
 | .label _, σ, e, σ', K, h, hK => by simp only [exC, Option.some.injEq, Prod.mk.injEq] at h; obtain ⟨rfl, rfl⟩ := h; exact .label hK
 | .exit _, σ, e, σ', K, h, hK => by simp only [exC, Option.some.injEq, Prod.mk.injEq] at h; obtain ⟨rfl, rfl⟩ := h; exact .exit hK
 | .ret, σ, e, σ', K, h, hK => by simp only [exC, Option.some.injEq, Prod.mk.injEq] at h; obtain ⟨rfl, rfl⟩ := h; exact .ret hK
 | .seq x y, σ, e, σ', K, h, hK => by
  simp only [exC] at h
  refine .seq ?_
  split at h
  ·rename_i σ1 h1
   exact exC_ok hT hm hc x h1 (exC_ok hT hm hc y h hK)
  ·rename_i hn
   refine exC_ok hT hm hc x h ?_
   cases e with
   | normal => exact (hn σ' h).elim
   | _ => exact hK
 | .cond c x y, σ, e, σ', K, h, hK => by
  simp only [exC] at h
  split at h
  ·rename_i hb
   exact .cond hb (fun _ => exC_ok hT hm hc x h hK) (fun h => by cases h)
  ·rename_i hb
   exact .cond hb (fun h => by cases h) (fun _ => exC_ok hT hm hc y h hK)
  ·cases h
 | .block id c, σ, e, σ', K, h, hK => by
  simp only [exC] at h
  refine .block ?_
  split at h
  ·rename_i i σ1 h1
   refine exC_ok hT hm hc c h1 ?_
   simp only [blockK]
   split at h
   ·rename_i hi
    cases h
    rw [if_pos hi]; exact hK
   ·rename_i hi
    cases h
    rw [if_neg hi]; exact hK
  ·rename_i hn
   refine exC_ok hT hm hc c h ?_
   cases e with
   | exit i => exact (hn i σ' h).elim
   | _ => exact hK
 | .scope c, σ, e, σ', K, h, hK => by
  simp only [exC] at h
  refine .scope ?_
  split at h
  ·cases h
  ·rename_i hn
   refine exC_ok hT hm hc c h ?_
   cases e with
   | goto l => exact (hn l σ' h).elim
   | _ => exact hK
 | .loop c, σ, e, σ', K, h, hK => by
  simp only [exC] at h
  have key : ∀ n σ, exIter (fun σ => exC T call c σ) n σ = some (e, σ') → ∀ (E : Env) (a : Act) (w : World), EnvP P k E → Rel E σ a w → Code.rounds P c (fun e a' w' => ∃ σ', K e σ' ∧ Rel E σ' a' w') n a w := by
   intro n
   induction n with
   | zero => intro σ h; cases h
   | succ n ih =>
    intro σ h E a w hE hr
    simp only [exIter] at h
    rw [rounds_succ]
    split at h
    ·rename_i σ1 h1
     refine wp_mono (exC_ok hT hm hc c (K := fun e σ2 => e = .normal ∧ σ2 = σ1) h1 ⟨rfl, rfl⟩ E a w hE hr) ?_
     rintro e1 a1 w1 ⟨σ2, ⟨rfl, rfl⟩, hr2⟩
     exact ih _ h E a1 w1 hE hr2
    ·rename_i hn
     refine wp_mono (exC_ok hT hm hc c (K := fun e2 σ2 => e2 = e ∧ σ2 = σ') h ⟨rfl, rfl⟩ E a w hE hr) ?_
     rintro e1 a1 w1 ⟨σ2, ⟨rfl, rfl⟩, hr2⟩
     cases e1 with
     | normal => exact (hn _ h).elim
     | _ => exact ⟨_, hK, hr2⟩
  exact fun E a w hE hr => wp_loop_rounds _ (key _ σ h E a w hE hr)
 | .region id ops d, σ, e, σ', K, h, hK => by
  simp only [exC] at h
  split at h
  ·rename_i σ1 tr hrun
   split at h
   ·rename_i hok
    cases h
    obtain ⟨ss, h1, h2⟩ := exRun_ok hc hrun
    cases d with
    | false => exact fun E a w hE hr => region_text hT hE.2 h1 hr fun a' w' hr' => ⟨σ', hK, hr'⟩
    | true =>
     have h3 := h2 rfl
     rw [List.nil_append] at h3
     exact fun E a w hE hr => region_draw hT hm hE.2 h1 (by rw [← h3]; simpa using hok) hr fun a' w' hr' => ⟨σ', hK, hr'⟩
   ·cases h
  ·cases h
 | .rangeFunc _ _ _ _, σ, e, σ', K, h, hK => by simp [exC] at h
 | .goto _, σ, e, σ', K, h, hK => by simp [exC] at h
 | .refuse _, σ, e, σ', K, h, hK => by simp [exC] at h

theorem exFin_ok {k : Nat} {rs : List ResultVar} {σ : St} {r : V} {objs' : List Ob} (h : exFin T k rs σ = some (r, objs')) : Fin T k rs r objs' σ := by
 unfold exFin at h
 split at h
 ·cases h
 ·rename_i l hl
  dsimp only at h
  split at h
  ·rename_i hb
   simp only [Bool.and_eq_true, List.all_eq_true, decide_eq_true_eq] at hb
   cases h
   refine ⟨_, l, nodupB_ok hb.1, hb.2, rfl, hl, ?_⟩
   generalize hx : packV l = x
   cases x with
   | tup cs =>
    refine .inr ⟨cs, cs.map (ren1 _), rfl, rfl, by simp, fun j a b ha hb => .inl ?_⟩
    rw [List.getElem?_map, ha] at hb
    exact (Option.some.inj hb).symm
   | _ => exact .inl (.inl rfl)
  ·cases h

def exTrue : Option (V × List Ob) → Bool
 | some (.b true, []) => true
 | _ => false

theorem exTrue_ok {x : Option (V × List Ob)} (h : exTrue x = true) : x = some (.b true, []) := by
 unfold exTrue at h
 split at h
 ·rfl
 ·cases h

end

end Go.AM
end
section
namespace Go.AM
open Go

end Go.AM
namespace Go.AM
open Go
def cutL (n : Nat) : List V → List V → Prop
 | [], [] => True
 | x :: xs, y :: ys => (y = .junk ∨ y = ren1 (toIdx (List.range n)) x) ∧ cutL n xs ys
 | _, _ => False
theorem cutL_nil {n : Nat} : cutL n [] [] = True := rfl
theorem cutL_junk {n : Nat} {x : V} {xs ys : List V} : cutL n (x :: xs) (.junk :: ys) = cutL n xs ys := by simp [cutL]
theorem cutL_cons {n : Nat} {x y : V} {xs ys : List V} : cutL n (x :: xs) (y :: ys) = ((y = .junk ∨ y = ren1 (toIdx (List.range n)) x) ∧ cutL n xs ys) := rfl
theorem cutL_get {n : Nat} : ∀ {xs ys : List V}, cutL n xs ys → xs.length = ys.length ∧ ∀ (j : Nat) (x y : V), xs[j]? = some x → ys[j]? = some y → y = .junk ∨ y = ren1 (toIdx (List.range n)) x
 | [], [], _ => ⟨rfl, fun j x y h => by simp at h⟩
 | x :: xs, y :: ys, h => by
  obtain ⟨h1, h2⟩ := cutL_get h.2
  refine ⟨by simp [h1], fun j a b ha hb => ?_⟩
  cases j with
  | zero => simp at ha hb; subst ha; subst hb; exact h.1
  | succ j => exact h2 j a b (by simpa using ha) (by simpa using hb)
 | [], _ :: _, h => h.elim
 | _ :: _, [], h => h.elim
theorem Sub.cutF {k : Nat} {σ : St} {t' : List V} {h' : List Ob} (n : Nat) (hk : k ≤ n) (ht : cutL n σ.t t') (hh : passed σ.h (List.range n) = h') : Sub k σ ⟨t', h'⟩ := by
 subst hh
 obtain ⟨h1, h2⟩ := cutL_get ht
 refine Sub.sel (σ := σ) List.nodup_range (fun i hi => by rw [List.getElem?_range (by omega)]) h1.symm fun j x y hx hy => ?_
 rcases h2 j x y hx hy with h | h
 ·exact .inl h
 ·exact .inr (.inl (.inl h))
end Go.AM
end
section
namespace Go.AM
open Go

def shpW (T : Tab) : Nat → TypeId → List V → Prop
 | 0, _, _ => False
 | n + 1, t, xs => match (T t).kind with
  | .int k => ∃ m, (Lit.int k m).wf = true ∧ xs = [.i k m]
  | .bool => ∃ b, xs = [.b b]
  | .string => ∃ s : List UInt8, s.length ≤ reachBytes ∧ xs = [.s s]
  | .slc e => ∃ es : List (List V), es.length ≤ most ∧ es.length * (T e).bytes ≤ reachBytes ∧ xs = [.ro (T e).size es] ∧ ∀ l ∈ es, shpW T n e l
  | .str fs => ∃ yss : List (List V), xs = yss.flatten ∧ yss.length = fs.length ∧ ∀ (i : Nat) (f : Nat × TypeId) (ys : List V), fs[i]? = some f → yss[i]? = some ys → shpW T n f.2 ys
  | _ => False

section
variable {H : Type} {enc : TypeId × Value → H} {P : Program} {T : Tab} {w : World} {base : Nat} {spare : Nat → Bool} {held : Bool}

theorem bytes_tab (hT : TOK P T) {t : TypeId} (hs : (T t).size ≠ 0) : P.bytesOf t = (T t).bytes := by
 rcases hT t with h | ⟨_, h⟩
 ·exact absurd h.1 hs
 ·have h1 := h.1
  unfold Program.bytesOf
  cases hq : P.info? t with
  | none => rw [hq] at h1; cases h1
  | some i =>
   rw [hq] at h1
   simp only [Option.map_some, Option.some.injEq, Prod.mk.injEq] at h1
   exact h1.2.2

theorem weightsAll_mem {e : TypeId} : ∀ {ds : List (DataW H)} {d : DataW H}, d ∈ ds → ∀ n ∈ d.weights P e, n ∈ DataW.weightsAll P e ds
 | d0 :: r, d, hd, n, hn => by
  rw [DataW.weightsAll, List.mem_append]
  rcases List.mem_cons.1 hd with rfl | hd
  ·exact .inl hn
  ·exact .inr (weightsAll_mem hd n hn)

theorem shpW_of (hT : TOK P T) {S : List TypeId} (hS : closedS T S = true) : ∀ (m : Nat) (t : TypeId), t ∈ S → ∀ (cs : List Value) (x : DataW H × List MemPlace),
  DataW.trod enc P w base spare held m t cs = some x → (∀ n ∈ x.1.weights P t, n ≤ reachBytes) → shpW T m t (dV T m t x.1)
 | 0, t, h, cs, x, hx, _ => by simp [DataW.trod] at hx
 | n + 1, t, h, cs, x, hx, hw => by
  have hs := okS_size hS h
  have h := okS_of hS h
  unfold okS at h
  split at h
  ·rename_i k hk
   obtain ⟨v, rfl, rfl, hwf⟩ := DataW.trod_int (hT.int hk) hx
   simp only [dV, shpW, hk]
   exact ⟨v, hwf, rfl⟩
  ·rename_i hk
   obtain ⟨v, rfl, rfl⟩ := DataW.trod_bool (hT.bool hk) hx
   simp only [dV, shpW, hk]
   exact ⟨v, rfl⟩
  ·rename_i hk
   obtain ⟨v, rfl, rfl, _⟩ := DataW.trod_string (hT.string hk) hx
   simp only [dV, shpW, hk]
   exact ⟨_, hw _ (by simp [DataW.weights]), rfl⟩
  ·rename_i e hk
   simp only [Bool.and_eq_true, beq_iff_eq] at h
   have hse := okS_size hS (by simpa using h.2)
   rcases DataW.trod_slice (hT.slc hk) hx with ⟨rfl, rfl⟩ | ⟨a, len, cap, elems, rest, m', hmm, rfl, rfl, hb, hlc, hcap, hlen, hel, _, _⟩
   ·simp only [dV, shpW, hk]
    exact ⟨[], Nat.zero_le _, by simp, rfl, fun l hl => by cases hl⟩
   ·obtain rfl : n = m' := by omega
    simp only [dV, shpW, hk]
    simp only [DataW.weights, hT.slc hk] at hw
    refine ⟨_, ?_, ?_, rfl, ?_⟩
    ·simp only [List.length_map, hlen]; unfold maxLen at hcap; unfold most; omega
    ·have h1 := hw _ List.mem_cons_self
     rw [bytes_tab hT hse, List.length_map, List.length_map] at h1
     rw [List.length_map, List.length_map]
     exact Nat.le_trans (Nat.mul_le_mul_right _ (Nat.le_add_right _ _)) h1
    ·intro l hl
     rw [List.map_map] at hl
     obtain ⟨i, hi⟩ := List.mem_iff_getElem?.1 hl
     rw [List.getElem?_map] at hi
     cases hq : elems[i]? with
     | none => rw [hq] at hi; cases hi
     | some y0 =>
      rw [hq] at hi
      obtain rfl := Option.some.inj hi
      have h1 := hel i (by rw [← hlen]; exact (List.getElem?_eq_some_iff.1 hq).1)
      rw [hq] at h1
      obtain ⟨cs', h2, h3⟩ := Option.bind_eq_some_iff.1 h1
      exact shpW_of hT hS n e (by simpa using h.2) cs' y0 h3 fun q hq' => hw q (List.mem_cons_of_mem _ (List.mem_append.2 (.inl (weightsAll_mem (List.mem_map.2 ⟨y0, List.mem_of_getElem? hq, rfl⟩) q hq'))))
  ·rename_i fs hk
   simp only [Bool.and_eq_true] at h
   obtain ⟨fields, hu, hfs⟩ := hT.str hk
   obtain ⟨xs, m', hmm, rfl, hlen, hxl, hxf⟩ := DataW.trod_struct hu hx
   obtain rfl : n = m' := by omega
   simp only [dV, shpW, hk]
   simp only [DataW.weights, hu] at hw
   refine ⟨_, rfl, by simp [← hfs, hxl], fun i f ys hf hy => ?_⟩
   rw [List.getElem?_zipWith] at hy
   rw [hf] at hy
   cases hq : (xs.map (·.1))[i]? with
   | none => rw [hq] at hy; cases hy
   | some y =>
    rw [hq] at hy
    obtain rfl := Option.some.inj hy
    have hq0 := hq
    rw [List.getElem?_map] at hq
    cases hq2 : xs[i]? with
    | none => rw [hq2] at hq; cases hq
    | some y2 =>
     rw [hq2] at hq
     obtain rfl := Option.some.inj hq
     have hf' := hf
     rw [← hfs, List.getElem?_map] at hf'
     cases hq3 : fields.toList[i]? with
     | none => rw [hq3] at hf'; cases hf'
     | some g =>
      rw [hq3] at hf'
      obtain rfl := Option.some.inj hf'
      have h5 := hxf i g (by simpa using hq3)
      rw [hq2] at h5
      exact shpW_of hT hS n g.type (by simpa using List.all_eq_true.1 h.1.2 _ (List.mem_of_getElem? hf)) _ _ h5 fun q hq' => hw q (DataW.weights_mem_each (by rw [List.getElem?_map, hq3]; rfl) hq0 q hq')
  ·cases h

end

section
variable {T : Tab}
theorem list_of {A B : Type} (g : A → B) (Q : A → Prop) : ∀ (es : List B), (∀ l ∈ es, ∃ a, l = g a ∧ Q a) → ∃ l : List A, es = l.map g ∧ ∀ a ∈ l, Q a
 | [], _ => ⟨[], rfl, fun a h => by cases h⟩
 | e :: es, h => by
  obtain ⟨a, ha, hq⟩ := h e List.mem_cons_self
  obtain ⟨r, hr, hqs⟩ := list_of g Q es fun l hl => h l (List.mem_cons_of_mem _ hl)
  refine ⟨a :: r, by rw [ha, hr]; rfl, fun b hb => ?_⟩
  rcases List.mem_cons.1 hb with rfl | hb
  ·exact hq
  ·exact hqs b hb
theorem shpW_int {n : Nat} {t : TypeId} {xs : List V} {k : IntKind} (h : shpW T n t xs) (hk : (T t).kind = .int k) : ∃ m, xs = [.i k m] ∧ (Lit.int k m).wf = true := by
 cases n with
 | zero => exact h.elim
 | succ n => unfold shpW at h; rw [hk] at h; obtain ⟨m, h1, h2⟩ := h; exact ⟨m, h2, h1⟩
theorem shpW_bool {n : Nat} {t : TypeId} {xs : List V} (h : shpW T n t xs) (hk : (T t).kind = .bool) : ∃ b, xs = [.b b] := by
 cases n with
 | zero => exact h.elim
 | succ n => unfold shpW at h; rw [hk] at h; exact h
theorem shpW_str {n : Nat} {t : TypeId} {xs : List V} (h : shpW T n t xs) (hk : (T t).kind = .string) : ∃ s, xs = [.s s] ∧ s.length ≤ reachBytes := by
 cases n with
 | zero => exact h.elim
 | succ n => unfold shpW at h; rw [hk] at h; obtain ⟨s, h1, h2⟩ := h; exact ⟨s, h2, h1⟩
theorem shpW_slc {n : Nat} {t e : TypeId} {xs : List V} {A : Type} (g : A → List V) (Q : A → Prop) (h : shpW T n t xs) (hk : (T t).kind = .slc e) (he : ∀ k, k < n → ∀ l, shpW T k e l → ∃ a, l = g a ∧ Q a) :
  ∃ l : List A, xs = [.ro (T e).size (l.map g)] ∧ (∀ a ∈ l, Q a) ∧ l.length * (T e).bytes ≤ reachBytes := by
 cases n with
 | zero => exact h.elim
 | succ n =>
  unfold shpW at h; rw [hk] at h
  obtain ⟨es, _, h1, h2, h3⟩ := h
  obtain ⟨l, rfl, hq⟩ := list_of g Q es fun l hl => he n (Nat.lt_succ_self n) l (h3 l hl)
  exact ⟨l, h2, hq, by simpa using h1⟩
theorem shpW_fields {n : Nat} {t : TypeId} {xs : List V} {fs : List (Nat × TypeId)} (h : shpW T n t xs) (hk : (T t).kind = .str fs) :
  ∃ yss : List (List V), xs = yss.flatten ∧ yss.length = fs.length ∧ ∃ k, k < n ∧ ∀ (i : Nat) (f : Nat × TypeId) (ys : List V), fs[i]? = some f → yss[i]? = some ys → shpW T k f.2 ys := by
 cases n with
 | zero => exact h.elim
 | succ n => unfold shpW at h; rw [hk] at h; obtain ⟨yss, h1, h2, h3⟩ := h; exact ⟨yss, h1, h2, n, Nat.lt_succ_self n, h3⟩
end

end Go.AM
end
section
namespace Go.AM
open Go

section
variable {P : Program} {T : Tab}

def nestE (E : Env) (m : Locs) (h : List Ob) (w : World) (df : List Deferred) : Env := ⟨w, ownOf m h, fun b => E.ok b ∨ E.w0.heap.size ≤ b, dirOf m h, df⟩

theorem nest_okc {E : Env} {m : Locs} {h : List Ob} {w : World} {df : List Deferred} (hsize : E.w0.heap.size ≤ w.heap.size) (m' : Locs) (h' : List Ob) : okc (nestE E m h w df) m' h' = okc E m' h' := by
 funext b
 apply propext
 simp only [okc, nestE]
 constructor
 ·rintro ⟨(h1 | h1) | h1, h2⟩
  ·exact ⟨.inl h1, h2⟩
  ·exact ⟨.inr h1, h2⟩
  ·exact ⟨.inr (Nat.le_trans hsize h1), h2⟩
 ·rintro ⟨h1, h2⟩
  exact ⟨.inl h1, h2⟩

theorem nest_in {k : Nat} {E : Env} (hE : EnvP P k E) {m : Locs} {σ : St} {a : Act} {w : World} (R : RelM { E with df := a.defers } m σ a w) :
  EnvP P σ.h.length (nestE E m σ.h w a.defers) ∧ RelM (nestE E m σ.h w a.defers) m σ a w := by
 have hsize : E.w0.heap.size ≤ w.heap.size := R.ext.size
 refine ⟨⟨fun o d hd => ?_, ?_⟩, ?_⟩
 ·have hd' : dirOf m σ.h o = some d := hd
  rw [dirOf_eq] at hd'
  rcases Nat.lt_or_ge o σ.h.length with h | h
  ·exact h
  ·have : σ.h.getD o .unborn = .unborn := by simp [List.getD, List.getElem?_eq_none h]
   rw [this] at hd'; cases hd'
 ·exact GOK.next (E := { E with df := a.defers }) hE.2 R.toHRel (fun b ⟨o, off, h1, h2⟩ => ⟨o, off, h1, h2⟩)
 ·refine { ext := WExt.refl _ _, blk := fun o blk off hl hm => ⟨.inl ⟨o, off, hl, hm⟩, (R.blk o blk off hl hm).2⟩, inj := R.inj, obs := fun o => ?_, new := fun o blk off hl hm => .inl ?_, dle := fun o d hd => ⟨d, hd, .refl d⟩, tsize := R.tsize, defers := rfl, tmps := fun t => ?_ }
  ·rw [nest_okc hsize]; exact R.obs o
  ·show ∃ d, dirOf m σ.h o = some d ∧ d.blk = some blk
   rw [dirOf_eq]
   cases hob : σ.h.getD o .unborn <;> rw [hob] at hl <;> first | exact hl.elim | exact ⟨_, rfl, by simp [DE.blk, hm]⟩
  ·rw [nest_okc hsize]; exact R.tmps t

theorem nest_out {E : Env} {m m' : Locs} {σ σ' : St} {a a' : Act} {w w' : World} (R : RelM { E with df := a.defers } m σ a w) (R2 : RelM (nestE E m σ.h w a.defers) m' σ' a' w') :
  RelM { E with df := a'.defers } m' σ' a' w' ∧ a'.defers = a.defers ∧ ∀ x u, VRel (dirOf m σ.h) (okc E m σ.h) w x u → VRel (dirOf m' σ'.h) (okc E m' σ'.h) w' x u := by
 have hsize : E.w0.heap.size ≤ w.heap.size := R.ext.size
 have hown : ∀ b, ownOf m σ.h b → E.own b ∨ E.w0.heap.size ≤ b := by
  rintro b ⟨o, off, hl, hm⟩
  exact (R.blk o b off hl hm).1
 have hsz2 : w.heap.size ≤ w'.heap.size := R2.ext.size
 refine ⟨?_, R2.defers, ?_⟩
 ·refine { ext := R.ext.trans' R2.ext (fun x hx hs => (hown x hs).resolve_right (Nat.not_le.2 hx)), blk := fun o blk off hl hm => ?_, inj := R2.inj, obs := fun o => ?_, new := fun o blk off hl hm => ?_, dle := fun o d hd => ?_, tsize := R2.tsize, defers := rfl, tmps := fun t => ?_ }
  ·obtain ⟨h1, h2⟩ := R2.blk o blk off hl hm
   exact ⟨h1.elim (hown blk) fun h => .inr (Nat.le_trans hsize h), h2⟩
  ·have := R2.obs o
   rw [nest_okc hsize] at this
   exact this
  ·rcases R2.new o blk off hl hm with ⟨d, hd, hb⟩ | hge
   ·have hd' : dirOf m σ.h o = some d := hd
    rw [dirOf_eq] at hd'
    have key : live (σ.h.getD o .unborn) ∧ ∃ off', m o = some (blk, off') := by
     cases hmo : m o with
     | none => rw [hmo] at hd'; cases hob : σ.h.getD o .unborn <;> rw [hob] at hd' <;> simp only [deOf, Option.some.injEq, reduceCtorEq] at hd' <;> subst hd' <;> simp [DE.blk] at hb
     | some p =>
      obtain ⟨b, off'⟩ := p
      rw [hmo] at hd'
      cases hob : σ.h.getD o .unborn <;> rw [hob] at hd' <;> simp only [deOf, Option.some.injEq, reduceCtorEq] at hd' <;> subst hd' <;> simp only [DE.blk, Option.some.injEq, reduceCtorEq] at hb <;> subst hb <;> exact ⟨trivial, off', rfl⟩
    obtain ⟨hl', off', hm'⟩ := key
    exact R.new o blk off' hl' hm'
   ·exact .inr (Nat.le_trans hsize hge)
  ·obtain ⟨d', h1, h2⟩ := R.dle o d hd
   obtain ⟨d'', h3, h4⟩ := R2.dle o d' h1
   exact ⟨d'', h3, h2.trans h4⟩
  ·have := R2.tmps t
   rw [nest_okc hsize] at this
   exact this
 ·intro x u hv
  refine hv.mono R2.dle R2.ext.size (fun b hb hok => ?_) R2.ext.shape
  have hno : ¬ ownOf m σ.h b := fun ⟨o, off, hl, hm⟩ => hok.2 o b off hl hm rfl
  refine ⟨⟨hok.1, fun o blk off hl hm => ?_⟩, R2.ext.block b hb hno⟩
  rintro rfl
  exact ((R2.blk o blk off hl hm).1).elim hno fun h => absurd hb (Nat.not_lt.2 h)

theorem EV.nest0 {c : Code} {σ : St} {K : Exit → St → Prop} (h : EV P σ.h.length c σ K) {k : Nat} {E : Env} (hE : EnvP P k E) {m : Locs} {a : Act} {w : World} (R : RelM { E with df := a.defers } m σ a w) :
  c.wp P (fun e a' w' => ∃ σ' m', K e σ' ∧ RelM { E with df := a'.defers } m' σ' a' w' ∧ a'.defers = a.defers ∧
   ∀ x u, VRel (dirOf m σ.h) (okc E m σ.h) w x u → VRel (dirOf m' σ'.h) (okc E m' σ'.h) w' x u) a w := by
 obtain ⟨hE', R'⟩ := nest_in hE R
 refine wp_mono (h _ a w hE' ⟨m, R'⟩) ?_
 rintro e a' w' ⟨σ', hK, m', R2⟩
 exact ⟨σ', m', hK, nest_out R R2⟩

def DefR (D : Dir) (ok : Nat → Prop) (w : World) (dl : List V) (ds : List Deferred) : Prop :=
 ds.length = dl.length ∧ ∀ (j : Nat) (x : V) (d : Deferred), dl[j]? = some x → ds[j]? = some d → d.args = #[] ∧ ∃ f us, d.target = .fn (.func f) us ∧ VRel D ok w x (.func (.func f) #[] us)

theorem DefR.mono {D D' : Dir} {ok ok' : Nat → Prop} {w w' : World} {dl : List V} {ds : List Deferred} (h : DefR D ok w dl ds) (hk : ∀ x u, VRel D ok w x u → VRel D' ok' w' x u) : DefR D' ok' w' dl ds :=
 ⟨h.1, fun j x d hx hd => let ⟨h1, f, us, h2, h3⟩ := h.2 j x d hx hd; ⟨h1, f, us, h2, hk _ _ h3⟩⟩

def RelD (E : Env) (m : Locs) (σ : St) (dl : List V) (a : Act) (w : World) : Prop :=
 RelM { E with df := a.defers } m σ a w ∧ DefR (dirOf m σ.h) (okc E m σ.h) w dl a.defers

theorem EV.nest {c : Code} {σ : St} {K : Exit → St → Prop} (h : EV P σ.h.length c σ K) {k : Nat} {E : Env} (hE : EnvP P k E) {m : Locs} {dl : List V} {a : Act} {w : World} (R : RelD E m σ dl a w) :
  c.wp P (fun e a' w' => ∃ σ' m', K e σ' ∧ RelD E m' σ' dl a' w') a w := by
 refine wp_mono (h.nest0 hE R.1) ?_
 rintro e a' w' ⟨σ', m', hK, R', hd, hk⟩
 exact ⟨σ', m', hK, R', by rw [hd]; exact R.2.mono hk⟩

theorem dropLast_append_last {α : Type} {l : List α} {x : α} (h : l.getLast? = some x) : l.dropLast ++ [x] = l := by
 obtain ⟨ys, rfl⟩ := List.getLast?_eq_some_iff.1 h
 simp

def deferOf (ops : Array Oper) : Option Operand :=
 match ops.back? with
 | some o => match o.op, o.guard, o.dst with
  | .defer c, none, none => match c.callee with
   | .value fo => if c.args.size = 0 then some fo else none
   | _ => none
  | _, _, _ => none
 | none => none

theorem deferOf_inv {ops : Array Oper} {fo : Operand} (h : deferOf ops = some fo) : ∃ o c, ops.toList = ops.pop.toList ++ [o] ∧ o.op = .defer c ∧ o.guard = none ∧ o.dst = none ∧ c.callee = .value fo ∧ c.args = #[] := by
 unfold deferOf at h
 split at h
 ·rename_i o ho
  split at h
  ·rename_i c h1 h2 h3
   split at h
   ·rename_i fo' h4
    split at h
    ·rename_i h5
     cases h
     refine ⟨o, c, ?_, h1, h2, h3, h4, Array.eq_empty_of_size_eq_zero h5⟩
     obtain ⟨l⟩ := ops
     simp only [List.back?_toArray] at ho
     simp only [List.pop_toArray]
     exact (dropLast_append_last (by simpa using ho)).symm
    ·cases h
   ·cases h
  ·cases h
 ·cases h

end

section
variable (T : Tab) (F : FuncId → Option Func) (OD : FuncId → Option Nat)

def exD (call : ExCall) : Code → St → List V → Option (Exit × St × List V)
 | .seq x y, σ, dl => match exD call x σ dl with
  | some (.normal, σ', dl') => exD call y σ' dl'
  | r => r
 | .region id ops d, σ, dl => match deferOf ops with
  | some fo => if d then none else match exRun T call ops false ops.pop.toList σ [] with
   | some (σ', _) => match σ'.ev fo with
    | .fn f cap => some (.normal, σ', .fn f cap :: dl)
    | _ => none
   | none => none
  | none => (exC T call (.region id ops d) σ).map fun r => (r.1, r.2, dl)
 | c, σ, dl => (exC T call c σ).map fun r => (r.1, r.2, dl)

def exLeave (call : ExCall) : List V → St → Option St
 | [], σ => some σ
 | .fn f cap :: dl, σ => if OD f = some cap.length then exLeave call dl σ else match F f with
  | some g => match g.body with
   | some c => if g.results = #[] then match exC T call c ⟨cap ++ List.replicate (g.ntmps - cap.length) .junk, σ.h⟩ with
    | some (.normal, σ') => exLeave call dl ⟨σ.t, σ'.h⟩
    | some (.ret, σ') => exLeave call dl ⟨σ.t, σ'.h⟩
    | _ => none
    else none
   | none => none
  | none => none
 | _ :: _, _ => none

def exBody (call : ExCall) (fn : Func) (args : List V) (objs : List Ob) : Option (V × List Ob) :=
 match fn.body with
 | none => none
 | some c => match (match exD T call c ⟨args ++ List.replicate (fn.ntmps - args.length) .junk, objs⟩ [] with
  | some (.normal, σ, dl) => exLeave T F OD call dl σ
  | some (.ret, σ, dl) => exLeave T F OD call dl σ
  | _ => none) with
  | some σ => exFin T objs.length fn.results.toList σ
  | none => none

def exG (O : FuncId → List V → List Ob → Option (V × List Ob)) : Nat → ExCall
 | 0, _, _, _ => none
 | n + 1, f, args, objs => match O f args objs with
  | some r => some r
  | none => match F f with
   | none => none
   | some fn => exBody T F OD (exG O n) fn args objs

end

section
variable {P : Program} {T : Tab} {F : FuncId → Option Func} {OD : FuncId → Option Nat} {O : FuncId → List V → List Ob → Option (V × List Ob)} {call : ExCall}

theorem exC_nest (hT : TOK P T) (hm : P.follows .mixedOrders = true) (hc : CallOK P call) {k : Nat} {E : Env} (hE : EnvP P k E) {c : Code} {σ σ' : St} {e : Exit} (h : exC T call c σ = some (e, σ')) {m : Locs} {dl : List V} {a : Act} {w : World} (R : RelD E m σ dl a w) :
  c.wp P (fun e1 a' w' => e1 = e ∧ ∃ m', RelD E m' σ' dl a' w') a w := by
 refine wp_mono ((exC_ok hT hm hc (k := σ.h.length) (K := fun e1 σ1 => e1 = e ∧ σ1 = σ') c h ⟨rfl, rfl⟩).nest hE R) ?_
 rintro e1 a' w' ⟨σ1, m', ⟨rfl, rfl⟩, R'⟩
 exact ⟨rfl, m', R'⟩

theorem exD_ok (hT : TOK P T) (hm : P.follows .mixedOrders = true) (hc : CallOK P call) {k : Nat} {E : Env} (hE : EnvP P k E) : ∀ (c : Code) {σ : St} {dl : List V} {e : Exit} {σ' : St} {dl' : List V}, exD T call c σ dl = some (e, σ', dl') →
  ∀ {m : Locs} {a : Act} {w : World}, RelD E m σ dl a w → c.wp P (fun e1 a' w' => e1 = e ∧ ∃ m', RelD E m' σ' dl' a' w') a w
 | .seq x y, σ, dl, e, σ', dl', h, m, a, w, R => by
  simp only [exD] at h
  refine wp_seq ?_
  split at h
  ·rename_i σ1 dl1 h1
   refine wp_mono (exD_ok hT hm hc hE x h1 R) ?_
   rintro e1 a1 w1 ⟨rfl, m1, R1⟩
   exact exD_ok hT hm hc hE y h R1
  ·rename_i hn
   refine wp_mono (exD_ok hT hm hc hE x h R) ?_
   rintro e1 a1 w1 ⟨rfl, m1, R1⟩
   cases e1 with
   | normal => exact (hn _ _ h).elim
   | _ => exact ⟨rfl, m1, R1⟩
 | .region id ops d, σ, dl, e, σ', dl', h, m, a, w, R => by
  simp only [exD] at h
  split at h
  ·rename_i fo hfo
   obtain ⟨o, c, hops, ho1, ho2, ho3, ho4, ho5⟩ := deferOf_inv hfo
   cases d with
   | true => simp at h
   | false =>
    simp only [Bool.false_eq_true, if_false] at h
    split at h
    ·rename_i σ1 tr hrun
     split at h
     ·rename_i f cap hev
      cases h
      refine wp_region ?_
      have hsz : ops.size = ops.pop.toList.length + 1 := by
       have := congrArg List.length hops
       simpa using this
      have hlast : ops[ops.pop.toList.length]? = some o := by
       rw [← Array.getElem?_toList, hops]
       simp
      rw [hsz, List.range_eq_range', List.range'_concat]
      -- what ran ahead of it, as1 one step over all objects
      obtain ⟨hE', R'⟩ := nest_in hE R.1
      obtain ⟨ss, h1, _⟩ := exRun_ok hc hrun
      refine seq_textR hT hE'.2 h1 0 (fun j hj => ?_) ⟨m, R'⟩ ?_
      ·rw [Nat.zero_add, ← Array.getElem?_toList, hops, List.getElem?_append_left hj]
      ·rintro a' w' ⟨m', R2⟩
       obtain ⟨R3, hdf, hk⟩ := nest_out R.1 R2
       rw [show 0 + 1 * ops.pop.toList.length = ops.pop.toList.length by omega, wpOps_cons]
       unfold wpOp
       rw [hlast]
       have hv := R3.ev fo
       rw [hev] at hv
       obtain ⟨us, hu, _⟩ := hv.fn_inv
       have hw : Region.wanted o (yielded ops a'.tmps) = true := wanted_none ho2
       show if Region.wanted o (yielded ops a'.tmps) = true then _ else _
       rw [if_pos hw]
       refine .inl ?_
       show o.upon P a' _ _ ((execOp a'.eval o).run P w')
       have hex : (execOp a'.eval o).run P w' = .ok (.defer { target := .fn (.func f) us.toArray, args := #[] }) w' := by
        simp [execOp, ho1, resolve, ho4, ho5, hu, Deferred.ofValue]
       rw [hex, Oper.upon_defer]
       refine (show _ ∧ _ from ⟨rfl, m', ?_, ?_⟩)
       ·rw [ho3]
        exact { R3 with defers := rfl }
       ·rw [ho3]
        refine ⟨by simp [Act.put, hdf, R.2.1], fun j x d hx hd => ?_⟩
        cases j with
        | zero =>
         simp only [List.getElem?_cons_zero, Option.some.injEq, Act.put] at hx hd
         subst hx; subst hd
         exact ⟨rfl, f, _, rfl, hu ▸ hv⟩
        | succ j =>
         simp only [List.getElem?_cons_succ, Act.put] at hx hd
         rw [hdf] at hd
         exact (R.2.mono hk).2 j x d hx hd
     ·cases h
    ·cases h
  ·obtain ⟨r, hr, h2⟩ := Option.map_eq_some_iff.1 h
   cases h2
   exact exC_nest hT hm hc hE hr R
 | .skip, σ, dl, e, σ', dl', h, m, a, w, R => by obtain ⟨r, hr, h2⟩ := Option.map_eq_some_iff.1 h; cases h2; exact exC_nest hT hm hc hE hr R
 | .label _, σ, dl, e, σ', dl', h, m, a, w, R => by obtain ⟨r, hr, h2⟩ := Option.map_eq_some_iff.1 h; cases h2; exact exC_nest hT hm hc hE hr R
 | .exit _, σ, dl, e, σ', dl', h, m, a, w, R => by obtain ⟨r, hr, h2⟩ := Option.map_eq_some_iff.1 h; cases h2; exact exC_nest hT hm hc hE hr R
 | .ret, σ, dl, e, σ', dl', h, m, a, w, R => by obtain ⟨r, hr, h2⟩ := Option.map_eq_some_iff.1 h; cases h2; exact exC_nest hT hm hc hE hr R
 | .cond _ _ _, σ, dl, e, σ', dl', h, m, a, w, R => by obtain ⟨r, hr, h2⟩ := Option.map_eq_some_iff.1 h; cases h2; exact exC_nest hT hm hc hE hr R
 | .block _ _, σ, dl, e, σ', dl', h, m, a, w, R => by obtain ⟨r, hr, h2⟩ := Option.map_eq_some_iff.1 h; cases h2; exact exC_nest hT hm hc hE hr R
 | .scope _, σ, dl, e, σ', dl', h, m, a, w, R => by obtain ⟨r, hr, h2⟩ := Option.map_eq_some_iff.1 h; cases h2; exact exC_nest hT hm hc hE hr R
 | .loop _, σ, dl, e, σ', dl', h, m, a, w, R => by obtain ⟨r, hr, h2⟩ := Option.map_eq_some_iff.1 h; cases h2; exact exC_nest hT hm hc hE hr R
 | .rangeFunc _ _ _ _, σ, dl, e, σ', dl', h, m, a, w, R => by obtain ⟨r, hr, h2⟩ := Option.map_eq_some_iff.1 h; cases h2; exact exC_nest hT hm hc hE hr R
 | .goto _, σ, dl, e, σ', dl', h, m, a, w, R => by obtain ⟨r, hr, h2⟩ := Option.map_eq_some_iff.1 h; cases h2; exact exC_nest hT hm hc hE hr R
 | .refuse _, σ, dl, e, σ', dl', h, m, a, w, R => by obtain ⟨r, hr, h2⟩ := Option.map_eq_some_iff.1 h; cases h2; exact exC_nest hT hm hc hE hr R

theorem rel_enter {E : Env} {m : Locs} {h : List Ob} {w : World} (R : HRel E m h w) {args : List V} {us : List Value} (hl : us.length = args.length) (hr : ∀ (j : Nat) (x : V) (u : Value), args[j]? = some x → us[j]? = some u → VRel (dirOf m h) (okc E m h) w x u) (n : Nat) :
  RelM { E with df := [] } m ⟨args ++ List.replicate (n - args.length) .junk, h⟩ { tmps := us.toArray ++ Array.replicate (n - us.toArray.size) undef, defers := [] } w := by
 refine { toHRel := ⟨R.ext, R.blk, R.inj, R.obs, R.new, R.dle⟩, tsize := by simp [hl], defers := rfl, tmps := fun t => ?_ }
 by_cases ht : t < args.length
 ·have h1 : (args ++ List.replicate (n - args.length) V.junk).getD t .junk = args[t] := by
   rw [List.getD, List.getElem?_append_left ht, List.getElem?_eq_getElem ht]
   rfl
  have h2 : (us.toArray ++ Array.replicate (n - us.toArray.size) undef).getD t undef = us[t]'(by omega) := by
   have : t < us.length := by omega
   simp [Array.getElem?_append, this]
  show VRel _ _ _ ((args ++ List.replicate (n - args.length) V.junk).getD t .junk) ((us.toArray ++ Array.replicate (n - us.toArray.size) undef).getD t undef)
  rw [h1, h2]
  exact hr t _ _ (by simp) (by simp)
 ·have h1 : (args ++ List.replicate (n - args.length) V.junk).getD t .junk = .junk := by
   simp only [List.getD, List.getElem?_append_right (Nat.le_of_not_lt ht), List.getElem?_replicate]
   split <;> rfl
  show VRel _ _ _ ((args ++ List.replicate (n - args.length) V.junk).getD t .junk) _
  rw [h1]
  exact .junk _

def ODOK (P : Program) (OD : FuncId → Option Nat) : Prop := ∀ f n, OD f = some n → (∃ fn c, P.funcs[f]? = some fn ∧ fn.body = some c ∧ (fn.name == "runtime.NumGoroutine") = false) ∧
 ∀ args w, args.size = n → CallsD P f args .returning w fun e u w' => (∃ v, e = .returned v) ∧ u = .returning ∧ w' = w

theorem exLeave_ok (hT : TOK P T) (hm : P.follows .mixedOrders = true) (hF : ∀ f fn, F f = some fn → P.funcs[f]? = some fn ∧ (fn.name == "runtime.NumGoroutine") = false) (hD : ODOK P OD) (hc : CallOK P call) {k : Nat} {E : Env} (hE : EnvP P k E) {fn : Func} {tmps : Array Value} {R : Ending → World → Prop} :
  ∀ (dl : List V) {σ σ' : St}, exLeave T F OD call dl σ = some σ' → ∀ {m : Locs} {ds : List Deferred} {w : World}, HRel E m σ.h w → (∀ t, VRel (dirOf m σ.h) (okc E m σ.h) w (σ.t.getD t .junk) (tmps.getD t undef)) → DefR (dirOf m σ.h) (okc E m σ.h) w dl ds →
   (∀ m' w', HRel E m' σ'.h w' → (∀ t, VRel (dirOf m' σ'.h) (okc E m' σ'.h) w' (σ'.t.getD t .junk) (tmps.getD t undef)) → ∃ v, (results fn tmps).run P w' = .ok v w' ∧ R (.returned v) w') → Leaves P fn tmps R ds .returning w
 | [], σ, σ', h, m, ds, w, hR, ht, hd, hK => by
  cases h
  obtain rfl := List.eq_nil_of_length_eq_zero hd.1
  exact hK m w hR ht
 | .fn f cap :: dl, σ, σ', h, m, ds, w, hR, ht, hd, hK => by
  simp only [exLeave] at h
  split at h
  ·rename_i hod
   obtain ⟨⟨g, c, hg1, hb, hg2⟩, hcd⟩ := hD f _ hod
   match ds, hd with
   | [], hd => exact absurd hd.1 (by simp)
   | ⟨tg, dargs⟩ :: ds, hd =>
    obtain ⟨h1, f', us', h2, h3⟩ := hd.2 0 _ _ rfl rfl
    obtain ⟨us, h4, hul, hur⟩ := h3.fn_inv
    simp only [Value.func.injEq, Fn.func.injEq, true_and] at h4
    obtain ⟨rfl, rfl⟩ := h4
    simp only at h1 h2
    subst h1; subst h2
    have henter : (invoke (.fn (.func f') us.toArray) #[]).run P w = .ok (.enter f' us.toArray) w := by
     have hne : ¬ (g.name = "runtime.NumGoroutine") := by simpa using hg2
     simp [invoke, callFunc, hg1, hb, hne]
    refine leaves_cons (by simp) henter ((hcd us.toArray w (by simpa using hul)).mono ?_)
    rintro e u' w' ⟨⟨v, rfl⟩, rfl, rfl⟩
    exact exLeave_ok hT hm hF hD hc hE dl h hR ht (DefR.mono ⟨by simpa using hd.1, fun j x d hx hd' => hd.2 (j + 1) x d (by simpa using hx) (by simpa using hd')⟩ (fun _ _ q => q)) hK
  ·skip
   split at h
   ·rename_i g hg
    obtain ⟨hg1, hg2⟩ := hF _ _ hg
    split at h
    ·rename_i c hb
     split at h
     ·rename_i hres
      match ds, hd with
      | [], hd => exact absurd hd.1 (by simp)
      | ⟨tg, dargs⟩ :: ds, hd =>
       obtain ⟨h1, f', us', h2, h3⟩ := hd.2 0 _ _ rfl rfl
       obtain ⟨us, h4, hul, hur⟩ := h3.fn_inv
       simp only [Value.func.injEq, Fn.func.injEq, true_and] at h4
       obtain ⟨rfl, rfl⟩ := h4
       simp only at h1 h2
       subst h1; subst h2
       have henter : (invoke (.fn (.func f') us.toArray) #[]).run P w = .ok (.enter f' us.toArray) w := by
        have hne : ¬ (g.name = "runtime.NumGoroutine") := by simpa using hg2
        simp [invoke, callFunc, hg1, hb, hne]
       refine leaves_cons (by simp) henter ?_
       have key : ∀ {e : Exit} {σ1 : St}, (e = .normal ∨ e = .ret) → exC T call c ⟨cap ++ List.replicate (g.ntmps - cap.length) .junk, σ.h⟩ = some (e, σ1) → exLeave T F OD call dl ⟨σ.t, σ1.h⟩ = some σ' →
         CallsD P f' us.toArray .returning w fun
          | .returned _, u', w' => Leaves P fn tmps R ds (settle u') w'
          | .panicked chain, u', w' => Leaves P fn tmps R ds (raised u' chain) w'
          | .outgrown, _, w' => R .outgrown w' := by
        intro e σ1 he hrun hrest
        refine (callsD_of_wp (R := fun e w' => ∃ v, e = .returned v ∧ ∃ m', HRel E m' σ1.h w' ∧ ∀ x u, VRel (dirOf m σ.h) (okc E m σ.h) w x u → VRel (dirOf m' σ1.h) (okc E m' σ1.h) w' x u) hg1 hb ?_).mono ?_
        ·have hrel := rel_enter hR hul hur g.ntmps
         refine wp_mono ((exC_ok hT hm hc (k := σ.h.length) (K := fun e1 σ2 => e1 = e ∧ σ2 = σ1) c hrun ⟨rfl, rfl⟩).nest0 hE hrel) ?_
         rintro e1 a' w' ⟨σ2, m', ⟨rfl, rfl⟩, R', hdf, hk⟩
         have hfin : a'.defers = [] ∧ ∃ v, (results g a'.tmps).run P w' = .ok v w' ∧ ∃ v', Ending.returned v = .returned v' ∧ ∃ m', HRel E m' σ2.h w' ∧ ∀ x u, VRel (dirOf m σ.h) (okc E m σ.h) w x u → VRel (dirOf m' σ2.h) (okc E m' σ2.h) w' x u :=
          ⟨hdf, .tuple #[], by simp [results, hres], _, rfl, m', ⟨R'.ext, R'.blk, R'.inj, R'.obs, R'.new, R'.dle⟩, hk⟩
         rcases he with rfl | rfl
         ·exact hfin
         ·exact hfin
        ·rintro e u' w' ⟨rfl, v, rfl, m', hR', hk⟩
         show Leaves P fn tmps R ds (settle .returning) w'
         exact exLeave_ok hT hm hF hD hc hE dl hrest hR' (fun t => hk _ _ (ht t)) (DefR.mono ⟨by simpa using hd.1, fun j x d hx hd' => hd.2 (j + 1) x d (by simpa using hx) (by simpa using hd')⟩ hk) hK
       split at h
       ·rename_i σ1 hrun
        exact key (.inl rfl) hrun h
       ·rename_i σ1 hrun
        exact key (.inr rfl) hrun h
       ·cases h
     ·cases h
    ·cases h
   ·cases h
 | .i _ _ :: _, _, _, h, _, _, _, _, _, _, _ => by cases h
 | .b _ :: _, _, _, h, _, _, _, _, _, _, _ => by cases h
 | .s _ :: _, _, _, h, _, _, _, _, _, _, _ => by cases h
 | .c _ :: _, _, _, h, _, _, _, _, _, _, _ => by cases h
 | .ro _ _ :: _, _, _, h, _, _, _, _, _, _, _ => by cases h
 | .rp _ :: _, _, _, h, _, _, _, _, _, _, _ => by cases h
 | .z :: _, _, _, h, _, _, _, _, _, _, _ => by cases h
 | .ptr _ _ _ _ :: _, _, _, h, _, _, _, _, _, _, _ => by cases h
 | .sl _ _ _ _ :: _, _, _, h, _, _, _, _, _, _, _ => by cases h
 | .mp _ :: _, _, _, h, _, _, _, _, _, _, _ => by cases h
 | .agg _ :: _, _, _, h, _, _, _, _, _, _, _ => by cases h
 | .tup _ :: _, _, _, h, _, _, _, _, _, _, _ => by cases h
 | .bm _ _ :: _, _, _, h, _, _, _, _, _, _, _ => by cases h
 | .junk :: _, _, _, h, _, _, _, _, _, _, _ => by cases h

theorem Fin.out (hT : TOK P T) {k : Nat} {E : Env} (hE : EnvOK k E) {fn : Func} {r : V} {objs' : List Ob} {σ : St} (hf : Fin T k fn.results.toList r objs' σ) {m : Locs} {w : World} (R : HRel E m σ.h w) {tmps : Array Value}
  (ht : ∀ t, VRel (dirOf m σ.h) (okc E m σ.h) w (σ.t.getD t .junk) (tmps.getD t undef)) :
  ∃ v, (results fn tmps).run P w = .ok v w ∧ ∃ v' m', Ending.returned v = .returned v' ∧ HRel E m' objs' w ∧ VRel (dirOf m' objs') (okc E m' objs') w r v' := by
 obtain ⟨extra, l, hn, hge, rfl, hl, hret⟩ := hf
 obtain ⟨v, hv1, hv2⟩ := results_run hT R ht hl
 have hnd : (List.range k ++ extra).Nodup := by
  rw [List.nodup_append]
  refine ⟨List.nodup_range, hn, fun a ha b hb => ?_⟩
  have := List.mem_range.1 ha
  have := hge b hb
  omega
 obtain ⟨h1, h2⟩ := R.sel hE hnd (fun i hi => by rw [List.getElem?_append_left (by simpa using hi), List.getElem?_range hi])
 exact ⟨v, hv1, v, _, rfl, h1, h2 _ _ hv2 _ hret⟩

theorem exBody_ok (hT : TOK P T) (hm : P.follows .mixedOrders = true) (hF : ∀ f fn, F f = some fn → P.funcs[f]? = some fn ∧ (fn.name == "runtime.NumGoroutine") = false) (hD : ODOK P OD) (hc : CallOK P call) {f : FuncId} {fn : Func} (hf : F f = some fn) {args : List V} {objs : List Ob} {r : V} {objs' : List Ob}
  (h : exBody T F OD call fn args objs = some (r, objs')) : QC P f args objs r objs' := by
 obtain ⟨hf1, hf2⟩ := hF _ _ hf
 unfold exBody at h
 split at h
 ·cases h
 ·rename_i c hb
  split at h
  ·rename_i σ' hσ
   have hfin := exFin_ok h
   refine ⟨fun vs w => ?_, fun w vs m ok hG R hlen hrel => ?_⟩
   ·have hne : ¬ (fn.name = "runtime.NumGoroutine") := by simpa using hf2
    simp [callFunc, hf1, hb, hne]
   ·have hE : EnvOK objs.length ⟨w, ownOf m objs, ok, dirOf m objs, []⟩ := by
     intro o d hd
     have hd' : dirOf m objs o = some d := hd
     rw [dirOf_eq] at hd'
     rcases Nat.lt_or_ge o objs.length with h | h
     ·exact h
     ·have : objs.getD o .unborn = .unborn := by simp [List.getD, List.getElem?_eq_none h]
      rw [this] at hd'; cases hd'
    obtain ⟨us⟩ := vs
    have hrel0 := rel_enter R (us := us) (by simpa using hlen) (fun j x u hx hu => hrel j x u hx (by simpa using hu)) fn.ntmps
    have key : ∀ {e : Exit} {σ : St} {dl : List V}, (e = .normal ∨ e = .ret) → exD T call c ⟨args ++ List.replicate (fn.ntmps - args.length) .junk, objs⟩ [] = some (e, σ, dl) → exLeave T F OD call dl σ = some σ' →
      Calls P f us.toArray w fun e w' => ∃ v m', e = .returned v ∧ HRel ⟨w, ownOf m objs, ok, dirOf m objs, []⟩ m' objs' w' ∧ VRel (dirOf m' objs') (okc ⟨w, ownOf m objs, ok, dirOf m objs, []⟩ m' objs') w' r v := by
     intro e σ dl he hrun hlv
     refine calls_of_wp_defers hf1 hb (wp_mono (exD_ok hT hm hc (k := objs.length) ⟨hE, hG⟩ c hrun ⟨hrel0, rfl, fun j x d hx => by simp at hx⟩) ?_)
     rintro e1 a' w' ⟨rfl, m', R', hd⟩
     have hfinal : Leaves P fn a'.tmps (fun e w' => ∃ v m', e = .returned v ∧ HRel ⟨w, ownOf m objs, ok, dirOf m objs, []⟩ m' objs' w' ∧ VRel (dirOf m' objs') (okc ⟨w, ownOf m objs, ok, dirOf m objs, []⟩ m' objs') w' r v) a'.defers .returning w' :=
      exLeave_ok hT hm hF hD hc (k := objs.length) (E := ⟨w, ownOf m objs, ok, dirOf m objs, []⟩) ⟨hE, hG⟩ dl hlv ⟨R'.ext, R'.blk, R'.inj, R'.obs, R'.new, R'.dle⟩ R'.tmps hd (fun m2 w2 h1 h2 => hfin.out hT hE h1 h2)
     rcases he with rfl | rfl
     ·exact hfinal
     ·exact hfinal
    split at hσ
    ·rename_i σ dl hrun
     exact key (.inl rfl) hrun hσ
    ·rename_i σ dl hrun
     exact key (.inr rfl) hrun hσ
    ·cases hσ
  ·cases h

theorem exG_ok (hT : TOK P T) (hm : P.follows .mixedOrders = true) (hF : ∀ f fn, F f = some fn → P.funcs[f]? = some fn ∧ (fn.name == "runtime.NumGoroutine") = false) (hD : ODOK P OD) (hO : CallOK P O) : ∀ n, CallOK P (exG T F OD O n)
 | 0 => fun f args objs r objs' h => by simp [exG] at h
 | n + 1 => fun f args objs r objs' h => by
  have ih := exG_ok hT hm hF hD hO n
  simp only [exG] at h
  split at h
  ·rename_i r0 hr0
   cases h
   exact hO _ _ _ _ _ hr0
  ·split at h
   ·cases h
   ·rename_i fn hfn
    exact exBody_ok hT hm hF hD ih hfn h

end

end Go.AM
end
section
namespace Go.AM
open Go
section
variable {H : Type} {enc : TypeId × Value → H} {P : Program} {T : Tab}

end
end Go.AM
end
section
namespace Go.AM
open Go

mutual
def bkV : V → Nat
 | .s l => l.length + 1
 | .ro _ es => bkR es + 1
 | _ => 1
def bkL : List V → Nat
 | [] => 0
 | v :: r => bkV v + bkL r
def bkR : List (List V) → Nat
 | [] => 0
 | l :: r => bkL l + bkR r
end

theorem bkL_append : ∀ (a b : List V), bkL (a ++ b) = bkL a + bkL b
 | [], b => by simp [bkL]
 | x :: a, b => by simp only [List.cons_append, bkL, bkL_append a b]; omega

theorem bkR_map {A : Type} (f : A → List V) : ∀ l : List A, bkR (l.map f) = (l.map fun x => bkL (f x)).sum
 | [] => by simp [bkR]
 | x :: l => by simp only [List.map_cons, bkR, List.sum_cons, bkR_map f l]

theorem bk_fields {H : Type} {T : Tab} {n : Nat} {B : DataW H → Nat} (ih : ∀ t d, bkL (dV T n t d) ≤ B d) : ∀ (fs : List (Nat × TypeId)) (ps : List (DataW H)),
  bkL (List.zipWith (fun (f : Nat × TypeId) p => dV T n f.2 p) fs ps).flatten ≤ (ps.map B).sum
 | [], ps => by simp [bkL]
 | f :: fs, [] => by simp [bkL]
 | f :: fs, p :: ps => by
  simp only [List.zipWith_cons_cons, List.flatten_cons, bkL_append, List.map_cons, List.sum_cons]
  have := bk_fields ih fs ps
  have := ih f.2 p
  omega

theorem bk_rows {H : Type} {B : DataW H → Nat} {g : DataW H → List V} (ih : ∀ d, bkL (g d) ≤ B d) : ∀ ds : List (DataW H), bkR (ds.map g) ≤ (ds.map B).sum
 | [] => by simp [bkR]
 | d :: ds => by
  simp only [List.map_cons, bkR, List.sum_cons]
  have := bk_rows ih ds
  have := ih d
  omega

theorem bk_dV {H : Type} {T : Tab} {B : DataW H → Nat} (hs : ∀ s, s.length + 1 ≤ B (.lit (.string s))) (h1 : ∀ d, 1 ≤ B d)
  (hsl : ∀ es sp, (es.map B).sum + 1 ≤ B (.slice es sp)) (hag : ∀ ps, (ps.map B).sum ≤ B (.agg ps)) : ∀ (n : Nat) (t : TypeId) (d : DataW H), bkL (dV T n t d) ≤ B d
 | 0, t, d => by simp [dV, bkL]
 | n + 1, t, d => by
  have ih := bk_dV (T := T) hs h1 hsl hag n
  unfold dV
  split
  ·simp only [bkL, bkV]; exact h1 _
  ·simp only [bkL, bkV]; exact h1 _
  ·simp only [bkL, bkV]; exact hs _
  ·simp only [bkL, bkV, bkR]; exact h1 _
  ·simp only [bkL, bkV]; exact Nat.le_trans (Nat.add_le_add_right (bk_rows (ih _) _) 1) (hsl _ _)
  ·exact Nat.le_trans (bk_fields ih _ _) (hag _)
  ·simp [bkL]
end Go.AM
end
section
namespace Go.AM
open Go

section
variable {P : Program} {T : Tab} {ops : Array Oper} {d : Bool}

end
end Go.AM
end
section
namespace Go.AM
open Go

mutual
def wfV : V → Prop
 | .i k m => (Lit.int k m).wf = true
 | .ro _ es => wfR es
 | _ => True
def wfL : List V → Prop
 | [] => True
 | v :: r => wfV v ∧ wfL r
def wfR : List (List V) → Prop
 | [] => True
 | l :: r => wfL l ∧ wfR r
end

theorem wfL_append : ∀ (a b : List V), wfL (a ++ b) ↔ wfL a ∧ wfL b
 | [], b => by simp [wfL]
 | x :: a, b => by simp only [List.cons_append, wfL, wfL_append a b, and_assoc]
theorem wfR_all : ∀ l : List (List V), wfR l ↔ ∀ x ∈ l, wfL x
 | [] => by simp [wfR]
 | x :: l => by simp only [wfR, wfR_all l, List.mem_cons, forall_eq_or_imp]
theorem wfR_map {A : Type} (f : A → List V) (l : List A) : wfR (l.map f) ↔ ∀ x ∈ l, wfL (f x) := by
 rw [wfR_all]; simp
theorem wfL_flatten : ∀ (yss : List (List V)), (∀ ys ∈ yss, wfL ys) → wfL yss.flatten
 | [], _ => by simp [wfL]
 | y :: yss, h => by
  rw [List.flatten_cons, wfL_append]
  exact ⟨h y List.mem_cons_self, wfL_flatten yss fun z hz => h z (List.mem_cons_of_mem _ hz)⟩
theorem wfL_of {T : Tab} : ∀ (n : Nat) (t : TypeId) (xs : List V), shpW T n t xs → wfL xs
 | 0, t, xs, h => h.elim
 | n + 1, t, xs, h => by
  unfold shpW at h
  split at h
  ·obtain ⟨m, h1, rfl⟩ := h; exact ⟨h1, trivial⟩
  ·obtain ⟨b, rfl⟩ := h; exact ⟨trivial, trivial⟩
  ·obtain ⟨s, _, rfl⟩ := h; exact ⟨trivial, trivial⟩
  ·obtain ⟨es, _, _, rfl, h⟩ := h
   refine ⟨?_, trivial⟩
   show wfR es
   rw [wfR_all]
   exact fun l hl => wfL_of n _ l (h l hl)
  ·obtain ⟨yss, rfl, hl, h⟩ := h
   refine wfL_flatten yss fun ys hy => ?_
   obtain ⟨i, hi⟩ := List.mem_iff_getElem?.1 hy
   have hlt : i < yss.length := (List.getElem?_eq_some_iff.1 hi).1
   exact wfL_of n _ ys (h i _ ys (List.getElem?_eq_getElem (by omega)) hi)
  ·exact h.elim

section
variable {H : Type} {enc : TypeId × Value → H} {P : Program} {T : Tab}

theorem arg_structB (hT : TOK P T) {W : World} {base : Nat} {t : TypeId} {v : Value} {d : DataW H} {p : List MemPlace} {fs : List (Nat × TypeId)} {S : List TypeId} (B : DataW H → Nat) (hs : ∀ s, s.length + 1 ≤ B (.lit (.string s))) (h1 : ∀ d, 1 ≤ B d)
  (hsl : ∀ es sp, (es.map B).sum + 1 ≤ B (.slice es sp)) (hag : ∀ ps, (ps.map B).sum ≤ B (.agg ps)) (hS : closedS T S = true) (hk : (T t).kind = .str fs) (ho : t ∈ S)
  (hv : Value.okWide P W .any base t v) {sp : Nat → Bool} {hd : Bool} {bs : Nat} (h : DataW.Trod enc P W bs sp hd t v d p) (hw : ∀ n ∈ d.weights P t, n ≤ reachBytes) :
  ∃ xs, (∃ n, shpW T n t xs) ∧ bkL xs ≤ B d ∧ ∀ (ok : Nat → Prop), (∀ b, ok b) → ∀ (D : Dir), VRel D ok W (.agg xs) v := by
 obtain ⟨fields, hu, _⟩ := hT.str hk
 unfold Value.okWide at hv
 simp only [hu] at hv
 obtain ⟨cs, rfl, _, _⟩ := hv
 obtain ⟨fuel, hf⟩ := h
 refine ⟨_, ⟨fuel, shpW_of hT hS fuel t ho _ _ hf hw⟩, bk_dV hs h1 hsl hag fuel t d, fun ok hok D => ?_⟩
 obtain ⟨h1, h2, h3⟩ := (reads_dataS hT hS (ok := ok) (fun b _ => hok b) fuel t ho _ _ hf).1
 have := VRel.agg (D := D) (ok := ok) (w := W) (dV T fuel t d) cs.toList (by rw [h1]; exact h2) (fun u hu => by
  obtain ⟨j, hj⟩ := List.mem_iff_getElem?.1 hu
  have hlt : j < cs.toList.length := (List.getElem?_eq_some_iff.1 hj).1
  have hlt2 : j < (dV T fuel t d).length := by rw [h1]; rw [show cs.toList.length = _ from h2] at hlt; exact hlt
  exact (h3 j _ u (List.getElem?_eq_getElem hlt2) hj).one) (fun j x u hx hu => .pure (h3 j x u hx hu))
 simpa using this

theorem returnsInHanded_of_cond_and {a : Assume} {C : Checked} {os : Os} {f : FuncId} {fn : Func} {s : OpenSpec} {k : (H : Type) → List (DataW H) → Bool} (hk : s.cond = some k) {F : Stop.Interp} {conds : List PathCond} {apart fresh handsOn again : Bool} {laid : List (String × DataW Unit)}
  (own : ownKnob C.prog.godebug = none) (started : os.Started) (noInit : C.prog.inits.idxOf? f = none) (hfn : C.prog.funcs[f]? = some fn)
  (witness : ∃ (w : World) (tape : Tape) (i : Input), w.os = os ∧ (w.forCall tape i).Shaped C.prog ∧ i.vars = [] ∧ Input.okWide C.prog (w.forCall tape i) .any w.heap.size f i ∧
   s.preRow enc C.prog fn conds apart laid (w.forCall tape i).memory i.args ∧ a.holds C.prog (lone (Frame.enter C.prog f i.args .normal) [] (w.forCall tape i)))
  (contract : ∀ (W : World) (base : Nat) (args : Array Value) (ds gs : List (DataW H)) (before : List MemPlace),
   (∀ (j : Nat) t v, fn.params[j]? = some t → args[j]? = some v → Value.okWide C.prog W .any base t v) →
   DataW.Whole enc C.prog fn.params.toList s.vars apart W args.toList ds gs before →
   k H (ds ++ gs) = true →
   (DataW.weightsEach C.prog (fn.params.toList ++ s.bare.plain.varTypes C.prog) (ds ++ gs)).all (· ≤ reachBytes) = true → laidMetH C.prog laid W →
   Calls C.prog f args W fun e W' => ∃ v, e = .returned v ∧ (s.at F).post enc C.prog fn apart fresh handsOn again W args v W') :
  ReturnsInHanded a C os f .any (s.preRow enc C.prog fn conds apart laid) ((s.at F).post enc C.prog fn apart fresh handsOn again) := by
 refine returnsInHanded_of_calls own started noInit witness ?_
 intro w tape i _ _ _ hok hpre hholds
 obtain ⟨_, _, _, fn', hfn', _, _, _, _, hval⟩ := hok
 have e : fn' = fn := Option.some.inj (hfn'.symm.trans hfn)
 subst e
 obtain ⟨⟨hp, hx⟩, hz⟩ := hpre
 obtain ⟨ds, gs, before, hw, hc, hkk⟩ := (OpenSpec.pre_some hk conds apart _ _).1 hp
 have hw' := DataW.Whole.of_heap (w' := w.forCall tape i) (by rfl) hw
 refine (contract (w.forCall tape i) w.heap.size i.args ds gs before hval hw' hkk (hz.weights hw) (hx.of_heap (by rfl))).mono fun e W' ⟨v, he, hp⟩ => ?_
 subst he
 exact ChangeSpec.post_blind hp

theorem witness_cond {C : Checked} {os : Os} {f : FuncId} {fn : Func} {s : OpenSpec} {conds : List PathCond} {apart : Bool} {laid : List (String × DataW Unit)} (modest : Bool) (w0 : World) (args : Array Value) (fuel : Nat) (hos : w0.os = os)
  (hsh : (w0.forCall (fun _ _ => 0) ⟨#[], args, []⟩).Shaped C.prog)
  (hok : Input.okWideB C.prog (w0.forCall (fun _ _ => 0) ⟨#[], args, []⟩) f ⟨#[], args, []⟩ = true)
  (hrow : s.preRow enc C.prog fn conds apart laid (w0.forCall (fun _ _ => 0) ⟨#[], args, []⟩).memory args) :
  ∃ (w : World) (tape : Tape) (i : Input), w.os = os ∧ (w.forCall tape i).Shaped C.prog ∧ i.vars = [] ∧ Input.okWide C.prog (w.forCall tape i) .any w.heap.size f i ∧
   s.preRow enc C.prog fn conds apart laid (w.forCall tape i).memory i.args ∧ ({ modest := modest } : Assume).holds C.prog (lone (Frame.enter C.prog f i.args .normal) [] (w.forCall tape i)) :=
 ⟨w0, fun _ _ => 0, ⟨#[], args, []⟩, hos, hsh, (Input.okWide_of_okWideB (base := 0) hok).1, (Input.okWide_of_okWideB hok).2, hrow, by
  simp only [Assume.holds]
  exact ⟨by simp, by simp, fun _ => Modest.zero, by simp, by simp⟩⟩
end
end Go.AM
end
section
namespace Go.AM
open Go

section
variable {P : Program} {T : Tab}

def slotSel (sel : List Nat) (x y : V) : Prop := y = .junk ∨ y = ren1 (toIdx sel) x
theorem Sub.cutS {k : Nat} {σ : St} {t' : List V} {h' : List Ob} (sel : List Nat) (hn : sel.Nodup) (hk : ∀ i, i < k → sel[i]? = some i) (ht : allP (slotSel sel) σ.t t') (hh : passed σ.h sel = h') : Sub k σ ⟨t', h'⟩ := by
 subst hh
 obtain ⟨h1, h2⟩ := allP_get ht
 refine Sub.sel (σ := σ) hn hk h1.symm fun j x y hx hy => ?_
 obtain ⟨x', hx', hr⟩ := h2 j y hy
 rw [hx] at hx'
 obtain rfl := Option.some.inj hx'
 rcases hr with h | h
 ·exact .inl h
 ·exact .inr (.inl (.inl h))
def BackM {α : Type} (k : Nat) (I : α → St) (μ : α → Nat) (M : Nat) (σ' : St) : Prop := ∃ y, μ y < M ∧ Sub k σ' (I y)
theorem EV.loopP {α : Type} {k : Nat} {K : Exit → St → Prop} {σ : St} (I : α → St) (μ : α → Nat) (M : Nat) {c : Code} (first : EV P k c σ (thenK (BackM k I μ M) K))
  (round : ∀ x, EV P k c (I x) (thenK (Back k I μ x) K)) : EV P k (.loop c) σ K := by
 refine EV.loop (α := Option α) (fun x => match x with | none => σ | some y => I y) (fun x => match x with | none => M | some y => μ y) none Sub.refl' ?_
 intro x
 cases x with
 | none =>
  refine EV.mono first ?_
  intro e s h
  cases e with
  | normal => obtain ⟨y, h1, h2⟩ := h; exact ⟨some y, h1, h2⟩
  | _ => exact h
 | some x =>
  refine EV.mono (round x) ?_
  intro e s h
  cases e with
  | normal => obtain ⟨y, h1, h2⟩ := h; exact ⟨some y, h1, h2⟩
  | _ => exact h

def ED (P : Program) (k : Nat) (c : Code) (σ : St) (dl : List V) (K : Exit → St → List V → Prop) : Prop :=
 ∀ (E : Env) (m : Locs) (a : Act) (w : World), EnvP P k E → RelD E m σ dl a w → c.wp P (fun e a' w' => ∃ σ' m' dl', K e σ' dl' ∧ RelD E m' σ' dl' a' w') a w

def thenD (P : Program) (k : Nat) (b : Code) (K : Exit → St → List V → Prop) : Exit → St → List V → Prop
 | .normal, σ, dl => ED P k b σ dl K
 | e, σ, dl => K e σ dl
@[simp] theorem thenD_normal {k : Nat} {b : Code} {K : Exit → St → List V → Prop} {σ : St} {dl : List V} : thenD P k b K .normal σ dl = ED P k b σ dl K := rfl

theorem ED.seq {k : Nat} {x y : Code} {σ : St} {dl : List V} {K : Exit → St → List V → Prop} (h : ED P k x σ dl (thenD P k y K)) : ED P k (.seq x y) σ dl K := by
 intro E m a w hE R
 refine wp_seq ?_
 refine wp_mono (h E m a w hE R) ?_
 rintro e a1 w1 ⟨σ1, m1, dl1, hK, R1⟩
 cases e with
 | normal => exact hK E m1 a1 w1 hE R1
 | _ => exact ⟨σ1, m1, dl1, hK, R1⟩

theorem ED.of {k : Nat} {c : Code} {σ : St} {dl : List V} {K : Exit → St → List V → Prop} (h : EV P σ.h.length c σ (fun e σ' => K e σ' dl)) : ED P k c σ dl K := by
 intro E m a w hE R
 refine wp_mono (h.nest hE R) ?_
 rintro e a' w' ⟨σ', m', hK, R'⟩
 exact ⟨σ', m', dl, hK, R'⟩

theorem ED.exD (hT : TOK P T) (hm : P.follows .mixedOrders = true) {call : ExCall} (hc : CallOK P call) {k : Nat} {c : Code} {σ σ' : St} {dl dl' : List V} {e : Exit} (h : exD T call c σ dl = some (e, σ', dl')) {K : Exit → St → List V → Prop} (hK : K e σ' dl') : ED P k c σ dl K := by
 intro E m a w hE R
 refine wp_mono (exD_ok hT hm hc hE c h R) ?_
 rintro e1 a' w' ⟨rfl, m', R'⟩
 exact ⟨σ', m', dl', hK, R'⟩

theorem callNone_ok : CallOK P (fun _ _ _ => none) := fun _ _ _ _ _ h => by cases h

theorem QC.of_bodyD (hT : TOK P T) (hm : P.follows .mixedOrders = true) {F : FuncId → Option Func} {OD : FuncId → Option Nat} {call : ExCall} (hF : ∀ f fn, F f = some fn → P.funcs[f]? = some fn ∧ (fn.name == "runtime.NumGoroutine") = false) (hD : ODOK P OD) (hc : CallOK P call)
  {f : FuncId} {fn : Func} {c : Code} {args : List V} {objs : List Ob} {r : V} {objs' : List Ob} (hf : P.funcs[f]? = some fn) (hb : fn.body = some c) (hn : (fn.name == "runtime.NumGoroutine") = false)
  (h : ED P objs.length c ⟨args ++ List.replicate (fn.ntmps - args.length) .junk, objs⟩ [] (fun e σ dl => (e = .normal ∨ e = .ret) ∧ ∃ σ', exLeave T F OD call dl σ = some σ' ∧ Fin T objs.length fn.results.toList r objs' σ')) : QC P f args objs r objs' := by
 refine ⟨fun vs w => ?_, fun w vs m ok hG R hlen hrel => ?_⟩
 ·have hne : ¬ (fn.name = "runtime.NumGoroutine") := by simpa using hn
  simp [callFunc, hf, hb, hne]
 ·have hE : EnvOK objs.length ⟨w, ownOf m objs, ok, dirOf m objs, []⟩ := by
   intro o d hd
   have hd' : dirOf m objs o = some d := hd
   rw [dirOf_eq] at hd'
   rcases Nat.lt_or_ge o objs.length with h | h
   ·exact h
   ·have : objs.getD o .unborn = .unborn := by simp [List.getD, List.getElem?_eq_none h]
    rw [this] at hd'; cases hd'
  obtain ⟨us⟩ := vs
  have hrel0 := rel_enter R (us := us) (by simpa using hlen) (fun j x u hx hu => hrel j x u hx (by simpa using hu)) fn.ntmps
  refine calls_of_wp_defers hf hb (wp_mono (h ⟨w, ownOf m objs, ok, dirOf m objs, []⟩ m _ w ⟨hE, hG⟩ ⟨hrel0, rfl, fun j x d hx => by simp at hx⟩) ?_)
  rintro e1 a' w' ⟨σ, m', dl, ⟨he, σ', hlv, hfin⟩, R', hd⟩
  have hfinal : Leaves P fn a'.tmps (fun e w' => ∃ v m', e = .returned v ∧ HRel ⟨w, ownOf m objs, ok, dirOf m objs, []⟩ m' objs' w' ∧ VRel (dirOf m' objs') (okc ⟨w, ownOf m objs, ok, dirOf m objs, []⟩ m' objs') w' r v) a'.defers .returning w' :=
   exLeave_ok hT hm hF hD hc (k := objs.length) (E := ⟨w, ownOf m objs, ok, dirOf m objs, []⟩) ⟨hE, hG⟩ dl hlv ⟨R'.ext, R'.blk, R'.inj, R'.obs, R'.new, R'.dle⟩ R'.tmps hd (fun m2 w2 h1 h2 => hfin.out hT hE h1 h2)
  rcases he with rfl | rfl
  ·exact hfinal
  ·exact hfinal
end
end Go.AM
end
namespace Go.AM
@[reducible] def J : V := .junk
end Go.AM
namespace Go.Proofs.Tryz
open Go Go.AM
section
variable {k : Nat} {K N : Exit → St → Prop} {M : St → Prop} {σ : St} {id : Nat} {l : List Oper}
theorem RG (h : wpG prog tab l.toArray false l σ [] fun σ' _ => K .normal σ') : EV prog k (.region id l.toArray false) σ K := EV.regionG tabOK h
theorem SR {y : Code} (h : wpG prog tab l.toArray false l σ [] fun σ' _ => thenK (fun σ' => EV prog k y σ' K) K .normal σ') : EV prog k (.seq (.region id l.toArray false) y) σ K := EV.seq (EV.regionG tabOK h)
theorem PO {α : Type} {c q : Prop} [Decidable c] {a b r : α} (h : (if c then a else b) = r) (k : q) (i : q → c := by first | (intro k; simpa using k) | grind) : c ∧ a = r := pos_on2 h (i k)
theorem NO {α : Type} {c q : Prop} [Decidable c] {a b r : α} (h : (if c then a else b) = r) (k : q) (i : q → ¬ c := by first | (intro k; simpa using k) | grind) : ¬ c ∧ b = r := neg_on2 h (i k)
theorem KN1 : thenK M K .normal σ = M σ := rfl
theorem KR1 : thenK M K .ret σ = K .ret σ := rfl
theorem KN2 : blockK id K .normal σ = K .normal σ := rfl
theorem KR2 : blockK id K .ret σ = K .ret σ := rfl
theorem KN3 : scopeK K .normal σ = K .normal σ := rfl
theorem KR3 : scopeK K .ret σ = K .ret σ := rfl
theorem KN4 {T : Tab} {rs : List ResultVar} {r : V} {obs : List Ob} : bodyK T k rs r obs .normal σ = Fin T k rs r obs σ := rfl
theorem KR4 {T : Tab} {rs : List ResultVar} {r : V} {obs : List Ob} : bodyK T k rs r obs .ret σ = Fin T k rs r obs σ := rfl
end
end Go.Proofs.Tryz
