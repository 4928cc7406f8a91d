/- Contracts of WriteString, of small numbers' texts, of Join, numbers and Text. -/
import Derived.Test.YtaklafpfbhaoaaaDoorBuildA
import Derived.Test.YtaklafpfbhaoaaaDoorMachE
import Derived.Test.YtaklafpfbhaoaaaDoorMachD
import Derived.Test.YtaklafpfbhaoaaaDoorWalkB
set_option linter.unusedVariables false
set_option linter.unusedSimpArgs false
set_option linter.constructorNameAsVariable false
section
namespace Go.Proofs.Tryd
open Go Go.AM
attribute [local simp] wpG_op wpG_nil contG_some wpG_guard guardG_v guardG_o guardG_tup gval pureOp stepG_if isPick pickG_pick pickB_b pickOK isCall step_move step_assign step_alloc step_box boxV_some step_load step_store step_binOp step_unOp step_fieldAddr faV step_indexAddr ixA_slc ixA_arr step_extract extV_tup step_nilCheck ncV_ptr ncV_rp ncV_fn ncV_mp step_build buildV step_buildSlice bsV step_index ixV_arr ixV_str step_append apB step_makeSlice msV_i step_makeFunc over step_len step_makeMap mmV step_mapUpdate step_insert muA_map muB_mp step_lookup lkA_map lkB_mp step_slice slcV_s slcV_sl slcV_ro cutB_some slObV_arr bound_none bound_some bndV_i lenB_str lenB_ro lenB_sl lenB_nil lenB_z ld_ptr ld_rp offV_ptr offV_rp idxV_ro idxV_sl unV_not unV_neg binV_int binV_str binV_eqlb binV_neqb intOp strOp St.put updL setOb St.ev toV St.lk cellsOf AM.valOf TK.agg stv fillV places TI.zero condT_true condT_false finS resL resSlot packV ren ren1 ren0 Value.cells builtinV appendV elemsOf keepT room_of wrap_in toIdx passed Function.comp_def take_len_map lenV touchOf hid tab1 tab2 tab3 tab4 tab5 tab6 tab7 tab8 tab9 tab10 tab11 tab12 tab13 tab14 tab15 tab16 tab17 tab18 tab19 tab20 tab21 tab22 tab23 tab24 tab25 tab26 tab28 tab29 tab30 tab31 tab32 tab33 tab34 tab35 tab36 tab37 tab38 tab39 tab40 tab41 tab42 tab43 tab44 tab45 tab46 tab48 tab49 tab50 tab51 tab52 tab53 tab54 tab55 tab56 tab57 tab58 tab59 tab60 tab61 tab62 tab63 tab64 tab65 tab67 tab68 tab69 tab70 tab71 tab72 tab73 tab74 tab75 tab76 tab77 tab78 tab79 tab80 tab81 tab82 tab83 tab84 tab85 tab86 tab89 tab90 tab91 tab92 tab93 tab94 tab95 tab96 tab98 tab99 tab100 tab101 tab102 tab103 tab104 tab105 tab106 tab107 tab108 tab109 tab113 tab114 tab115 tab116 tab117 tab118 tab119 tab120 ren_arr ren_gone ren_unborn ren_var ren_row
set_option linter.unusedSimpArgs false
set_option maxRecDepth 10000
set_option maxHeartbeats 4000000


theorem walk33n (u : List UInt8) (hr : roomFor u.length 1) : QC prog 33 [.ptr 0 0 0 0, .s u] [.var 63 [.c (.pointer none), .c (.slice none 0 0)]] (.tup [n u.length, .c .nilIface]) [.var 63 [.ptr 0 0 0 0, .sl 1 0 0 u.length], .row 5 0 (u.map fun b => [V.i .u8 (b.toNat : Int)])] := by
  refine QC.of_body tabOK func33 rfl (by kernel_rfl) ?_
  simp only [f33]
  refine EV.seq ?_
  refine EV.regionG tabOK ?_ -- region 0
  simp -implicitDefEqProofs
  refine EV.seq ?_
  refine EV.regionG tabOK ?_ -- region 1
  simp -implicitDefEqProofs
  refine callG_own [0] rfl (walk43n (.c (.slice none 0 0)) []) ?_ ?_ ?_ ?_ ?_ ?_
  · simp
  · simp
  · simp
  · simp
  · simp
  simp -implicitDefEqProofs [keys, callUpd, List.range_succ]
  refine EV.seq ?_
  refine EV.regionG tabOK ?_ -- region 2
  simp -implicitDefEqProofs [hr]
  refine EV.seq ?_
  refine EV.regionG tabOK ?_ -- region 3
  simp -implicitDefEqProofs
  refine EV.ret ?_
  simp only [thenK_ret, blockK_ret, scopeK_ret, bodyK_ret]
  refine Fin.own1 1 (by simp) ?_ ?_
  · simp
  · simp [List.range_succ]

theorem walk33r (ep : Nat) (l u : List UInt8) (hr : roomFor (l.length + u.length) 1) : QC prog 33 [.ptr 0 0 0 0, .s u] [.var 63 [.ptr 0 0 0 0, .sl 1 ep 0 l.length], .row 5 ep (l.map fun b => [V.i .u8 (b.toNat : Int)])] (.tup [n u.length, .c .nilIface]) [.var 63 [.ptr 0 0 0 0, .sl 1 (ep + 1) 0 (l.length + u.length)], .row 5 (ep + 1) ((l ++ u).map fun b => [V.i .u8 (b.toNat : Int)])] := by
  refine QC.of_body tabOK func33 rfl (by kernel_rfl) ?_
  simp only [f33]
  refine EV.seq ?_
  refine EV.regionG tabOK ?_ -- region 0
  simp -implicitDefEqProofs
  refine EV.seq ?_
  refine EV.regionG tabOK ?_ -- region 1
  simp -implicitDefEqProofs
  refine callG_own [0, 1] rfl (walk43u (.sl 1 ep 0 l.length) [.row 5 ep (l.map fun b => [V.i .u8 (b.toNat : Int)])]) ?_ ?_ ?_ ?_ ?_ ?_
  · simp
  · simp
  · simp
  · simp
  · simp
  simp -implicitDefEqProofs [keys, callUpd, List.range_succ]
  refine EV.seq ?_
  refine EV.regionG tabOK ?_ -- region 2
  simp -implicitDefEqProofs [hr, take_len_map]
  refine EV.seq ?_
  refine EV.regionG tabOK ?_ -- region 3
  simp -implicitDefEqProofs
  refine EV.ret ?_
  simp only [thenK_ret, blockK_ret, scopeK_ret, bodyK_ret]
  refine Fin.plain ?_ ?_
  · simp
  · simp [List.range_succ]

end Go.Proofs.Tryd
end
section
namespace Go.Proofs.Tryd
open Go Go.AM
attribute [local simp] wpG_op wpG_nil contG_some wpG_guard guardG_v guardG_o guardG_tup gval pureOp stepG_if isPick pickG_pick pickB_b pickOK isCall step_move step_assign step_alloc step_box boxV_some step_load step_store step_binOp step_unOp step_fieldAddr faV step_indexAddr ixA_slc ixA_arr step_extract extV_tup step_nilCheck ncV_ptr ncV_rp ncV_fn ncV_mp step_build buildV step_buildSlice bsV step_index ixV_arr ixV_str step_append apB step_makeSlice msV_i step_makeFunc over step_len step_makeMap mmV step_mapUpdate step_insert muA_map muB_mp step_lookup lkA_map lkB_mp step_slice slcV_s slcV_sl slcV_ro cutB_some slObV_arr bound_none bound_some bndV_i lenB_str lenB_ro lenB_sl lenB_nil lenB_z ld_ptr ld_rp offV_ptr offV_rp idxV_ro idxV_sl unV_not unV_neg binV_int binV_str binV_eqlb binV_neqb intOp strOp St.put updL setOb St.ev toV St.lk cellsOf AM.valOf TK.agg stv fillV places TI.zero condT_true condT_false finS resL resSlot packV ren ren1 ren0 Value.cells builtinV appendV elemsOf keepT room_of wrap_in toIdx passed Function.comp_def take_len_map lenV touchOf hid tab1 tab2 tab3 tab4 tab5 tab6 tab7 tab8 tab9 tab10 tab11 tab12 tab13 tab14 tab15 tab16 tab17 tab18 tab19 tab20 tab21 tab22 tab23 tab24 tab25 tab26 tab28 tab29 tab30 tab31 tab32 tab33 tab34 tab35 tab36 tab37 tab38 tab39 tab40 tab41 tab42 tab43 tab44 tab45 tab46 tab48 tab49 tab50 tab51 tab52 tab53 tab54 tab55 tab56 tab57 tab58 tab59 tab60 tab61 tab62 tab63 tab64 tab65 tab67 tab68 tab69 tab70 tab71 tab72 tab73 tab74 tab75 tab76 tab77 tab78 tab79 tab80 tab81 tab82 tab83 tab84 tab85 tab86 tab89 tab90 tab91 tab92 tab93 tab94 tab95 tab96 tab98 tab99 tab100 tab101 tab102 tab103 tab104 tab105 tab106 tab107 tab108 tab109 tab113 tab114 tab115 tab116 tab117 tab118 tab119 tab120 ren_arr ren_gone ren_unborn ren_var ren_row
set_option linter.unusedSimpArgs false
set_option maxRecDepth 10000
set_option maxHeartbeats 4000000

def s36 : List UInt8 := [48, 49, 50, 51, 52, 53, 54, 55, 56, 57, 97, 98, 99, 100, 101, 102, 103, 104, 105, 106, 107, 108, 109, 110, 111, 112, 113, 114, 115, 116, 117, 118, 119, 120, 121, 122]
def smallS (z : Int) : List UInt8 := if z < 10 then [48 + UInt8.ofNat z.toNat] else [48 + UInt8.ofNat (z.toNat / 10), 48 + UInt8.ofNat (z.toNat % 10)]
theorem small1 : ∀ k : Fin 10, List.take 1 (List.drop k.val s36) = [48 + UInt8.ofNat k.val] := by decide
theorem small2 : ∀ k : Fin 100, 10 ≤ k.val → List.take 2 (List.drop (k.val * 2) ([48, 48, 48, 49, 48, 50, 48, 51, 48, 52, 48, 53, 48, 54, 48, 55, 48, 56, 48, 57, 49, 48, 49, 49, 49, 50, 49, 51, 49, 52, 49, 53, 49, 54, 49, 55, 49, 56, 49, 57, 50, 48, 50, 49, 50, 50, 50, 51, 50, 52, 50, 53, 50, 54, 50, 55, 50, 56, 50, 57, 51, 48, 51, 49, 51, 50, 51, 51, 51, 52, 51, 53, 51, 54, 51, 55, 51, 56, 51, 57, 52, 48, 52, 49, 52, 50, 52, 51, 52, 52, 52, 53, 52, 54, 52, 55, 52, 56, 52, 57, 53, 48, 53, 49, 53, 50, 53, 51, 53, 52, 53, 53, 53, 54, 53, 55, 53, 56, 53, 57, 54, 48, 54, 49, 54, 50, 54, 51, 54, 52, 54, 53, 54, 54, 54, 55, 54, 56, 54, 57, 55, 48, 55, 49, 55, 50, 55, 51, 55, 52, 55, 53, 55, 54, 55, 55, 55, 56, 55, 57, 56, 48, 56, 49, 56, 50, 56, 51, 56, 52, 56, 53, 56, 54, 56, 55, 56, 56, 56, 57, 57, 48, 57, 49, 57, 50, 57, 51, 57, 52, 57, 53, 57, 54, 57, 55, 57, 56, 57, 57] : List UInt8)) = [48 + UInt8.ofNat (k.val / 10), 48 + UInt8.ofNat (k.val % 10)] := by decide +kernel
theorem walk59 (z : Int) (h0 : 0 ≤ z) (h1 : z < 100) : QC prog 59 [.i .i64 z] [] (.s (smallS z)) [] := by
  refine QC.of_body tabOK func59 rfl (by kernel_rfl) ?_
  simp only [f59]
  refine EV.seq ?_
  refine EV.regionG tabOK ?_ -- region 0
  simp -implicitDefEqProofs
  refine EV.seq ?_
  refine EV.seq ?_
  have hz0 : ¬ z < 0 := by omega
  have w1 : IntKind.i64.wrap (z + 1) = z + 1 := wrap_in _ (by omega) (by omega)
  have w2 : IntKind.i64.wrap (z * 2) = z * 2 := wrap_in _ (by omega) (by omega)
  have w3 : IntKind.i64.wrap (z * 2 + 2) = z * 2 + 2 := wrap_in _ (by omega) (by omega)
  refine EV.regionG tabOK ?_ -- region 1
  simp -implicitDefEqProofs
  refine EV.condT ?_
  simp -implicitDefEqProofs
  refine condT_intro (fun h1 => ?_) (fun h1 => ?_)
  · try simp at h1
    refine EV.seq ?_
    have hlt : z < 10 := by first | assumption | omega
    have b0 : z ≤ max (z + 1) 0 := by omega
    have b1 : 0 ≤ z + 1 := by omega
    have b2 : z + 1 ≤ 36 := by omega
    have b3 : z ≤ z + 1 := by omega
    have b4 : (z + 1).toNat - z.toNat = 1 := by omega
    refine EV.regionG tabOK ?_ -- region 2
    simp -implicitDefEqProofs [h0, w1, b0, b1, b2, b3, b4]
    refine EV.ret ?_
    simp only [thenK_ret, blockK_ret, scopeK_ret, bodyK_ret]
    refine Fin.pure0 ?_
    simp
    first
      | (have := small1 ⟨z.toNat, by omega⟩; simp only [s36] at this; simp only [smallS, if_pos (show z < 10 by omega)]; exact this)
      | (have := small2 ⟨z.toNat, by omega⟩ (by simp; omega); simp only at this; simp only [smallS, if_neg (show ¬ z < 10 by omega), show (z * 2).toNat = z.toNat * 2 by omega]; exact this)
  · try simp at h1
    refine EV.skip ?_
    simp only [thenK_normal, blockK_normal, scopeK_normal]
    refine EV.seq ?_
    have hge : ¬ z < 10 := by omega
    have b0 : z * 2 ≤ max (z * 2 + 2) 0 := by omega
    have b1 : 0 ≤ z * 2 + 2 := by omega
    have b2 : z * 2 + 2 ≤ 200 := by omega
    have b3 : 0 ≤ z * 2 := by omega
    have b5 : (z * 2 + 2).toNat - (z * 2).toNat = 2 := by omega
    refine EV.regionG tabOK ?_ -- region 3
    simp -implicitDefEqProofs [w2, w3, b0, b1, b2, b3, b5]
    refine EV.ret ?_
    simp only [thenK_ret, blockK_ret, scopeK_ret, bodyK_ret]
    refine Fin.pure0 ?_
    simp
    first
      | (have := small1 ⟨z.toNat, by omega⟩; simp only [s36] at this; simp only [smallS, if_pos (show z < 10 by omega)]; exact this)
      | (have := small2 ⟨z.toNat, by omega⟩ (by simp; omega); simp only at this; simp only [smallS, if_neg (show ¬ z < 10 by omega), show (z * 2).toNat = z.toNat * 2 by omega]; exact this)

theorem walk57 (z : Int) (h0 : 0 ≤ z) (h1 : z < 100) : QC prog 57 [.i .i64 z, .i .i64 10] [] (.s (smallS z)) [] := by
  refine QC.of_body tabOK func57 rfl (by kernel_rfl) ?_
  simp only [f57]
  refine EV.seq ?_
  refine EV.regionG tabOK ?_ -- region 0
  simp -implicitDefEqProofs
  refine EV.seq ?_
  refine EV.seq ?_
  refine EV.regionG tabOK ?_ -- region 1
  simp -implicitDefEqProofs
  refine EV.condT ?_
  simp -implicitDefEqProofs
  refine EV.seq ?_
  refine EV.seq ?_
  refine EV.regionG tabOK ?_ -- region 2
  simp -implicitDefEqProofs +contextual [h0, h1]
  refine EV.condT ?_
  simp -implicitDefEqProofs
  refine EV.seq ?_
  refine EV.regionG tabOK ?_ -- region 3
  simp -implicitDefEqProofs
  refine callG_fun (walk59 z h0 h1) ?_ ?_
  · simp
  simp -implicitDefEqProofs
  refine EV.ret ?_
  simp only [thenK_ret, blockK_ret, scopeK_ret, bodyK_ret]
  refine Fin.pure0 ?_
  simp

theorem walk54 (z : Int) (h0 : 0 ≤ z) (h1 : z < 100) : QC prog 54 [.i .i64 z] [] (.s (smallS z)) [] := by
  refine QC.of_body tabOK func54 rfl (by kernel_rfl) ?_
  simp only [f54]
  refine EV.seq ?_
  refine EV.regionG tabOK ?_ -- region 0
  simp -implicitDefEqProofs
  refine EV.seq ?_
  refine EV.regionG tabOK ?_ -- region 1
  simp -implicitDefEqProofs
  refine callG_fun (walk57 z h0 h1) ?_ ?_
  · simp
  simp -implicitDefEqProofs
  refine EV.ret ?_
  simp only [thenK_ret, blockK_ret, scopeK_ret, bodyK_ret]
  refine Fin.pure0 ?_
  simp

theorem walk44 (z : Int) (h0 : 0 ≤ z) (h1 : z < 100) : QC prog 44 [.i .i64 z] [] (.s (smallS z)) [] := by
  refine QC.of_body tabOK func44 rfl (by kernel_rfl) ?_
  simp only [f44]
  refine EV.seq ?_
  refine EV.regionG tabOK ?_ -- region 0
  simp -implicitDefEqProofs
  refine EV.seq ?_
  refine EV.regionG tabOK ?_ -- region 1
  simp -implicitDefEqProofs
  refine callG_fun (walk54 z h0 h1) ?_ ?_
  · simp
  simp -implicitDefEqProofs
  refine EV.ret ?_
  simp only [thenK_ret, blockK_ret, scopeK_ret, bodyK_ret]
  refine Fin.pure0 ?_
  simp

end Go.Proofs.Tryd
end
section
namespace Go.Proofs.Tryd
open Go Go.AM
attribute [local simp] wpG_op wpG_nil contG_some wpG_guard guardG_v guardG_o guardG_tup gval pureOp stepG_if isPick pickG_pick pickB_b pickOK isCall step_move step_assign step_alloc step_box boxV_some step_load step_store step_binOp step_unOp step_fieldAddr faV step_indexAddr ixA_slc ixA_arr step_extract extV_tup step_nilCheck ncV_ptr ncV_rp ncV_fn ncV_mp step_build buildV step_buildSlice bsV step_index ixV_arr ixV_str step_append apB step_makeSlice msV_i step_makeFunc over step_len step_makeMap mmV step_mapUpdate step_insert muA_map muB_mp step_lookup lkA_map lkB_mp step_slice slcV_s slcV_sl slcV_ro cutB_some slObV_arr bound_none bound_some bndV_i lenB_str lenB_ro lenB_sl lenB_nil lenB_z ld_ptr ld_rp offV_ptr offV_rp idxV_ro idxV_sl unV_not unV_neg binV_int binV_str binV_eqlb binV_neqb intOp strOp St.put updL setOb St.ev toV St.lk cellsOf AM.valOf TK.agg stv fillV places TI.zero condT_true condT_false finS resL resSlot packV ren ren1 ren0 Value.cells builtinV appendV elemsOf keepT room_of wrap_in toIdx passed Function.comp_def take_len_map lenV touchOf hid tab1 tab2 tab3 tab4 tab5 tab6 tab7 tab8 tab9 tab10 tab11 tab12 tab13 tab14 tab15 tab16 tab17 tab18 tab19 tab20 tab21 tab22 tab23 tab24 tab25 tab26 tab28 tab29 tab30 tab31 tab32 tab33 tab34 tab35 tab36 tab37 tab38 tab39 tab40 tab41 tab42 tab43 tab44 tab45 tab46 tab48 tab49 tab50 tab51 tab52 tab53 tab54 tab55 tab56 tab57 tab58 tab59 tab60 tab61 tab62 tab63 tab64 tab65 tab67 tab68 tab69 tab70 tab71 tab72 tab73 tab74 tab75 tab76 tab77 tab78 tab79 tab80 tab81 tab82 tab83 tab84 tab85 tab86 tab89 tab90 tab91 tab92 tab93 tab94 tab95 tab96 tab98 tab99 tab100 tab101 tab102 tab103 tab104 tab105 tab106 tab107 tab108 tab109 tab113 tab114 tab115 tab116 tab117 tab118 tab119 tab120 ren_arr ren_gone ren_unborn ren_var ren_row byteV
set_option linter.unusedSimpArgs false
set_option maxRecDepth 10000
set_option maxHeartbeats 4000000

def lenS (l : List (List UInt8)) : Nat := (l.map List.length).sum
def joinN (x : List UInt8) (ys : List (List UInt8)) (i : Nat) : List UInt8 := x ++ ((ys.take i).map fun y => 32 :: y).flatten
def joinS : List (List UInt8) → List UInt8
  | [] => []
  | x :: ys => x ++ (ys.map fun y => 32 :: y).flatten
theorem flat_len (ys : List (List UInt8)) : ((ys.map fun y => (32 : UInt8) :: y).flatten).length = ys.length + lenS ys := by
  induction ys with
  | nil => rfl
  | cons y ys ih => simp only [List.map_cons, List.flatten_cons, List.length_append, List.length_cons, ih, lenS, List.sum_cons]; omega
theorem joinS_len (x : List UInt8) (ys : List (List UInt8)) : (joinS (x :: ys)).length = ys.length + lenS (x :: ys) := by
  simp only [joinS, List.length_append, flat_len, lenS, List.map_cons, List.sum_cons]; omega
theorem lenS_app (a b : List (List UInt8)) : lenS (a ++ b) = lenS a + lenS b := by
  induction a with
  | nil => simp [lenS]
  | cons x a ih => simp only [lenS, List.cons_append, List.map_cons, List.sum_cons] at ih ⊢; omega
theorem lenS_next {l : List (List UInt8)} {i : Nat} (h : i < l.length) : lenS (l.take (i + 1)) = lenS (l.take i) + l[i].length := by
  rw [← List.take_append_getElem h, lenS_app]; rfl
theorem lenS_le (l : List (List UInt8)) (i : Nat) : lenS (l.take i) ≤ lenS l := by
  have h := lenS_app (l.take i) (l.drop i)
  rw [List.take_append_drop] at h
  omega
theorem joinN_next (x : List UInt8) {ys : List (List UInt8)} {i : Nat} (h : i < ys.length) : joinN x ys (i + 1) = joinN x ys i ++ [32] ++ ys[i] := by
  unfold joinN
  rw [← List.take_append_getElem h, List.map_append, List.flatten_append]
  simp only [List.map_cons, List.map_nil, List.flatten_cons, List.flatten_nil, List.append_nil, List.append_assoc, List.cons_append, List.nil_append]
theorem joinN_le (x : List UInt8) (ys : List (List UInt8)) (i : Nat) : (joinN x ys i).length ≤ (joinS (x :: ys)).length := by
  have h1 := lenS_le ys i
  simp only [joinN, joinS, List.length_append, flat_len, List.length_take]
  omega
theorem quo_big {k : Nat} (h : 1 ≤ k) (hk : (k : Int) ≤ 1000000000) : ¬ (IntKind.i64.wrap (Int.tdiv 9223372036854775807 (k : Int)) ≤ 1) := by
  have h1 : Int.tdiv 9223372036854775807 (k : Int) = 9223372036854775807 / (k : Int) := Int.tdiv_eq_ediv_of_nonneg (by decide)
  have h2 : (2 : Int) ≤ 9223372036854775807 / (k : Int) := (Int.le_ediv_iff_mul_le (by omega)).2 (by omega)
  have h3 : (9223372036854775807 : Int) / (k : Int) ≤ 9223372036854775807 := Int.ediv_le_self _ (by decide)
  rw [h1, wrap_in _ (by omega) h3]
  omega
theorem room1 {k : Nat} (h : k ≤ 1000000000) : roomFor k 1 := ⟨by omega, by omega⟩
theorem walk45 (ep : Nat) (xs : List (List UInt8)) (hl : (joinS xs).length ≤ 1000000000) (hx1 : xs.length ≤ 1000000000) : QC prog 45 [.sl 0 ep 0 xs.length, .s [32]] [.arr ep 1 (xs.map fun x => [V.s x])] (.s (joinS xs)) [.arr ep 1 (xs.map fun x => [V.s x])] := by
  refine QC.of_body tabOK func45 rfl (by kernel_rfl) ?_
  simp only [f45]
  refine EV.seq ?_
  refine EV.regionG tabOK ?_ -- region 0
  simp -implicitDefEqProofs
  refine EV.seq ?_
  refine EV.seq ?_
  refine EV.regionG tabOK ?_ -- region 1
  simp -implicitDefEqProofs
  refine EV.block ?_
  refine EV.seq ?_
  refine EV.regionG tabOK ?_ -- region 2
  simp -implicitDefEqProofs
  refine EV.condT ?_
  simp -implicitDefEqProofs
  refine condT_intro (fun h1 => ?_) (fun h1 => ?_)
  · try simp at h1
    refine EV.seq ?_
    have hx0 : xs = [] := by simpa using h1
    subst hx0
    refine EV.regionG tabOK ?_ -- region 3
    simp -implicitDefEqProofs
    refine EV.ret ?_
    simp only [thenK_ret, blockK_ret, scopeK_ret, bodyK_ret]
    refine Fin.plain ?_ ?_
    · simp [joinS, *]
    · simp [List.range_succ]
  · try simp at h1
    refine EV.seq ?_
    refine EV.regionG tabOK ?_ -- region 4
    simp -implicitDefEqProofs
    refine EV.condT ?_
    simp -implicitDefEqProofs
    refine condT_intro (fun h2 => ?_) (fun h2 => ?_)
    · try simp at h2
      refine EV.seq ?_
      obtain ⟨x, rfl⟩ : ∃ x, xs = [x] := List.length_eq_one_iff.1 (by first | exact h2 | omega)
      refine EV.regionG tabOK ?_ -- region 5
      simp -implicitDefEqProofs
      refine EV.ret ?_
      simp only [thenK_ret, blockK_ret, scopeK_ret, bodyK_ret]
      refine Fin.plain ?_ ?_
      · simp [joinS, *]
      · simp [List.range_succ]
    · try simp at h2
      refine EV.skip ?_
      simp only [thenK_normal, blockK_normal, scopeK_normal]
      refine EV.seq ?_
      obtain ⟨x, ys, hxs, hyp⟩ : ∃ x ys, xs = x :: ys ∧ 1 ≤ ys.length := by
        match xs, h1, h2 with
        | [], h1, _ => simp at h1
        | [x], _, h2 => simp at h2
        | x :: y :: r, _, _ => exact ⟨x, y :: r, rfl, by simp⟩
      have hyn : ys ≠ [] := by intro h; rw [h] at hyp; simp at hyp
      have hlS := joinS_len x ys
      rw [← hxs] at hlS
      have hxl : xs.length = ys.length + 1 := by rw [hxs]; rfl
      have hn1 : xs.length - 1 = ys.length := by omega
      have hge1 : 1 ≤ xs.length := by omega
      have hge2 : (1 : Int) ≤ xs.length := by omega
      have hge0 : 0 < xs.length := by omega
      have hgeI : (0 : Int) < xs.length := by omega
      have hx0 : xs[0] = x := by simp [hxs]
      have hyl : (ys.length : Int) ≤ 1000000000 := by omega
      have wx : IntKind.i64.wrap ((xs.length : Int) - 1) = (ys.length : Int) := by rw [wrap_in _ (by omega) (by omega)]; omega
      have wy : IntKind.i64.wrap (ys.length : Int) = ys.length := wrap_in _ (by omega) (by omega)
      refine EV.regionG tabOK ?_ -- region 6
      simp -implicitDefEqProofs
      refine EV.seq ?_
      refine EV.seq ?_
      refine EV.regionG tabOK ?_ -- region 7
      simp -implicitDefEqProofs
      refine EV.condT ?_
      simp -implicitDefEqProofs
      refine EV.seq ?_
      refine EV.seq ?_
      have hq : ¬ (IntKind.i64.wrap (Int.tdiv 9223372036854775807 (ys.length : Int)) ≤ 1) := quo_big hyp (by omega)
      refine EV.regionG tabOK ?_ -- region 8
      simp -implicitDefEqProofs [wx, wy, hyn, hq]
      refine EV.condT ?_
      simp -implicitDefEqProofs
      refine EV.skip ?_
      simp only [thenK_normal, blockK_normal, scopeK_normal]
      refine EV.regionG tabOK ?_ -- region 10
      simp -implicitDefEqProofs [wx, wy]
      refine EV.seq ?_
      refine EV.seq ?_
      refine EV.regionG tabOK ?_ -- region 11
      simp -implicitDefEqProofs
      refine EV.block ?_
      refine EV.loopB ((fun i => ⟨[.sl 0 ep 0 xs.length, .s [32], .junk, .junk, .junk, .i .i64 ((ys.length + lenS (xs.take i.1) : Nat) : Int), .junk, .junk, .junk, .junk, .junk, .junk, .junk, .junk, .junk, .junk, .junk, .junk, .junk, .junk, .junk, .junk, .junk, .junk, .junk, .junk, .junk, .junk, .junk, .junk, .junk, .junk, .junk, .junk, .junk, .junk, .junk, .junk, .junk, .sl 0 ep 0 xs.length, n xs.length, n i.1, .junk, .junk, .junk, .junk, .junk, .junk, .junk, .junk, .junk, .junk, .junk, .junk, .junk, .junk, .junk, .junk, .junk, .junk, .junk, .junk, .junk, .junk, .junk, .junk, .junk, .junk, .junk, .junk, .junk, .junk, .junk, .junk, .junk], [.arr ep 1 (xs.map fun x => [V.s x])]⟩ : { i : Nat // i ≤ xs.length } → St)) (fun i => xs.length - i.1) (⟨0, by simp⟩) ?_ ?_
      · skip
        simp
        refine Sub.cutE 1 [true, true, false, false, false, true, false, false, false, false, false, false, false, false, false, false, false, false, false, false, false, false, false, false, false, false, false, false, false, false, false, false, false, false, false, false, false, false, false, true, true, true, false, false, false, false, false, false, false, false, false, false, false, false, false, false, false, false, false, false, false, false, false, false, false, false, false, false, false, false, false, false, false, false, false] (by simp) ?_ ?_ <;> simp [List.range_succ, toIdx_range, passed, keepT, lenS, *]
      · skip
        rintro ⟨i, hi⟩
        simp only
        refine EV.seq ?_
        refine EV.regionG tabOK ?_ -- region 12
        simp -implicitDefEqProofs
        refine EV.seq ?_
        refine EV.condT ?_
        simp -implicitDefEqProofs
        refine condT_intro (fun h3 => ?_) (fun h3 => ?_)
        · try simp at h3
          refine EV.skip ?_
          simp only [thenK_normal, blockK_normal, scopeK_normal]
          refine EV.seq ?_
          refine EV.block ?_
          refine EV.seq ?_
          have hi2 : i < xs.length := by first | assumption | omega
          have hi3 : (i : Int) < (xs.length : Int) := by omega
          have hsum := lenS_next (l := xs) (i := i) hi2
          have hle := lenS_le xs (i + 1)
          have wn : IntKind.i64.wrap (9223372036854775807 - ((ys.length : Int) + (lenS (xs.take i) : Int))) = 9223372036854775807 - ((ys.length : Int) + (lenS (xs.take i) : Int)) := wrap_in _ (by omega) (by omega)
          have hg : ¬ (9223372036854775807 - ((ys.length : Int) + (lenS (xs.take i) : Int)) < ((xs[i]).length : Int)) := by omega
          have wa : IntKind.i64.wrap ((ys.length : Int) + (lenS (xs.take i) : Int) + ((xs[i]).length : Int)) = (ys.length : Int) + (lenS (xs.take i) : Int) + ((xs[i]).length : Int) := wrap_in _ (by omega) (by omega)
          refine EV.regionG tabOK ?_ -- region 13
          simp -implicitDefEqProofs [hi2, hi3]
          refine EV.seq ?_
          refine EV.seq ?_
          refine EV.regionG tabOK ?_ -- region 14
          simp -implicitDefEqProofs [wn, hg]
          refine EV.condT ?_
          simp -implicitDefEqProofs
          refine EV.skip ?_
          simp only [thenK_normal, blockK_normal, scopeK_normal]
          refine EV.regionG tabOK ?_ -- region 16
          simp -implicitDefEqProofs [wa]
          refine EV.regionG tabOK ?_ -- region 17
          simp -implicitDefEqProofs
          have hw : IntKind.i64.wrap ((i : Int) + 1) = (i : Int) + 1 := wrap_in _ (by omega) (by omega)
          refine ⟨⟨i + 1, by omega⟩, by simp; omega, ?_⟩
          refine Sub.cutE 1 [true, true, false, false, false, true, false, false, false, false, false, false, false, false, false, false, false, false, false, false, false, false, false, false, false, false, false, false, false, false, false, false, false, false, false, false, false, false, false, true, true, true, false, false, false, false, false, false, false, false, false, false, false, false, false, false, false, false, false, false, false, false, false, false, false, false, false, false, false, false, false, false, false, false, false] (by simp) ?_ ?_ <;> simp [List.range_succ, toIdx_range, passed, keepT, hsum, hw, Nat.add_assoc, Int.add_assoc]
        · try simp at h3
          refine EV.exit ?_
          simp -implicitDefEqProofs
          refine EV.seq ?_
          have hT : xs.take i = xs := List.take_of_length_le (by omega)
          have hxS : x.length ≤ lenS xs := by rw [hxs]; simp [lenS]
          refine EV.regionG tabOK ?_ -- region 18
          simp -implicitDefEqProofs
          refine EV.seq ?_
          refine EV.regionG tabOK ?_ -- region 19
          simp -implicitDefEqProofs
          refine callG_own [1] rfl (walk55 (ys.length + lenS xs) (by omega) (by omega)) ?_ ?_ ?_ ?_ ?_ ?_
          · simp [hT]
          · simp
          · simp
          · simp
          · simp
          simp -implicitDefEqProofs [keys, callUpd, List.range_succ, hT]
          refine EV.seq ?_
          have hr0 : roomFor (([] : List UInt8).length + x.length) 1 := room1 (by simp; omega)
          refine EV.regionG tabOK ?_ -- region 20
          simp -implicitDefEqProofs [hx0, hge0, hgeI]
          refine callG_own [1, 2] rfl (walk33r 0 [] x hr0) ?_ ?_ ?_ ?_ ?_ ?_
          · simp
          · simp
          · simp
          · simp
          · simp
          simp -implicitDefEqProofs [keys, callUpd, List.range_succ]
          refine EV.seq ?_
          refine EV.seq ?_
          refine EV.regionG tabOK ?_ -- region 21
          simp -implicitDefEqProofs [hn1, hge1, hge2]
          refine EV.block ?_
          refine EV.loopB ((fun y => ⟨[.sl 0 ep 0 xs.length, .s [32], .junk, .junk, .junk, .junk, .junk, .junk, .ptr 1 0 0 0, .junk, .junk, .junk, .junk, .junk, .junk, .junk, .junk, .junk, .junk, .junk, .junk, .junk, .junk, .junk, .junk, .junk, .junk, .junk, .junk, .junk, .junk, .junk, .junk, .junk, .junk, .junk, .junk, .junk, .junk, .junk, .junk, .junk, .junk, .junk, .junk, .junk, .junk, .junk, .junk, .junk, .junk, .junk, .junk, .junk, .junk, .junk, .junk, .junk, .junk, .junk, .junk, .junk, .junk, .sl 0 ep 1 ys.length, n ys.length, n y.1.1, .junk, .junk, .junk, .junk, .junk, .junk, .junk, .junk, .junk], [.arr ep 1 (xs.map fun x => [V.s x]), .var 63 [.ptr 1 0 0 0, .sl 2 y.1.2 0 (joinN x ys y.1.1).length], .row 5 y.1.2 ((joinN x ys y.1.1).map fun b => [V.i .u8 (b.toNat : Int)])]⟩ : { y : Nat × Nat // y.1 ≤ ys.length } → St)) (fun y => ys.length - y.1.1) (⟨(0, 1), by simp⟩) ?_ ?_
          · skip
            simp
            refine Sub.cutE 3 [true, true, false, false, false, false, false, false, true, false, false, false, false, false, false, false, false, false, false, false, false, false, false, false, false, false, false, false, false, false, false, false, false, false, false, false, false, false, false, false, false, false, false, false, false, false, false, false, false, false, false, false, false, false, false, false, false, false, false, false, false, false, false, true, true, true, false, false, false, false, false, false, false, false, false] (by simp) ?_ ?_ <;> simp [List.range_succ, toIdx_range, passed, keepT, joinN, *]
          · skip
            rintro ⟨⟨i, ebo⟩, hi⟩
            simp only at hi ⊢
            refine EV.seq ?_
            refine EV.regionG tabOK ?_ -- region 22
            simp -implicitDefEqProofs
            refine EV.seq ?_
            refine EV.condT ?_
            simp -implicitDefEqProofs
            refine condT_intro (fun h4 => ?_) (fun h4 => ?_)
            · try simp at h4
              refine EV.skip ?_
              simp only [thenK_normal, blockK_normal, scopeK_normal]
              refine EV.seq ?_
              refine EV.block ?_
              refine EV.seq ?_
              have hi2 : i < ys.length := by first | assumption | omega
              have hnext := joinN_next x hi2
              have hle := joinN_le x ys (i + 1)
              rw [hnext, ← hxs] at hle
              have hix : 1 + i < xs.length := by omega
              have hget : xs[1 + i] = ys[i] := by simp [hxs, Nat.add_comm 1 i]
              simp only [List.length_append, List.length_cons, List.length_nil] at hle
              have hr1 : roomFor ((joinN x ys i).length + ([32] : List UInt8).length) 1 := room1 (by simp; omega)
              have hr2 : roomFor ((joinN x ys i ++ [32]).length + (ys[i]).length) 1 := room1 (by simp; omega)
              refine EV.regionG tabOK ?_ -- region 23
              simp -implicitDefEqProofs [hi2, hix, hget]
              refine EV.seq ?_
              refine EV.regionG tabOK ?_ -- region 24
              simp -implicitDefEqProofs
              refine callG_own [1, 2] rfl (walk33r ebo (joinN x ys i) [32] hr1) ?_ ?_ ?_ ?_ ?_ ?_
              · simp
              · simp
              · simp
              · simp
              · simp
              simp -implicitDefEqProofs [keys, callUpd, List.range_succ]
              refine EV.regionG tabOK ?_ -- region 25
              simp -implicitDefEqProofs
              refine callG_own [1, 2] rfl (walk33r (ebo + 1) (joinN x ys i ++ [32]) ys[i] hr2) ?_ ?_ ?_ ?_ ?_ ?_
              · simp
              · simp
              · simp
              · simp
              · simp
              simp -implicitDefEqProofs [keys, callUpd, List.range_succ]
              refine EV.regionG tabOK ?_ -- region 26
              simp -implicitDefEqProofs
              have hw : IntKind.i64.wrap ((i : Int) + 1) = (i : Int) + 1 := wrap_in _ (by omega) (by omega)
              refine ⟨⟨(i + 1, ebo + 1 + 1), by simp; omega⟩, by simp; omega, ?_⟩
              refine Sub.cutE 3 [true, true, false, false, false, false, false, false, true, false, false, false, false, false, false, false, false, false, false, false, false, false, false, false, false, false, false, false, false, false, false, false, false, false, false, false, false, false, false, false, false, false, false, false, false, false, false, false, false, false, false, false, false, false, false, false, false, false, false, false, false, false, false, true, true, true, false, false, false, false, false, false, false, false, false] (by simp) ?_ ?_ <;> simp [List.range_succ, toIdx_range, passed, keepT, hnext, hw, Nat.add_assoc] <;> omega
            · try simp at h4
              refine EV.exit ?_
              simp -implicitDefEqProofs
              refine EV.seq ?_
              have hT : joinN x ys i = joinS xs := by rw [hxs]; simp [joinN, joinS, List.take_of_length_le (show ys.length ≤ i by omega)]
              rw [hT]
              have hne : joinS xs ≠ [] := by intro h; rw [h] at hlS; simp at hlS; omega
              refine EV.regionG tabOK ?_ -- region 27
              simp -implicitDefEqProofs
              refine callG_own [1, 2] rfl (walk35r ebo (joinS xs) hne (.ptr 0 0 0 0)) ?_ ?_ ?_ ?_ ?_ ?_
              · simp
              · simp
              · simp
              · simp
              · simp
              simp -implicitDefEqProofs [keys, callUpd, List.range_succ]
              refine EV.ret ?_
              simp only [thenK_ret, blockK_ret, scopeK_ret, bodyK_ret]
              refine Fin.plain ?_ ?_
              · simp [joinS, *]
              · simp [List.range_succ]

end Go.Proofs.Tryd
end
section
namespace Go.Proofs.Tryd
open Go Go.AM
attribute [local simp] wpG_op wpG_nil contG_some wpG_guard guardG_v guardG_o guardG_tup gval pureOp stepG_if isPick pickG_pick pickB_b pickOK isCall step_move step_assign step_alloc step_box boxV_some step_load step_store step_binOp step_unOp step_fieldAddr faV step_indexAddr ixA_slc ixA_arr step_extract extV_tup step_nilCheck ncV_ptr ncV_rp ncV_fn ncV_mp step_build buildV step_buildSlice bsV step_index ixV_arr ixV_str step_append apB step_makeSlice msV_i step_makeFunc over step_len step_makeMap mmV step_mapUpdate step_insert muA_map muB_mp step_lookup lkA_map lkB_mp step_slice slcV_s slcV_sl slcV_ro cutB_some slObV_arr bound_none bound_some bndV_i lenB_str lenB_ro lenB_sl lenB_nil lenB_z ld_ptr ld_rp offV_ptr offV_rp idxV_ro idxV_sl unV_not unV_neg binV_int binV_str binV_eqlb binV_neqb intOp strOp St.put updL setOb St.ev toV St.lk cellsOf AM.valOf TK.agg stv fillV places TI.zero condT_true condT_false finS resL resSlot packV ren ren1 ren0 Value.cells builtinV appendV elemsOf keepT room_of wrap_in toIdx passed Function.comp_def take_len_map lenV touchOf hid tab1 tab2 tab3 tab4 tab5 tab6 tab7 tab8 tab9 tab10 tab11 tab12 tab13 tab14 tab15 tab16 tab17 tab18 tab19 tab20 tab21 tab22 tab23 tab24 tab25 tab26 tab28 tab29 tab30 tab31 tab32 tab33 tab34 tab35 tab36 tab37 tab38 tab39 tab40 tab41 tab42 tab43 tab44 tab45 tab46 tab48 tab49 tab50 tab51 tab52 tab53 tab54 tab55 tab56 tab57 tab58 tab59 tab60 tab61 tab62 tab63 tab64 tab65 tab67 tab68 tab69 tab70 tab71 tab72 tab73 tab74 tab75 tab76 tab77 tab78 tab79 tab80 tab81 tab82 tab83 tab84 tab85 tab86 tab89 tab90 tab91 tab92 tab93 tab94 tab95 tab96 tab98 tab99 tab100 tab101 tab102 tab103 tab104 tab105 tab106 tab107 tab108 tab109 tab113 tab114 tab115 tab116 tab117 tab118 tab119 tab120 ren_arr ren_gone ren_unborn ren_var ren_row
set_option linter.unusedSimpArgs false
set_option maxRecDepth 10000
set_option maxHeartbeats 4000000

theorem walk34 (it : Int → List UInt8) (ep : Nat) (l : List Int) (HI : ∀ z ∈ l, QC prog 44 [.i .i64 z] [] (.s (it z)) []) (hJ : (joinS (l.map it)).length ≤ 1000000000) (hl : l.length ≤ 1000001) : QC prog 34 [.sl 0 ep 0 l.length] [.arr ep 1 (l.map fun z => [n z])] (.s (joinS (l.map it))) [.arr ep 1 (l.map fun z => [n z])] := by
  refine QC.of_body tabOK func34 rfl (by kernel_rfl) ?_
  simp only [f34]
  refine EV.seq ?_
  refine EV.regionG tabOK ?_ -- region 0
  simp -implicitDefEqProofs
  refine EV.seq ?_
  refine EV.regionG tabOK ?_ -- region 1
  simp -implicitDefEqProofs
  refine EV.seq ?_
  refine EV.seq ?_
  refine EV.regionG tabOK ?_ -- region 2
  simp -implicitDefEqProofs
  refine EV.block ?_
  refine EV.loopB ((fun i => ⟨[.sl 0 ep 0 l.length, .junk, .junk, .sl 1 i.1 0 i.1, .junk, .junk, .sl 0 ep 0 l.length, n l.length, n i.1, .junk, .junk, .junk, .junk, .junk, .junk, .junk, .junk, .junk, .junk, .junk], [.arr ep 1 (l.map fun z => [n z]), .arr i.1 1 ((l.take i.1).map fun z => [V.s (it z)])]⟩ : { i : Nat // i ≤ l.length } → St)) (fun i => l.length - i.1) (⟨0, by simp⟩) ?_ ?_
  · skip
    refine Sub.trans (Sub.newNilE 0 3 1 (by decide) (by simp)) ?_
    simp
    refine Sub.cutE 2 [true, false, false, true, false, false, true, true, true, false, false, false, false, false, false, false, false, false, false, false] (by simp) ?_ ?_ <;> simp [List.range_succ, toIdx_range, passed, keepT, *]
  · skip
    rintro ⟨i, hi⟩
    simp only
    refine EV.seq ?_
    refine EV.regionG tabOK ?_ -- region 3
    simp -implicitDefEqProofs
    refine EV.seq ?_
    refine EV.condT ?_
    simp -implicitDefEqProofs
    refine condT_intro (fun h1 => ?_) (fun h1 => ?_)
    · try simp at h1
      refine EV.skip ?_
      simp only [thenK_normal, blockK_normal, scopeK_normal]
      refine EV.seq ?_
      refine EV.block ?_
      refine EV.seq ?_
      have hi3 : (i : Int) < (l.length : Int) := by omega
      refine EV.regionG tabOK ?_ -- region 4
      simp -implicitDefEqProofs [h1, hi3]
      have hr : roomFor (i + 1) 16 := ⟨by omega, by omega⟩
      have hmin : min i l.length = i := by omega
      refine EV.regionG tabOK ?_ -- region 5
      simp -implicitDefEqProofs
      refine callG_fun (HI l[i] (List.getElem_mem h1)) ?_ ?_
      · simp
      simp -implicitDefEqProofs [hr, hmin]
      refine EV.regionG tabOK ?_ -- region 6
      simp -implicitDefEqProofs
      have hw : IntKind.i64.wrap ((i : Int) + 1) = (i : Int) + 1 := wrap_in _ (by omega) (by omega)
      have hTM : List.take i (List.map (fun z => [V.s (it z)]) l) ++ [[V.s (it l[i])]] = List.take (i + 1) (List.map (fun z => [V.s (it z)]) l) := by
        have h5 : i < (List.map (fun z => [V.s (it z)]) l).length := by simpa using h1
        rw [← List.take_append_getElem h5]; simp
      refine ⟨⟨i + 1, by omega⟩, by simp; omega, ?_⟩
      refine Sub.cutE 2 [true, false, false, true, false, false, true, true, true, false, false, false, false, false, false, false, false, false, false, false] (by simp) ?_ ?_ <;> simp [List.range_succ, toIdx_range, passed, keepT, hw, List.take_take, hTM]
    · try simp at h1
      refine EV.exit ?_
      simp -implicitDefEqProofs
      refine EV.seq ?_
      have hiL : i = l.length := by omega
      have hT : l.take i = l := List.take_of_length_le (by omega)
      refine EV.regionG tabOK ?_ -- region 7
      simp -implicitDefEqProofs
      refine callG_own [1] rfl (walk45 l.length (l.map it) hJ (by simp; omega)) ?_ ?_ ?_ ?_ ?_ ?_
      · simp [hiL, hT]
      · simp [hiL, hT]
      · simp
      · simp
      · simp
      simp -implicitDefEqProofs [keys, callUpd, List.range_succ]
      refine EV.ret ?_
      simp only [thenK_ret, blockK_ret, scopeK_ret, bodyK_ret]
      refine Fin.plain ?_ ?_
      · simp
      · simp [List.range_succ]

end Go.Proofs.Tryd
end
section
namespace Go.Proofs.Tryd
open Go Go.AM
attribute [local simp] wpG_op wpG_nil contG_some wpG_guard guardG_v guardG_o guardG_tup gval pureOp stepG_if isPick pickG_pick pickB_b pickOK isCall step_move step_assign step_alloc step_box boxV_some step_load step_store step_binOp step_unOp step_fieldAddr faV step_indexAddr ixA_slc ixA_arr step_extract extV_tup step_nilCheck ncV_ptr ncV_rp ncV_fn ncV_mp step_build buildV step_buildSlice bsV step_index ixV_arr ixV_str step_append apB step_makeSlice msV_i step_makeFunc over step_len step_makeMap mmV step_mapUpdate step_insert muA_map muB_mp step_lookup lkA_map lkB_mp step_slice slcV_s slcV_sl slcV_ro cutB_some slObV_arr bound_none bound_some bndV_i lenB_str lenB_ro lenB_sl lenB_nil lenB_z ld_ptr ld_rp offV_ptr offV_rp idxV_ro idxV_sl unV_not unV_neg binV_int binV_str binV_eqlb binV_neqb intOp strOp St.put updL setOb St.ev toV St.lk cellsOf AM.valOf TK.agg stv fillV places TI.zero condT_true condT_false finS resL resSlot packV ren ren1 ren0 Value.cells builtinV appendV elemsOf keepT room_of wrap_in toIdx passed Function.comp_def take_len_map lenV touchOf hid tab1 tab2 tab3 tab4 tab5 tab6 tab7 tab8 tab9 tab10 tab11 tab12 tab13 tab14 tab15 tab16 tab17 tab18 tab19 tab20 tab21 tab22 tab23 tab24 tab25 tab26 tab28 tab29 tab30 tab31 tab32 tab33 tab34 tab35 tab36 tab37 tab38 tab39 tab40 tab41 tab42 tab43 tab44 tab45 tab46 tab48 tab49 tab50 tab51 tab52 tab53 tab54 tab55 tab56 tab57 tab58 tab59 tab60 tab61 tab62 tab63 tab64 tab65 tab67 tab68 tab69 tab70 tab71 tab72 tab73 tab74 tab75 tab76 tab77 tab78 tab79 tab80 tab81 tab82 tab83 tab84 tab85 tab86 tab89 tab90 tab91 tab92 tab93 tab94 tab95 tab96 tab98 tab99 tab100 tab101 tab102 tab103 tab104 tab105 tab106 tab107 tab108 tab109 tab113 tab114 tab115 tab116 tab117 tab118 tab119 tab120 ren_arr ren_gone ren_unborn ren_var ren_row byteV
set_option linter.unusedSimpArgs false
set_option maxRecDepth 10000
set_option maxHeartbeats 4000000

theorem Sub.selE {k : Nat} {σ : St} {t' : List V} {h' : List Ob} (sel : List Nat) (bs : List Bool) (hn : sel.Nodup) (hk : ∀ i, i < k → sel[i]? = some i) (ht : (keepT bs σ.t).map (ren1 (toIdx sel)) = t') (hh : passed σ.h sel = h') : Sub k σ ⟨t', h'⟩ := by
  subst ht; subst hh
  refine Sub.trans (Sub.junk (t' := keepT bs σ.t) (keepT_length _ _) (keepT_get _ _)) ?_
  refine Sub.sel (σ := ⟨keepT bs σ.t, σ.h⟩) hn hk (by simp) ?_
  intro j x y hx hy
  rw [List.getElem?_map] at hy
  rw [show (keepT bs σ.t)[j]? = some x from hx] at hy
  exact .inr (.inl (.inl (Option.some.inj hy).symm))
def bO (u : Bool) (ep : Nat) (B : List UInt8) : List Ob := if u = true then [.var 63 [.ptr 1 0 0 0, .sl 2 ep 0 B.length], .row 5 ep (B.map fun b => [V.i .u8 (b.toNat : Int)])] else [.var 63 [.c (.pointer none), .c (.slice none 0 0)]]
theorem bO_t {ep : Nat} {B : List UInt8} : bO true ep B = [.var 63 [.ptr 1 0 0 0, .sl 2 ep 0 B.length], .row 5 ep (B.map fun b => [V.i .u8 (b.toNat : Int)])] := rfl
theorem bO_f {ep : Nat} {B : List UInt8} : bO false ep B = [.var 63 [.c (.pointer none), .c (.slice none 0 0)]] := rfl
attribute [local simp] bO_t bO_f
section
variable (it : Int → List UInt8)
def coT (c : CoD) : List UInt8 := 99 :: 111 :: 32 :: (joinS ([c.res, c.can, c.words, c.args].map it) ++ [10])
def rowI (x : InsD) : List Int := [x.op, x.a, x.b, x.c] ++ x.l
def insT1 (x : InsD) : List UInt8 := joinS ((rowI x).map it) ++ [10]
def insT (f : List InsD) : List UInt8 := (f.map (insT1 it)).flatten
def funT (f : List InsD) : List UInt8 := [102, 117, 110, 10] ++ insT it f
def cosT (cos : List CoD) : List UInt8 := (cos.map (coT it)).flatten
def funsT (funs : List (List InsD)) : List UInt8 := (funs.map (funT it)).flatten
def progT (funs : List (List InsD)) (cos : List CoD) : List UInt8 := cosT it cos ++ funsT it funs
theorem flat_next {α : Type} (g : α → List UInt8) {l : List α} {i : Nat} (h : i < l.length) : ((l.take (i + 1)).map g).flatten = ((l.take i).map g).flatten ++ g l[i] := by
  rw [← List.take_append_getElem h, List.map_append, List.flatten_append]; simp only [List.map_cons, List.map_nil, List.flatten_cons, List.flatten_nil, List.append_nil]
theorem flat_le {α : Type} (g : α → List UInt8) (l : List α) (i : Nat) : ((l.take i).map g).flatten.length ≤ (l.map g).flatten.length := by
  have h : (l.map g).flatten = ((l.take i).map g).flatten ++ ((l.drop i).map g).flatten := by
    rw [← List.flatten_append, ← List.map_append, List.take_append_drop]
  rw [h, List.length_append]; omega
theorem cosT_next {l : List CoD} {i : Nat} (h : i < l.length) : cosT it (l.take (i + 1)) = cosT it (l.take i) ++ coT it l[i] := flat_next _ h
theorem insT_next {l : List InsD} {i : Nat} (h : i < l.length) : insT it (l.take (i + 1)) = insT it (l.take i) ++ insT1 it l[i] := flat_next _ h
theorem funsT_next {l : List (List InsD)} {i : Nat} (h : i < l.length) : funsT it (l.take (i + 1)) = funsT it (l.take i) ++ funT it l[i] := flat_next _ h
theorem insT_le (f : List InsD) (i : Nat) : (insT it (f.take i)).length ≤ (insT it f).length := flat_le _ _ _
theorem cosT_le (cos : List CoD) (funs : List (List InsD)) (i : Nat) : (cosT it (cos.take i)).length ≤ (progT it funs cos).length := by
  have := flat_le (coT it) cos i
  unfold progT; rw [List.length_append]; exact Nat.le_trans this (Nat.le_add_right _ _)
theorem funsT_le (cos : List CoD) (funs : List (List InsD)) (i : Nat) : (cosT it cos).length + (funsT it (funs.take i)).length ≤ (progT it funs cos).length := by
  have := flat_le (funT it) funs i
  unfold progT; rw [List.length_append]; exact Nat.add_le_add_left this _
end
theorem walk23 (it : Int → List UInt8) (funs : List (List InsD)) (cos : List CoD) (HI : ∀ z, ((∃ c ∈ cos, z = c.res ∨ z = c.can ∨ z = c.words ∨ z = c.args) ∨ ∃ f ∈ funs, ∃ x ∈ f, z ∈ rowI x) → QC prog 44 [.i .i64 z] [] (.s (it z)) []) (hP : (progT it funs cos).length ≤ 1000000000)
    (hF : funs.length ≤ 1000000) (hc : cos.length ≤ 1000000) (hfl : ∀ f ∈ funs, f.length ≤ 1000000) (hll : ∀ f ∈ funs, ∀ x ∈ f, x.l.length ≤ 999990) : QC prog 23 [.agg [.ro 1 (funs.map funC), .ro 5 (cos.map coV)]] [] (.s (progT it funs cos)) [] := by
  refine QC.of_body tabOK func23 rfl (by kernel_rfl) ?_
  simp only [f23]
  refine EV.seq ?_
  refine EV.regionG tabOK ?_ -- region 0
  simp -implicitDefEqProofs
  refine EV.seq ?_
  refine EV.regionG tabOK ?_ -- region 1
  simp -implicitDefEqProofs
  refine EV.seqI ((fun y => ⟨[.junk, .ptr 0 0 0 0, .junk, .ptr 1 0 0 0, .junk, .junk, .junk, .junk, .junk, .junk, .junk, .junk, .junk, .junk, .junk, .junk, .junk, .junk, .junk, .junk, .junk, .junk, .junk, .junk, .junk, .junk, .junk, .junk, .junk, .junk, .junk, .junk, .junk, .junk, .junk, .junk, .junk, .junk, .junk, .junk, .junk, .junk, .junk, .junk, .junk, .junk, .junk, .junk, .junk, .junk, .junk, .junk, .junk, .junk, .junk, .junk, .junk, .junk, .junk, .junk, .junk, .junk, .junk], .arr 0 2 [[.ro 1 (funs.map funC), .ro 5 (cos.map coV)]] :: bO y.1.1 y.1.2 (cosT it cos)⟩ : { y : Bool × Nat // (y.1 = false → cosT it cos = []) ∧ (y.1 = true → cosT it cos ≠ []) } → St)) ?_ ?_
  · skip
    refine EV.seq ?_
    refine EV.regionG tabOK ?_ -- region 2
    simp -implicitDefEqProofs
    refine EV.block ?_
    refine EV.loopB ((fun y => ⟨[.junk, .ptr 0 0 0 0, .junk, .ptr 1 0 0 0, .junk, .junk, .junk, .junk, .junk, .junk, .junk, .ro 5 (cos.map coV), n cos.length, n y.1.2, .junk, .junk, .junk, .junk, .junk, .junk, .junk, .junk, .junk, .junk, .junk, .junk, .junk, .junk, .junk, .junk, .junk, .junk, .junk, .junk, .junk, .junk, .junk, .junk, .junk, .junk, .junk, .junk, .junk, .junk, .junk, .junk, .junk, .junk, .junk, .junk, .junk, .junk, .junk, .junk, .junk, .junk, .junk, .junk, .junk, .junk, .junk, .junk, .junk], .arr 0 2 [[.ro 1 (funs.map funC), .ro 5 (cos.map coV)]] :: bO y.1.1.1 y.1.1.2 (cosT it (cos.take y.1.2))⟩ : { y : (Bool × Nat) × Nat // y.2 ≤ cos.length ∧ (y.1.1 = false → cosT it (cos.take y.2) = []) ∧ (y.1.1 = true → cosT it (cos.take y.2) ≠ []) } → St)) (fun y => cos.length - y.1.2) (⟨((false, 0), 0), by simp, by simp [cosT], by simp⟩) ?_ ?_
    · skip
      simp
      refine Sub.selE [0, 1] [false, true, false, true, false, false, false, false, false, false, false, true, true, true, false, false, false, false, false, false, false, false, false, false, false, false, false, false, false, false, false, false, false, false, false, false, false, false, false, false, false, false, false, false, false, false, false, false, false, false, false, false, false, false, false, false, false, false, false, false, false, false, false] (by decide) (by simp) ?_ ?_ <;> simp [toIdx, passed, keepT, cosT, *]
    · skip
      rintro ⟨⟨⟨u, ep⟩, i⟩, hi, hf, ht⟩
      simp only at hi hf ht ⊢
      refine EV.seq ?_
      refine EV.regionG tabOK ?_ -- region 3
      simp -implicitDefEqProofs
      refine EV.seq ?_
      refine EV.condT ?_
      simp -implicitDefEqProofs
      refine condT_intro (fun h1 => ?_) (fun h1 => ?_)
      · try simp at h1
        refine EV.skip ?_
        simp only [thenK_normal, blockK_normal, scopeK_normal]
        refine EV.seq ?_
        refine EV.block ?_
        refine EV.seq ?_
        cases u
        · skip
          have hiC : i < cos.length := by first | assumption | omega
          refine EV.regionG tabOK ?_ -- region 4
          simp -implicitDefEqProofs [hiC, coV]
          have hIc : ∀ z ∈ [cos[i].res, cos[i].can, cos[i].words, cos[i].args], QC prog 44 [.i .i64 z] [] (.s (it z)) [] := fun z hz => HI z (Or.inl ⟨_, List.getElem_mem hiC, by simpa using hz⟩)
          have hle := cosT_le it cos funs (i + 1)
          rw [cosT_next it hiC] at hle
          simp only [List.length_append, coT, List.length_cons, List.length_nil] at hle
          have hJc : (joinS (([cos[i].res, cos[i].can, cos[i].words, cos[i].args]).map it)).length ≤ 1000000000 := by omega
          have hJc2 : (joinS [it cos[i].res, it cos[i].can, it cos[i].words, it cos[i].args]).length ≤ 1000000000 := hJc
          have hs1 : 3 + (joinS [it cos[i].res, it cos[i].can, it cos[i].words, it cos[i].args]).length ≤ 9223372036854775807 := by omega
          have hs2 : (joinS [it cos[i].res, it cos[i].can, it cos[i].words, it cos[i].args]).length + 4 ≤ 9223372036854775807 := by omega
          have hs3 : (joinS [it cos[i].res, it cos[i].can, it cos[i].words, it cos[i].args]).length + 3 + 1 ≤ 9223372036854775807 := by omega
          have hs4 : (joinS [it cos[i].res, it cos[i].can, it cos[i].words, it cos[i].args]).length + 1 + 1 + 1 + 1 ≤ 9223372036854775807 := by omega
          have hB := hf rfl
          have hr1 : roomFor (99 :: 111 :: 32 :: (joinS (([cos[i].res, cos[i].can, cos[i].words, cos[i].args]).map it) ++ [10])).length 1 := room1 (by simp only [List.length_cons, List.length_append, List.length_nil]; omega)
          refine EV.regionG tabOK ?_ -- region 5
          simp -implicitDefEqProofs [hs1, hs2, hs3, hs4, List.range_succ]
          refine callG_own [3] rfl (walk34 it 0 [cos[i].res, cos[i].can, cos[i].words, cos[i].args] hIc hJc (by simp)) ?_ ?_ ?_ ?_ ?_ ?_
          · simp
          · simp
          · simp
          · simp
          · simp
          simp -implicitDefEqProofs [keys, callUpd, List.range_succ, hs1, hs2, hs3, hs4]
          refine callG_own [1] rfl (walk33n (99 :: 111 :: 32 :: (joinS (([cos[i].res, cos[i].can, cos[i].words, cos[i].args]).map it) ++ [10])) hr1) ?_ ?_ ?_ ?_ ?_ ?_
          · simp
          · simp
          · simp
          · simp
          · simp
          simp -implicitDefEqProofs [keys, callUpd, List.range_succ]
          refine EV.regionG tabOK ?_ -- region 6
          simp -implicitDefEqProofs
          have hw : IntKind.i64.wrap ((i : Int) + 1) = (i : Int) + 1 := wrap_in _ (by omega) (by omega)
          have hnx := cosT_next it (l := cos) hiC
          refine ⟨⟨((true, 0), i + 1), by simp; omega, by simp, by intro _; simp only; rw [hnx]; simp [coT]⟩, by simp; omega, ?_⟩
          refine Sub.selE [0, 1, 4] [false, true, false, true, false, false, false, false, false, false, false, true, true, true, false, false, false, false, false, false, false, false, false, false, false, false, false, false, false, false, false, false, false, false, false, false, false, false, false, false, false, false, false, false, false, false, false, false, false, false, false, false, false, false, false, false, false, false, false, false, false, false, false] (by decide) (by simp) ?_ ?_ <;> simp [toIdx, passed, keepT, hnx, coT, hB, hw, *]
        · skip
          have hiC : i < cos.length := by first | assumption | omega
          refine EV.regionG tabOK ?_ -- region 4
          simp -implicitDefEqProofs [hiC, coV]
          have hIc : ∀ z ∈ [cos[i].res, cos[i].can, cos[i].words, cos[i].args], QC prog 44 [.i .i64 z] [] (.s (it z)) [] := fun z hz => HI z (Or.inl ⟨_, List.getElem_mem hiC, by simpa using hz⟩)
          have hle := cosT_le it cos funs (i + 1)
          rw [cosT_next it hiC] at hle
          simp only [List.length_append, coT, List.length_cons, List.length_nil] at hle
          have hJc : (joinS (([cos[i].res, cos[i].can, cos[i].words, cos[i].args]).map it)).length ≤ 1000000000 := by omega
          have hJc2 : (joinS [it cos[i].res, it cos[i].can, it cos[i].words, it cos[i].args]).length ≤ 1000000000 := hJc
          have hs1 : 3 + (joinS [it cos[i].res, it cos[i].can, it cos[i].words, it cos[i].args]).length ≤ 9223372036854775807 := by omega
          have hs2 : (joinS [it cos[i].res, it cos[i].can, it cos[i].words, it cos[i].args]).length + 4 ≤ 9223372036854775807 := by omega
          have hs3 : (joinS [it cos[i].res, it cos[i].can, it cos[i].words, it cos[i].args]).length + 3 + 1 ≤ 9223372036854775807 := by omega
          have hs4 : (joinS [it cos[i].res, it cos[i].can, it cos[i].words, it cos[i].args]).length + 1 + 1 + 1 + 1 ≤ 9223372036854775807 := by omega
          have hr1 : roomFor ((cosT it (cos.take i)).length + (99 :: 111 :: 32 :: (joinS (([cos[i].res, cos[i].can, cos[i].words, cos[i].args]).map it) ++ [10])).length) 1 := room1 (by simp only [List.length_cons, List.length_append, List.length_nil]; omega)
          refine EV.regionG tabOK ?_ -- region 5
          simp -implicitDefEqProofs [hs1, hs2, hs3, hs4, List.range_succ]
          refine callG_own [4] rfl (walk34 it 0 [cos[i].res, cos[i].can, cos[i].words, cos[i].args] hIc hJc (by simp)) ?_ ?_ ?_ ?_ ?_ ?_
          · simp
          · simp
          · simp
          · simp
          · simp
          simp -implicitDefEqProofs [keys, callUpd, List.range_succ, hs1, hs2, hs3, hs4]
          refine callG_own [1, 2] rfl (walk33r ep (cosT it (cos.take i)) (99 :: 111 :: 32 :: (joinS (([cos[i].res, cos[i].can, cos[i].words, cos[i].args]).map it) ++ [10])) hr1) ?_ ?_ ?_ ?_ ?_ ?_
          · simp
          · simp
          · simp
          · simp
          · simp
          simp -implicitDefEqProofs [keys, callUpd, List.range_succ]
          refine EV.regionG tabOK ?_ -- region 6
          simp -implicitDefEqProofs
          have hw : IntKind.i64.wrap ((i : Int) + 1) = (i : Int) + 1 := wrap_in _ (by omega) (by omega)
          have hnx := cosT_next it (l := cos) hiC
          refine ⟨⟨((true, ep + 1), i + 1), by simp; omega, by simp, by intro _; simp only; rw [hnx]; simp [coT]⟩, by simp; omega, ?_⟩
          refine Sub.selE [0, 1, 2] [false, true, false, true, false, false, false, false, false, false, false, true, true, true, false, false, false, false, false, false, false, false, false, false, false, false, false, false, false, false, false, false, false, false, false, false, false, false, false, false, false, false, false, false, false, false, false, false, false, false, false, false, false, false, false, false, false, false, false, false, false, false, false] (by decide) (by simp) ?_ ?_ <;> simp [toIdx, passed, keepT, hnx, coT, hw, *]
      · try simp at h1
        refine EV.exit ?_
        simp -implicitDefEqProofs
        have hT : cos.take i = cos := List.take_of_length_le (by omega)
        rw [hT] at hf ht ⊢
        refine ⟨⟨(u, ep), hf, ht⟩, ?_⟩
        cases u
        · refine Sub.selE [0, 1] [false, true, false, true, false, false, false, false, false, false, false, false, false, false, false, false, false, false, false, false, false, false, false, false, false, false, false, false, false, false, false, false, false, false, false, false, false, false, false, false, false, false, false, false, false, false, false, false, false, false, false, false, false, false, false, false, false, false, false, false, false, false, false] (by decide) (by simp) ?_ ?_ <;> simp [toIdx, passed, keepT, *]
        · refine Sub.selE [0, 1, 2] [false, true, false, true, false, false, false, false, false, false, false, false, false, false, false, false, false, false, false, false, false, false, false, false, false, false, false, false, false, false, false, false, false, false, false, false, false, false, false, false, false, false, false, false, false, false, false, false, false, false, false, false, false, false, false, false, false, false, false, false, false, false, false] (by decide) (by simp) ?_ ?_ <;> simp [toIdx, passed, keepT, *]
  · skip
    rintro ⟨⟨u, ep⟩, hf, ht⟩
    simp only at hf ht ⊢
    refine EV.seq ?_
    refine EV.seq ?_
    refine EV.regionG tabOK ?_ -- region 7
    simp -implicitDefEqProofs
    refine EV.block ?_
    refine EV.loopB ((fun y => ⟨[.junk, .junk, .junk, .ptr 1 0 0 0, .junk, .junk, .junk, .junk, .junk, .junk, .junk, .junk, .junk, .junk, .junk, .junk, .junk, .junk, .junk, .junk, .junk, .junk, .junk, .junk, .junk, .junk, .junk, .junk, .junk, .junk, .junk, .junk, .ro 1 (funs.map funC), n funs.length, n y.1.2, .junk, .junk, .junk, .junk, .junk, .junk, .junk, .junk, .junk, .junk, .junk, .junk, .junk, .junk, .junk, .junk, .junk, .junk, .junk, .junk, .junk, .junk, .junk, .junk, .junk, .junk, .junk, .junk], .arr 0 2 [[.ro 1 (funs.map funC), .ro 5 (cos.map coV)]] :: bO y.1.1.1 y.1.1.2 (cosT it cos ++ funsT it (funs.take y.1.2))⟩ : { y : (Bool × Nat) × Nat // y.2 ≤ funs.length ∧ (y.1.1 = false → cosT it cos ++ funsT it (funs.take y.2) = []) ∧ (y.1.1 = true → cosT it cos ++ funsT it (funs.take y.2) ≠ []) } → St)) (fun y => funs.length - y.1.2) (⟨((u, ep), 0), by simp, by intro h; simp [funsT, hf h], by intro h; have := ht h; simp [funsT, this]⟩) ?_ ?_
    · skip
      cases u <;> simp
      · refine Sub.selE [0, 1] [false, false, false, true, false, false, false, false, false, false, false, false, false, false, false, false, false, false, false, false, false, false, false, false, false, false, false, false, false, false, false, false, true, true, true, false, false, false, false, false, false, false, false, false, false, false, false, false, false, false, false, false, false, false, false, false, false, false, false, false, false, false, false] (by decide) (by simp) ?_ ?_ <;> simp [toIdx, passed, keepT, funsT, *]
      · refine Sub.selE [0, 1, 2] [false, false, false, true, false, false, false, false, false, false, false, false, false, false, false, false, false, false, false, false, false, false, false, false, false, false, false, false, false, false, false, false, true, true, true, false, false, false, false, false, false, false, false, false, false, false, false, false, false, false, false, false, false, false, false, false, false, false, false, false, false, false, false] (by decide) (by simp) ?_ ?_ <;> simp [toIdx, passed, keepT, funsT, *]
    · skip
      rintro ⟨⟨⟨u, ep⟩, i⟩, hi, hf, ht⟩
      simp only at hi hf ht ⊢
      refine EV.seq ?_
      refine EV.regionG tabOK ?_ -- region 8
      simp -implicitDefEqProofs
      refine EV.seq ?_
      refine EV.condT ?_
      simp -implicitDefEqProofs
      refine condT_intro (fun h2 => ?_) (fun h2 => ?_)
      · try simp at h2
        refine EV.skip ?_
        simp only [thenK_normal, blockK_normal, scopeK_normal]
        refine EV.seq ?_
        refine EV.block ?_
        refine EV.seq ?_
        have hiF : i < funs.length := by first | assumption | omega
        have hll2 := hll _ (List.getElem_mem hiF)
        have hfi := hfl _ (List.getElem_mem hiF)
        have hle := funsT_le it cos funs (i + 1)
        rw [funsT_next it hiF] at hle
        simp only [List.length_append, funT, List.length_cons, List.length_nil] at hle
        refine EV.regionG tabOK ?_ -- region 9
        simp -implicitDefEqProofs [hiF, funC]
        refine EV.seq ?_
        cases u
        · skip
          have hB := hf rfl
          obtain ⟨hB1, hB2⟩ := List.append_eq_nil_iff.1 hB
          have hr1 : roomFor ([102, 117, 110, 10] : List UInt8).length 1 := room1 (by simp)
          refine EV.regionG tabOK ?_ -- region 10
          simp -implicitDefEqProofs
          refine callG_own [1] rfl (walk33n [102, 117, 110, 10] hr1) ?_ ?_ ?_ ?_ ?_ ?_
          · simp
          · simp
          · simp
          · simp
          · simp
          simp -implicitDefEqProofs [keys, callUpd, List.range_succ]
          refine EV.seq ?_
          refine EV.regionG tabOK ?_ -- region 11
          simp -implicitDefEqProofs
          refine EV.block ?_
          refine EV.loopB ((fun z => ⟨[.junk, .junk, .junk, .ptr 1 0 0 0, .junk, .junk, .junk, .junk, .junk, .junk, .junk, .junk, .junk, .junk, .junk, .junk, .junk, .junk, .junk, .junk, .junk, .junk, .junk, .junk, .junk, .junk, .junk, .junk, .junk, .junk, .junk, .junk, .ro 1 (funs.map funC), n funs.length, n i, .junk, .junk, .junk, .junk, .ro 5 (funs[i].map insC), n funs[i].length, n z.1.2, .junk, .junk, .junk, .junk, .junk, .junk, .junk, .junk, .junk, .junk, .junk, .junk, .junk, .junk, .junk, .junk, .junk, .junk, .junk, .junk, .junk], .arr 0 2 [[.ro 1 (funs.map funC), .ro 5 (cos.map coV)]] :: bO true z.1.1 (cosT it cos ++ funsT it (funs.take i) ++ [102, 117, 110, 10] ++ insT it (funs[i].take z.1.2))⟩ : { z : Nat × Nat // z.2 ≤ funs[i].length } → St)) (fun z => funs[i].length - z.1.2) (⟨(0, 0), by simp⟩) ?_ ?_
          · skip
            simp
            refine Sub.selE [0, 1, 2] [false, false, false, true, false, false, false, false, false, false, false, false, false, false, false, false, false, false, false, false, false, false, false, false, false, false, false, false, false, false, false, false, true, true, true, false, false, false, false, true, true, true, false, false, false, false, false, false, false, false, false, false, false, false, false, false, false, false, false, false, false, false, false] (by decide) (by simp) ?_ ?_ <;> simp [toIdx, passed, keepT, insT, hB1, hB2, *] <;> omega
          · skip
            rintro ⟨⟨ep2, j⟩, hj⟩
            simp only at hj ⊢
            refine EV.seq ?_
            refine EV.regionG tabOK ?_ -- region 12
            simp -implicitDefEqProofs
            refine EV.seq ?_
            refine EV.condT ?_
            simp -implicitDefEqProofs
            refine condT_intro (fun h3 => ?_) (fun h3 => ?_)
            · try simp at h3
              refine EV.skip ?_
              simp only [thenK_normal, blockK_normal, scopeK_normal]
              refine EV.seq ?_
              refine EV.block ?_
              refine EV.seq ?_
              have hjF : j < (funs[i]).length := by first | assumption | omega
              have hlx := hll2 _ (List.getElem_mem hjF)
              have hle2 := insT_le it (funs[i]) (j + 1)
              rw [insT_next it hjF] at hle2
              simp only [List.length_append, insT1, List.length_cons, List.length_nil] at hle2
              refine EV.regionG tabOK ?_ -- region 13
              simp -implicitDefEqProofs [hjF, insC]
              have hIi : ∀ z ∈ rowI (funs[i])[j], QC prog 44 [.i .i64 z] [] (.s (it z)) [] := fun z hz => HI z (Or.inr ⟨_, List.getElem_mem hiF, _, List.getElem_mem hjF, hz⟩)
              have hJi : (joinS ((rowI (funs[i])[j]).map it)).length ≤ 1000000000 := by omega
              have hs1 : (joinS ((rowI (funs[i])[j]).map it)).length + 1 ≤ 9223372036854775807 := by omega
              have hroom : roomFor (4 + ((funs[i])[j]).l.length) 8 := ⟨by omega, by omega⟩
              have hr1 : roomFor ((cosT it cos ++ funsT it (funs.take i) ++ [102, 117, 110, 10] ++ insT it ((funs[i]).take j)).length + (joinS ((rowI (funs[i])[j]).map it) ++ [10]).length) 1 := room1 (by simp only [List.length_cons, List.length_append, List.length_nil]; omega)
              refine EV.regionG tabOK ?_ -- region 14
              simp -implicitDefEqProofs [hroom, List.range_succ]
              refine callG_own [4] rfl (walk34 it 1 (rowI (funs[i])[j]) hIi hJi (by simp [rowI]; omega)) ?_ ?_ ?_ ?_ ?_ ?_
              · (simp [rowI]; try omega)
              · (simp [rowI]; try omega)
              · simp
              · simp
              · simp
              simp -implicitDefEqProofs [keys, callUpd, List.range_succ, hs1]
              refine callG_own [1, 2] rfl (walk33r ep2 (cosT it cos ++ funsT it (funs.take i) ++ [102, 117, 110, 10] ++ insT it ((funs[i]).take j)) (joinS ((rowI (funs[i])[j]).map it) ++ [10]) hr1) ?_ ?_ ?_ ?_ ?_ ?_
              · simp
              · simp
              · simp
              · simp
              · simp
              simp -implicitDefEqProofs [keys, callUpd, List.range_succ]
              refine EV.regionG tabOK ?_ -- region 15
              simp -implicitDefEqProofs
              have hw : IntKind.i64.wrap ((j : Int) + 1) = (j : Int) + 1 := wrap_in _ (by omega) (by omega)
              have hnx := insT_next it hjF
              refine ⟨⟨(ep2 + 1, j + 1), by simp; omega⟩, by simp; omega, ?_⟩
              refine Sub.selE [0, 1, 2] [false, false, false, true, false, false, false, false, false, false, false, false, false, false, false, false, false, false, false, false, false, false, false, false, false, false, false, false, false, false, false, false, true, true, true, false, false, false, false, true, true, true, false, false, false, false, false, false, false, false, false, false, false, false, false, false, false, false, false, false, false, false, false] (by decide) (by simp) ?_ ?_ <;> simp [toIdx, passed, keepT, hnx, insT1, hw, List.append_assoc, *] <;> omega
            · try simp at h3
              refine EV.exit ?_
              simp -implicitDefEqProofs
              refine EV.regionG tabOK ?_ -- region 16
              simp -implicitDefEqProofs
              have hw : IntKind.i64.wrap ((i : Int) + 1) = (i : Int) + 1 := wrap_in _ (by omega) (by omega)
              have hT : (funs[i]).take j = funs[i] := List.take_of_length_le (by omega)
              have hnx := funsT_next it hiF
              refine ⟨⟨((true, ep2), i + 1), by simp; omega, by simp, by intro _; simp only; rw [hnx]; simp [funT]⟩, by simp; omega, ?_⟩
              refine Sub.selE [0, 1, 2] [false, false, false, true, false, false, false, false, false, false, false, false, false, false, false, false, false, false, false, false, false, false, false, false, false, false, false, false, false, false, false, false, true, true, true, false, false, false, false, false, false, false, false, false, false, false, false, false, false, false, false, false, false, false, false, false, false, false, false, false, false, false, false] (by decide) (by simp) ?_ ?_ <;> simp [toIdx, passed, keepT, hnx, hT, funT, hw, *]
        · skip
          have hr1 : roomFor ((cosT it cos ++ funsT it (funs.take i)).length + ([102, 117, 110, 10] : List UInt8).length) 1 := room1 (by simp only [List.length_cons, List.length_append, List.length_nil]; omega)
          refine EV.regionG tabOK ?_ -- region 10
          simp -implicitDefEqProofs
          refine callG_own [1, 2] rfl (walk33r ep (cosT it cos ++ funsT it (funs.take i)) [102, 117, 110, 10] hr1) ?_ ?_ ?_ ?_ ?_ ?_
          · simp
          · simp
          · simp
          · simp
          · simp
          simp -implicitDefEqProofs [keys, callUpd, List.range_succ]
          refine EV.seq ?_
          refine EV.regionG tabOK ?_ -- region 11
          simp -implicitDefEqProofs
          refine EV.block ?_
          refine EV.loopB ((fun z => ⟨[.junk, .junk, .junk, .ptr 1 0 0 0, .junk, .junk, .junk, .junk, .junk, .junk, .junk, .junk, .junk, .junk, .junk, .junk, .junk, .junk, .junk, .junk, .junk, .junk, .junk, .junk, .junk, .junk, .junk, .junk, .junk, .junk, .junk, .junk, .ro 1 (funs.map funC), n funs.length, n i, .junk, .junk, .junk, .junk, .ro 5 (funs[i].map insC), n funs[i].length, n z.1.2, .junk, .junk, .junk, .junk, .junk, .junk, .junk, .junk, .junk, .junk, .junk, .junk, .junk, .junk, .junk, .junk, .junk, .junk, .junk, .junk, .junk], .arr 0 2 [[.ro 1 (funs.map funC), .ro 5 (cos.map coV)]] :: bO true z.1.1 (cosT it cos ++ funsT it (funs.take i) ++ [102, 117, 110, 10] ++ insT it (funs[i].take z.1.2))⟩ : { z : Nat × Nat // z.2 ≤ funs[i].length } → St)) (fun z => funs[i].length - z.1.2) (⟨(ep + 1, 0), by simp⟩) ?_ ?_
          · skip
            simp
            refine Sub.selE [0, 1, 2] [false, false, false, true, false, false, false, false, false, false, false, false, false, false, false, false, false, false, false, false, false, false, false, false, false, false, false, false, false, false, false, false, true, true, true, false, false, false, false, true, true, true, false, false, false, false, false, false, false, false, false, false, false, false, false, false, false, false, false, false, false, false, false] (by decide) (by simp) ?_ ?_ <;> simp [toIdx, passed, keepT, insT, *] <;> omega
          · skip
            rintro ⟨⟨ep2, j⟩, hj⟩
            simp only at hj ⊢
            refine EV.seq ?_
            refine EV.regionG tabOK ?_ -- region 12
            simp -implicitDefEqProofs
            refine EV.seq ?_
            refine EV.condT ?_
            simp -implicitDefEqProofs
            refine condT_intro (fun h4 => ?_) (fun h4 => ?_)
            · try simp at h4
              refine EV.skip ?_
              simp only [thenK_normal, blockK_normal, scopeK_normal]
              refine EV.seq ?_
              refine EV.block ?_
              refine EV.seq ?_
              have hjF : j < (funs[i]).length := by first | assumption | omega
              have hlx := hll2 _ (List.getElem_mem hjF)
              have hle2 := insT_le it (funs[i]) (j + 1)
              rw [insT_next it hjF] at hle2
              simp only [List.length_append, insT1, List.length_cons, List.length_nil] at hle2
              refine EV.regionG tabOK ?_ -- region 13
              simp -implicitDefEqProofs [hjF, insC]
              have hIi : ∀ z ∈ rowI (funs[i])[j], QC prog 44 [.i .i64 z] [] (.s (it z)) [] := fun z hz => HI z (Or.inr ⟨_, List.getElem_mem hiF, _, List.getElem_mem hjF, hz⟩)
              have hJi : (joinS ((rowI (funs[i])[j]).map it)).length ≤ 1000000000 := by omega
              have hs1 : (joinS ((rowI (funs[i])[j]).map it)).length + 1 ≤ 9223372036854775807 := by omega
              have hroom : roomFor (4 + ((funs[i])[j]).l.length) 8 := ⟨by omega, by omega⟩
              have hr1 : roomFor ((cosT it cos ++ funsT it (funs.take i) ++ [102, 117, 110, 10] ++ insT it ((funs[i]).take j)).length + (joinS ((rowI (funs[i])[j]).map it) ++ [10]).length) 1 := room1 (by simp only [List.length_cons, List.length_append, List.length_nil]; omega)
              refine EV.regionG tabOK ?_ -- region 14
              simp -implicitDefEqProofs [hroom, List.range_succ]
              refine callG_own [4] rfl (walk34 it 1 (rowI (funs[i])[j]) hIi hJi (by simp [rowI]; omega)) ?_ ?_ ?_ ?_ ?_ ?_
              · (simp [rowI]; try omega)
              · (simp [rowI]; try omega)
              · simp
              · simp
              · simp
              simp -implicitDefEqProofs [keys, callUpd, List.range_succ, hs1]
              refine callG_own [1, 2] rfl (walk33r ep2 (cosT it cos ++ funsT it (funs.take i) ++ [102, 117, 110, 10] ++ insT it ((funs[i]).take j)) (joinS ((rowI (funs[i])[j]).map it) ++ [10]) hr1) ?_ ?_ ?_ ?_ ?_ ?_
              · simp
              · simp
              · simp
              · simp
              · simp
              simp -implicitDefEqProofs [keys, callUpd, List.range_succ]
              refine EV.regionG tabOK ?_ -- region 15
              simp -implicitDefEqProofs
              have hw : IntKind.i64.wrap ((j : Int) + 1) = (j : Int) + 1 := wrap_in _ (by omega) (by omega)
              have hnx := insT_next it hjF
              refine ⟨⟨(ep2 + 1, j + 1), by simp; omega⟩, by simp; omega, ?_⟩
              refine Sub.selE [0, 1, 2] [false, false, false, true, false, false, false, false, false, false, false, false, false, false, false, false, false, false, false, false, false, false, false, false, false, false, false, false, false, false, false, false, true, true, true, false, false, false, false, true, true, true, false, false, false, false, false, false, false, false, false, false, false, false, false, false, false, false, false, false, false, false, false] (by decide) (by simp) ?_ ?_ <;> simp [toIdx, passed, keepT, hnx, insT1, hw, List.append_assoc, *] <;> omega
            · try simp at h4
              refine EV.exit ?_
              simp -implicitDefEqProofs
              refine EV.regionG tabOK ?_ -- region 16
              simp -implicitDefEqProofs
              have hw : IntKind.i64.wrap ((i : Int) + 1) = (i : Int) + 1 := wrap_in _ (by omega) (by omega)
              have hT : (funs[i]).take j = funs[i] := List.take_of_length_le (by omega)
              have hnx := funsT_next it hiF
              refine ⟨⟨((true, ep2), i + 1), by simp; omega, by simp, by intro _; simp only; rw [hnx]; simp [funT]⟩, by simp; omega, ?_⟩
              refine Sub.selE [0, 1, 2] [false, false, false, true, false, false, false, false, false, false, false, false, false, false, false, false, false, false, false, false, false, false, false, false, false, false, false, false, false, false, false, false, true, true, true, false, false, false, false, false, false, false, false, false, false, false, false, false, false, false, false, false, false, false, false, false, false, false, false, false, false, false, false] (by decide) (by simp) ?_ ?_ <;> simp [toIdx, passed, keepT, hnx, hT, funT, hw, *]
      · try simp at h2
        refine EV.exit ?_
        simp -implicitDefEqProofs
        refine EV.seq ?_
        cases u
        · skip
          have hT : funs.take i = funs := List.take_of_length_le (by omega)
          rw [hT] at hf ht ⊢
          have hPT : cosT it cos ++ funsT it funs = progT it funs cos := rfl
          rw [hPT] at hf ht ⊢
          have hB := hf rfl
          refine EV.regionG tabOK ?_ -- region 17
          simp -implicitDefEqProofs
          refine callG_own [1] rfl (walk35n (.c (.pointer none))) ?_ ?_ ?_ ?_ ?_ ?_
          · simp
          · simp
          · simp
          · simp
          · simp
          simp -implicitDefEqProofs [keys, callUpd, List.range_succ]
          refine EV.ret ?_
          simp only [thenK_ret, blockK_ret, scopeK_ret, bodyK_ret]
          refine Fin.pure0 ?_
          simp [*]
        · skip
          have hT : funs.take i = funs := List.take_of_length_le (by omega)
          rw [hT] at hf ht ⊢
          have hPT : cosT it cos ++ funsT it funs = progT it funs cos := rfl
          rw [hPT] at hf ht ⊢
          have hne := ht rfl
          refine EV.regionG tabOK ?_ -- region 17
          simp -implicitDefEqProofs
          refine callG_own [1, 2] rfl (walk35r ep (progT it funs cos) hne (.ptr 0 0 0 0)) ?_ ?_ ?_ ?_ ?_ ?_
          · simp
          · simp
          · simp
          · simp
          · simp
          simp -implicitDefEqProofs [keys, callUpd, List.range_succ]
          refine EV.ret ?_
          simp only [thenK_ret, blockK_ret, scopeK_ret, bodyK_ret]
          refine Fin.pure0 ?_
          simp [*]

end Go.Proofs.Tryd
end
