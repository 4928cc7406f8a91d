/- Contracts of a builder's writing, of joining texts, and of a line; what the texts of a body are, in plain words. -/
import Derived.Lib.ItoaLen
import Derived.Test.YtakfpmogpnoibaaDoorRefA
import Derived.Test.YtakfpmogpnoibaaDoorBldA
import Derived.Test.YtakfpmogpnoibaaDoorMachD
import Derived.Test.YtakfpmogpnoibaaDoorNumA
set_option linter.unusedVariables false
set_option linter.unusedSimpArgs false
set_option linter.constructorNameAsVariable false
section
namespace Go.Proofs.Tryd
open Go Go.AM
attribute [local simp] wpG_op wpG_nil contG_some wpG_guard guardG_v guardG_o guardG_tup gval pureOp stepG_if isPick pickG_pick pickB_b pickOK isCall step_move step_assign step_alloc step_box boxV_some step_load step_store step_binOp step_unOp step_fieldAddr faV step_indexAddr ixA_slc ixA_arr step_extract extV_tup step_nilCheck ncV_ptr ncV_rp ncV_fn ncV_mp step_build buildV step_buildSlice bsV step_index ixV_arr ixV_str step_append apB step_makeSlice msV_i step_makeFunc over step_len step_makeMap mmV step_mapUpdate step_insert muA_map muB_mp step_lookup lkA_map lkB_mp step_slice slcV_s slcV_sl slcV_ro cutB_some slObV_arr bound_none bound_some bndV_i lenB_str lenB_ro lenB_sl lenB_nil lenB_z ld_ptr ld_rp offV_ptr offV_rp idxV_ro idxV_sl unV_not unV_neg binV_int binV_str binV_eqlb binV_neqb intOp strOp St.put updL setOb St.ev toV St.lk cellsOf AM.valOf TK.agg stv fillV places TI.zero condT_true condT_false finS resL resSlot packV ren ren1 ren0 Value.cells builtinV appendV elemsOf keepT room_of wrap_in toIdx passed Function.comp_def take_len_map lenV touchOf hid tab1 tab2 tab3 tab4 tab5 tab6 tab7 tab8 tab9 tab10 tab11 tab12 tab15 tab16 tab17 tab18 tab19 tab20 tab21 tab22 tab23 tab24 tab25 tab26 tab27 tab28 tab29 tab30 tab31 tab32 tab33 tab34 tab35 tab36 tab37 tab38 tab39 tab40 tab41 tab42 tab43 tab44 tab45 tab46 tab47 tab48 tab49 tab50 tab51 tab52 tab53 tab54 tab55 tab57 tab58 tab59 tab61 tab62 tab63 tab64 tab65 tab66 tab67 tab68 tab69 tab70 tab71 tab72 tab73 tab74 tab75 tab76 tab77 tab78 tab79 tab80 tab81 tab82 tab83 tab84 tab85 tab86 tab87 tab88 tab89 tab90 tab91 tab92 tab93 tab94 tab95 tab96 tab97 tab98 tab99 tab100 tab101 tab103 tab104 tab105 tab106 tab107 tab108 tab109 tab110 tab111 tab112 tab113 tab114 tab115 tab116 tab117 tab118 tab119 tab120 tab121 tab122 tab123 tab124 tab125 tab126 tab127 tab128 tab129 tab130 tab131 tab132 tab133 tab135 tab137 tab138 tab140 tab141 tab142 tab143 tab144 tab145 tab146 tab147 tab148 tab149 tab150 tab151 tab152 tab153 tab155 tab156 tab157 tab158 tab159 tab160 tab161 tab162 tab163 tab164 tab165 tab166 tab167 tab168 tab170 tab171 tab172 tab173 tab174 tab175 tab176 tab177 tab178 tab179 tab180 tab181 tab182 tab186 tab187 tab188 tab189 tab190 tab191 tab192 tab193 tab194 tab195 armC_eq blockC_eq bodyC_eq enumC_eq fieldC_eq fnC_eq inC_eq localC_eq mirBodyC_eq operC_eq placeC_eq rvC_eq sourceC_eq spotC_eq stepC_eq stmtC_eq structC_eq tmC_eq tyC_eq useC_eq valueC_eq variantC_eq byteV cutL_nil cutL_junk cutL_cons ren_arr ren_gone ren_unborn ren_var ren_row step_convert cvV_i cvV_sl cvV_s cvK_slc cvE_u8 bytesOf bor1 bor2 bor3 bor4
set_option linter.unusedSimpArgs false
set_option linter.unusedVariables false
set_option maxRecDepth 10000
set_option maxHeartbeats 4000000
abbrev n (x : Int) : V := .i .i64 x


theorem walk33n (u : List UInt8) (hr : roomFor u.length 1) : QC prog 30 [.ptr 0 0 0 0, .s u] [.var 98 [.c (.pointer none), .c (.slice none 0 0)]] (.tup [n u.length, .c .nilIface]) [.var 98 [.ptr 0 0 0 0, .sl 1 0 0 u.length], .row 5 0 (u.map fun b => [V.i .u8 (b.toNat : Int)])] := by
  refine QC.of_body tabOK func30 rfl (by kernel_rfl) ?_
  simp only [f30]
  refine EV.seq ?_
  refine EV.regionG tabOK ?_ -- region 0
  simp -implicitDefEqProofs
  refine EV.seq ?_
  refine EV.regionG tabOK ?_ -- region 1
  simp -implicitDefEqProofs
  refine callG_own [0] rfl (walk43n (.c (.slice none 0 0)) []) ?_ ?_ ?_ ?_ ?_ ?_
  · simp
  · simp
  · simp
  · simp
  · simp
  simp -implicitDefEqProofs [keys, callUpd, List.range_succ]
  refine EV.seq ?_
  refine EV.regionG tabOK ?_ -- region 2
  simp -implicitDefEqProofs [hr]
  refine EV.seq ?_
  refine EV.regionG tabOK ?_ -- region 3
  simp -implicitDefEqProofs
  refine EV.ret ?_
  simp only [thenK_ret, blockK_ret, scopeK_ret, bodyK_ret]
  refine Fin.own1 1 (by simp) ?_ ?_
  · simp
  · simp [List.range_succ]

theorem walk33r (ep : Nat) (l u : List UInt8) (hr : roomFor (l.length + u.length) 1) : QC prog 30 [.ptr 0 0 0 0, .s u] [.var 98 [.ptr 0 0 0 0, .sl 1 ep 0 l.length], .row 5 ep (l.map fun b => [V.i .u8 (b.toNat : Int)])] (.tup [n u.length, .c .nilIface]) [.var 98 [.ptr 0 0 0 0, .sl 1 (ep + 1) 0 (l.length + u.length)], .row 5 (ep + 1) ((l ++ u).map fun b => [V.i .u8 (b.toNat : Int)])] := by
  refine QC.of_body tabOK func30 rfl (by kernel_rfl) ?_
  simp only [f30]
  refine EV.seq ?_
  refine EV.regionG tabOK ?_ -- region 0
  simp -implicitDefEqProofs
  refine EV.seq ?_
  refine EV.regionG tabOK ?_ -- region 1
  simp -implicitDefEqProofs
  refine callG_own [0, 1] rfl (walk43u (.sl 1 ep 0 l.length) [.row 5 ep (l.map fun b => [V.i .u8 (b.toNat : Int)])]) ?_ ?_ ?_ ?_ ?_ ?_
  · simp
  · simp
  · simp
  · simp
  · simp
  simp -implicitDefEqProofs [keys, callUpd, List.range_succ]
  refine EV.seq ?_
  refine EV.regionG tabOK ?_ -- region 2
  simp -implicitDefEqProofs [hr, take_len_map]
  refine EV.seq ?_
  refine EV.regionG tabOK ?_ -- region 3
  simp -implicitDefEqProofs
  refine EV.ret ?_
  simp only [thenK_ret, blockK_ret, scopeK_ret, bodyK_ret]
  refine Fin.plain ?_ ?_
  · simp
  · simp [List.range_succ]

end Go.Proofs.Tryd
end
section
namespace Go.Proofs.Tryd
open Go Go.AM
attribute [local simp] wpG_op wpG_nil contG_some wpG_guard guardG_v guardG_o guardG_tup gval pureOp stepG_if isPick pickG_pick pickB_b pickOK isCall step_move step_assign step_alloc step_box boxV_some step_load step_store step_binOp step_unOp step_fieldAddr faV step_indexAddr ixA_slc ixA_arr step_extract extV_tup step_nilCheck ncV_ptr ncV_rp ncV_fn ncV_mp step_build buildV step_buildSlice bsV step_index ixV_arr ixV_str step_append apB step_makeSlice msV_i step_makeFunc over step_len step_makeMap mmV step_mapUpdate step_insert muA_map muB_mp step_lookup lkA_map lkB_mp step_slice slcV_s slcV_sl slcV_ro cutB_some slObV_arr bound_none bound_some bndV_i lenB_str lenB_ro lenB_sl lenB_nil lenB_z ld_ptr ld_rp offV_ptr offV_rp idxV_ro idxV_sl unV_not unV_neg binV_int binV_str binV_eqlb binV_neqb intOp strOp St.put updL setOb St.ev toV St.lk cellsOf AM.valOf TK.agg stv fillV places TI.zero condT_true condT_false finS resL resSlot packV ren ren1 ren0 Value.cells builtinV appendV elemsOf keepT room_of wrap_in toIdx passed Function.comp_def take_len_map lenV touchOf hid tab1 tab2 tab3 tab4 tab5 tab6 tab7 tab8 tab9 tab10 tab11 tab12 tab15 tab16 tab17 tab18 tab19 tab20 tab21 tab22 tab23 tab24 tab25 tab26 tab27 tab28 tab29 tab30 tab31 tab32 tab33 tab34 tab35 tab36 tab37 tab38 tab39 tab40 tab41 tab42 tab43 tab44 tab45 tab46 tab47 tab48 tab49 tab50 tab51 tab52 tab53 tab54 tab55 tab57 tab58 tab59 tab61 tab62 tab63 tab64 tab65 tab66 tab67 tab68 tab69 tab70 tab71 tab72 tab73 tab74 tab75 tab76 tab77 tab78 tab79 tab80 tab81 tab82 tab83 tab84 tab85 tab86 tab87 tab88 tab89 tab90 tab91 tab92 tab93 tab94 tab95 tab96 tab97 tab98 tab99 tab100 tab101 tab103 tab104 tab105 tab106 tab107 tab108 tab109 tab110 tab111 tab112 tab113 tab114 tab115 tab116 tab117 tab118 tab119 tab120 tab121 tab122 tab123 tab124 tab125 tab126 tab127 tab128 tab129 tab130 tab131 tab132 tab133 tab135 tab137 tab138 tab140 tab141 tab142 tab143 tab144 tab145 tab146 tab147 tab148 tab149 tab150 tab151 tab152 tab153 tab155 tab156 tab157 tab158 tab159 tab160 tab161 tab162 tab163 tab164 tab165 tab166 tab167 tab168 tab170 tab171 tab172 tab173 tab174 tab175 tab176 tab177 tab178 tab179 tab180 tab181 tab182 tab186 tab187 tab188 tab189 tab190 tab191 tab192 tab193 tab194 tab195 armC_eq blockC_eq bodyC_eq enumC_eq fieldC_eq fnC_eq inC_eq localC_eq mirBodyC_eq operC_eq placeC_eq rvC_eq sourceC_eq spotC_eq stepC_eq stmtC_eq structC_eq tmC_eq tyC_eq useC_eq valueC_eq variantC_eq byteV cutL_nil cutL_junk cutL_cons ren_arr ren_gone ren_unborn ren_var ren_row step_convert cvV_i cvV_sl cvV_s cvK_slc cvE_u8 bytesOf bor1 bor2 bor3 bor4
set_option linter.unusedSimpArgs false
set_option linter.unusedVariables false
set_option maxRecDepth 10000
set_option maxHeartbeats 4000000

def lenS (l : List (List UInt8)) : Nat := (l.map List.length).sum
def joinN (x : List UInt8) (ys : List (List UInt8)) (i : Nat) : List UInt8 := x ++ ((ys.take i).map fun y => 32 :: y).flatten
def joinS : List (List UInt8) → List UInt8
  | [] => []
  | x :: ys => x ++ (ys.map fun y => 32 :: y).flatten
theorem flat_len (ys : List (List UInt8)) : ((ys.map fun y => (32 : UInt8) :: y).flatten).length = ys.length + lenS ys := by
  induction ys with
  | nil => rfl
  | cons y ys ih => simp only [List.map_cons, List.flatten_cons, List.length_append, List.length_cons, ih, lenS, List.sum_cons]; omega
theorem joinS_len (x : List UInt8) (ys : List (List UInt8)) : (joinS (x :: ys)).length = ys.length + lenS (x :: ys) := by
  simp only [joinS, List.length_append, flat_len, lenS, List.map_cons, List.sum_cons]; omega
theorem lenS_app (a b : List (List UInt8)) : lenS (a ++ b) = lenS a + lenS b := by
  induction a with
  | nil => simp [lenS]
  | cons x a ih => simp only [lenS, List.cons_append, List.map_cons, List.sum_cons] at ih ⊢; omega
theorem lenS_next {l : List (List UInt8)} {i : Nat} (h : i < l.length) : lenS (l.take (i + 1)) = lenS (l.take i) + l[i].length := by
  rw [← List.take_append_getElem h, lenS_app]; rfl
theorem lenS_le (l : List (List UInt8)) (i : Nat) : lenS (l.take i) ≤ lenS l := by
  have h := lenS_app (l.take i) (l.drop i)
  rw [List.take_append_drop] at h
  omega
theorem joinN_next (x : List UInt8) {ys : List (List UInt8)} {i : Nat} (h : i < ys.length) : joinN x ys (i + 1) = joinN x ys i ++ [32] ++ ys[i] := by
  unfold joinN
  rw [← List.take_append_getElem h, List.map_append, List.flatten_append]
  simp only [List.map_cons, List.map_nil, List.flatten_cons, List.flatten_nil, List.append_nil, List.append_assoc, List.cons_append, List.nil_append]
theorem joinN_le (x : List UInt8) (ys : List (List UInt8)) (i : Nat) : (joinN x ys i).length ≤ (joinS (x :: ys)).length := by
  have h1 := lenS_le ys i
  simp only [joinN, joinS, List.length_append, flat_len, List.length_take]
  omega
theorem quo_big {k : Nat} (h : 1 ≤ k) (hk : (k : Int) ≤ 1000000000) : ¬ (IntKind.i64.wrap (Int.tdiv 9223372036854775807 (k : Int)) ≤ 1) := by
  have h1 : Int.tdiv 9223372036854775807 (k : Int) = 9223372036854775807 / (k : Int) := Int.tdiv_eq_ediv_of_nonneg (by decide)
  have h2 : (2 : Int) ≤ 9223372036854775807 / (k : Int) := (Int.le_ediv_iff_mul_le (by omega)).2 (by omega)
  have h3 : (9223372036854775807 : Int) / (k : Int) ≤ 9223372036854775807 := Int.ediv_le_self _ (by decide)
  rw [h1, wrap_in _ (by omega) h3]
  omega
theorem room1 {k : Nat} (h : k ≤ 1000000000) : roomFor k 1 := ⟨by omega, by omega⟩
theorem walk45 (ep : Nat) (xs : List (List UInt8)) (hl : (joinS xs).length ≤ 1000000000) (hx1 : xs.length ≤ 1000000000) : QC prog 67 [.sl 0 ep 0 xs.length, .s [32]] [.arr ep 1 (xs.map fun x => [V.s x])] (.s (joinS xs)) [.arr ep 1 (xs.map fun x => [V.s x])] := by
  refine QC.of_body tabOK func67 rfl (by kernel_rfl) ?_
  simp only [f67]
  refine EV.seq ?_
  refine EV.regionG tabOK ?_ -- region 0
  simp -implicitDefEqProofs
  refine EV.seq ?_
  refine EV.seq ?_
  refine EV.regionG tabOK ?_ -- region 1
  simp -implicitDefEqProofs
  refine EV.block ?_
  refine EV.seq ?_
  refine EV.regionG tabOK ?_ -- region 2
  simp -implicitDefEqProofs
  refine EV.condT ?_
  simp -implicitDefEqProofs
  refine condT_intro (fun h1 => ?_) (fun h1 => ?_)
  · try simp at h1
    refine EV.seq ?_
    have hx0 : xs = [] := by simpa using h1
    subst hx0
    refine EV.regionG tabOK ?_ -- region 3
    simp -implicitDefEqProofs
    refine EV.ret ?_
    simp only [thenK_ret, blockK_ret, scopeK_ret, bodyK_ret]
    refine Fin.plain ?_ ?_
    · simp [joinS, *]
    · simp [List.range_succ]
  · try simp at h1
    refine EV.seq ?_
    refine EV.regionG tabOK ?_ -- region 4
    simp -implicitDefEqProofs
    refine EV.condT ?_
    simp -implicitDefEqProofs
    refine condT_intro (fun h2 => ?_) (fun h2 => ?_)
    · try simp at h2
      refine EV.seq ?_
      obtain ⟨x, rfl⟩ : ∃ x, xs = [x] := List.length_eq_one_iff.1 (by first | exact h2 | omega)
      refine EV.regionG tabOK ?_ -- region 5
      simp -implicitDefEqProofs
      refine EV.ret ?_
      simp only [thenK_ret, blockK_ret, scopeK_ret, bodyK_ret]
      refine Fin.plain ?_ ?_
      · simp [joinS, *]
      · simp [List.range_succ]
    · try simp at h2
      refine EV.skip ?_
      simp only [thenK_normal, blockK_normal, scopeK_normal]
      refine EV.seq ?_
      obtain ⟨x, ys, hxs, hyp⟩ : ∃ x ys, xs = x :: ys ∧ 1 ≤ ys.length := by
        match xs, h1, h2 with
        | [], h1, _ => simp at h1
        | [x], _, h2 => simp at h2
        | x :: y :: r, _, _ => exact ⟨x, y :: r, rfl, by simp⟩
      have hyn : ys ≠ [] := by intro h; rw [h] at hyp; simp at hyp
      have hlS := joinS_len x ys
      rw [← hxs] at hlS
      have hxl : xs.length = ys.length + 1 := by rw [hxs]; rfl
      have hn1 : xs.length - 1 = ys.length := by omega
      have hge1 : 1 ≤ xs.length := by omega
      have hge2 : (1 : Int) ≤ xs.length := by omega
      have hge0 : 0 < xs.length := by omega
      have hgeI : (0 : Int) < xs.length := by omega
      have hx0 : xs[0] = x := by simp [hxs]
      have hyl : (ys.length : Int) ≤ 1000000000 := by omega
      have wx : IntKind.i64.wrap ((xs.length : Int) - 1) = (ys.length : Int) := by rw [wrap_in _ (by omega) (by omega)]; omega
      have wy : IntKind.i64.wrap (ys.length : Int) = ys.length := wrap_in _ (by omega) (by omega)
      refine EV.regionG tabOK ?_ -- region 6
      simp -implicitDefEqProofs
      refine EV.seq ?_
      refine EV.seq ?_
      refine EV.regionG tabOK ?_ -- region 7
      simp -implicitDefEqProofs
      refine EV.condT ?_
      simp -implicitDefEqProofs
      refine EV.seq ?_
      refine EV.seq ?_
      have hq : ¬ (IntKind.i64.wrap (Int.tdiv 9223372036854775807 (ys.length : Int)) ≤ 1) := quo_big hyp (by omega)
      refine EV.regionG tabOK ?_ -- region 8
      simp -implicitDefEqProofs [wx, wy, hyn, hq]
      refine EV.condT ?_
      simp -implicitDefEqProofs
      refine EV.skip ?_
      simp only [thenK_normal, blockK_normal, scopeK_normal]
      refine EV.regionG tabOK ?_ -- region 10
      simp -implicitDefEqProofs [wx, wy]
      refine EV.seq ?_
      refine EV.seq ?_
      refine EV.regionG tabOK ?_ -- region 11
      simp -implicitDefEqProofs
      refine EV.block ?_
      refine EV.loopB ((fun i => ⟨[.sl 0 ep 0 xs.length, .s [32], .junk, .junk, .junk, .i .i64 ((ys.length + lenS (xs.take i.1) : Nat) : Int), .junk, .junk, .junk, .junk, .junk, .junk, .junk, .junk, .junk, .junk, .junk, .junk, .junk, .junk, .junk, .junk, .junk, .junk, .junk, .junk, .junk, .junk, .junk, .junk, .junk, .junk, .junk, .junk, .junk, .junk, .junk, .junk, .junk, .sl 0 ep 0 xs.length, n xs.length, n i.1, .junk, .junk, .junk, .junk, .junk, .junk, .junk, .junk, .junk, .junk, .junk, .junk, .junk, .junk, .junk, .junk, .junk, .junk, .junk, .junk, .junk, .junk, .junk, .junk, .junk, .junk, .junk, .junk, .junk, .junk, .junk, .junk, .junk], [.arr ep 1 (xs.map fun x => [V.s x])]⟩ : { i : Nat // i ≤ xs.length } → St)) (fun i => xs.length - i.1) (⟨0, by simp⟩) ?_ ?_
      · skip
        simp
        refine Sub.cutE 1 [true, true, false, false, false, true, false, false, false, false, false, false, false, false, false, false, false, false, false, false, false, false, false, false, false, false, false, false, false, false, false, false, false, false, false, false, false, false, false, true, true, true, false, false, false, false, false, false, false, false, false, false, false, false, false, false, false, false, false, false, false, false, false, false, false, false, false, false, false, false, false, false, false, false, false] (by simp) ?_ ?_ <;> simp [List.range_succ, toIdx_range, passed, keepT, lenS, *]
      · skip
        rintro ⟨i, hi⟩
        simp only
        refine EV.seq ?_
        refine EV.regionG tabOK ?_ -- region 12
        simp -implicitDefEqProofs
        refine EV.seq ?_
        refine EV.condT ?_
        simp -implicitDefEqProofs
        refine condT_intro (fun h3 => ?_) (fun h3 => ?_)
        · try simp at h3
          refine EV.skip ?_
          simp only [thenK_normal, blockK_normal, scopeK_normal]
          refine EV.seq ?_
          refine EV.block ?_
          refine EV.seq ?_
          have hi2 : i < xs.length := by first | assumption | omega
          have hi3 : (i : Int) < (xs.length : Int) := by omega
          have hsum := lenS_next (l := xs) (i := i) hi2
          have hle := lenS_le xs (i + 1)
          have wn : IntKind.i64.wrap (9223372036854775807 - ((ys.length : Int) + (lenS (xs.take i) : Int))) = 9223372036854775807 - ((ys.length : Int) + (lenS (xs.take i) : Int)) := wrap_in _ (by omega) (by omega)
          have hg : ¬ (9223372036854775807 - ((ys.length : Int) + (lenS (xs.take i) : Int)) < ((xs[i]).length : Int)) := by omega
          have wa : IntKind.i64.wrap ((ys.length : Int) + (lenS (xs.take i) : Int) + ((xs[i]).length : Int)) = (ys.length : Int) + (lenS (xs.take i) : Int) + ((xs[i]).length : Int) := wrap_in _ (by omega) (by omega)
          refine EV.regionG tabOK ?_ -- region 13
          simp -implicitDefEqProofs [hi2, hi3]
          refine EV.seq ?_
          refine EV.seq ?_
          refine EV.regionG tabOK ?_ -- region 14
          simp -implicitDefEqProofs [wn, hg]
          refine EV.condT ?_
          simp -implicitDefEqProofs
          refine EV.skip ?_
          simp only [thenK_normal, blockK_normal, scopeK_normal]
          refine EV.regionG tabOK ?_ -- region 16
          simp -implicitDefEqProofs [wa]
          refine EV.regionG tabOK ?_ -- region 17
          simp -implicitDefEqProofs
          have hw : IntKind.i64.wrap ((i : Int) + 1) = (i : Int) + 1 := wrap_in _ (by omega) (by omega)
          refine ⟨⟨i + 1, by omega⟩, by simp; omega, ?_⟩
          refine Sub.cutE 1 [true, true, false, false, false, true, false, false, false, false, false, false, false, false, false, false, false, false, false, false, false, false, false, false, false, false, false, false, false, false, false, false, false, false, false, false, false, false, false, true, true, true, false, false, false, false, false, false, false, false, false, false, false, false, false, false, false, false, false, false, false, false, false, false, false, false, false, false, false, false, false, false, false, false, false] (by simp) ?_ ?_ <;> simp [List.range_succ, toIdx_range, passed, keepT, hsum, hw, Nat.add_assoc, Int.add_assoc]
        · try simp at h3
          refine EV.exit ?_
          simp -implicitDefEqProofs
          refine EV.seq ?_
          have hT : xs.take i = xs := List.take_of_length_le (by omega)
          have hxS : x.length ≤ lenS xs := by rw [hxs]; simp [lenS]
          refine EV.regionG tabOK ?_ -- region 18
          simp -implicitDefEqProofs
          refine EV.seq ?_
          refine EV.regionG tabOK ?_ -- region 19
          simp -implicitDefEqProofs
          refine callG_own [1] rfl (walk55 (ys.length + lenS xs) (by omega) (by omega)) ?_ ?_ ?_ ?_ ?_ ?_
          · simp [hT]
          · simp
          · simp
          · simp
          · simp
          simp -implicitDefEqProofs [keys, callUpd, List.range_succ, hT]
          refine EV.seq ?_
          have hr0 : roomFor (([] : List UInt8).length + x.length) 1 := room1 (by simp; omega)
          refine EV.regionG tabOK ?_ -- region 20
          simp -implicitDefEqProofs [hx0, hge0, hgeI]
          refine callG_own [1, 2] rfl (walk33r 0 [] x hr0) ?_ ?_ ?_ ?_ ?_ ?_
          · simp
          · simp
          · simp
          · simp
          · simp
          simp -implicitDefEqProofs [keys, callUpd, List.range_succ]
          refine EV.seq ?_
          refine EV.seq ?_
          refine EV.regionG tabOK ?_ -- region 21
          simp -implicitDefEqProofs [hn1, hge1, hge2]
          refine EV.block ?_
          refine EV.loopB ((fun y => ⟨[.sl 0 ep 0 xs.length, .s [32], .junk, .junk, .junk, .junk, .junk, .junk, .ptr 1 0 0 0, .junk, .junk, .junk, .junk, .junk, .junk, .junk, .junk, .junk, .junk, .junk, .junk, .junk, .junk, .junk, .junk, .junk, .junk, .junk, .junk, .junk, .junk, .junk, .junk, .junk, .junk, .junk, .junk, .junk, .junk, .junk, .junk, .junk, .junk, .junk, .junk, .junk, .junk, .junk, .junk, .junk, .junk, .junk, .junk, .junk, .junk, .junk, .junk, .junk, .junk, .junk, .junk, .junk, .junk, .sl 0 ep 1 ys.length, n ys.length, n y.1.1, .junk, .junk, .junk, .junk, .junk, .junk, .junk, .junk, .junk], [.arr ep 1 (xs.map fun x => [V.s x]), .var 98 [.ptr 1 0 0 0, .sl 2 y.1.2 0 (joinN x ys y.1.1).length], .row 5 y.1.2 ((joinN x ys y.1.1).map fun b => [V.i .u8 (b.toNat : Int)])]⟩ : { y : Nat × Nat // y.1 ≤ ys.length } → St)) (fun y => ys.length - y.1.1) (⟨(0, 1), by simp⟩) ?_ ?_
          · skip
            simp
            refine Sub.cutE 3 [true, true, false, false, false, false, false, false, true, false, false, false, false, false, false, false, false, false, false, false, false, false, false, false, false, false, false, false, false, false, false, false, false, false, false, false, false, false, false, false, false, false, false, false, false, false, false, false, false, false, false, false, false, false, false, false, false, false, false, false, false, false, false, true, true, true, false, false, false, false, false, false, false, false, false] (by simp) ?_ ?_ <;> simp [List.range_succ, toIdx_range, passed, keepT, joinN, *]
          · skip
            rintro ⟨⟨i, ebo⟩, hi⟩
            simp only at hi ⊢
            refine EV.seq ?_
            refine EV.regionG tabOK ?_ -- region 22
            simp -implicitDefEqProofs
            refine EV.seq ?_
            refine EV.condT ?_
            simp -implicitDefEqProofs
            refine condT_intro (fun h4 => ?_) (fun h4 => ?_)
            · try simp at h4
              refine EV.skip ?_
              simp only [thenK_normal, blockK_normal, scopeK_normal]
              refine EV.seq ?_
              refine EV.block ?_
              refine EV.seq ?_
              have hi2 : i < ys.length := by first | assumption | omega
              have hnext := joinN_next x hi2
              have hle := joinN_le x ys (i + 1)
              rw [hnext, ← hxs] at hle
              have hix : 1 + i < xs.length := by omega
              have hget : xs[1 + i] = ys[i] := by simp [hxs, Nat.add_comm 1 i]
              simp only [List.length_append, List.length_cons, List.length_nil] at hle
              have hr1 : roomFor ((joinN x ys i).length + ([32] : List UInt8).length) 1 := room1 (by simp; omega)
              have hr2 : roomFor ((joinN x ys i ++ [32]).length + (ys[i]).length) 1 := room1 (by simp; omega)
              refine EV.regionG tabOK ?_ -- region 23
              simp -implicitDefEqProofs [hi2, hix, hget]
              refine EV.seq ?_
              refine EV.regionG tabOK ?_ -- region 24
              simp -implicitDefEqProofs
              refine callG_own [1, 2] rfl (walk33r ebo (joinN x ys i) [32] hr1) ?_ ?_ ?_ ?_ ?_ ?_
              · simp
              · simp
              · simp
              · simp
              · simp
              simp -implicitDefEqProofs [keys, callUpd, List.range_succ]
              refine EV.regionG tabOK ?_ -- region 25
              simp -implicitDefEqProofs
              refine callG_own [1, 2] rfl (walk33r (ebo + 1) (joinN x ys i ++ [32]) ys[i] hr2) ?_ ?_ ?_ ?_ ?_ ?_
              · simp
              · simp
              · simp
              · simp
              · simp
              simp -implicitDefEqProofs [keys, callUpd, List.range_succ]
              refine EV.regionG tabOK ?_ -- region 26
              simp -implicitDefEqProofs
              have hw : IntKind.i64.wrap ((i : Int) + 1) = (i : Int) + 1 := wrap_in _ (by omega) (by omega)
              refine ⟨⟨(i + 1, ebo + 1 + 1), by simp; omega⟩, by simp; omega, ?_⟩
              refine Sub.cutE 3 [true, true, false, false, false, false, false, false, true, false, false, false, false, false, false, false, false, false, false, false, false, false, false, false, false, false, false, false, false, false, false, false, false, false, false, false, false, false, false, false, false, false, false, false, false, false, false, false, false, false, false, false, false, false, false, false, false, false, false, false, false, false, false, true, true, true, false, false, false, false, false, false, false, false, false] (by simp) ?_ ?_ <;> simp [List.range_succ, toIdx_range, passed, keepT, hnext, hw, Nat.add_assoc] <;> omega
            · try simp at h4
              refine EV.exit ?_
              simp -implicitDefEqProofs
              refine EV.seq ?_
              have hT : joinN x ys i = joinS xs := by rw [hxs]; simp [joinN, joinS, List.take_of_length_le (show ys.length ≤ i by omega)]
              rw [hT]
              have hne : joinS xs ≠ [] := by intro h; rw [h] at hlS; simp at hlS; omega
              refine EV.regionG tabOK ?_ -- region 27
              simp -implicitDefEqProofs
              refine callG_own [1, 2] rfl (walk35r ebo (joinS xs) hne (.ptr 0 0 0 0)) ?_ ?_ ?_ ?_ ?_ ?_
              · simp
              · simp
              · simp
              · simp
              · simp
              simp -implicitDefEqProofs [keys, callUpd, List.range_succ]
              refine EV.ret ?_
              simp only [thenK_ret, blockK_ret, scopeK_ret, bodyK_ret]
              refine Fin.plain ?_ ?_
              · simp [joinS, *]
              · simp [List.range_succ]

end Go.Proofs.Tryd
end
section
namespace Go.Proofs.Tryd
open Go Go.AM

open Classical in
/-- A number's text. -/
noncomputable def dig (z : Int) : List UInt8 := if inI64 z then Lib.itoa z else []
theorem dig_len (z : Int) : (dig z).length ≤ 21 := by
  unfold dig; split
  · rename_i h; exact Lib.itoa_length_le z h.1 h.2
  · simp
theorem dig_eq {z : Int} (h : inI64 z) : dig z = Lib.itoa z := if_pos h

theorem bkR_mem {e : List V} : ∀ {es : List (List V)}, e ∈ es → bkL e ≤ bkR es
  | x :: es, h => by
    simp only [bkR]
    rcases List.mem_cons.1 h with rfl | h
    · omega
    · have := bkR_mem h; omega

theorem inI64_of {z : Int} (h1 : -9223372036854775808 ≤ z) (h2 : z ≤ 9223372036854775807) : inI64 z := ⟨h1, h2⟩
/-- How much a type holds. -/
def tyN (t : TyD) : Nat := bkL (tyC t)
theorem tyN_eq (t : TyD) : tyN t = t.name.length + 3 + bkR (t.l.map tyC) := by
  simp only [tyN, tyC_eq, bkL, bkV]; omega
theorem tyN_mem {t u : TyD} (h : u ∈ t.l) : tyN u + 3 + t.name.length ≤ tyN t := by
  have := bkR_mem (List.mem_map_of_mem (f := tyC) h)
  rw [tyN_eq t]
  unfold tyN
  omega

/-- A type's text. -/
def tyT (t : TyD) : List UInt8 :=
  if t.k = 1 then [105, 110, 116] else if t.k = 2 ∨ t.k = 3 then t.name else if t.k = 7 then [99, 111, 32] ++ t.name
  else match t with
    | ⟨k, _, [x]⟩ => if k = 4 then [98, 111, 120, 32] ++ tyT x else if k = 5 then [38] ++ tyT x else if k = 6 then [38, 109, 117, 116, 32] ++ tyT x else [63]
    | _ => [63]
theorem tyT_len (t : TyD) : (tyT t).length ≤ 5 * tyN t := by
  unfold tyT
  have hn := tyN_eq t
  split
  · simp; omega
  · split
    · omega
    · split
      · simp; omega
      · split
        · rename_i k nm x _ _ _
          have h := tyT_len x
          have h2 : tyN x + 3 + nm.length ≤ tyN ⟨k, nm, [x]⟩ := tyN_mem (t := ⟨k, nm, [x]⟩) (by simp)
          split
          · simp; omega
          · split
            · simp; omega
            · split
              · simp; omega
              · simp; omega
        · simp; omega

/-- What is asked of a body's parts. -/
def SpotOK (x : SpotD) : Prop := inI64 x.local_ ∧ x.path.length ≤ 250 ∧ ∀ k ∈ x.path, inI64 k
def UseOK (u : UseD) : Prop := inI64 u.n ∧ SpotOK u.s
def ValueOK (v : ValueD) : Prop := inI64 v.k ∧ inI64 v.which ∧ inI64 v.tag ∧ v.uses.length ≤ 250 ∧ (∀ u ∈ v.uses, UseOK u) ∧ SpotOK v.s
def InOK (x : InD) : Prop := SpotOK x.s ∧ ValueOK x.v ∧ UseOK x.u
def TmOK (x : TmD) : Prop := SpotOK x.s ∧ inI64 x.v.s.local_ ∧ UseOK x.u ∧ x.to_.length ≤ 250 ∧ ∀ k ∈ x.to_, inI64 k
def LocalOK (l : LocalD) : Prop := l.name.length ≤ 1048576 ∧ tyN l.ty ≤ 1048576
def BlockOK (k : BlockD) : Prop := k.ins.length ≤ 250 ∧ (∀ x ∈ k.ins, InOK x) ∧ TmOK k.end_
structure BodyOK (b : BodyD) : Prop where
  nm : b.name.length ≤ 1048576
  pr : inI64 b.params
  ll : b.locals.length ≤ 250
  lo : ∀ l ∈ b.locals, LocalOK l
  bl : b.blocks.length ≤ 250
  bo : ∀ k ∈ b.blocks, BlockOK k

theorem flatten_len {A : Type} (f : A → List UInt8) (m : Nat) : ∀ l : List A, (∀ x ∈ l, (f x).length ≤ m) → ((l.map f).flatten).length ≤ l.length * m
  | [], _ => by simp
  | x :: l, h => by
    have h1 := flatten_len f m l fun y hy => h y (List.mem_cons_of_mem _ hy)
    have h2 := h x List.mem_cons_self
    simp only [List.map_cons, List.flatten_cons, List.length_append, List.length_cons, Nat.add_mul]
    omega

noncomputable def spotT (x : SpotD) : List UInt8 := dig x.local_ ++ (x.path.map fun k => 46 :: dig k).flatten
theorem spotT_len (x : SpotD) (h : SpotOK x) : (spotT x).length ≤ 6000 := by
  have h1 := dig_len x.local_
  have h2 := flatten_len (fun k => 46 :: dig k) 22 x.path fun k _ => by have := dig_len k; simp; omega
  have h3 := h.2.1
  simp only [spotT, List.length_append]
  omega
noncomputable def useT (u : UseD) : List UInt8 := if u.num then 35 :: dig u.n else if u.move then [109, 111, 118, 101, 32] ++ spotT u.s else [99, 111, 112, 121, 32] ++ spotT u.s
theorem useT_len (u : UseD) (h : UseOK u) : (useT u).length ≤ 6010 := by
  have h1 := dig_len u.n
  have h2 := spotT_len u.s h.2
  unfold useT
  split
  · simp; omega
  · split <;> simp <;> omega
noncomputable def valueT (v : ValueD) : List UInt8 :=
  dig v.k ++ 32 :: dig v.which ++ 32 :: dig v.tag ++ (v.uses.map fun u => 32 :: useT u).flatten ++ if v.k = 6 ∨ v.k = 7 ∨ v.k = 9 then 32 :: spotT v.s else []
theorem valueT_len (v : ValueD) (h : ValueOK v) : (valueT v).length ≤ 1600000 := by
  have h1 := dig_len v.k
  have h2 := dig_len v.which
  have h3 := dig_len v.tag
  have h4 := flatten_len (fun u => 32 :: useT u) 6011 v.uses fun u hu => by have := useT_len u (h.2.2.2.2.1 u hu); simp; omega
  have h5 := h.2.2.2.1
  have h6 := spotT_len v.s h.2.2.2.2.2
  unfold valueT
  split <;> simp only [List.length_append, List.length_cons, List.length_nil] <;> omega
noncomputable def inT (x : InD) : List UInt8 :=
  if x.k = 0 then [108, 105, 118, 101, 32] ++ dig x.s.local_ else if x.k = 1 then [100, 101, 97, 100, 32] ++ dig x.s.local_
  else if x.k = 3 then (if x.u.move then [100, 114, 111, 112, 32] ++ dig x.s.local_ else [101, 110, 100, 32] ++ dig x.s.local_)
  else if x.k = 2 then [115, 101, 116, 32] ++ spotT x.s ++ [32, 61, 32] ++ valueT x.v
  else if x.k = 4 then [112, 114, 105, 110, 116, 32] ++ useT x.u
  else if x.k = 5 then [111, 112, 101, 110, 32] ++ spotT x.s ++ 32 :: dig x.v.tag ++ 32 :: dig x.v.s.local_
  else [63]
theorem inT_len (x : InD) (h : InOK x) : (inT x).length ≤ 1700000 := by
  have h1 := dig_len x.s.local_
  have h2 := dig_len x.v.tag
  have h3 := dig_len x.v.s.local_
  have h4 := spotT_len x.s h.1
  have h5 := valueT_len x.v h.2.1
  have h6 := useT_len x.u h.2.2
  unfold inT
  repeat' split
  all_goals simp only [List.length_append, List.length_cons, List.length_nil]
  all_goals omega
/-- An end's words, without where it goes. -/
noncomputable def tmW (x : TmD) : List UInt8 :=
  if x.k = 0 then [103, 111, 116, 111] else if x.k = 1 then [105, 102, 32] ++ useT x.u else if x.k = 2 then [109, 97, 116, 99, 104, 32] ++ spotT x.s
  else if x.k = 3 then [114, 101, 116, 117, 114, 110, 32] ++ useT x.u else if x.k = 4 then [121, 105, 101, 108, 100, 32] ++ useT x.u
  else if x.k = 5 then [97, 119, 97, 105, 116, 32] ++ spotT x.s ++ 32 :: dig x.v.s.local_
  else if x.k = 6 then [112, 111, 108, 108, 32] ++ spotT x.s ++ 32 :: dig x.v.s.local_
  else [119, 97, 105, 116, 32] ++ spotT x.s ++ 32 :: useT x.u
theorem tmW_len (x : TmD) (h : TmOK x) : (tmW x).length ≤ 13000 := by
  have h3 := dig_len x.v.s.local_
  have h4 := spotT_len x.s h.1
  have h6 := useT_len x.u h.2.2.1
  unfold tmW
  repeat' split
  all_goals simp only [List.length_append, List.length_cons, List.length_nil]
  all_goals omega
noncomputable def tmT (x : TmD) : List UInt8 := if 0 ≤ x.k ∧ x.k ≤ 7 then tmW x ++ (x.to_.map fun k => 32 :: dig k).flatten else [63]
theorem tmT_len (x : TmD) (h : TmOK x) : (tmT x).length ≤ 20000 := by
  have h1 := tmW_len x h
  have h2 := flatten_len (fun k => 32 :: dig k) 22 x.to_ fun k _ => by have := dig_len k; simp; omega
  have h3 := h.2.2.2.1
  unfold tmT
  split <;> simp only [List.length_append, List.length_cons, List.length_nil] <;> omega
/-- A local's line, a block's lines. -/
noncomputable def locT : Nat → List LocalD → List UInt8
  | _, [] => []
  | j, l :: r => 9 :: dig (j : Int) ++ 32 :: l.name ++ 32 :: tyT l.ty ++ 10 :: locT (j + 1) r
noncomputable def insT (l : List InD) : List UInt8 := (l.map fun x => 9 :: inT x ++ [10]).flatten
noncomputable def blkT : Nat → List BlockD → List UInt8
  | _, [] => []
  | j, k :: r => [98, 108, 111, 99, 107, 32] ++ dig (j : Int) ++ 10 :: insT k.ins ++ 9 :: tmT k.end_ ++ 10 :: blkT (j + 1) r
/-- A body's text. -/
noncomputable def textT (b : BodyD) : List UInt8 := b.name ++ 32 :: dig b.params ++ 10 :: locT 0 b.locals ++ blkT 0 b.blocks
end Go.Proofs.Tryd
end
section
namespace Go.Proofs.Tryd
open Go Go.AM
attribute [local simp] wpG_op wpG_nil contG_some wpG_guard guardG_v guardG_o guardG_tup gval pureOp stepG_if isPick pickG_pick pickB_b pickOK isCall step_move step_assign step_alloc step_box boxV_some step_load step_store step_binOp step_unOp step_fieldAddr faV step_indexAddr ixA_slc ixA_arr step_extract extV_tup step_nilCheck ncV_ptr ncV_rp ncV_fn ncV_mp step_build buildV step_buildSlice bsV step_index ixV_arr ixV_str step_append apB step_makeSlice msV_i step_makeFunc over step_len step_makeMap mmV step_mapUpdate step_insert muA_map muB_mp step_lookup lkA_map lkB_mp step_slice slcV_s slcV_sl slcV_ro cutB_some slObV_arr bound_none bound_some bndV_i lenB_str lenB_ro lenB_sl lenB_nil lenB_z ld_ptr ld_rp offV_ptr offV_rp idxV_ro idxV_sl unV_not unV_neg binV_int binV_str binV_eqlb binV_neqb intOp strOp St.put updL setOb St.ev toV St.lk cellsOf AM.valOf TK.agg stv fillV places TI.zero condT_true condT_false finS resL resSlot packV ren ren1 ren0 Value.cells builtinV appendV elemsOf keepT room_of wrap_in toIdx passed Function.comp_def take_len_map lenV touchOf hid tab1 tab2 tab3 tab4 tab5 tab6 tab7 tab8 tab9 tab10 tab11 tab12 tab15 tab16 tab17 tab18 tab19 tab20 tab21 tab22 tab23 tab24 tab25 tab26 tab27 tab28 tab29 tab30 tab31 tab32 tab33 tab34 tab35 tab36 tab37 tab38 tab39 tab40 tab41 tab42 tab43 tab44 tab45 tab46 tab47 tab48 tab49 tab50 tab51 tab52 tab53 tab54 tab55 tab57 tab58 tab59 tab61 tab62 tab63 tab64 tab65 tab66 tab67 tab68 tab69 tab70 tab71 tab72 tab73 tab74 tab75 tab76 tab77 tab78 tab79 tab80 tab81 tab82 tab83 tab84 tab85 tab86 tab87 tab88 tab89 tab90 tab91 tab92 tab93 tab94 tab95 tab96 tab97 tab98 tab99 tab100 tab101 tab103 tab104 tab105 tab106 tab107 tab108 tab109 tab110 tab111 tab112 tab113 tab114 tab115 tab116 tab117 tab118 tab119 tab120 tab121 tab122 tab123 tab124 tab125 tab126 tab127 tab128 tab129 tab130 tab131 tab132 tab133 tab135 tab137 tab138 tab140 tab141 tab142 tab143 tab144 tab145 tab146 tab147 tab148 tab149 tab150 tab151 tab152 tab153 tab155 tab156 tab157 tab158 tab159 tab160 tab161 tab162 tab163 tab164 tab165 tab166 tab167 tab168 tab170 tab171 tab172 tab173 tab174 tab175 tab176 tab177 tab178 tab179 tab180 tab181 tab182 tab186 tab187 tab188 tab189 tab190 tab191 tab192 tab193 tab194 tab195 armC_eq blockC_eq bodyC_eq enumC_eq fieldC_eq fnC_eq inC_eq localC_eq mirBodyC_eq operC_eq placeC_eq rvC_eq sourceC_eq spotC_eq stepC_eq stmtC_eq structC_eq tmC_eq tyC_eq useC_eq valueC_eq variantC_eq binV_eqls binV_neqs cutL_nil cutL_junk cutL_cons ren_arr ren_gone ren_unborn ren_var ren_row step_convert cvV_i cvV_sl cvV_s cvK_slc cvE_u8 bytesOf bor1 bor2 bor3 bor4
set_option linter.unusedSimpArgs false
set_option linter.unusedVariables false
set_option maxRecDepth 10000
set_option maxHeartbeats 4000000
noncomputable section
theorem byteV_fn : byteV = fun b => [V.i .u8 (b.toNat : Int)] := rfl
attribute [local simp] byteV_fn
theorem room_le {n : Nat} (h : n ≤ 140737488355328) : roomFor n 1 := ⟨by omega, by omega⟩

theorem walk31r (ep : Nat) (l : List UInt8) (hr : roomFor (l.length + 1) 1) : QC prog 31 [.ptr 0 0 0 0, .i .u8 10] [.var 98 [.ptr 0 0 0 0, .sl 1 ep 0 l.length], .row 5 ep (l.map byteV)] (.c .nilIface) [.var 98 [.ptr 0 0 0 0, .sl 1 (ep + 1) 0 (l.length + 1)], .row 5 (ep + 1) ((l ++ [10]).map byteV)] := by
  refine QC.of_body tabOK func31 rfl (by kernel_rfl) ?_
  simp only [f31]
  refine EV.seq ?_
  refine EV.regionG tabOK ?_ -- region 0
  simp -implicitDefEqProofs
  refine EV.seq ?_
  refine EV.regionG tabOK ?_ -- region 1
  simp -implicitDefEqProofs
  refine callG_own [0, 1] rfl (walk43u (.sl 1 ep 0 l.length) [.row 5 ep (l.map byteV)]) ?_ ?_ ?_ ?_ ?_ ?_
  · simp [Nat.add_assoc, List.range_succ]
  · simp [Nat.add_assoc, List.range_succ]
  · simp [Nat.add_assoc, List.range_succ]
  · simp [Nat.add_assoc, List.range_succ]
  · simp [Nat.add_assoc, List.range_succ]
  simp -implicitDefEqProofs [keys, callUpd, List.range_succ]
  refine EV.seq ?_
  refine EV.regionG tabOK ?_ -- region 2
  simp -implicitDefEqProofs [hr, take_len_map]
  refine EV.seq ?_
  refine EV.regionG tabOK ?_ -- region 3
  simp -implicitDefEqProofs
  refine EV.ret ?_
  simp only [thenK_ret, blockK_ret, scopeK_ret, bodyK_ret]
  refine Fin.plain ?_ ?_
  · simp
  · simp [List.range_succ, Nat.add_assoc]


def ln1n (px0 : List UInt8) : Unit :=
  ()
set_option maxHeartbeats 40000000 in
theorem w_ln1n (px0 : List UInt8) (hr : px0.length + 1 ≤ 140737488355328) : QC prog 29 [.sl 0 0 0 1, .ptr 1 0 0 0] [.arr 0 1 [[.s px0]], .var 98 [.c (.pointer none), .c (.slice none 0 0)]] (.tup []) [.arr 0 1 [[.s px0]], .var 98 [.ptr 1 0 0 0, .sl 2 (1) 0 (px0 ++ [10]).length], .row 5 (1) ((px0 ++ [10]).map byteV)] := by
  refine QC.of_body tabOK func29 rfl (by kernel_rfl) ?_
  simp only [f29]
  generalize e : ln1n px0 = R
  unfold ln1n at e
  refine EV.seq ?_
  refine EV.seq ?_
  refine EV.regionG tabOK ?_ -- region 0
  simp (maxSteps := 2000000) -implicitDefEqProofs
  refine EV.block ?_
  refine EV.rounds 2 ?_
  refine ER.succ ?_
  refine EV.seq ?_
  refine EV.regionG tabOK ?_ -- region 1
  simp (maxSteps := 2000000) -implicitDefEqProofs
  refine EV.seq ?_
  refine EV.condT ?_
  simp -implicitDefEqProofs
  refine EV.skip ?_
  simp only [thenK_normal, blockK_normal, scopeK_normal]
  refine EV.seq ?_
  refine EV.block ?_
  refine EV.seq ?_
  have b1 : 0 ≤ 0 ∧ 0 < (1 : Int) := by (first | omega | (simp; omega))
  have c1 : 0 < 1 := by omega
  refine EV.regionG tabOK ?_ -- region 2
  simp (maxSteps := 2000000) -implicitDefEqProofs [b1, c1]
  refine EV.regionG tabOK ?_ -- region 3
  simp (maxSteps := 2000000) -implicitDefEqProofs [b1, c1]
  refine callG_own [1] rfl (walk33n px0 (room_le (by first | omega | (simp at *; omega)) )) ?_ ?_ ?_ ?_ ?_ ?_
  · simp [Nat.add_assoc, List.range_succ]
  · simp [Nat.add_assoc, List.range_succ]
  · simp [Nat.add_assoc, List.range_succ]
  · simp [Nat.add_assoc, List.range_succ]
  · simp [Nat.add_assoc, List.range_succ]
  simp (maxSteps := 2000000) -implicitDefEqProofs [b1, c1, keys, callUpd, List.range_succ]
  refine EV.regionG tabOK ?_ -- region 4
  simp (maxSteps := 2000000) -implicitDefEqProofs [b1, c1]
  refine ER.succ ?_
  refine EV.seq ?_
  refine EV.regionG tabOK ?_ -- region 1
  simp (maxSteps := 2000000) -implicitDefEqProofs [b1, c1]
  refine EV.seq ?_
  refine EV.condT ?_
  simp -implicitDefEqProofs [b1, c1]
  refine EV.exit ?_
  simp -implicitDefEqProofs
  refine EV.regionG tabOK ?_ -- region 5
  simp (maxSteps := 2000000) -implicitDefEqProofs [b1, c1]
  refine callG_own [1, 2] rfl (walk31r 0 px0 (room_le (by first | omega | (simp at *; omega)) )) ?_ ?_ ?_ ?_ ?_ ?_
  · simp [Nat.add_assoc, List.range_succ]
  · simp [Nat.add_assoc, List.range_succ]
  · simp [Nat.add_assoc, List.range_succ]
  · simp [Nat.add_assoc, List.range_succ]
  · simp [Nat.add_assoc, List.range_succ]
  simp (maxSteps := 2000000) -implicitDefEqProofs [b1, c1, keys, callUpd, List.range_succ]
  try simp only [bodyK_normal]
  subst e
  refine Fin.own1 2 (by simp) ?_ ?_
  · simp
  · simp [List.range_succ, Nat.add_assoc]


def ln1r (pe : Nat) (pl : List UInt8) (px0 : List UInt8) : Unit :=
  ()
set_option maxHeartbeats 40000000 in
theorem w_ln1r (pe : Nat) (pl : List UInt8) (px0 : List UInt8) (hr : pl.length + px0.length + 1 ≤ 140737488355328) : QC prog 29 [.sl 0 0 0 1, .ptr 1 0 0 0] [.arr 0 1 [[.s px0]], .var 98 [.ptr 1 0 0 0, .sl 2 pe 0 pl.length], .row 5 pe (pl.map byteV)] (.tup []) [.arr 0 1 [[.s px0]], .var 98 [.ptr 1 0 0 0, .sl 2 (pe + 1 + 1) 0 (pl ++ px0 ++ [10]).length], .row 5 (pe + 1 + 1) ((pl ++ px0 ++ [10]).map byteV)] := by
  refine QC.of_body tabOK func29 rfl (by kernel_rfl) ?_
  simp only [f29]
  generalize e : ln1r pe pl px0 = R
  unfold ln1r at e
  refine EV.seq ?_
  refine EV.seq ?_
  refine EV.regionG tabOK ?_ -- region 0
  simp (maxSteps := 2000000) -implicitDefEqProofs
  refine EV.block ?_
  refine EV.rounds 2 ?_
  refine ER.succ ?_
  refine EV.seq ?_
  refine EV.regionG tabOK ?_ -- region 1
  simp (maxSteps := 2000000) -implicitDefEqProofs
  refine EV.seq ?_
  refine EV.condT ?_
  simp -implicitDefEqProofs
  refine EV.skip ?_
  simp only [thenK_normal, blockK_normal, scopeK_normal]
  refine EV.seq ?_
  refine EV.block ?_
  refine EV.seq ?_
  have b1 : 0 ≤ 0 ∧ 0 < (1 : Int) := by (first | omega | (simp; omega))
  have c1 : 0 < 1 := by omega
  refine EV.regionG tabOK ?_ -- region 2
  simp (maxSteps := 2000000) -implicitDefEqProofs [b1, c1]
  refine EV.regionG tabOK ?_ -- region 3
  simp (maxSteps := 2000000) -implicitDefEqProofs [b1, c1]
  refine callG_own [1, 2] rfl (walk33r pe pl px0 (room_le (by first | omega | (simp at *; omega)) )) ?_ ?_ ?_ ?_ ?_ ?_
  · simp [Nat.add_assoc, List.range_succ]
  · simp [Nat.add_assoc, List.range_succ]
  · simp [Nat.add_assoc, List.range_succ]
  · simp [Nat.add_assoc, List.range_succ]
  · simp [Nat.add_assoc, List.range_succ]
  simp (maxSteps := 2000000) -implicitDefEqProofs [b1, c1, keys, callUpd, List.range_succ]
  refine EV.regionG tabOK ?_ -- region 4
  simp (maxSteps := 2000000) -implicitDefEqProofs [b1, c1]
  refine ER.succ ?_
  refine EV.seq ?_
  refine EV.regionG tabOK ?_ -- region 1
  simp (maxSteps := 2000000) -implicitDefEqProofs [b1, c1]
  refine EV.seq ?_
  refine EV.condT ?_
  simp -implicitDefEqProofs [b1, c1]
  refine EV.exit ?_
  simp -implicitDefEqProofs
  refine EV.regionG tabOK ?_ -- region 5
  simp (maxSteps := 2000000) -implicitDefEqProofs [b1, c1]
  refine callG_own [1, 2] rfl (walk31r (pe + 1) (pl ++ px0) (room_le (by first | omega | (simp at *; omega)) )) ?_ ?_ ?_ ?_ ?_ ?_
  · simp [Nat.add_assoc, List.range_succ]
  · simp [Nat.add_assoc, List.range_succ]
  · simp [Nat.add_assoc, List.range_succ]
  · simp [Nat.add_assoc, List.range_succ]
  · simp [Nat.add_assoc, List.range_succ]
  simp (maxSteps := 2000000) -implicitDefEqProofs [b1, c1, keys, callUpd, List.range_succ]
  try simp only [bodyK_normal]
  subst e
  refine Fin.plain ?_ ?_
  · simp
  · simp [List.range_succ, Nat.add_assoc]


def ln2r (pe : Nat) (pl : List UInt8) (px0 : List UInt8) (px1 : List UInt8) : Unit :=
  ()
set_option maxHeartbeats 40000000 in
theorem w_ln2r (pe : Nat) (pl : List UInt8) (px0 : List UInt8) (px1 : List UInt8) (hr : pl.length + px0.length + px1.length + 1 ≤ 140737488355328) : QC prog 29 [.sl 0 0 0 2, .ptr 1 0 0 0] [.arr 0 1 [[.s px0], [.s px1]], .var 98 [.ptr 1 0 0 0, .sl 2 pe 0 pl.length], .row 5 pe (pl.map byteV)] (.tup []) [.arr 0 1 [[.s px0], [.s px1]], .var 98 [.ptr 1 0 0 0, .sl 2 (pe + 1 + 1 + 1) 0 (pl ++ px0 ++ px1 ++ [10]).length], .row 5 (pe + 1 + 1 + 1) ((pl ++ px0 ++ px1 ++ [10]).map byteV)] := by
  refine QC.of_body tabOK func29 rfl (by kernel_rfl) ?_
  simp only [f29]
  generalize e : ln2r pe pl px0 px1 = R
  unfold ln2r at e
  refine EV.seq ?_
  refine EV.seq ?_
  refine EV.regionG tabOK ?_ -- region 0
  simp (maxSteps := 2000000) -implicitDefEqProofs
  refine EV.block ?_
  refine EV.rounds 3 ?_
  refine ER.succ ?_
  refine EV.seq ?_
  refine EV.regionG tabOK ?_ -- region 1
  simp (maxSteps := 2000000) -implicitDefEqProofs
  refine EV.seq ?_
  refine EV.condT ?_
  simp -implicitDefEqProofs
  refine EV.skip ?_
  simp only [thenK_normal, blockK_normal, scopeK_normal]
  refine EV.seq ?_
  refine EV.block ?_
  refine EV.seq ?_
  have b1 : 0 ≤ 0 ∧ 0 < (2 : Int) := by (first | omega | (simp; omega))
  have c1 : 0 < 2 := by omega
  refine EV.regionG tabOK ?_ -- region 2
  simp (maxSteps := 2000000) -implicitDefEqProofs [b1, c1]
  refine EV.regionG tabOK ?_ -- region 3
  simp (maxSteps := 2000000) -implicitDefEqProofs [b1, c1]
  refine callG_own [1, 2] rfl (walk33r pe pl px0 (room_le (by first | omega | (simp at *; omega)) )) ?_ ?_ ?_ ?_ ?_ ?_
  · simp [Nat.add_assoc, List.range_succ]
  · simp [Nat.add_assoc, List.range_succ]
  · simp [Nat.add_assoc, List.range_succ]
  · simp [Nat.add_assoc, List.range_succ]
  · simp [Nat.add_assoc, List.range_succ]
  simp (maxSteps := 2000000) -implicitDefEqProofs [b1, c1, keys, callUpd, List.range_succ]
  refine EV.regionG tabOK ?_ -- region 4
  simp (maxSteps := 2000000) -implicitDefEqProofs [b1, c1]
  refine ER.succ ?_
  refine EV.seq ?_
  refine EV.regionG tabOK ?_ -- region 1
  simp (maxSteps := 2000000) -implicitDefEqProofs [b1, c1]
  refine EV.seq ?_
  refine EV.condT ?_
  simp -implicitDefEqProofs [b1, c1]
  refine EV.skip ?_
  simp only [thenK_normal, blockK_normal, scopeK_normal]
  refine EV.seq ?_
  refine EV.block ?_
  refine EV.seq ?_
  have b2 : 0 ≤ 1 ∧ 1 < (2 : Int) := by (first | omega | (simp; omega))
  have c2 : 1 < 2 := by omega
  refine EV.regionG tabOK ?_ -- region 2
  simp (maxSteps := 2000000) -implicitDefEqProofs [b1, c1, b2, c2]
  refine EV.regionG tabOK ?_ -- region 3
  simp (maxSteps := 2000000) -implicitDefEqProofs [b1, c1, b2, c2]
  refine callG_own [1, 2] rfl (walk33r (pe + 1) (pl ++ px0) px1 (room_le (by first | omega | (simp at *; omega)) )) ?_ ?_ ?_ ?_ ?_ ?_
  · simp [Nat.add_assoc, List.range_succ]
  · simp [Nat.add_assoc, List.range_succ]
  · simp [Nat.add_assoc, List.range_succ]
  · simp [Nat.add_assoc, List.range_succ]
  · simp [Nat.add_assoc, List.range_succ]
  simp (maxSteps := 2000000) -implicitDefEqProofs [b1, c1, b2, c2, keys, callUpd, List.range_succ]
  refine EV.regionG tabOK ?_ -- region 4
  simp (maxSteps := 2000000) -implicitDefEqProofs [b1, c1, b2, c2]
  refine ER.succ ?_
  refine EV.seq ?_
  refine EV.regionG tabOK ?_ -- region 1
  simp (maxSteps := 2000000) -implicitDefEqProofs [b1, c1, b2, c2]
  refine EV.seq ?_
  refine EV.condT ?_
  simp -implicitDefEqProofs [b1, c1, b2, c2]
  refine EV.exit ?_
  simp -implicitDefEqProofs
  refine EV.regionG tabOK ?_ -- region 5
  simp (maxSteps := 2000000) -implicitDefEqProofs [b1, c1, b2, c2]
  refine callG_own [1, 2] rfl (walk31r ((pe + 1) + 1) ((pl ++ px0) ++ px1) (room_le (by first | omega | (simp at *; omega)) )) ?_ ?_ ?_ ?_ ?_ ?_
  · simp [Nat.add_assoc, List.range_succ]
  · simp [Nat.add_assoc, List.range_succ]
  · simp [Nat.add_assoc, List.range_succ]
  · simp [Nat.add_assoc, List.range_succ]
  · simp [Nat.add_assoc, List.range_succ]
  simp (maxSteps := 2000000) -implicitDefEqProofs [b1, c1, b2, c2, keys, callUpd, List.range_succ]
  try simp only [bodyK_normal]
  subst e
  refine Fin.plain ?_ ?_
  · simp
  · simp [List.range_succ, Nat.add_assoc]
end
end Go.Proofs.Tryd
end
