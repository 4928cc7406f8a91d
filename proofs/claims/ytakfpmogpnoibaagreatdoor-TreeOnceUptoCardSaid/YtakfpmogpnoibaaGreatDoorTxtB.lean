/- Contracts of the writer's lines, blocks, and arms. -/
import Derived.Test.YtakfpmogpnoibaaGreatDoorTxtA
import Derived.Test.YtakfpmogpnoibaaGreatDoorBldA
import Derived.Test.YtakfpmogpnoibaaGreatDoorMachD
import Derived.Test.YtakfpmogpnoibaaGreatDoorMachE
set_option linter.unusedVariables false
set_option linter.unusedSimpArgs false
set_option linter.constructorNameAsVariable false
section
namespace Go.Proofs.Tryz
open Go Go.AM
attribute [local simp] wpG_op wpG_nil contG_some wpG_guard guardG_v guardG_o guardG_tup gval pureOp stepG_if isPick pickG_pick pickB_b pickOK isCall step_move step_assign step_alloc step_box boxV_some step_load step_store step_binOp step_unOp step_fieldAddr faV step_indexAddr ixA_slc ixA_arr step_extract extV_tup step_nilCheck ncV_ptr ncV_rp ncV_fn ncV_mp step_build buildV step_buildSlice bsV step_index ixV_arr ixV_str step_append apB step_makeSlice msV_i step_makeFunc over step_len step_makeMap mmV step_mapUpdate step_insert muA_map muB_mp step_lookup lkA_map lkB_mp step_slice slcV_s slcV_sl slcV_ro cutB_some slObV_arr bound_none bound_some bndV_i lenB_str lenB_ro lenB_sl lenB_nil lenB_z ld_ptr ld_rp offV_ptr offV_rp idxV_ro idxV_sl unV_not unV_neg binV_int binV_str binV_eqlb binV_neqb intOp strOp St.put updL setOb St.ev toV St.lk cellsOf AM.valOf TK.agg stv fillV places TI.zero condT_true condT_false finS resL resSlot packV ren ren1 ren0 Value.cells builtinV appendV elemsOf keepT room_of wrap_in toIdx passed Function.comp_def take_len_map lenV touchOf hid tab1 tab2 tab3 tab4 tab5 tab6 tab7 tab8 tab9 tab20 tab22 tab23 tab24 tab26 tab32 tab33 tab35 tab36 tab37 tab39 tab41 tab42 tab43 tab45 tab46 tab47 tab49 tab50 tab52 tab74 tab79 tab83 tab86 tab87 tab89 tab92 tab100 tab101 tab102 tab103 tab105 tab107 tab108 tab113 tab114 tab116 tab117 tab118 tab122 tab123 tab125 tab127 tab130 tab132 tab136 tab173 tab175 tab178 tab179 tab180 tab182 tab189 tab215 tab219 tab220 tab224 tab225 tab241 tab244 tab247 tab253 tab261 tab262 tab265 tab266 armC_eq blockC_eq bodyC_eq enumC_eq fieldC_eq fnC_eq inC_eq localC_eq mirBodyC_eq operC_eq placeC_eq rvC_eq sourceC_eq spotC_eq stepC_eq stmtC_eq structC_eq tmC_eq tyC_eq useC_eq valueC_eq variantC_eq binV_eqls binV_neqs cutL_nil cutL_junk cutL_cons ren_arr ren_gone ren_unborn ren_var ren_row step_convert cvV_i cvV_sl cvV_s cvK_slc cvE_u8 bytesOf bor1 bor2 bor3 bor4
set_option linter.unusedSimpArgs false
set_option linter.unusedVariables false
set_option maxRecDepth 10000
set_option maxHeartbeats 40000000
noncomputable section
theorem room_le {n : Nat} (h : n ≤ 140737488355328) : roomFor n 1 := ⟨by omega, by omega⟩
theorem byteV_fn : byteV = fun b => [V.i .u8 (b.toNat : Int)] := rfl
attribute [local simp] byteV_fn
theorem tabsT_len (n : Nat) : (tabsT n).length = n := by simp [tabsT]

theorem walk33nW (u : List UInt8) (z : Int) (hr : roomFor u.length 1) : QC prog 120 [.ptr 0 0 0 0, .s u] [.var 127 [.c (.pointer none), .c (.slice none 0 0), .i .i64 z]] (.tup [.i .i64 (u.length : Int), .c .nilIface]) [.var 127 [.ptr 0 0 0 0, .sl 1 0 0 (u.length), .i .i64 z], .row 5 0 ((u).map byteV)] := by
 refine QC.of_body tabOK func120 rfl (by kernel_rfl) ?_
 simp only [f120]
 refine SR ?_
 simp -implicitDefEqProofs
 refine SR ?_
 simp -implicitDefEqProofs
 refine callG_own [0] rfl (walk43nW (.c (.slice none 0 0)) (.i .i64 z) []) ?_ ?_ ?_ ?_ ?_ ?_
 ·simp
 ·simp
 ·simp
 ·simp
 ·simp
 simp -implicitDefEqProofs [keys, callUpd, List.range_succ]
 refine SR ?_
 simp -implicitDefEqProofs [hr]
 refine SR ?_
 simp -implicitDefEqProofs
 refine EV.ret ?_
 simp only [KR1, KR2, KR3, KR4]
 refine Fin.own1 1 (by simp) ?_ ?_
 ·simp
 simp [List.range_succ]

theorem walk33rW (ep : Nat) (l u : List UInt8) (z : Int) (hr : roomFor (l.length + u.length) 1) : QC prog 120 [.ptr 0 0 0 0, .s u] [.var 127 [.ptr 0 0 0 0, .sl 1 ep 0 (l.length), .i .i64 z], .row 5 ep ((l).map byteV)] (.tup [.i .i64 (u.length : Int), .c .nilIface]) [.var 127 [.ptr 0 0 0 0, .sl 1 (ep + 1) 0 (l.length + u.length), .i .i64 z], .row 5 (ep + 1) ((l ++ u).map byteV)] := by
 refine QC.of_body tabOK func120 rfl (by kernel_rfl) ?_
 simp only [f120]
 refine SR ?_
 simp -implicitDefEqProofs
 refine SR ?_
 simp -implicitDefEqProofs
 refine callG_own [0, 1] rfl (walk43uW (.sl 1 ep 0 l.length) (.i .i64 z) [.row 5 ep ((l).map byteV)]) ?_ ?_ ?_ ?_ ?_ ?_
 ·simp
 ·simp
 ·simp
 ·simp
 ·simp
 simp -implicitDefEqProofs [keys, callUpd, List.range_succ]
 refine SR ?_
 simp -implicitDefEqProofs [hr, take_len_map]
 refine SR ?_
 simp -implicitDefEqProofs
 refine EV.ret ?_
 simp only [KR1, KR2, KR3, KR4]
 refine Fin.plain ?_ ?_
 ·simp
 simp [List.range_succ]

theorem walk31rW (ep : Nat) (l : List UInt8) (z : Int) (hr : roomFor (l.length + 1) 1) : QC prog 122 [.ptr 0 0 0 0, .i .u8 10] [.var 127 [.ptr 0 0 0 0, .sl 1 ep 0 (l.length), .i .i64 z], .row 5 ep ((l).map byteV)] (.c .nilIface) [.var 127 [.ptr 0 0 0 0, .sl 1 (ep + 1) 0 (l.length + 1), .i .i64 z], .row 5 (ep + 1) ((l ++ [10]).map byteV)] := by
 refine QC.of_body tabOK func122 rfl (by kernel_rfl) ?_
 simp only [f122]
 refine SR ?_
 simp -implicitDefEqProofs
 refine SR ?_
 simp -implicitDefEqProofs
 refine callG_own [0, 1] rfl (walk43uW (.sl 1 ep 0 l.length) (.i .i64 z) [.row 5 ep ((l).map byteV)]) ?_ ?_ ?_ ?_ ?_ ?_
 ·simp
 ·simp
 ·simp
 ·simp
 ·simp
 simp -implicitDefEqProofs [keys, callUpd, List.range_succ]
 refine SR ?_
 simp -implicitDefEqProofs [hr, take_len_map]
 refine SR ?_
 simp -implicitDefEqProofs
 refine EV.ret ?_
 simp only [KR1, KR2, KR3, KR4]
 refine Fin.plain ?_ ?_
 ·simp
 simp [List.range_succ]

def lineT (n : Nat) (xs : List (List UInt8)) : List UInt8 := tabsT n ++ xs.flatten ++ [10]
theorem lineT_len (n : Nat) (xs : List (List UInt8)) : (lineT n xs).length = n + (xs.map List.length).sum + 1 := by
 simp only [lineT, List.length_append, tabsT_len, List.length_flatten, List.length_cons, List.length_nil]

def wl1r (pe : Nat) (pl : List UInt8) (pz : Nat) (px0 : List UInt8) : Unit :=
 ()
theorem w_wl1r (pe : Nat) (pl : List UInt8) (pz : Nat) (px0 : List UInt8) (hr : pl.length + pz + px0.length + 1 ≤ 140737488355328) : QC prog 70 [.ptr 0 0 0 0, .sl 2 0 0 1] [.var 127 [.ptr 0 0 0 0, .sl 1 pe 0 pl.length, .i .i64 (pz : Int)], .row 5 pe (pl.map byteV), .arr 0 1 [[.s px0]]] (.tup []) [.var 127 [.ptr 0 0 0 0, .sl 1 (pe + 3) 0 (pl ++ (lineT pz [px0])).length, .i .i64 (pz : Int)], .row 5 (pe + 3) ((pl ++ (lineT pz [px0])).map byteV), .arr 0 1 [[.s px0]]] := by
 refine QC.of_body tabOK func70 rfl (by kernel_rfl) ?_
 simp only [f70]
 generalize e : wl1r pe pl pz px0 = R
 unfold wl1r at e
 refine EV.seq ?_
 have := tabsT_len pz
 refine EV.drawG tabOK mixedOK ?_
 simp -implicitDefEqProofs
 refine callG_fun (w_rep pz (by omega)) ?_ ?_
 ·simp
 simp -implicitDefEqProofs
 refine callG_own [0, 1] rfl (walk33rW pe pl (tabsT pz) (pz : Int) (room_le (by first | omega | (simp; omega)) )) ?_ ?_ ?_ ?_ ?_ ?_
 ·simp [Nat.add_assoc]
 ·simp [Nat.add_assoc]
 ·simp [Nat.add_assoc]
 ·simp [Nat.add_assoc]
 ·simp [Nat.add_assoc]
 simp -implicitDefEqProofs [keys, callUpd, List.range_succ]
 refine And.intro ?_ ?_
 ·first | decide +kernel | (simp -implicitDefEqProofs; decide +kernel) | (split <;> decide +kernel)
 try simp -implicitDefEqProofs
 refine EV.seq (SR ?_)
 simp -implicitDefEqProofs
 refine EV.block ?_
 refine EV.rounds 2 ?_
 refine ER.succ ?_
 refine SR ?_
 simp -implicitDefEqProofs
 refine EV.seq ?_
 refine EV.condT ?_
 simp -implicitDefEqProofs
 refine EV.skip ?_
 simp only [KN1, KN2, KN3]
 refine EV.seq (EV.block (EV.seq ?_))
 have b1 : 0 ≤ 0 ∧ 0 < (1 : Int) := by (first | omega | (simp; omega))
 have c1 : 0 < 1 := by omega
 refine RG ?_
 simp -implicitDefEqProofs [b1, c1]
 refine RG ?_
 simp -implicitDefEqProofs [b1, c1]
 refine callG_own [0, 1] rfl (walk33rW (pe + 1) (pl ++ (tabsT pz)) px0 (pz : Int) (room_le (by first | omega | (simp; omega)) )) ?_ ?_ ?_ ?_ ?_ ?_
 ·simp [Nat.add_assoc]
 ·simp [Nat.add_assoc]
 ·simp [Nat.add_assoc]
 ·simp [Nat.add_assoc]
 ·simp [Nat.add_assoc]
 simp -implicitDefEqProofs [b1, c1, keys, callUpd, List.range_succ]
 refine RG ?_
 simp -implicitDefEqProofs [b1, c1]
 refine ER.succ ?_
 refine SR ?_
 simp -implicitDefEqProofs [b1, c1]
 refine EV.seq ?_
 refine EV.condT ?_
 simp -implicitDefEqProofs [b1, c1]
 refine EV.exit ?_
 simp -implicitDefEqProofs
 refine RG ?_
 simp -implicitDefEqProofs [b1, c1]
 refine callG_own [0, 1] rfl (walk31rW ((pe + 1) + 1) ((pl ++ (tabsT pz)) ++ px0) (pz : Int) (room_le (by first | omega | (simp; omega)) )) ?_ ?_ ?_ ?_ ?_ ?_
 ·simp [Nat.add_assoc]
 ·simp [Nat.add_assoc]
 ·simp [Nat.add_assoc]
 ·simp [Nat.add_assoc]
 ·simp [Nat.add_assoc]
 simp -implicitDefEqProofs [b1, c1, keys, callUpd, List.range_succ]
 try simp only [bodyK_normal]
 subst e
 refine Fin.plain ?_ ?_
 ·simp
 simp [List.range_succ, Nat.add_assoc, lineT]

def wl3r (pe : Nat) (pl : List UInt8) (pz : Nat) (px0 : List UInt8) (px1 : List UInt8) (px2 : List UInt8) : Unit :=
 ()
theorem w_wl3r (pe : Nat) (pl : List UInt8) (pz : Nat) (px0 : List UInt8) (px1 : List UInt8) (px2 : List UInt8) (hr : pl.length + pz + px0.length + px1.length + px2.length + 1 ≤ 140737488355328) : QC prog 70 [.ptr 0 0 0 0, .sl 2 0 0 3] [.var 127 [.ptr 0 0 0 0, .sl 1 pe 0 pl.length, .i .i64 (pz : Int)], .row 5 pe (pl.map byteV), .arr 0 1 [[.s px0], [.s px1], [.s px2]]] (.tup []) [.var 127 [.ptr 0 0 0 0, .sl 1 (pe + 5) 0 (pl ++ (lineT pz [px0, px1, px2])).length, .i .i64 (pz : Int)], .row 5 (pe + 5) ((pl ++ (lineT pz [px0, px1, px2])).map byteV), .arr 0 1 [[.s px0], [.s px1], [.s px2]]] := by
 refine QC.of_body tabOK func70 rfl (by kernel_rfl) ?_
 simp only [f70]
 generalize e : wl3r pe pl pz px0 px1 px2 = R
 unfold wl3r at e
 refine EV.seq ?_
 have := tabsT_len pz
 refine EV.drawG tabOK mixedOK ?_
 simp -implicitDefEqProofs
 refine callG_fun (w_rep pz (by omega)) ?_ ?_
 ·simp
 simp -implicitDefEqProofs
 refine callG_own [0, 1] rfl (walk33rW pe pl (tabsT pz) (pz : Int) (room_le (by first | omega | (simp; omega)) )) ?_ ?_ ?_ ?_ ?_ ?_
 ·simp [Nat.add_assoc]
 ·simp [Nat.add_assoc]
 ·simp [Nat.add_assoc]
 ·simp [Nat.add_assoc]
 ·simp [Nat.add_assoc]
 simp -implicitDefEqProofs [keys, callUpd, List.range_succ]
 refine And.intro ?_ ?_
 ·first | decide +kernel | (simp -implicitDefEqProofs; decide +kernel) | (split <;> decide +kernel)
 try simp -implicitDefEqProofs
 refine EV.seq (SR ?_)
 simp -implicitDefEqProofs
 refine EV.block ?_
 refine EV.rounds 4 ?_
 refine ER.succ ?_
 refine SR ?_
 simp -implicitDefEqProofs
 refine EV.seq ?_
 refine EV.condT ?_
 simp -implicitDefEqProofs
 refine EV.skip ?_
 simp only [KN1, KN2, KN3]
 refine EV.seq (EV.block (EV.seq ?_))
 have b1 : 0 ≤ 0 ∧ 0 < (3 : Int) := by (first | omega | (simp; omega))
 have c1 : 0 < 3 := by omega
 refine RG ?_
 simp -implicitDefEqProofs [b1, c1]
 refine RG ?_
 simp -implicitDefEqProofs [b1, c1]
 refine callG_own [0, 1] rfl (walk33rW (pe + 1) (pl ++ (tabsT pz)) px0 (pz : Int) (room_le (by first | omega | (simp; omega)) )) ?_ ?_ ?_ ?_ ?_ ?_
 ·simp [Nat.add_assoc]
 ·simp [Nat.add_assoc]
 ·simp [Nat.add_assoc]
 ·simp [Nat.add_assoc]
 ·simp [Nat.add_assoc]
 simp -implicitDefEqProofs [b1, c1, keys, callUpd, List.range_succ]
 refine RG ?_
 simp -implicitDefEqProofs [b1, c1]
 refine ER.succ ?_
 refine SR ?_
 simp -implicitDefEqProofs [b1, c1]
 refine EV.seq ?_
 refine EV.condT ?_
 simp -implicitDefEqProofs [b1, c1]
 refine EV.skip ?_
 simp only [KN1, KN2, KN3]
 refine EV.seq (EV.block (EV.seq ?_))
 have b2 : 0 ≤ 1 ∧ 1 < (3 : Int) := by (first | omega | (simp; omega))
 have c2 : 1 < 3 := by omega
 refine RG ?_
 simp -implicitDefEqProofs [b1, c1, b2, c2]
 refine RG ?_
 simp -implicitDefEqProofs [b1, c1, b2, c2]
 refine callG_own [0, 1] rfl (walk33rW ((pe + 1) + 1) ((pl ++ (tabsT pz)) ++ px0) px1 (pz : Int) (room_le (by first | omega | (simp; omega)) )) ?_ ?_ ?_ ?_ ?_ ?_
 ·simp [Nat.add_assoc]
 ·simp [Nat.add_assoc]
 ·simp [Nat.add_assoc]
 ·simp [Nat.add_assoc]
 ·simp [Nat.add_assoc]
 simp -implicitDefEqProofs [b1, c1, b2, c2, keys, callUpd, List.range_succ]
 refine RG ?_
 simp -implicitDefEqProofs [b1, c1, b2, c2]
 refine ER.succ ?_
 refine SR ?_
 simp -implicitDefEqProofs [b1, c1, b2, c2]
 refine EV.seq ?_
 refine EV.condT ?_
 simp -implicitDefEqProofs [b1, c1, b2, c2]
 refine EV.skip ?_
 simp only [KN1, KN2, KN3]
 refine EV.seq (EV.block (EV.seq ?_))
 have b3 : 0 ≤ 2 ∧ 2 < (3 : Int) := by (first | omega | (simp; omega))
 have c3 : 2 < 3 := by omega
 refine RG ?_
 simp -implicitDefEqProofs [b1, c1, b2, c2, b3, c3]
 refine RG ?_
 simp -implicitDefEqProofs [b1, c1, b2, c2, b3, c3]
 refine callG_own [0, 1] rfl (walk33rW (((pe + 1) + 1) + 1) (((pl ++ (tabsT pz)) ++ px0) ++ px1) px2 (pz : Int) (room_le (by first | omega | (simp; omega)) )) ?_ ?_ ?_ ?_ ?_ ?_
 ·simp [Nat.add_assoc]
 ·simp [Nat.add_assoc]
 ·simp [Nat.add_assoc]
 ·simp [Nat.add_assoc]
 ·simp [Nat.add_assoc]
 simp -implicitDefEqProofs [b1, c1, b2, c2, b3, c3, keys, callUpd, List.range_succ]
 refine RG ?_
 simp -implicitDefEqProofs [b1, c1, b2, c2, b3, c3]
 refine ER.succ ?_
 refine SR ?_
 simp -implicitDefEqProofs [b1, c1, b2, c2, b3, c3]
 refine EV.seq ?_
 refine EV.condT ?_
 simp -implicitDefEqProofs [b1, c1, b2, c2, b3, c3]
 refine EV.exit ?_
 simp -implicitDefEqProofs
 refine RG ?_
 simp -implicitDefEqProofs [b1, c1, b2, c2, b3, c3]
 refine callG_own [0, 1] rfl (walk31rW ((((pe + 1) + 1) + 1) + 1) ((((pl ++ (tabsT pz)) ++ px0) ++ px1) ++ px2) (pz : Int) (room_le (by first | omega | (simp; omega)) )) ?_ ?_ ?_ ?_ ?_ ?_
 ·simp [Nat.add_assoc]
 ·simp [Nat.add_assoc]
 ·simp [Nat.add_assoc]
 ·simp [Nat.add_assoc]
 ·simp [Nat.add_assoc]
 simp -implicitDefEqProofs [b1, c1, b2, c2, b3, c3, keys, callUpd, List.range_succ]
 try simp only [bodyK_normal]
 subst e
 refine Fin.plain ?_ ?_
 ·simp
 simp [List.range_succ, Nat.add_assoc, lineT]

def wl4r (pe : Nat) (pl : List UInt8) (pz : Nat) (px0 : List UInt8) (px1 : List UInt8) (px2 : List UInt8) (px3 : List UInt8) : Unit :=
 ()
theorem w_wl4r (pe : Nat) (pl : List UInt8) (pz : Nat) (px0 : List UInt8) (px1 : List UInt8) (px2 : List UInt8) (px3 : List UInt8) (hr : pl.length + pz + px0.length + px1.length + px2.length + px3.length + 1 ≤ 140737488355328) : QC prog 70 [.ptr 0 0 0 0, .sl 2 0 0 4] [.var 127 [.ptr 0 0 0 0, .sl 1 pe 0 pl.length, .i .i64 (pz : Int)], .row 5 pe (pl.map byteV), .arr 0 1 [[.s px0], [.s px1], [.s px2], [.s px3]]] (.tup []) [.var 127 [.ptr 0 0 0 0, .sl 1 (pe + 6) 0 (pl ++ (lineT pz [px0, px1, px2, px3])).length, .i .i64 (pz : Int)], .row 5 (pe + 6) ((pl ++ (lineT pz [px0, px1, px2, px3])).map byteV), .arr 0 1 [[.s px0], [.s px1], [.s px2], [.s px3]]] := by
 refine QC.of_body tabOK func70 rfl (by kernel_rfl) ?_
 simp only [f70]
 generalize e : wl4r pe pl pz px0 px1 px2 px3 = R
 unfold wl4r at e
 refine EV.seq ?_
 have := tabsT_len pz
 refine EV.drawG tabOK mixedOK ?_
 simp -implicitDefEqProofs
 refine callG_fun (w_rep pz (by omega)) ?_ ?_
 ·simp
 simp -implicitDefEqProofs
 refine callG_own [0, 1] rfl (walk33rW pe pl (tabsT pz) (pz : Int) (room_le (by first | omega | (simp; omega)) )) ?_ ?_ ?_ ?_ ?_ ?_
 ·simp [Nat.add_assoc]
 ·simp [Nat.add_assoc]
 ·simp [Nat.add_assoc]
 ·simp [Nat.add_assoc]
 ·simp [Nat.add_assoc]
 simp -implicitDefEqProofs [keys, callUpd, List.range_succ]
 refine And.intro ?_ ?_
 ·first | decide +kernel | (simp -implicitDefEqProofs; decide +kernel) | (split <;> decide +kernel)
 try simp -implicitDefEqProofs
 refine EV.seq (SR ?_)
 simp -implicitDefEqProofs
 refine EV.block ?_
 refine EV.rounds 5 ?_
 refine ER.succ ?_
 refine SR ?_
 simp -implicitDefEqProofs
 refine EV.seq ?_
 refine EV.condT ?_
 simp -implicitDefEqProofs
 refine EV.skip ?_
 simp only [KN1, KN2, KN3]
 refine EV.seq (EV.block (EV.seq ?_))
 have b1 : 0 ≤ 0 ∧ 0 < (4 : Int) := by (first | omega | (simp; omega))
 have c1 : 0 < 4 := by omega
 refine RG ?_
 simp -implicitDefEqProofs [b1, c1]
 refine RG ?_
 simp -implicitDefEqProofs [b1, c1]
 refine callG_own [0, 1] rfl (walk33rW (pe + 1) (pl ++ (tabsT pz)) px0 (pz : Int) (room_le (by first | omega | (simp; omega)) )) ?_ ?_ ?_ ?_ ?_ ?_
 ·simp [Nat.add_assoc]
 ·simp [Nat.add_assoc]
 ·simp [Nat.add_assoc]
 ·simp [Nat.add_assoc]
 ·simp [Nat.add_assoc]
 simp -implicitDefEqProofs [b1, c1, keys, callUpd, List.range_succ]
 refine RG ?_
 simp -implicitDefEqProofs [b1, c1]
 refine ER.succ ?_
 refine SR ?_
 simp -implicitDefEqProofs [b1, c1]
 refine EV.seq ?_
 refine EV.condT ?_
 simp -implicitDefEqProofs [b1, c1]
 refine EV.skip ?_
 simp only [KN1, KN2, KN3]
 refine EV.seq (EV.block (EV.seq ?_))
 have b2 : 0 ≤ 1 ∧ 1 < (4 : Int) := by (first | omega | (simp; omega))
 have c2 : 1 < 4 := by omega
 refine RG ?_
 simp -implicitDefEqProofs [b1, c1, b2, c2]
 refine RG ?_
 simp -implicitDefEqProofs [b1, c1, b2, c2]
 refine callG_own [0, 1] rfl (walk33rW ((pe + 1) + 1) ((pl ++ (tabsT pz)) ++ px0) px1 (pz : Int) (room_le (by first | omega | (simp; omega)) )) ?_ ?_ ?_ ?_ ?_ ?_
 ·simp [Nat.add_assoc]
 ·simp [Nat.add_assoc]
 ·simp [Nat.add_assoc]
 ·simp [Nat.add_assoc]
 ·simp [Nat.add_assoc]
 simp -implicitDefEqProofs [b1, c1, b2, c2, keys, callUpd, List.range_succ]
 refine RG ?_
 simp -implicitDefEqProofs [b1, c1, b2, c2]
 refine ER.succ ?_
 refine SR ?_
 simp -implicitDefEqProofs [b1, c1, b2, c2]
 refine EV.seq ?_
 refine EV.condT ?_
 simp -implicitDefEqProofs [b1, c1, b2, c2]
 refine EV.skip ?_
 simp only [KN1, KN2, KN3]
 refine EV.seq (EV.block (EV.seq ?_))
 have b3 : 0 ≤ 2 ∧ 2 < (4 : Int) := by (first | omega | (simp; omega))
 have c3 : 2 < 4 := by omega
 refine RG ?_
 simp -implicitDefEqProofs [b1, c1, b2, c2, b3, c3]
 refine RG ?_
 simp -implicitDefEqProofs [b1, c1, b2, c2, b3, c3]
 refine callG_own [0, 1] rfl (walk33rW (((pe + 1) + 1) + 1) (((pl ++ (tabsT pz)) ++ px0) ++ px1) px2 (pz : Int) (room_le (by first | omega | (simp; omega)) )) ?_ ?_ ?_ ?_ ?_ ?_
 ·simp [Nat.add_assoc]
 ·simp [Nat.add_assoc]
 ·simp [Nat.add_assoc]
 ·simp [Nat.add_assoc]
 ·simp [Nat.add_assoc]
 simp -implicitDefEqProofs [b1, c1, b2, c2, b3, c3, keys, callUpd, List.range_succ]
 refine RG ?_
 simp -implicitDefEqProofs [b1, c1, b2, c2, b3, c3]
 refine ER.succ ?_
 refine SR ?_
 simp -implicitDefEqProofs [b1, c1, b2, c2, b3, c3]
 refine EV.seq ?_
 refine EV.condT ?_
 simp -implicitDefEqProofs [b1, c1, b2, c2, b3, c3]
 refine EV.skip ?_
 simp only [KN1, KN2, KN3]
 refine EV.seq (EV.block (EV.seq ?_))
 have b4 : 0 ≤ 3 ∧ 3 < (4 : Int) := by (first | omega | (simp; omega))
 have c4 : 3 < 4 := by omega
 refine RG ?_
 simp -implicitDefEqProofs [b1, c1, b2, c2, b3, c3, b4, c4]
 refine RG ?_
 simp -implicitDefEqProofs [b1, c1, b2, c2, b3, c3, b4, c4]
 refine callG_own [0, 1] rfl (walk33rW ((((pe + 1) + 1) + 1) + 1) ((((pl ++ (tabsT pz)) ++ px0) ++ px1) ++ px2) px3 (pz : Int) (room_le (by first | omega | (simp; omega)) )) ?_ ?_ ?_ ?_ ?_ ?_
 ·simp [Nat.add_assoc]
 ·simp [Nat.add_assoc]
 ·simp [Nat.add_assoc]
 ·simp [Nat.add_assoc]
 ·simp [Nat.add_assoc]
 simp -implicitDefEqProofs [b1, c1, b2, c2, b3, c3, b4, c4, keys, callUpd, List.range_succ]
 refine RG ?_
 simp -implicitDefEqProofs [b1, c1, b2, c2, b3, c3, b4, c4]
 refine ER.succ ?_
 refine SR ?_
 simp -implicitDefEqProofs [b1, c1, b2, c2, b3, c3, b4, c4]
 refine EV.seq ?_
 refine EV.condT ?_
 simp -implicitDefEqProofs [b1, c1, b2, c2, b3, c3, b4, c4]
 refine EV.exit ?_
 simp -implicitDefEqProofs
 refine RG ?_
 simp -implicitDefEqProofs [b1, c1, b2, c2, b3, c3, b4, c4]
 refine callG_own [0, 1] rfl (walk31rW (((((pe + 1) + 1) + 1) + 1) + 1) (((((pl ++ (tabsT pz)) ++ px0) ++ px1) ++ px2) ++ px3) (pz : Int) (room_le (by first | omega | (simp; omega)) )) ?_ ?_ ?_ ?_ ?_ ?_
 ·simp [Nat.add_assoc]
 ·simp [Nat.add_assoc]
 ·simp [Nat.add_assoc]
 ·simp [Nat.add_assoc]
 ·simp [Nat.add_assoc]
 simp -implicitDefEqProofs [b1, c1, b2, c2, b3, c3, b4, c4, keys, callUpd, List.range_succ]
 try simp only [bodyK_normal]
 subst e
 refine Fin.plain ?_ ?_
 ·simp
 simp [List.range_succ, Nat.add_assoc, lineT]

def wl5r (pe : Nat) (pl : List UInt8) (pz : Nat) (px0 : List UInt8) (px1 : List UInt8) (px2 : List UInt8) (px3 : List UInt8) (px4 : List UInt8) : Unit :=
 ()
theorem w_wl5r (pe : Nat) (pl : List UInt8) (pz : Nat) (px0 : List UInt8) (px1 : List UInt8) (px2 : List UInt8) (px3 : List UInt8) (px4 : List UInt8) (hr : pl.length + pz + px0.length + px1.length + px2.length + px3.length + px4.length + 1 ≤ 140737488355328) : QC prog 70 [.ptr 0 0 0 0, .sl 2 0 0 5] [.var 127 [.ptr 0 0 0 0, .sl 1 pe 0 pl.length, .i .i64 (pz : Int)], .row 5 pe (pl.map byteV), .arr 0 1 [[.s px0], [.s px1], [.s px2], [.s px3], [.s px4]]] (.tup []) [.var 127 [.ptr 0 0 0 0, .sl 1 (pe + 7) 0 (pl ++ (lineT pz [px0, px1, px2, px3, px4])).length, .i .i64 (pz : Int)], .row 5 (pe + 7) ((pl ++ (lineT pz [px0, px1, px2, px3, px4])).map byteV), .arr 0 1 [[.s px0], [.s px1], [.s px2], [.s px3], [.s px4]]] := by
 refine QC.of_body tabOK func70 rfl (by kernel_rfl) ?_
 simp only [f70]
 generalize e : wl5r pe pl pz px0 px1 px2 px3 px4 = R
 unfold wl5r at e
 refine EV.seq ?_
 have := tabsT_len pz
 refine EV.drawG tabOK mixedOK ?_
 simp -implicitDefEqProofs
 refine callG_fun (w_rep pz (by omega)) ?_ ?_
 ·simp
 simp -implicitDefEqProofs
 refine callG_own [0, 1] rfl (walk33rW pe pl (tabsT pz) (pz : Int) (room_le (by first | omega | (simp; omega)) )) ?_ ?_ ?_ ?_ ?_ ?_
 ·simp [Nat.add_assoc]
 ·simp [Nat.add_assoc]
 ·simp [Nat.add_assoc]
 ·simp [Nat.add_assoc]
 ·simp [Nat.add_assoc]
 simp -implicitDefEqProofs [keys, callUpd, List.range_succ]
 refine And.intro ?_ ?_
 ·first | decide +kernel | (simp -implicitDefEqProofs; decide +kernel) | (split <;> decide +kernel)
 try simp -implicitDefEqProofs
 refine EV.seq (SR ?_)
 simp -implicitDefEqProofs
 refine EV.block ?_
 refine EV.rounds 6 ?_
 refine ER.succ ?_
 refine SR ?_
 simp -implicitDefEqProofs
 refine EV.seq ?_
 refine EV.condT ?_
 simp -implicitDefEqProofs
 refine EV.skip ?_
 simp only [KN1, KN2, KN3]
 refine EV.seq (EV.block (EV.seq ?_))
 have b1 : 0 ≤ 0 ∧ 0 < (5 : Int) := by (first | omega | (simp; omega))
 have c1 : 0 < 5 := by omega
 refine RG ?_
 simp -implicitDefEqProofs [b1, c1]
 refine RG ?_
 simp -implicitDefEqProofs [b1, c1]
 refine callG_own [0, 1] rfl (walk33rW (pe + 1) (pl ++ (tabsT pz)) px0 (pz : Int) (room_le (by first | omega | (simp; omega)) )) ?_ ?_ ?_ ?_ ?_ ?_
 ·simp [Nat.add_assoc]
 ·simp [Nat.add_assoc]
 ·simp [Nat.add_assoc]
 ·simp [Nat.add_assoc]
 ·simp [Nat.add_assoc]
 simp -implicitDefEqProofs [b1, c1, keys, callUpd, List.range_succ]
 refine RG ?_
 simp -implicitDefEqProofs [b1, c1]
 refine ER.succ ?_
 refine SR ?_
 simp -implicitDefEqProofs [b1, c1]
 refine EV.seq ?_
 refine EV.condT ?_
 simp -implicitDefEqProofs [b1, c1]
 refine EV.skip ?_
 simp only [KN1, KN2, KN3]
 refine EV.seq (EV.block (EV.seq ?_))
 have b2 : 0 ≤ 1 ∧ 1 < (5 : Int) := by (first | omega | (simp; omega))
 have c2 : 1 < 5 := by omega
 refine RG ?_
 simp -implicitDefEqProofs [b1, c1, b2, c2]
 refine RG ?_
 simp -implicitDefEqProofs [b1, c1, b2, c2]
 refine callG_own [0, 1] rfl (walk33rW ((pe + 1) + 1) ((pl ++ (tabsT pz)) ++ px0) px1 (pz : Int) (room_le (by first | omega | (simp; omega)) )) ?_ ?_ ?_ ?_ ?_ ?_
 ·simp [Nat.add_assoc]
 ·simp [Nat.add_assoc]
 ·simp [Nat.add_assoc]
 ·simp [Nat.add_assoc]
 ·simp [Nat.add_assoc]
 simp -implicitDefEqProofs [b1, c1, b2, c2, keys, callUpd, List.range_succ]
 refine RG ?_
 simp -implicitDefEqProofs [b1, c1, b2, c2]
 refine ER.succ ?_
 refine SR ?_
 simp -implicitDefEqProofs [b1, c1, b2, c2]
 refine EV.seq ?_
 refine EV.condT ?_
 simp -implicitDefEqProofs [b1, c1, b2, c2]
 refine EV.skip ?_
 simp only [KN1, KN2, KN3]
 refine EV.seq (EV.block (EV.seq ?_))
 have b3 : 0 ≤ 2 ∧ 2 < (5 : Int) := by (first | omega | (simp; omega))
 have c3 : 2 < 5 := by omega
 refine RG ?_
 simp -implicitDefEqProofs [b1, c1, b2, c2, b3, c3]
 refine RG ?_
 simp -implicitDefEqProofs [b1, c1, b2, c2, b3, c3]
 refine callG_own [0, 1] rfl (walk33rW (((pe + 1) + 1) + 1) (((pl ++ (tabsT pz)) ++ px0) ++ px1) px2 (pz : Int) (room_le (by first | omega | (simp; omega)) )) ?_ ?_ ?_ ?_ ?_ ?_
 ·simp [Nat.add_assoc]
 ·simp [Nat.add_assoc]
 ·simp [Nat.add_assoc]
 ·simp [Nat.add_assoc]
 ·simp [Nat.add_assoc]
 simp -implicitDefEqProofs [b1, c1, b2, c2, b3, c3, keys, callUpd, List.range_succ]
 refine RG ?_
 simp -implicitDefEqProofs [b1, c1, b2, c2, b3, c3]
 refine ER.succ ?_
 refine SR ?_
 simp -implicitDefEqProofs [b1, c1, b2, c2, b3, c3]
 refine EV.seq ?_
 refine EV.condT ?_
 simp -implicitDefEqProofs [b1, c1, b2, c2, b3, c3]
 refine EV.skip ?_
 simp only [KN1, KN2, KN3]
 refine EV.seq (EV.block (EV.seq ?_))
 have b4 : 0 ≤ 3 ∧ 3 < (5 : Int) := by (first | omega | (simp; omega))
 have c4 : 3 < 5 := by omega
 refine RG ?_
 simp -implicitDefEqProofs [b1, c1, b2, c2, b3, c3, b4, c4]
 refine RG ?_
 simp -implicitDefEqProofs [b1, c1, b2, c2, b3, c3, b4, c4]
 refine callG_own [0, 1] rfl (walk33rW ((((pe + 1) + 1) + 1) + 1) ((((pl ++ (tabsT pz)) ++ px0) ++ px1) ++ px2) px3 (pz : Int) (room_le (by first | omega | (simp; omega)) )) ?_ ?_ ?_ ?_ ?_ ?_
 ·simp [Nat.add_assoc]
 ·simp [Nat.add_assoc]
 ·simp [Nat.add_assoc]
 ·simp [Nat.add_assoc]
 ·simp [Nat.add_assoc]
 simp -implicitDefEqProofs [b1, c1, b2, c2, b3, c3, b4, c4, keys, callUpd, List.range_succ]
 refine RG ?_
 simp -implicitDefEqProofs [b1, c1, b2, c2, b3, c3, b4, c4]
 refine ER.succ ?_
 refine SR ?_
 simp -implicitDefEqProofs [b1, c1, b2, c2, b3, c3, b4, c4]
 refine EV.seq ?_
 refine EV.condT ?_
 simp -implicitDefEqProofs [b1, c1, b2, c2, b3, c3, b4, c4]
 refine EV.skip ?_
 simp only [KN1, KN2, KN3]
 refine EV.seq (EV.block (EV.seq ?_))
 have b5 : 0 ≤ 4 ∧ 4 < (5 : Int) := by (first | omega | (simp; omega))
 have c5 : 4 < 5 := by omega
 refine RG ?_
 simp -implicitDefEqProofs [b1, c1, b2, c2, b3, c3, b4, c4, b5, c5]
 refine RG ?_
 simp -implicitDefEqProofs [b1, c1, b2, c2, b3, c3, b4, c4, b5, c5]
 refine callG_own [0, 1] rfl (walk33rW (((((pe + 1) + 1) + 1) + 1) + 1) (((((pl ++ (tabsT pz)) ++ px0) ++ px1) ++ px2) ++ px3) px4 (pz : Int) (room_le (by first | omega | (simp; omega)) )) ?_ ?_ ?_ ?_ ?_ ?_
 ·simp [Nat.add_assoc]
 ·simp [Nat.add_assoc]
 ·simp [Nat.add_assoc]
 ·simp [Nat.add_assoc]
 ·simp [Nat.add_assoc]
 simp -implicitDefEqProofs [b1, c1, b2, c2, b3, c3, b4, c4, b5, c5, keys, callUpd, List.range_succ]
 refine RG ?_
 simp -implicitDefEqProofs [b1, c1, b2, c2, b3, c3, b4, c4, b5, c5]
 refine ER.succ ?_
 refine SR ?_
 simp -implicitDefEqProofs [b1, c1, b2, c2, b3, c3, b4, c4, b5, c5]
 refine EV.seq ?_
 refine EV.condT ?_
 simp -implicitDefEqProofs [b1, c1, b2, c2, b3, c3, b4, c4, b5, c5]
 refine EV.exit ?_
 simp -implicitDefEqProofs
 refine RG ?_
 simp -implicitDefEqProofs [b1, c1, b2, c2, b3, c3, b4, c4, b5, c5]
 refine callG_own [0, 1] rfl (walk31rW ((((((pe + 1) + 1) + 1) + 1) + 1) + 1) ((((((pl ++ (tabsT pz)) ++ px0) ++ px1) ++ px2) ++ px3) ++ px4) (pz : Int) (room_le (by first | omega | (simp; omega)) )) ?_ ?_ ?_ ?_ ?_ ?_
 ·simp [Nat.add_assoc]
 ·simp [Nat.add_assoc]
 ·simp [Nat.add_assoc]
 ·simp [Nat.add_assoc]
 ·simp [Nat.add_assoc]
 simp -implicitDefEqProofs [b1, c1, b2, c2, b3, c3, b4, c4, b5, c5, keys, callUpd, List.range_succ]
 try simp only [bodyK_normal]
 subst e
 refine Fin.plain ?_ ?_
 ·simp
 simp [List.range_succ, Nat.add_assoc, lineT]

def wl7r (pe : Nat) (pl : List UInt8) (pz : Nat) (px0 : List UInt8) (px1 : List UInt8) (px2 : List UInt8) (px3 : List UInt8) (px4 : List UInt8) (px5 : List UInt8) (px6 : List UInt8) : Unit :=
 ()
theorem w_wl7r (pe : Nat) (pl : List UInt8) (pz : Nat) (px0 : List UInt8) (px1 : List UInt8) (px2 : List UInt8) (px3 : List UInt8) (px4 : List UInt8) (px5 : List UInt8) (px6 : List UInt8) (hr : pl.length + pz + px0.length + px1.length + px2.length + px3.length + px4.length + px5.length + px6.length + 1 ≤ 140737488355328) : QC prog 70 [.ptr 0 0 0 0, .sl 2 0 0 7] [.var 127 [.ptr 0 0 0 0, .sl 1 pe 0 pl.length, .i .i64 (pz : Int)], .row 5 pe (pl.map byteV), .arr 0 1 [[.s px0], [.s px1], [.s px2], [.s px3], [.s px4], [.s px5], [.s px6]]] (.tup []) [.var 127 [.ptr 0 0 0 0, .sl 1 (pe + 9) 0 (pl ++ (lineT pz [px0, px1, px2, px3, px4, px5, px6])).length, .i .i64 (pz : Int)], .row 5 (pe + 9) ((pl ++ (lineT pz [px0, px1, px2, px3, px4, px5, px6])).map byteV), .arr 0 1 [[.s px0], [.s px1], [.s px2], [.s px3], [.s px4], [.s px5], [.s px6]]] := by
 refine QC.of_body tabOK func70 rfl (by kernel_rfl) ?_
 simp only [f70]
 generalize e : wl7r pe pl pz px0 px1 px2 px3 px4 px5 px6 = R
 unfold wl7r at e
 refine EV.seq ?_
 have := tabsT_len pz
 refine EV.drawG tabOK mixedOK ?_
 simp -implicitDefEqProofs
 refine callG_fun (w_rep pz (by omega)) ?_ ?_
 ·simp
 simp -implicitDefEqProofs
 refine callG_own [0, 1] rfl (walk33rW pe pl (tabsT pz) (pz : Int) (room_le (by first | omega | (simp; omega)) )) ?_ ?_ ?_ ?_ ?_ ?_
 ·simp [Nat.add_assoc]
 ·simp [Nat.add_assoc]
 ·simp [Nat.add_assoc]
 ·simp [Nat.add_assoc]
 ·simp [Nat.add_assoc]
 simp -implicitDefEqProofs [keys, callUpd, List.range_succ]
 refine And.intro ?_ ?_
 ·first | decide +kernel | (simp -implicitDefEqProofs; decide +kernel) | (split <;> decide +kernel)
 try simp -implicitDefEqProofs
 refine EV.seq (SR ?_)
 simp -implicitDefEqProofs
 refine EV.block ?_
 refine EV.rounds 8 ?_
 refine ER.succ ?_
 refine SR ?_
 simp -implicitDefEqProofs
 refine EV.seq ?_
 refine EV.condT ?_
 simp -implicitDefEqProofs
 refine EV.skip ?_
 simp only [KN1, KN2, KN3]
 refine EV.seq (EV.block (EV.seq ?_))
 have b1 : 0 ≤ 0 ∧ 0 < (7 : Int) := by (first | omega | (simp; omega))
 have c1 : 0 < 7 := by omega
 refine RG ?_
 simp -implicitDefEqProofs [b1, c1]
 refine RG ?_
 simp -implicitDefEqProofs [b1, c1]
 refine callG_own [0, 1] rfl (walk33rW (pe + 1) (pl ++ (tabsT pz)) px0 (pz : Int) (room_le (by first | omega | (simp; omega)) )) ?_ ?_ ?_ ?_ ?_ ?_
 ·simp [Nat.add_assoc]
 ·simp [Nat.add_assoc]
 ·simp [Nat.add_assoc]
 ·simp [Nat.add_assoc]
 ·simp [Nat.add_assoc]
 simp -implicitDefEqProofs [b1, c1, keys, callUpd, List.range_succ]
 refine RG ?_
 simp -implicitDefEqProofs [b1, c1]
 refine ER.succ ?_
 refine SR ?_
 simp -implicitDefEqProofs [b1, c1]
 refine EV.seq ?_
 refine EV.condT ?_
 simp -implicitDefEqProofs [b1, c1]
 refine EV.skip ?_
 simp only [KN1, KN2, KN3]
 refine EV.seq (EV.block (EV.seq ?_))
 have b2 : 0 ≤ 1 ∧ 1 < (7 : Int) := by (first | omega | (simp; omega))
 have c2 : 1 < 7 := by omega
 refine RG ?_
 simp -implicitDefEqProofs [b1, c1, b2, c2]
 refine RG ?_
 simp -implicitDefEqProofs [b1, c1, b2, c2]
 refine callG_own [0, 1] rfl (walk33rW ((pe + 1) + 1) ((pl ++ (tabsT pz)) ++ px0) px1 (pz : Int) (room_le (by first | omega | (simp; omega)) )) ?_ ?_ ?_ ?_ ?_ ?_
 ·simp [Nat.add_assoc]
 ·simp [Nat.add_assoc]
 ·simp [Nat.add_assoc]
 ·simp [Nat.add_assoc]
 ·simp [Nat.add_assoc]
 simp -implicitDefEqProofs [b1, c1, b2, c2, keys, callUpd, List.range_succ]
 refine RG ?_
 simp -implicitDefEqProofs [b1, c1, b2, c2]
 refine ER.succ ?_
 refine SR ?_
 simp -implicitDefEqProofs [b1, c1, b2, c2]
 refine EV.seq ?_
 refine EV.condT ?_
 simp -implicitDefEqProofs [b1, c1, b2, c2]
 refine EV.skip ?_
 simp only [KN1, KN2, KN3]
 refine EV.seq (EV.block (EV.seq ?_))
 have b3 : 0 ≤ 2 ∧ 2 < (7 : Int) := by (first | omega | (simp; omega))
 have c3 : 2 < 7 := by omega
 refine RG ?_
 simp -implicitDefEqProofs [b1, c1, b2, c2, b3, c3]
 refine RG ?_
 simp -implicitDefEqProofs [b1, c1, b2, c2, b3, c3]
 refine callG_own [0, 1] rfl (walk33rW (((pe + 1) + 1) + 1) (((pl ++ (tabsT pz)) ++ px0) ++ px1) px2 (pz : Int) (room_le (by first | omega | (simp; omega)) )) ?_ ?_ ?_ ?_ ?_ ?_
 ·simp [Nat.add_assoc]
 ·simp [Nat.add_assoc]
 ·simp [Nat.add_assoc]
 ·simp [Nat.add_assoc]
 ·simp [Nat.add_assoc]
 simp -implicitDefEqProofs [b1, c1, b2, c2, b3, c3, keys, callUpd, List.range_succ]
 refine RG ?_
 simp -implicitDefEqProofs [b1, c1, b2, c2, b3, c3]
 refine ER.succ ?_
 refine SR ?_
 simp -implicitDefEqProofs [b1, c1, b2, c2, b3, c3]
 refine EV.seq ?_
 refine EV.condT ?_
 simp -implicitDefEqProofs [b1, c1, b2, c2, b3, c3]
 refine EV.skip ?_
 simp only [KN1, KN2, KN3]
 refine EV.seq (EV.block (EV.seq ?_))
 have b4 : 0 ≤ 3 ∧ 3 < (7 : Int) := by (first | omega | (simp; omega))
 have c4 : 3 < 7 := by omega
 refine RG ?_
 simp -implicitDefEqProofs [b1, c1, b2, c2, b3, c3, b4, c4]
 refine RG ?_
 simp -implicitDefEqProofs [b1, c1, b2, c2, b3, c3, b4, c4]
 refine callG_own [0, 1] rfl (walk33rW ((((pe + 1) + 1) + 1) + 1) ((((pl ++ (tabsT pz)) ++ px0) ++ px1) ++ px2) px3 (pz : Int) (room_le (by first | omega | (simp; omega)) )) ?_ ?_ ?_ ?_ ?_ ?_
 ·simp [Nat.add_assoc]
 ·simp [Nat.add_assoc]
 ·simp [Nat.add_assoc]
 ·simp [Nat.add_assoc]
 ·simp [Nat.add_assoc]
 simp -implicitDefEqProofs [b1, c1, b2, c2, b3, c3, b4, c4, keys, callUpd, List.range_succ]
 refine RG ?_
 simp -implicitDefEqProofs [b1, c1, b2, c2, b3, c3, b4, c4]
 refine ER.succ ?_
 refine SR ?_
 simp -implicitDefEqProofs [b1, c1, b2, c2, b3, c3, b4, c4]
 refine EV.seq ?_
 refine EV.condT ?_
 simp -implicitDefEqProofs [b1, c1, b2, c2, b3, c3, b4, c4]
 refine EV.skip ?_
 simp only [KN1, KN2, KN3]
 refine EV.seq (EV.block (EV.seq ?_))
 have b5 : 0 ≤ 4 ∧ 4 < (7 : Int) := by (first | omega | (simp; omega))
 have c5 : 4 < 7 := by omega
 refine RG ?_
 simp -implicitDefEqProofs [b1, c1, b2, c2, b3, c3, b4, c4, b5, c5]
 refine RG ?_
 simp -implicitDefEqProofs [b1, c1, b2, c2, b3, c3, b4, c4, b5, c5]
 refine callG_own [0, 1] rfl (walk33rW (((((pe + 1) + 1) + 1) + 1) + 1) (((((pl ++ (tabsT pz)) ++ px0) ++ px1) ++ px2) ++ px3) px4 (pz : Int) (room_le (by first | omega | (simp; omega)) )) ?_ ?_ ?_ ?_ ?_ ?_
 ·simp [Nat.add_assoc]
 ·simp [Nat.add_assoc]
 ·simp [Nat.add_assoc]
 ·simp [Nat.add_assoc]
 ·simp [Nat.add_assoc]
 simp -implicitDefEqProofs [b1, c1, b2, c2, b3, c3, b4, c4, b5, c5, keys, callUpd, List.range_succ]
 refine RG ?_
 simp -implicitDefEqProofs [b1, c1, b2, c2, b3, c3, b4, c4, b5, c5]
 refine ER.succ ?_
 refine SR ?_
 simp -implicitDefEqProofs [b1, c1, b2, c2, b3, c3, b4, c4, b5, c5]
 refine EV.seq ?_
 refine EV.condT ?_
 simp -implicitDefEqProofs [b1, c1, b2, c2, b3, c3, b4, c4, b5, c5]
 refine EV.skip ?_
 simp only [KN1, KN2, KN3]
 refine EV.seq (EV.block (EV.seq ?_))
 have b6 : 0 ≤ 5 ∧ 5 < (7 : Int) := by (first | omega | (simp; omega))
 have c6 : 5 < 7 := by omega
 refine RG ?_
 simp -implicitDefEqProofs [b1, c1, b2, c2, b3, c3, b4, c4, b5, c5, b6, c6]
 refine RG ?_
 simp -implicitDefEqProofs [b1, c1, b2, c2, b3, c3, b4, c4, b5, c5, b6, c6]
 refine callG_own [0, 1] rfl (walk33rW ((((((pe + 1) + 1) + 1) + 1) + 1) + 1) ((((((pl ++ (tabsT pz)) ++ px0) ++ px1) ++ px2) ++ px3) ++ px4) px5 (pz : Int) (room_le (by first | omega | (simp; omega)) )) ?_ ?_ ?_ ?_ ?_ ?_
 ·simp [Nat.add_assoc]
 ·simp [Nat.add_assoc]
 ·simp [Nat.add_assoc]
 ·simp [Nat.add_assoc]
 ·simp [Nat.add_assoc]
 simp -implicitDefEqProofs [b1, c1, b2, c2, b3, c3, b4, c4, b5, c5, b6, c6, keys, callUpd, List.range_succ]
 refine RG ?_
 simp -implicitDefEqProofs [b1, c1, b2, c2, b3, c3, b4, c4, b5, c5, b6, c6]
 refine ER.succ ?_
 refine SR ?_
 simp -implicitDefEqProofs [b1, c1, b2, c2, b3, c3, b4, c4, b5, c5, b6, c6]
 refine EV.seq ?_
 refine EV.condT ?_
 simp -implicitDefEqProofs [b1, c1, b2, c2, b3, c3, b4, c4, b5, c5, b6, c6]
 refine EV.skip ?_
 simp only [KN1, KN2, KN3]
 refine EV.seq (EV.block (EV.seq ?_))
 have b7 : 0 ≤ 6 ∧ 6 < (7 : Int) := by (first | omega | (simp; omega))
 have c7 : 6 < 7 := by omega
 refine RG ?_
 simp -implicitDefEqProofs [b1, c1, b2, c2, b3, c3, b4, c4, b5, c5, b6, c6, b7, c7]
 refine RG ?_
 simp -implicitDefEqProofs [b1, c1, b2, c2, b3, c3, b4, c4, b5, c5, b6, c6, b7, c7]
 refine callG_own [0, 1] rfl (walk33rW (((((((pe + 1) + 1) + 1) + 1) + 1) + 1) + 1) (((((((pl ++ (tabsT pz)) ++ px0) ++ px1) ++ px2) ++ px3) ++ px4) ++ px5) px6 (pz : Int) (room_le (by first | omega | (simp; omega)) )) ?_ ?_ ?_ ?_ ?_ ?_
 ·simp [Nat.add_assoc]
 ·simp [Nat.add_assoc]
 ·simp [Nat.add_assoc]
 ·simp [Nat.add_assoc]
 ·simp [Nat.add_assoc]
 simp -implicitDefEqProofs [b1, c1, b2, c2, b3, c3, b4, c4, b5, c5, b6, c6, b7, c7, keys, callUpd, List.range_succ]
 refine RG ?_
 simp -implicitDefEqProofs [b1, c1, b2, c2, b3, c3, b4, c4, b5, c5, b6, c6, b7, c7]
 refine ER.succ ?_
 refine SR ?_
 simp -implicitDefEqProofs [b1, c1, b2, c2, b3, c3, b4, c4, b5, c5, b6, c6, b7, c7]
 refine EV.seq ?_
 refine EV.condT ?_
 simp -implicitDefEqProofs [b1, c1, b2, c2, b3, c3, b4, c4, b5, c5, b6, c6, b7, c7]
 refine EV.exit ?_
 simp -implicitDefEqProofs
 refine RG ?_
 simp -implicitDefEqProofs [b1, c1, b2, c2, b3, c3, b4, c4, b5, c5, b6, c6, b7, c7]
 refine callG_own [0, 1] rfl (walk31rW ((((((((pe + 1) + 1) + 1) + 1) + 1) + 1) + 1) + 1) ((((((((pl ++ (tabsT pz)) ++ px0) ++ px1) ++ px2) ++ px3) ++ px4) ++ px5) ++ px6) (pz : Int) (room_le (by first | omega | (simp; omega)) )) ?_ ?_ ?_ ?_ ?_ ?_
 ·simp [Nat.add_assoc]
 ·simp [Nat.add_assoc]
 ·simp [Nat.add_assoc]
 ·simp [Nat.add_assoc]
 ·simp [Nat.add_assoc]
 simp -implicitDefEqProofs [b1, c1, b2, c2, b3, c3, b4, c4, b5, c5, b6, c6, b7, c7, keys, callUpd, List.range_succ]
 try simp only [bodyK_normal]
 subst e
 refine Fin.plain ?_ ?_
 ·simp
 simp [List.range_succ, Nat.add_assoc, lineT]

def wl4n (pz : Nat) (px0 : List UInt8) (px1 : List UInt8) (px2 : List UInt8) (px3 : List UInt8) : Unit :=
 ()
theorem w_wl4n (pz : Nat) (px0 : List UInt8) (px1 : List UInt8) (px2 : List UInt8) (px3 : List UInt8) (hr : pz + px0.length + px1.length + px2.length + px3.length + 1 ≤ 140737488355328) : QC prog 70 [.ptr 0 0 0 0, .sl 1 0 0 4] [.var 127 [.c (.pointer none), .c (.slice none 0 0), .i .i64 (pz : Int)], .arr 0 1 [[.s px0], [.s px1], [.s px2], [.s px3]]] (.tup []) [.var 127 [.ptr 0 0 0 0, .sl 2 (5) 0 ((lineT pz [px0, px1, px2, px3])).length, .i .i64 (pz : Int)], .arr 0 1 [[.s px0], [.s px1], [.s px2], [.s px3]], .row 5 (5) (((lineT pz [px0, px1, px2, px3])).map byteV)] := by
 refine QC.of_body tabOK func70 rfl (by kernel_rfl) ?_
 simp only [f70]
 generalize e : wl4n pz px0 px1 px2 px3 = R
 unfold wl4n at e
 refine EV.seq ?_
 have := tabsT_len pz
 refine EV.drawG tabOK mixedOK ?_
 simp -implicitDefEqProofs
 refine callG_fun (w_rep pz (by omega)) ?_ ?_
 ·simp
 simp -implicitDefEqProofs
 refine callG_own [0] rfl (walk33nW (tabsT pz) (pz : Int) (room_le (by first | omega | (simp; omega)) )) ?_ ?_ ?_ ?_ ?_ ?_
 ·simp
 ·simp
 ·simp
 ·simp
 ·simp
 simp -implicitDefEqProofs [keys, callUpd, List.range_succ]
 refine And.intro ?_ ?_
 ·first | decide +kernel | (simp -implicitDefEqProofs; decide +kernel) | (split <;> decide +kernel)
 try simp -implicitDefEqProofs
 refine EV.seq (SR ?_)
 simp -implicitDefEqProofs
 refine EV.block ?_
 refine EV.rounds 5 ?_
 refine ER.succ ?_
 refine SR ?_
 simp -implicitDefEqProofs
 refine EV.seq ?_
 refine EV.condT ?_
 simp -implicitDefEqProofs
 refine EV.skip ?_
 simp only [KN1, KN2, KN3]
 refine EV.seq (EV.block (EV.seq ?_))
 have b1 : 0 ≤ 0 ∧ 0 < (4 : Int) := by (first | omega | (simp; omega))
 have c1 : 0 < 4 := by omega
 refine RG ?_
 simp -implicitDefEqProofs [b1, c1]
 refine RG ?_
 simp -implicitDefEqProofs [b1, c1]
 refine callG_own [0, 2] rfl (walk33rW 0 (tabsT pz) px0 (pz : Int) (room_le (by first | omega | (simp; omega)) )) ?_ ?_ ?_ ?_ ?_ ?_
 ·simp [Nat.add_assoc]
 ·simp [Nat.add_assoc]
 ·simp [Nat.add_assoc]
 ·simp [Nat.add_assoc]
 ·simp [Nat.add_assoc]
 simp -implicitDefEqProofs [b1, c1, keys, callUpd, List.range_succ]
 refine RG ?_
 simp -implicitDefEqProofs [b1, c1]
 refine ER.succ ?_
 refine SR ?_
 simp -implicitDefEqProofs [b1, c1]
 refine EV.seq ?_
 refine EV.condT ?_
 simp -implicitDefEqProofs [b1, c1]
 refine EV.skip ?_
 simp only [KN1, KN2, KN3]
 refine EV.seq (EV.block (EV.seq ?_))
 have b2 : 0 ≤ 1 ∧ 1 < (4 : Int) := by (first | omega | (simp; omega))
 have c2 : 1 < 4 := by omega
 refine RG ?_
 simp -implicitDefEqProofs [b1, c1, b2, c2]
 refine RG ?_
 simp -implicitDefEqProofs [b1, c1, b2, c2]
 refine callG_own [0, 2] rfl (walk33rW 1 ((tabsT pz) ++ px0) px1 (pz : Int) (room_le (by first | omega | (simp; omega)) )) ?_ ?_ ?_ ?_ ?_ ?_
 ·simp [Nat.add_assoc]
 ·simp [Nat.add_assoc]
 ·simp [Nat.add_assoc]
 ·simp [Nat.add_assoc]
 ·simp [Nat.add_assoc]
 simp -implicitDefEqProofs [b1, c1, b2, c2, keys, callUpd, List.range_succ]
 refine RG ?_
 simp -implicitDefEqProofs [b1, c1, b2, c2]
 refine ER.succ ?_
 refine SR ?_
 simp -implicitDefEqProofs [b1, c1, b2, c2]
 refine EV.seq ?_
 refine EV.condT ?_
 simp -implicitDefEqProofs [b1, c1, b2, c2]
 refine EV.skip ?_
 simp only [KN1, KN2, KN3]
 refine EV.seq (EV.block (EV.seq ?_))
 have b3 : 0 ≤ 2 ∧ 2 < (4 : Int) := by (first | omega | (simp; omega))
 have c3 : 2 < 4 := by omega
 refine RG ?_
 simp -implicitDefEqProofs [b1, c1, b2, c2, b3, c3]
 refine RG ?_
 simp -implicitDefEqProofs [b1, c1, b2, c2, b3, c3]
 refine callG_own [0, 2] rfl (walk33rW 2 (((tabsT pz) ++ px0) ++ px1) px2 (pz : Int) (room_le (by first | omega | (simp; omega)) )) ?_ ?_ ?_ ?_ ?_ ?_
 ·simp [Nat.add_assoc]
 ·simp [Nat.add_assoc]
 ·simp [Nat.add_assoc]
 ·simp [Nat.add_assoc]
 ·simp [Nat.add_assoc]
 simp -implicitDefEqProofs [b1, c1, b2, c2, b3, c3, keys, callUpd, List.range_succ]
 refine RG ?_
 simp -implicitDefEqProofs [b1, c1, b2, c2, b3, c3]
 refine ER.succ ?_
 refine SR ?_
 simp -implicitDefEqProofs [b1, c1, b2, c2, b3, c3]
 refine EV.seq ?_
 refine EV.condT ?_
 simp -implicitDefEqProofs [b1, c1, b2, c2, b3, c3]
 refine EV.skip ?_
 simp only [KN1, KN2, KN3]
 refine EV.seq (EV.block (EV.seq ?_))
 have b4 : 0 ≤ 3 ∧ 3 < (4 : Int) := by (first | omega | (simp; omega))
 have c4 : 3 < 4 := by omega
 refine RG ?_
 simp -implicitDefEqProofs [b1, c1, b2, c2, b3, c3, b4, c4]
 refine RG ?_
 simp -implicitDefEqProofs [b1, c1, b2, c2, b3, c3, b4, c4]
 refine callG_own [0, 2] rfl (walk33rW 3 ((((tabsT pz) ++ px0) ++ px1) ++ px2) px3 (pz : Int) (room_le (by first | omega | (simp; omega)) )) ?_ ?_ ?_ ?_ ?_ ?_
 ·simp [Nat.add_assoc]
 ·simp [Nat.add_assoc]
 ·simp [Nat.add_assoc]
 ·simp [Nat.add_assoc]
 ·simp [Nat.add_assoc]
 simp -implicitDefEqProofs [b1, c1, b2, c2, b3, c3, b4, c4, keys, callUpd, List.range_succ]
 refine RG ?_
 simp -implicitDefEqProofs [b1, c1, b2, c2, b3, c3, b4, c4]
 refine ER.succ ?_
 refine SR ?_
 simp -implicitDefEqProofs [b1, c1, b2, c2, b3, c3, b4, c4]
 refine EV.seq ?_
 refine EV.condT ?_
 simp -implicitDefEqProofs [b1, c1, b2, c2, b3, c3, b4, c4]
 refine EV.exit ?_
 simp -implicitDefEqProofs
 refine RG ?_
 simp -implicitDefEqProofs [b1, c1, b2, c2, b3, c3, b4, c4]
 refine callG_own [0, 2] rfl (walk31rW 4 (((((tabsT pz) ++ px0) ++ px1) ++ px2) ++ px3) (pz : Int) (room_le (by first | omega | (simp; omega)) )) ?_ ?_ ?_ ?_ ?_ ?_
 ·simp [Nat.add_assoc]
 ·simp [Nat.add_assoc]
 ·simp [Nat.add_assoc]
 ·simp [Nat.add_assoc]
 ·simp [Nat.add_assoc]
 simp -implicitDefEqProofs [b1, c1, b2, c2, b3, c3, b4, c4, keys, callUpd, List.range_succ]
 try simp only [bodyK_normal]
 subst e
 refine Fin.own1 2 (by simp) ?_ ?_
 ·simp
 simp [List.range_succ, Nat.add_assoc, lineT]

def wl5n (pz : Nat) (px0 : List UInt8) (px1 : List UInt8) (px2 : List UInt8) (px3 : List UInt8) (px4 : List UInt8) : Unit :=
 ()
theorem w_wl5n (pz : Nat) (px0 : List UInt8) (px1 : List UInt8) (px2 : List UInt8) (px3 : List UInt8) (px4 : List UInt8) (hr : pz + px0.length + px1.length + px2.length + px3.length + px4.length + 1 ≤ 140737488355328) : QC prog 70 [.ptr 0 0 0 0, .sl 1 0 0 5] [.var 127 [.c (.pointer none), .c (.slice none 0 0), .i .i64 (pz : Int)], .arr 0 1 [[.s px0], [.s px1], [.s px2], [.s px3], [.s px4]]] (.tup []) [.var 127 [.ptr 0 0 0 0, .sl 2 (6) 0 ((lineT pz [px0, px1, px2, px3, px4])).length, .i .i64 (pz : Int)], .arr 0 1 [[.s px0], [.s px1], [.s px2], [.s px3], [.s px4]], .row 5 (6) (((lineT pz [px0, px1, px2, px3, px4])).map byteV)] := by
 refine QC.of_body tabOK func70 rfl (by kernel_rfl) ?_
 simp only [f70]
 generalize e : wl5n pz px0 px1 px2 px3 px4 = R
 unfold wl5n at e
 refine EV.seq ?_
 have := tabsT_len pz
 refine EV.drawG tabOK mixedOK ?_
 simp -implicitDefEqProofs
 refine callG_fun (w_rep pz (by omega)) ?_ ?_
 ·simp
 simp -implicitDefEqProofs
 refine callG_own [0] rfl (walk33nW (tabsT pz) (pz : Int) (room_le (by first | omega | (simp; omega)) )) ?_ ?_ ?_ ?_ ?_ ?_
 ·simp
 ·simp
 ·simp
 ·simp
 ·simp
 simp -implicitDefEqProofs [keys, callUpd, List.range_succ]
 refine And.intro ?_ ?_
 ·first | decide +kernel | (simp -implicitDefEqProofs; decide +kernel) | (split <;> decide +kernel)
 try simp -implicitDefEqProofs
 refine EV.seq (SR ?_)
 simp -implicitDefEqProofs
 refine EV.block ?_
 refine EV.rounds 6 ?_
 refine ER.succ ?_
 refine SR ?_
 simp -implicitDefEqProofs
 refine EV.seq ?_
 refine EV.condT ?_
 simp -implicitDefEqProofs
 refine EV.skip ?_
 simp only [KN1, KN2, KN3]
 refine EV.seq (EV.block (EV.seq ?_))
 have b1 : 0 ≤ 0 ∧ 0 < (5 : Int) := by (first | omega | (simp; omega))
 have c1 : 0 < 5 := by omega
 refine RG ?_
 simp -implicitDefEqProofs [b1, c1]
 refine RG ?_
 simp -implicitDefEqProofs [b1, c1]
 refine callG_own [0, 2] rfl (walk33rW 0 (tabsT pz) px0 (pz : Int) (room_le (by first | omega | (simp; omega)) )) ?_ ?_ ?_ ?_ ?_ ?_
 ·simp [Nat.add_assoc]
 ·simp [Nat.add_assoc]
 ·simp [Nat.add_assoc]
 ·simp [Nat.add_assoc]
 ·simp [Nat.add_assoc]
 simp -implicitDefEqProofs [b1, c1, keys, callUpd, List.range_succ]
 refine RG ?_
 simp -implicitDefEqProofs [b1, c1]
 refine ER.succ ?_
 refine SR ?_
 simp -implicitDefEqProofs [b1, c1]
 refine EV.seq ?_
 refine EV.condT ?_
 simp -implicitDefEqProofs [b1, c1]
 refine EV.skip ?_
 simp only [KN1, KN2, KN3]
 refine EV.seq (EV.block (EV.seq ?_))
 have b2 : 0 ≤ 1 ∧ 1 < (5 : Int) := by (first | omega | (simp; omega))
 have c2 : 1 < 5 := by omega
 refine RG ?_
 simp -implicitDefEqProofs [b1, c1, b2, c2]
 refine RG ?_
 simp -implicitDefEqProofs [b1, c1, b2, c2]
 refine callG_own [0, 2] rfl (walk33rW 1 ((tabsT pz) ++ px0) px1 (pz : Int) (room_le (by first | omega | (simp; omega)) )) ?_ ?_ ?_ ?_ ?_ ?_
 ·simp [Nat.add_assoc]
 ·simp [Nat.add_assoc]
 ·simp [Nat.add_assoc]
 ·simp [Nat.add_assoc]
 ·simp [Nat.add_assoc]
 simp -implicitDefEqProofs [b1, c1, b2, c2, keys, callUpd, List.range_succ]
 refine RG ?_
 simp -implicitDefEqProofs [b1, c1, b2, c2]
 refine ER.succ ?_
 refine SR ?_
 simp -implicitDefEqProofs [b1, c1, b2, c2]
 refine EV.seq ?_
 refine EV.condT ?_
 simp -implicitDefEqProofs [b1, c1, b2, c2]
 refine EV.skip ?_
 simp only [KN1, KN2, KN3]
 refine EV.seq (EV.block (EV.seq ?_))
 have b3 : 0 ≤ 2 ∧ 2 < (5 : Int) := by (first | omega | (simp; omega))
 have c3 : 2 < 5 := by omega
 refine RG ?_
 simp -implicitDefEqProofs [b1, c1, b2, c2, b3, c3]
 refine RG ?_
 simp -implicitDefEqProofs [b1, c1, b2, c2, b3, c3]
 refine callG_own [0, 2] rfl (walk33rW 2 (((tabsT pz) ++ px0) ++ px1) px2 (pz : Int) (room_le (by first | omega | (simp; omega)) )) ?_ ?_ ?_ ?_ ?_ ?_
 ·simp [Nat.add_assoc]
 ·simp [Nat.add_assoc]
 ·simp [Nat.add_assoc]
 ·simp [Nat.add_assoc]
 ·simp [Nat.add_assoc]
 simp -implicitDefEqProofs [b1, c1, b2, c2, b3, c3, keys, callUpd, List.range_succ]
 refine RG ?_
 simp -implicitDefEqProofs [b1, c1, b2, c2, b3, c3]
 refine ER.succ ?_
 refine SR ?_
 simp -implicitDefEqProofs [b1, c1, b2, c2, b3, c3]
 refine EV.seq ?_
 refine EV.condT ?_
 simp -implicitDefEqProofs [b1, c1, b2, c2, b3, c3]
 refine EV.skip ?_
 simp only [KN1, KN2, KN3]
 refine EV.seq (EV.block (EV.seq ?_))
 have b4 : 0 ≤ 3 ∧ 3 < (5 : Int) := by (first | omega | (simp; omega))
 have c4 : 3 < 5 := by omega
 refine RG ?_
 simp -implicitDefEqProofs [b1, c1, b2, c2, b3, c3, b4, c4]
 refine RG ?_
 simp -implicitDefEqProofs [b1, c1, b2, c2, b3, c3, b4, c4]
 refine callG_own [0, 2] rfl (walk33rW 3 ((((tabsT pz) ++ px0) ++ px1) ++ px2) px3 (pz : Int) (room_le (by first | omega | (simp; omega)) )) ?_ ?_ ?_ ?_ ?_ ?_
 ·simp [Nat.add_assoc]
 ·simp [Nat.add_assoc]
 ·simp [Nat.add_assoc]
 ·simp [Nat.add_assoc]
 ·simp [Nat.add_assoc]
 simp -implicitDefEqProofs [b1, c1, b2, c2, b3, c3, b4, c4, keys, callUpd, List.range_succ]
 refine RG ?_
 simp -implicitDefEqProofs [b1, c1, b2, c2, b3, c3, b4, c4]
 refine ER.succ ?_
 refine SR ?_
 simp -implicitDefEqProofs [b1, c1, b2, c2, b3, c3, b4, c4]
 refine EV.seq ?_
 refine EV.condT ?_
 simp -implicitDefEqProofs [b1, c1, b2, c2, b3, c3, b4, c4]
 refine EV.skip ?_
 simp only [KN1, KN2, KN3]
 refine EV.seq (EV.block (EV.seq ?_))
 have b5 : 0 ≤ 4 ∧ 4 < (5 : Int) := by (first | omega | (simp; omega))
 have c5 : 4 < 5 := by omega
 refine RG ?_
 simp -implicitDefEqProofs [b1, c1, b2, c2, b3, c3, b4, c4, b5, c5]
 refine RG ?_
 simp -implicitDefEqProofs [b1, c1, b2, c2, b3, c3, b4, c4, b5, c5]
 refine callG_own [0, 2] rfl (walk33rW 4 (((((tabsT pz) ++ px0) ++ px1) ++ px2) ++ px3) px4 (pz : Int) (room_le (by first | omega | (simp; omega)) )) ?_ ?_ ?_ ?_ ?_ ?_
 ·simp [Nat.add_assoc]
 ·simp [Nat.add_assoc]
 ·simp [Nat.add_assoc]
 ·simp [Nat.add_assoc]
 ·simp [Nat.add_assoc]
 simp -implicitDefEqProofs [b1, c1, b2, c2, b3, c3, b4, c4, b5, c5, keys, callUpd, List.range_succ]
 refine RG ?_
 simp -implicitDefEqProofs [b1, c1, b2, c2, b3, c3, b4, c4, b5, c5]
 refine ER.succ ?_
 refine SR ?_
 simp -implicitDefEqProofs [b1, c1, b2, c2, b3, c3, b4, c4, b5, c5]
 refine EV.seq ?_
 refine EV.condT ?_
 simp -implicitDefEqProofs [b1, c1, b2, c2, b3, c3, b4, c4, b5, c5]
 refine EV.exit ?_
 simp -implicitDefEqProofs
 refine RG ?_
 simp -implicitDefEqProofs [b1, c1, b2, c2, b3, c3, b4, c4, b5, c5]
 refine callG_own [0, 2] rfl (walk31rW 5 ((((((tabsT pz) ++ px0) ++ px1) ++ px2) ++ px3) ++ px4) (pz : Int) (room_le (by first | omega | (simp; omega)) )) ?_ ?_ ?_ ?_ ?_ ?_
 ·simp [Nat.add_assoc]
 ·simp [Nat.add_assoc]
 ·simp [Nat.add_assoc]
 ·simp [Nat.add_assoc]
 ·simp [Nat.add_assoc]
 simp -implicitDefEqProofs [b1, c1, b2, c2, b3, c3, b4, c4, b5, c5, keys, callUpd, List.range_succ]
 try simp only [bodyK_normal]
 subst e
 refine Fin.own1 2 (by simp) ?_ ?_
 ·simp
 ·simp [List.range_succ, Nat.add_assoc, lineT]
def bindT (b : List UInt8) : List UInt8 := if b = [] then [] else [40] ++ b ++ [41]
theorem bindT_len (b : List UInt8) : (bindT b).length ≤ b.length + 2 := by
  unfold bindT
  split <;> simp
mutual
noncomputable def stT : StmtD → Nat → List UInt8
  | ⟨k, _, name, ty, p, rv, op, then_, else_, arms⟩, n =>
    if k = 0 then lineT n [[108, 101, 116, 32], name, [58, 32], tyT ty, [32, 61, 32], setT rv, [59]]
    else if k = 1 then lineT n [plT p, [32, 61, 32], setT rv, [59]]
    else if k = 2 then lineT n [[105, 102, 32], opT op, [32, 123]] ++ blT then_ n ++ (if else_.length = 0 then [] else lineT n [[125, 32, 101, 108, 115, 101, 32, 123]] ++ blT else_ n) ++ lineT n [[125]]
    else if k = 3 then lineT n [[119, 104, 105, 108, 101, 32], opT op, [32, 123]] ++ blT then_ n ++ lineT n [[125]]
    else if k = 4 then lineT n [[109, 97, 116, 99, 104, 32], plT p, [32, 123]] ++ arT arms n ++ lineT n [[125]]
    else if k = 5 then lineT n [[121, 105, 101, 108, 100, 32], opT op, [59]]
    else if k = 6 then lineT n [[114, 101, 116, 117, 114, 110, 32], opT op, [59]]
    else if k = 7 then lineT n [[112, 114, 105, 110, 116, 32], opT op, [59]]
    else if k = 8 then lineT n [[100, 114, 111, 112, 32], plT p, [59]]
    else lineT n [[63]]
noncomputable def blT : List StmtD → Nat → List UInt8
  | [], _ => []
  | t :: r, n => stT t (n + 1) ++ blT r n
noncomputable def amT : ArmD → Nat → List UInt8
  | ⟨v, b, body⟩, n => lineT (n + 1) [v, bindT b, [32, 61, 62, 32, 123]] ++ blT body (n + 1) ++ lineT (n + 1) [[125]]
noncomputable def arT : List ArmD → Nat → List UInt8
  | [], _ => []
  | t :: r, n => amT t n ++ arT r n
end
mutual
def stE : StmtD → Nat
  | ⟨k, _, _, _, _, _, _, then_, else_, arms⟩ =>
    if k = 0 then 9 else if k = 1 then 6
    else if k = 2 then 5 + blE then_ + (if else_.length = 0 then 0 else 3 + blE else_) + 3
    else if k = 3 then 5 + blE then_ + 3
    else if k = 4 then 5 + arE arms + 3
    else if k = 5 then 5 else if k = 6 then 5 else if k = 7 then 5 else if k = 8 then 5 else 3
def blE : List StmtD → Nat
  | [] => 0
  | t :: r => stE t + blE r
def amE : ArmD → Nat
  | ⟨_, _, body⟩ => 5 + blE body + 3
def arE : List ArmD → Nat
  | [] => 0
  | t :: r => amE t + arE r
end
theorem bk_list {A : Type} (e : A → List V) (x : A) (r : List A) : bkR ((x :: r).map e) = bkL (e x) + bkR (r.map e) := rfl
theorem stT_len0 (m : Nat) (hP : ∀ (l : List StmtD) (n : Nat), bkR (l.map stmtC) ≤ m → n + 1 + bkR (l.map stmtC) ≤ 2100000 → (blT l n).length ≤ 3000000 * bkR (l.map stmtC))
    (hQ : ∀ (l : List ArmD) (n : Nat), bkR (l.map armC) ≤ m → n + 1 + bkR (l.map armC) ≤ 2100000 → (arT l n).length ≤ 3000000 * bkR (l.map armC)) (t : StmtD) (n : Nat) (hm : bkL (stmtC t) ≤ m + 1) (h : n + bkL (stmtC t) ≤ 2100000) : (stT t n).length ≤ 3000000 * bkL (stmtC t) := by
  obtain ⟨k, at_, name, ty, p, rv, op, then_, else_, arms⟩ := t
  have h1 := tyT_len ty
  have h1' := tyN_eq ty
  have h2 := setT_len rv
  have h3 := plT_len p
  have h4 := opT_len op
  simp only [placeC_eq, operC_eq, rvC_eq, stmtC_eq, bkL, bkV] at hm h h2 h3 h4 ⊢
  simp only [← Nat.add_assoc] at hm h h2 h3 h4 ⊢
  have h5 := hP then_ n (by clear h1 h1' h2 h3 h4; omega) (by clear h1 h1' h2 h3 h4; omega)
  have h6 := hP else_ n (by clear h1 h1' h2 h3 h4 h5; omega) (by clear h1 h1' h2 h3 h4 h5; omega)
  have h7 := hQ arms n (by clear h1 h1' h2 h3 h4 h5 h6; omega) (by clear h1 h1' h2 h3 h4 h5 h6; omega)
  rw [stT]
  repeat' split
  all_goals simp only [List.length_append, lineT_len, List.map_cons, List.map_nil, List.sum_cons, List.sum_nil, List.length_cons, List.length_nil]
  all_goals omega
theorem all_len : ∀ m : Nat, (∀ (l : List StmtD) (n : Nat), bkR (l.map stmtC) ≤ m → n + 1 + bkR (l.map stmtC) ≤ 2100000 → (blT l n).length ≤ 3000000 * bkR (l.map stmtC)) ∧
    (∀ (l : List ArmD) (n : Nat), bkR (l.map armC) ≤ m → n + 1 + bkR (l.map armC) ≤ 2100000 → (arT l n).length ≤ 3000000 * bkR (l.map armC))
  | 0 => by
    refine ⟨fun l n hm h => ?_, fun l n hm h => ?_⟩
    · cases l with
      | nil => simp [blT]
      | cons t r => rw [bk_list] at hm; simp only [stmtC_eq, bkL, bkV, ← Nat.add_assoc] at hm; omega
    · cases l with
      | nil => simp [arT]
      | cons t r => rw [bk_list] at hm; simp only [armC_eq, bkL, bkV] at hm; omega
  | m + 1 => by
    obtain ⟨hP, hQ⟩ := all_len m
    refine ⟨fun l n hm h => ?_, fun l n hm h => ?_⟩
    · induction l with
      | nil => simp [blT]
      | cons t r ih =>
        rw [bk_list] at hm h ⊢
        have h1 := stT_len0 m hP hQ t (n + 1) (by clear ih; omega) (by clear ih; omega)
        have h2 := ih (by clear ih h1; omega) (by clear ih h1; omega)
        clear ih
        rw [blT, List.length_append]
        omega
    · induction l with
      | nil => simp [arT]
      | cons t r ih =>
        rw [bk_list] at hm h ⊢
        have h2 := ih (by clear ih; omega) (by clear ih; omega)
        have h1 : (amT t n).length ≤ 3000000 * bkL (armC t) := by
          obtain ⟨v, b, body⟩ := t
          have h4 := bindT_len b
          simp only [armC_eq, bkL, bkV] at hm h ⊢
          have h3 := hP body (n + 1) (by clear ih h2 h4; omega) (by clear ih h2 h4; omega)
          clear ih h2
          rw [amT]
          simp only [List.length_append, lineT_len, List.map_cons, List.map_nil, List.sum_cons, List.sum_nil, List.length_cons, List.length_nil]
          omega
        clear ih
        rw [arT, List.length_append]
        omega
theorem blT_len (l : List StmtD) (n : Nat) (h : n + 1 + bkR (l.map stmtC) ≤ 2100000) : (blT l n).length ≤ 3000000 * bkR (l.map stmtC) := (all_len _).1 l n (Nat.le_refl _) h
theorem arT_len (l : List ArmD) (n : Nat) (h : n + 1 + bkR (l.map armC) ≤ 2100000) : (arT l n).length ≤ 3000000 * bkR (l.map armC) := (all_len _).2 l n (Nat.le_refl _) h
theorem stT_len (t : StmtD) (n : Nat) (h : n + bkL (stmtC t) ≤ 2100000) : (stT t n).length ≤ 3000000 * bkL (stmtC t) := stT_len0 (bkL (stmtC t)) (all_len _).1 (all_len _).2 t n (by omega) h
end
end Go.Proofs.Tryz
end
section
namespace Go.Proofs.Tryz
open Go Go.AM
attribute [local simp] wpG_op wpG_nil contG_some wpG_guard guardG_v guardG_o guardG_tup gval pureOp stepG_if isPick pickG_pick pickB_b pickOK isCall step_move step_assign step_alloc step_box boxV_some step_load step_store step_binOp step_unOp step_fieldAddr faV step_indexAddr ixA_slc ixA_arr step_extract extV_tup step_nilCheck ncV_ptr ncV_rp ncV_fn ncV_mp step_build buildV step_buildSlice bsV step_index ixV_arr ixV_str step_append apB step_makeSlice msV_i step_makeFunc over step_len step_makeMap mmV step_mapUpdate step_insert muA_map muB_mp step_lookup lkA_map lkB_mp step_slice slcV_s slcV_sl slcV_ro cutB_some slObV_arr bound_none bound_some bndV_i lenB_str lenB_ro lenB_sl lenB_nil lenB_z ld_ptr ld_rp offV_ptr offV_rp idxV_ro idxV_sl unV_not unV_neg binV_int binV_str binV_eqlb binV_neqb intOp strOp St.put updL setOb St.ev toV St.lk cellsOf AM.valOf TK.agg stv fillV places TI.zero condT_true condT_false finS resL resSlot packV ren ren1 ren0 Value.cells builtinV appendV elemsOf keepT room_of wrap_in toIdx passed Function.comp_def take_len_map lenV touchOf hid tab1 tab2 tab3 tab4 tab5 tab6 tab7 tab8 tab9 tab20 tab22 tab23 tab24 tab26 tab32 tab33 tab35 tab36 tab37 tab39 tab41 tab42 tab43 tab45 tab46 tab47 tab49 tab50 tab52 tab74 tab79 tab83 tab86 tab87 tab89 tab92 tab100 tab101 tab102 tab103 tab105 tab107 tab108 tab113 tab114 tab116 tab117 tab118 tab122 tab123 tab125 tab127 tab130 tab132 tab136 tab173 tab175 tab178 tab179 tab180 tab182 tab189 tab215 tab219 tab220 tab224 tab225 tab241 tab244 tab247 tab253 tab261 tab262 tab265 tab266 armC_eq blockC_eq bodyC_eq enumC_eq fieldC_eq fnC_eq inC_eq localC_eq mirBodyC_eq operC_eq placeC_eq rvC_eq sourceC_eq spotC_eq stepC_eq stmtC_eq structC_eq tmC_eq tyC_eq useC_eq valueC_eq variantC_eq byteV_fn binV_eqls binV_neqs cutL_nil cutL_junk cutL_cons ren_arr ren_gone ren_unborn ren_var ren_row step_convert cvV_i cvV_sl cvV_s cvK_slc cvE_u8 bytesOf bor1 bor2 bor3 bor4
set_option linter.unusedSimpArgs false
set_option linter.unusedVariables false
set_option maxRecDepth 10000
set_option maxHeartbeats 40000000
noncomputable section
noncomputable def Fdf : FuncId → Option Func
 | 124 => some f124
 | 217 => some f217
 | _ => none
theorem Fdf_ok (f : FuncId) (fn : Func) (h : Fdf f = some fn) : prog.funcs[f]? = some fn ∧ (fn.name == "runtime.NumGoroutine") = false := by
 unfold Fdf at h
 split at h
 ·cases h; exact ⟨func124, by kernel_rfl⟩
 ·cases h; exact ⟨func217, by kernel_rfl⟩
 cases h
def tBlockB_l4 (pz : Nat) : List StmtD → (List UInt8) → Nat → (List UInt8) × Nat
 | [], a4_0, a4_1 => (a4_0, a4_1)
 | x4 :: xs4, a4_0, a4_1 => tBlockB_l4 pz xs4 (a4_0 ++ stT x4 (pz + 1)) (a4_1 + stE x4)
def tBlockB (pe : Nat) (pl : List UInt8) (pz : Nat) (p1 : List StmtD) : (List UInt8) × Nat :=
 (bnd (tBlockB_l4 pz p1 pl pe) fun (v4 : (List UInt8) × Nat) => (v4.1, v4.2))
theorem w_tBlockB (pe : Nat) (pl : List UInt8) (pz : Nat) (p1 : List StmtD) (hw : wfR (p1.map stmtC)) (hz : pz + 1 + bkR (p1.map stmtC) ≤ 2100000) (hl : pl.length + 3000000 * bkR (p1.map stmtC) ≤ 100000000000000) (H : ∀ (u : StmtD) (e n : Nat) (a : List UInt8), u ∈ p1 → wfL (stmtC u) → n + bkL (stmtC u) ≤ 2100000 → a.length + 3000000 * bkL (stmtC u) ≤ 100000000000000 → QC prog 125 [.ptr 0 0 0 0, .agg [.i .i64 u.k, .i .i64 u.at_, .s u.name, .i .i64 u.ty.k, .s u.ty.name, .ro 3 (u.ty.l.map tyC), .s u.p.name, .ro 1 (u.p.path.map stepC), .i .i64 u.rv.k, .ro 4 (u.rv.ops.map operC), .s u.rv.p.name, .ro 1 (u.rv.p.path.map stepC), .s u.rv.name, .s u.rv.variant, .b u.op.num, .i .i64 u.op.n, .s u.op.p.name, .ro 1 (u.op.p.path.map stepC), .ro 21 (u.then_.map stmtC), .ro 21 (u.else_.map stmtC), .ro 3 (u.arms.map armC)]] [.var 127 [.ptr 0 0 0 0, .sl 1 (e) 0 (a).length, .i .i64 ((n : Nat) : Int)], .row 5 (e) ((a).map byteV)] (.tup []) [.var 127 [.ptr 0 0 0 0, .sl 1 (e + stE u) 0 (a ++ stT u n).length, .i .i64 ((n : Nat) : Int)], .row 5 (e + stE u) ((a ++ stT u n).map byteV)]) : QC prog 76 [.ptr 0 0 0 0, .ro 21 (p1.map stmtC)] [.var 127 [.ptr 0 0 0 0, .sl 1 pe 0 pl.length, .i .i64 (pz : Int)], .row 5 pe (pl.map byteV)] (.tup []) [.var 127 [.ptr 0 0 0 0, .sl 1 ((tBlockB pe pl pz p1).2) 0 ((tBlockB pe pl pz p1).1).length, .i .i64 ((pz : Nat) : Int)], .row 5 ((tBlockB pe pl pz p1).2) (((tBlockB pe pl pz p1).1).map byteV)] := by
 refine QC.of_bodyD tabOK mixedOK Fdf_ok (fun _ _ h => by cases h) callNone_ok (OD := fun _ => none) func76 rfl (by kernel_rfl) ?_
 simp only [f76]
 generalize e : tBlockB pe pl pz p1 = R
 unfold tBlockB at e
 refine ED.seq ?_
 refine ED.of ?_
 refine RG ?_
 simp -implicitDefEqProofs
 refine ED.seq ?_
 refine ED.of ?_
 have hw1 : IntKind.i64.wrap ((pz : Int) + 1) = (pz : Int) + 1 := wrap_in _ (by omega) (by omega)
 have hw2 : IntKind.i64.wrap (pz : Int) = (pz : Int) := wrap_in _ (by omega) (by omega)
 have hw3 : IntKind.i64.wrap ((pz : Int) + 1 - 1) = (pz : Int) := by rw [wrap_in ((pz : Int) + 1 - 1) (by omega) (by omega)]; omega
 refine RG ?_
 simp -implicitDefEqProofs [hw1]
 refine ED.seq ?_
 refine ED.exD tabOK mixedOK callNone_ok rfl ?_
 simp only [thenD_normal]
 refine ED.of ?_
 refine SR ?_
 simp -implicitDefEqProofs [hw1]
 obtain ⟨z4, e4, e⟩ := bnd_split e
 refine EV.nrm (fun v : { v : ((List UInt8) × Nat) × (Unit) // z4 = v.1 } => (fun (v4 : (List UInt8) × Nat) (g4 : Unit) => (⟨[J, J, J, J, J, J, J, J, J, J, J, J, J, J, J, J, J, J, J, J, J, J, J, J], [.var 127 [.ptr 0 0 0 0, .sl 1 v4.2 0 v4.1.length, .i .i64 (IntKind.i64.wrap ((pz : Int) + 1))], .row 5 v4.2 (v4.1.map byteV), .arr 0 1 [[.ptr 0 0 0 0]]]⟩ : St)) v.1.1 v.1.2) ?_ ?_
 ·skip
  refine EV.block ?_
  refine EV.loopB (fun x : { x : Nat × (List UInt8) × Nat // x.1 ≤ p1.length ∧ tBlockB_l4 pz (p1.drop x.1) x.2.1 x.2.2 = z4 ∧ (fun (j4 : Nat) (a4_0 : List UInt8) (a4_1 : Nat) => a4_0.length + 3000000 * bkR ((p1.drop j4).map stmtC) ≤ 100000000000000) x.1 x.2.1 x.2.2 } => (fun (j4 : Nat) (a4_0 : List UInt8) (a4_1 : Nat) => (⟨[J, J, .ptr 2 0 0 0, J, J, J, J, J, J, J, J, J, J, J, .ro 21 (p1.map stmtC), .i .i64 (p1.length : Int), .i .i64 (j4 : Int), J, J, J, J, J, J, J], [.var 127 [.ptr 0 0 0 0, .sl 1 a4_1 0 a4_0.length, .i .i64 (IntKind.i64.wrap ((pz : Int) + 1))], .row 5 a4_1 (a4_0.map byteV), .arr 0 1 [[.ptr 0 0 0 0]]]⟩ : St)) x.1.1 x.1.2.1 x.1.2.2) (fun x => p1.length - x.1.1) ⟨(0, pl, pe), Nat.zero_le _, e4, by ((try dsimp only); (try simp only [List.drop_zero, List.length_append, List.length_cons, List.length_nil]); omega)⟩ ?_ ?_
  ·skip
   try dsimp only
   try dsimp only
   refine Sub.cutF 3 (by simp) ?_ ?_ <;> simp [List.range_succ, toIdx_range, passed, hw1]
  rintro ⟨⟨j4, a4_0, a4_1⟩, hi4, e4, q4⟩
  simp only at hi4 e4 ⊢
  try dsimp only at q4
  refine SR ?_
  simp -implicitDefEqProofs [hw1]
  refine EV.seq ?_
  refine EV.room 14 (by rfl) (fun mj4 => ?_)
  simp at mj4
  refine EV.condT ?_
  simp -implicitDefEqProofs [hw1]
  refine condT_intro (fun k1 => ?_) (fun k1 => ?_)
  ·try simp at k1
   have u1 : j4 < p1.length := by omega
   obtain ⟨x4, hx4⟩ : ∃ z, p1[j4] = z := ⟨_, rfl⟩
   have mx4 : x4 ∈ p1 := by rw [← hx4]; exact List.getElem_mem _
   have hd4 := drop_bk (e := stmtC) hx4
   rw [List.drop_eq_getElem_cons u1, hx4, tBlockB_l4] at e4
   refine EV.skip ?_
   simp only [KN1, KN2, KN3]
   refine EV.seq (EV.block (SR ?_))
   simp -implicitDefEqProofs [hw1, k1, u1, hx4]
   have := bkR_in (f := stmtC) (by assumption : x4 ∈ p1)
   have := stT_len x4 (pz + 1) (by omega)
   refine RG ?_
   simp -implicitDefEqProofs [hw1, k1, u1, hx4]
   refine callG_own [0, 1] rfl (H x4 a4_1 (pz + 1) a4_0 (by assumption) ((wfR_map _ _).1 hw _ (by assumption)) (by omega) (by (try simp only [List.length_append, List.length_cons, List.length_nil]); omega)) ?_ ?_ ?_ ?_ ?_ ?_
   ·simp [Nat.add_assoc, List.range_succ, hw1]
   ·simp [Nat.add_assoc, List.range_succ, hw1]
   ·simp [Nat.add_assoc, List.range_succ, hw1]
   ·simp [Nat.add_assoc, List.range_succ, hw1]
   ·simp [Nat.add_assoc, List.range_succ, hw1]
   simp -implicitDefEqProofs [hw1, k1, u1, hx4, keys, callUpd, List.range_succ]
   refine RG ?_
   simp -implicitDefEqProofs [hw1, k1, u1, hx4]
   have w4 : IntKind.i64.wrap ((j4 : Int) + 1) = (j4 : Int) + 1 := wrap_in _ (by omega) (by omega)
   refine ⟨⟨(j4 + 1, (a4_0 ++ stT x4 (pz + 1)), (a4_1 + stE x4)), by omega, e4, by ((try dsimp only); (try simp only [List.drop_zero, List.length_append, List.length_cons, List.length_nil]); omega)⟩, by dsimp only; omega, ?_⟩
   try dsimp only
   refine Sub.cutF 3 (by simp) ?_ ?_ <;> simp [List.range_succ, toIdx_range, passed, hw1, k1, u1, hx4, w4]
  try simp at k1
  have d1 : p1.drop j4 = [] := List.drop_eq_nil_of_le (by omega)
  rw [d1, tBlockB_l4] at e4
  refine EV.exit ?_
  simp -implicitDefEqProofs
  refine ⟨⟨((a4_0, a4_1), ()), e4.symm⟩, ?_⟩
  try dsimp only
  refine Sub.cutF 3 (by simp) ?_ ?_ <;> simp [List.range_succ, toIdx_range, passed, hw1]
 rintro ⟨⟨v4, g4⟩, e4⟩
 simp only [KN1, KN2, KN3, KN4]
 replace e := bnd_on e e4
 try dsimp only at e
 try simp only [bodyK_normal]
 subst e
 refine ⟨by simp, _, rfl, ?_⟩
 refine Fin.plain ?_ ?_
 ·simp
 simp [List.range_succ, Nat.add_assoc, hw1, hw2, hw3]

theorem tBlockB_eq (pe : Nat) (pl : List UInt8) (pz : Nat) (p1 : List StmtD) : tBlockB pe pl pz p1 = (pl ++ blT p1 pz, pe + blE p1) := by
 have h : ∀ (l : List StmtD) (a : List UInt8) (e : Nat), tBlockB_l4 pz l a e = (a ++ blT l pz, e + blE l) := by
  intro l
  induction l with
  | nil => intro a e; simp [tBlockB_l4, blT, blE]
  | cons x l ih => intro a e; simp [tBlockB_l4, blT, blE, ih, Nat.add_assoc]
 unfold tBlockB
 simp [bnd, h]

def tArmsB_l4 (pz : Nat) : List ArmD → (List UInt8) → Nat → (List UInt8) × Nat
 | [], a4_0, a4_1 => (a4_0, a4_1)
 | x4 :: xs4, a4_0, a4_1 => (bnd (if ¬ (x4.bind = ([] : List UInt8)) then ((([40] : List UInt8) ++ x4.bind) ++ ([41] : List UInt8)) else ([] : List UInt8)) fun (v8 : (List UInt8)) => tArmsB_l4 pz xs4 (((a4_0 ++ (lineT (pz + 1) [x4.variant, v8, ([32, 61, 62, 32, 123] : List UInt8)])) ++ blT x4.body (pz + 1)) ++ (lineT (pz + 1) [([125] : List UInt8)])) (((a4_1 + 5) + blE x4.body) + 3))
def tArmsB (pe : Nat) (pl : List UInt8) (pz : Nat) (p1 : List ArmD) : (List UInt8) × Nat :=
 (bnd (tArmsB_l4 pz p1 pl pe) fun (v4 : (List UInt8) × Nat) => (v4.1, v4.2))
theorem w_tArmsB (pe : Nat) (pl : List UInt8) (pz : Nat) (p1 : List ArmD) (hw : wfR (p1.map armC)) (hz : pz + 1 + bkR (p1.map armC) ≤ 2100000) (hl : pl.length + 3000000 * bkR (p1.map armC) ≤ 100000000000000) (H : ∀ (l : List StmtD) (e n : Nat) (a : List UInt8), (∃ y ∈ p1, l = y.body) → wfR (l.map stmtC) → n + 1 + bkR (l.map stmtC) ≤ 2100000 → a.length + 3000000 * bkR (l.map stmtC) ≤ 100000000000000 → QC prog 76 [.ptr 0 0 0 0, .ro 21 (l.map stmtC)] [.var 127 [.ptr 0 0 0 0, .sl 1 (e) 0 (a).length, .i .i64 ((n : Nat) : Int)], .row 5 (e) ((a).map byteV)] (.tup []) [.var 127 [.ptr 0 0 0 0, .sl 1 (e + blE l) 0 (a ++ blT l n).length, .i .i64 ((n : Nat) : Int)], .row 5 (e + blE l) ((a ++ blT l n).map byteV)]) : QC prog 193 [.ptr 0 0 0 0, .ro 3 (p1.map armC)] [.var 127 [.ptr 0 0 0 0, .sl 1 pe 0 pl.length, .i .i64 (pz : Int)], .row 5 pe (pl.map byteV)] (.tup []) [.var 127 [.ptr 0 0 0 0, .sl 1 ((tArmsB pe pl pz p1).2) 0 ((tArmsB pe pl pz p1).1).length, .i .i64 ((pz : Nat) : Int)], .row 5 ((tArmsB pe pl pz p1).2) (((tArmsB pe pl pz p1).1).map byteV)] := by
 refine QC.of_bodyD tabOK mixedOK Fdf_ok (fun _ _ h => by cases h) callNone_ok (OD := fun _ => none) func193 rfl (by kernel_rfl) ?_
 simp only [f193]
 generalize e : tArmsB pe pl pz p1 = R
 unfold tArmsB at e
 refine ED.seq ?_
 refine ED.of ?_
 refine RG ?_
 simp -implicitDefEqProofs
 refine ED.seq ?_
 refine ED.of ?_
 have hw1 : IntKind.i64.wrap ((pz : Int) + 1) = (pz : Int) + 1 := wrap_in _ (by omega) (by omega)
 have hw2 : IntKind.i64.wrap (pz : Int) = (pz : Int) := wrap_in _ (by omega) (by omega)
 have hw3 : IntKind.i64.wrap ((pz : Int) + 1 - 1) = (pz : Int) := by rw [wrap_in ((pz : Int) + 1 - 1) (by omega) (by omega)]; omega
 refine RG ?_
 simp -implicitDefEqProofs [hw1]
 refine ED.seq ?_
 refine ED.exD tabOK mixedOK callNone_ok rfl ?_
 simp only [thenD_normal]
 refine ED.of ?_
 refine SR ?_
 simp -implicitDefEqProofs [hw1]
 obtain ⟨z4, e4, e⟩ := bnd_split e
 refine EV.nrm (fun v : { v : ((List UInt8) × Nat) × (Unit) // z4 = v.1 } => (fun (v4 : (List UInt8) × Nat) (g4 : Unit) => (⟨[J, J, J, J, J, J, J, J, J, J, J, J, J, J, J, J, J, J, J, J, J, J, J, J, J, J, J, J, J, J, J, J, J, J, J, J, J, J, J, J, J, J], [.var 127 [.ptr 0 0 0 0, .sl 1 v4.2 0 v4.1.length, .i .i64 (IntKind.i64.wrap ((pz : Int) + 1))], .row 5 v4.2 (v4.1.map byteV), .arr 0 1 [[.ptr 0 0 0 0]]]⟩ : St)) v.1.1 v.1.2) ?_ ?_
 ·skip
  refine EV.block ?_
  refine EV.loopB (fun x : { x : Nat × (List UInt8) × Nat // x.1 ≤ p1.length ∧ tArmsB_l4 pz (p1.drop x.1) x.2.1 x.2.2 = z4 ∧ (fun (j4 : Nat) (a4_0 : List UInt8) (a4_1 : Nat) => a4_0.length + 3000000 * bkR ((p1.drop j4).map armC) ≤ 100000000000000) x.1 x.2.1 x.2.2 } => (fun (j4 : Nat) (a4_0 : List UInt8) (a4_1 : Nat) => (⟨[J, J, .ptr 2 0 0 0, J, J, J, J, J, J, J, J, J, J, J, J, .ro 3 (p1.map armC), .i .i64 (p1.length : Int), .i .i64 (j4 : Int), J, J, J, J, J, J, J, J, J, J, J, J, J, J, J, J, J, J, J, J, J, J, J, J], [.var 127 [.ptr 0 0 0 0, .sl 1 a4_1 0 a4_0.length, .i .i64 (IntKind.i64.wrap ((pz : Int) + 1))], .row 5 a4_1 (a4_0.map byteV), .arr 0 1 [[.ptr 0 0 0 0]]]⟩ : St)) x.1.1 x.1.2.1 x.1.2.2) (fun x => p1.length - x.1.1) ⟨(0, pl, pe), Nat.zero_le _, e4, by ((try dsimp only); (try simp only [List.drop_zero, List.length_append, List.length_cons, List.length_nil]); omega)⟩ ?_ ?_
  ·skip
   try dsimp only
   try dsimp only
   refine Sub.cutF 3 (by simp) ?_ ?_ <;> simp [List.range_succ, toIdx_range, passed, hw1]
  rintro ⟨⟨j4, a4_0, a4_1⟩, hi4, e4, q4⟩
  simp only at hi4 e4 ⊢
  try dsimp only at q4
  refine SR ?_
  simp -implicitDefEqProofs [hw1]
  refine EV.seq ?_
  refine EV.room 15 (by rfl) (fun mj4 => ?_)
  simp at mj4
  refine EV.condT ?_
  simp -implicitDefEqProofs [hw1]
  refine condT_intro (fun k1 => ?_) (fun k1 => ?_)
  ·try simp at k1
   have u1 : j4 < p1.length := by omega
   obtain ⟨x4, hx4⟩ : ∃ z, p1[j4] = z := ⟨_, rfl⟩
   have mx4 : x4 ∈ p1 := by rw [← hx4]; exact List.getElem_mem _
   have hd4 := drop_bk (e := armC) hx4
   have hs4 : bkL (armC x4) = x4.variant.length + 1 + (x4.bind.length + 1) + (bkR (x4.body.map stmtC) + 1) := by rw [armC_eq]; simp only [bkL, bkV]; omega
   have hi4 := bkR_in (f := armC) mx4
   have hb4 := (wfR_map _ _).1 hw _ mx4
   rw [armC_eq] at hb4
   have hw4 : wfR (x4.body.map stmtC) := hb4.2.2.1
   rw [List.drop_eq_getElem_cons u1, hx4, tArmsB_l4] at e4
   refine EV.skip ?_
   simp only [KN1, KN2, KN3]
   refine EV.seq (EV.block (SR ?_))
   simp -implicitDefEqProofs [hw1, k1, u1, hx4]
   refine SR ?_
   simp -implicitDefEqProofs [hw1, k1, u1, hx4]
   refine EV.seq (SR ?_)
   simp -implicitDefEqProofs [hw1, k1, u1, hx4]
   obtain ⟨z8, e8, e4⟩ := bnd_split e4
   refine EV.nrm (fun v : { v : ((List UInt8)) × (Unit) // z8 = v.1 ∧ (fun (v8 : (List UInt8)) => v8.length ≤ x4.bind.length + 2) v.1 } => (fun (v8 : (List UInt8)) (g8 : Unit) => (⟨[J, J, .ptr 2 0 0 0, J, J, .ptr 3 0 0 0, .s v8, J, J, J, J, J, J, J, J, .ro 3 (p1.map armC), .i .i64 (p1.length : Int), .i .i64 (j4 : Int), J, J, J, J, J, J, J, J, J, J, J, J, J, J, J, J, J, J, J, J, J, J, J, J], [.var 127 [.ptr 0 0 0 0, .sl 1 a4_1 0 a4_0.length, .i .i64 (IntKind.i64.wrap ((pz : Int) + 1))], .row 5 a4_1 (a4_0.map byteV), .arr 0 1 [[.ptr 0 0 0 0]], .arr 0 3 [[.s x4.variant, .s x4.bind, .ro 21 (x4.body.map stmtC)]]]⟩ : St)) v.1.1 v.1.2) ?_ ?_
   ·skip
    refine EV.condT ?_
    simp -implicitDefEqProofs [hw1, k1, u1, hx4]
    refine condT_intro (fun k2 => ?_) (fun k2 => ?_)
    ·try simp at k2
     obtain ⟨f2, e8⟩ := PO e8 k2
     try simp at f2
     have ct3 : (([40] : List UInt8)).length + (x4.bind).length ≤ 9223372036854775807 := by (first | omega | (simp; omega))
     try simp at ct3
     have ct4 : ((([40] : List UInt8) ++ x4.bind)).length + (([41] : List UInt8)).length ≤ 9223372036854775807 := by (first | omega | (simp; omega))
     try simp at ct4
     refine RG ?_
     simp -implicitDefEqProofs [hw1, k1, u1, hx4, ct3, ct4]
     refine ⟨⟨(((([40] : List UInt8) ++ x4.bind) ++ ([41] : List UInt8)), ()), e8.symm, by ((try dsimp only); first | omega | assumption | (simp; done) | (simp; omega))⟩, ?_⟩
     try dsimp only
     refine Sub.cutF 4 (by simp) ?_ ?_ <;> simp [List.range_succ, toIdx_range, passed, hw1, k1, u1, hx4, ct3, ct4]
    try simp at k2
    obtain ⟨f2, e8⟩ := NO e8 k2
    try simp at f2
    refine EV.skip ?_
    simp only [KN1, KN2, KN3]
    refine ⟨⟨(([] : List UInt8), ()), e8.symm, by ((try dsimp only); first | omega | assumption | (simp; done) | (simp; omega))⟩, ?_⟩
    try dsimp only
    refine Sub.cutF 4 (by simp) ?_ ?_ <;> simp [List.range_succ, toIdx_range, passed, hw1, k1, u1, hx4]
   rintro ⟨⟨v8, g8⟩, e8, p8⟩
   simp only [KN1, KN2, KN3, KN4]
   try dsimp only at p8
   replace e4 := bnd_on e4 e8
   try dsimp only at e4
   refine EV.seq ?_
   have := lineT_len (pz + 1) [x4.variant, v8, ([32, 61, 62, 32, 123] : List UInt8)]
   try simp only [List.map_cons, List.map_nil, List.sum_cons, List.sum_nil, List.length_cons, List.length_nil] at this
   refine RG ?_
   simp -implicitDefEqProofs [hw1, k1, u1, hx4]
   refine callG_own [0, 1, 4] rfl (w_wl3r a4_1 a4_0 (pz + 1) x4.variant v8 ([32, 61, 62, 32, 123] : List UInt8) (by first | omega | (simp; omega))) ?_ ?_ ?_ ?_ ?_ ?_
   ·simp [Nat.add_assoc, List.range_succ, hw1]
   ·simp [Nat.add_assoc, List.range_succ, hw1]
   ·simp [Nat.add_assoc, List.range_succ, hw1]
   ·simp [Nat.add_assoc, List.range_succ, hw1]
   ·simp [Nat.add_assoc, List.range_succ, hw1]
   simp -implicitDefEqProofs [hw1, k1, u1, hx4, keys, callUpd, List.range_succ]
   refine EV.seq ?_
   have := blT_len x4.body (pz + 1) (by omega)
   refine RG ?_
   simp -implicitDefEqProofs [hw1, k1, u1, hx4]
   refine callG_own [0, 1] rfl (H x4.body (a4_1 + 5) (pz + 1) (a4_0 ++ (lineT (pz + 1) [x4.variant, v8, ([32, 61, 62, 32, 123] : List UInt8)])) ⟨_, by assumption, rfl⟩ hw4 (by omega) (by (try simp only [List.length_append, List.length_cons, List.length_nil]); omega)) ?_ ?_ ?_ ?_ ?_ ?_
   ·simp [Nat.add_assoc, List.range_succ, hw1]
   ·simp [Nat.add_assoc, List.range_succ, hw1]
   ·simp [Nat.add_assoc, List.range_succ, hw1]
   ·simp [Nat.add_assoc, List.range_succ, hw1]
   ·simp [Nat.add_assoc, List.range_succ, hw1]
   simp -implicitDefEqProofs [hw1, k1, u1, hx4, keys, callUpd, List.range_succ]
   have := lineT_len (pz + 1) [([125] : List UInt8)]
   try simp only [List.map_cons, List.map_nil, List.sum_cons, List.sum_nil, List.length_cons, List.length_nil] at this
   refine RG ?_
   simp -implicitDefEqProofs [hw1, k1, u1, hx4]
   refine callG_own [0, 1, 5] rfl (w_wl1r ((a4_1 + 5) + blE x4.body) ((a4_0 ++ (lineT (pz + 1) [x4.variant, v8, ([32, 61, 62, 32, 123] : List UInt8)])) ++ blT x4.body (pz + 1)) (pz + 1) ([125] : List UInt8) (by first | omega | (simp; omega))) ?_ ?_ ?_ ?_ ?_ ?_
   ·simp [Nat.add_assoc, List.range_succ, hw1]
   ·simp [Nat.add_assoc, List.range_succ, hw1]
   ·simp [Nat.add_assoc, List.range_succ, hw1]
   ·simp [Nat.add_assoc, List.range_succ, hw1]
   ·simp [Nat.add_assoc, List.range_succ, hw1]
   simp -implicitDefEqProofs [hw1, k1, u1, hx4, keys, callUpd, List.range_succ]
   refine RG ?_
   simp -implicitDefEqProofs [hw1, k1, u1, hx4]
   have w4 : IntKind.i64.wrap ((j4 : Int) + 1) = (j4 : Int) + 1 := wrap_in _ (by omega) (by omega)
   refine ⟨⟨(j4 + 1, (((a4_0 ++ (lineT (pz + 1) [x4.variant, v8, ([32, 61, 62, 32, 123] : List UInt8)])) ++ blT x4.body (pz + 1)) ++ (lineT (pz + 1) [([125] : List UInt8)])), (((a4_1 + 5) + blE x4.body) + 3)), by omega, e4, by ((try dsimp only); (try simp only [List.drop_zero, List.length_append, List.length_cons, List.length_nil]); omega)⟩, by dsimp only; omega, ?_⟩
   try dsimp only
   refine Sub.cutF 3 (by simp) ?_ ?_ <;> simp [List.range_succ, toIdx_range, passed, hw1, k1, u1, hx4, w4]
  try simp at k1
  have d1 : p1.drop j4 = [] := List.drop_eq_nil_of_le (by omega)
  rw [d1, tArmsB_l4] at e4
  refine EV.exit ?_
  simp -implicitDefEqProofs
  refine ⟨⟨((a4_0, a4_1), ()), e4.symm⟩, ?_⟩
  try dsimp only
  refine Sub.cutF 3 (by simp) ?_ ?_ <;> simp [List.range_succ, toIdx_range, passed, hw1]
 ·skip
  rintro ⟨⟨v4, g4⟩, e4⟩
  simp only [KN1, KN2, KN3, KN4]
  replace e := bnd_on e e4
  try dsimp only at e
  try simp only [bodyK_normal]
  subst e
  refine ⟨by simp, _, rfl, ?_⟩
  refine Fin.plain ?_ ?_
  ·simp
  ·simp [List.range_succ, Nat.add_assoc, hw1, hw2, hw3]
end
end Go.Proofs.Tryz
end
