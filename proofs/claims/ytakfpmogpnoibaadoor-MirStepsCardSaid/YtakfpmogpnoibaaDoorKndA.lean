/- Contracts of the program's functions over kinds, and over spots. -/
import Derived.Test.YtakfpmogpnoibaaDoorRefA
import Derived.Test.YtakfpmogpnoibaaDoorMachD
set_option linter.unusedVariables false
set_option linter.unusedSimpArgs false
set_option linter.constructorNameAsVariable false
section
namespace Go.Proofs.Tryd
open Go Go.AM
attribute [local simp] wpG_op wpG_nil contG_some wpG_guard guardG_v guardG_o guardG_tup gval pureOp stepG_if isPick pickG_pick pickB_b pickOK isCall step_move step_assign step_alloc step_box boxV_some step_load step_store step_binOp step_unOp step_fieldAddr faV step_indexAddr ixA_slc ixA_arr step_extract extV_tup step_nilCheck ncV_ptr ncV_rp ncV_fn ncV_mp step_build buildV step_buildSlice bsV step_index ixV_arr ixV_str step_append apB step_makeSlice msV_i step_makeFunc over step_len step_makeMap mmV step_mapUpdate step_insert muA_map muB_mp step_lookup lkA_map lkB_mp step_slice slcV_s slcV_sl slcV_ro cutB_some slObV_arr bound_none bound_some bndV_i lenB_str lenB_ro lenB_sl lenB_nil lenB_z ld_ptr ld_rp offV_ptr offV_rp idxV_ro idxV_sl unV_not unV_neg binV_int binV_str binV_eqlb binV_neqb intOp strOp St.put updL setOb St.ev toV St.lk cellsOf AM.valOf TK.agg stv fillV places TI.zero condT_true condT_false finS resL resSlot packV ren ren1 ren0 Value.cells builtinV appendV elemsOf keepT room_of wrap_in toIdx passed Function.comp_def take_len_map lenV touchOf hid tab1 tab2 tab3 tab4 tab5 tab6 tab7 tab8 tab9 tab10 tab11 tab12 tab13 tab14 tab15 tab16 tab17 tab18 tab19 tab20 tab21 tab22 tab23 tab24 tab25 tab26 tab27 tab28 tab29 tab30 tab31 tab32 tab33 tab34 tab35 tab36 tab37 tab38 tab39 tab40 tab41 tab42 tab43 tab44 tab45 tab46 tab47 tab48 tab49 tab50 tab51 tab52 tab53 tab54 tab55 tab57 tab58 tab59 tab61 tab62 tab63 tab64 tab65 tab66 tab67 tab68 tab69 tab70 tab71 tab72 tab73 tab74 tab75 tab76 tab77 tab78 tab79 tab80 tab81 tab82 tab83 tab84 tab85 tab86 tab87 tab88 tab89 tab90 tab91 tab92 tab93 tab94 tab95 tab96 tab97 tab98 tab99 tab100 tab101 tab103 tab104 tab105 tab106 tab107 tab108 tab109 tab110 tab111 tab112 tab113 tab114 tab115 tab116 tab117 tab118 tab119 tab120 tab121 tab122 tab123 tab124 tab125 tab126 tab127 tab128 tab129 tab130 tab131 tab132 tab133 tab135 tab137 tab138 tab140 tab141 tab142 tab143 tab144 tab145 tab146 tab147 tab148 tab149 tab150 tab151 tab152 tab153 tab155 tab156 tab157 tab158 tab159 tab160 tab161 tab162 tab163 tab164 tab165 tab166 tab167 tab168 tab170 tab171 tab172 tab173 tab174 tab175 tab176 tab177 tab178 tab179 tab180 tab181 tab182 tab186 tab187 tab188 tab189 tab190 tab191 tab192 tab193 tab194 tab195 armC_eq blockC_eq bodyC_eq enumC_eq fieldC_eq fnC_eq inC_eq localC_eq mirBodyC_eq operC_eq placeC_eq rvC_eq sourceC_eq spotC_eq stepC_eq stmtC_eq structC_eq tmC_eq tyC_eq useC_eq valueC_eq variantC_eq cutL_nil cutL_junk cutL_cons ren_arr ren_gone ren_unborn ren_var ren_row step_convert cvV_i cvV_sl cvV_s cvK_slc cvE_u8 bytesOf bor1 bor2 bor3 bor4
set_option linter.unusedSimpArgs false
set_option linter.unusedVariables false
set_option maxRecDepth 10000
set_option maxHeartbeats 4000000
noncomputable section
def ixStruct_l2 (p1 : StructD → Bool) : List StructD → Nat → Ctl (Int) (Unit)
 | [], _ => .go ()
 | x2 :: xs2, j2 => (if (p1 x2) = true then .ret (j2 : Int) else ixStruct_l2 p1 xs2 (j2 + 1))
def ixStruct (p0 : List StructD) (p1 : StructD → Bool) : Int :=
 (Ctl.run (ixStruct_l2 p1 p0 0) fun (v2 : Unit) => (-1))
set_option maxHeartbeats 40000000 in
theorem w_ixStruct1 (p0 : List StructD) (p1 : StructD → Bool)  (csz : Nat) (cc : List V) (hcc : ∀ x ∈ cc, Pu x) (fid1 : FuncId) (H1 : ∀ (u0 : StructD), QC prog fid1 [.agg [.s u0.name, .b u0.drop_, .ro 4 (u0.fields.map fieldC), .i .i64 u0.at_], .ptr 0 0 0 0] [.arr 0 csz [cc]] (.b (p1 u0)) [.arr 0 csz [cc]]) : QC prog 89 [.ro 4 (p0.map structC), .fn fid1 [.ptr 0 0 0 0]] [.arr 0 csz [cc]] (.i .i64 (ixStruct p0 p1)) [.arr 0 csz [cc]] := by
 refine QC.of_body tabOK func89 rfl (by kernel_rfl) ?_
 simp only [f89]
 generalize e : ixStruct p0 p1 = R
 unfold ixStruct at e
 have hren : ∀ μ, cc.map (ren0 μ) = cc := fun μ => pu_map hcc
 refine EV.seq ?_
 refine EV.regionG tabOK ?_ -- region 0
 simp (maxSteps := 2000000) -implicitDefEqProofs [hren]
 refine EV.seq ?_
 refine EV.seq ?_
 refine EV.regionG tabOK ?_ -- region 1
 simp (maxSteps := 2000000) -implicitDefEqProofs [hren]
 obtain ⟨z2, e2, e⟩ := run_split e
 refine EV.nrm (fun v : { v : (Unit) × (Unit) // z2 = .go v.1 } => (fun (v2 : Unit) (g2 : Unit) => (⟨[J, J, J, J, J, J, J, J, J, J, J, J, J, J, J, J, J, J, J], [.arr 0 csz [cc]]⟩ : St)) v.1.1 v.1.2) ?_ ?_
 ·skip
  refine EV.block ?_
  refine EV.loopB (fun x : { x : Nat // x ≤ p0.length ∧ ixStruct_l2 p1 (p0.drop x) x = z2 } => (fun (j2 : Nat) => (⟨[.ro 4 (p0.map structC), .fn fid1 [.ptr 0 0 0 0], J, J, J, J, J, .i .i64 (p0.length : Int), .i .i64 (j2 : Int), J, J, J, J, J, J, J, J, J, J], [.arr 0 csz [cc]]⟩ : St)) x.1) (fun x => p0.length - x.1) ⟨0, Nat.zero_le _, e2⟩ ?_ ?_
  ·skip
   try dsimp only
   try dsimp only
   refine Sub.cutF 1 (by simp) ?_ ?_ <;> simp [List.range_succ, toIdx_range, passed, hren]
  ·skip
   rintro ⟨j2, hi2, e2⟩
   simp only at hi2 e2 ⊢
   refine EV.seq ?_
   refine EV.regionG tabOK ?_ -- region 2
   simp (maxSteps := 2000000) -implicitDefEqProofs [hren]
   refine EV.seq ?_
   refine EV.room 0 (by rfl) (fun mj2 => ?_)
   simp at mj2
   refine EV.condT ?_
   simp -implicitDefEqProofs [hren]
   refine condT_intro (fun k1 => ?_) (fun k1 => ?_)
   ·try simp at k1
    have u1 : j2 < p0.length := by omega
    obtain ⟨x2, hx2⟩ : ∃ z, p0[j2] = z := ⟨_, rfl⟩
    have mx2 : x2 ∈ p0 := by rw [← hx2]; exact List.getElem_mem _
    rw [List.drop_eq_getElem_cons u1, hx2, ixStruct_l2] at e2
    refine EV.skip ?_
    simp only [thenK_normal, blockK_normal, scopeK_normal]
    refine EV.seq ?_
    refine EV.block ?_
    refine EV.seq ?_
    refine EV.regionG tabOK ?_ -- region 3
    simp (maxSteps := 2000000) -implicitDefEqProofs [hren, k1, u1, hx2]
    refine EV.seq ?_
    refine EV.regionG tabOK ?_ -- region 4
    simp (maxSteps := 2000000) -implicitDefEqProofs [hren, k1, u1, hx2]
    refine callG_own [0] rfl (H1 x2) ?_ ?_ ?_ ?_ ?_ ?_
    ·simp [hren]
    ·simp [hren]
    ·simp
    ·simp
    ·simp
    simp (maxSteps := 2000000) -implicitDefEqProofs [hren, k1, u1, hx2, keys, callUpd, List.range_succ]
    refine EV.condT ?_
    simp -implicitDefEqProofs [hren, k1, u1, hx2]
    refine condT_intro (fun k2 => ?_) (fun k2 => ?_)
    ·try simp at k2
     obtain ⟨f2, e2⟩ := pos_on2 e2 (by first | simpa using k2 | grind)
     try simp at f2
     refine EV.seq ?_
     refine EV.regionG tabOK ?_ -- region 5
     simp (maxSteps := 2000000) -implicitDefEqProofs [hren, k1, u1, hx2]
     refine EV.ret ?_
     simp only [thenK_ret, blockK_ret, scopeK_ret, bodyK_ret]
     replace e := run_back e e2
     subst e
     refine Fin.plain ?_ ?_
     ·simp
     ·simp [List.range_succ, hren]
    ·try simp at k2
     obtain ⟨f2, e2⟩ := neg_on2 e2 (by first | simpa using k2 | grind)
     try simp at f2
     refine EV.skip ?_
     simp only [thenK_normal, blockK_normal, scopeK_normal]
     refine EV.regionG tabOK ?_ -- region 6
     simp (maxSteps := 2000000) -implicitDefEqProofs [hren, k1, u1, hx2]
     have w2 : IntKind.i64.wrap ((j2 : Int) + 1) = (j2 : Int) + 1 := wrap_in _ (by omega) (by omega)
     refine ⟨⟨j2 + 1, by omega, e2⟩, by dsimp only; omega, ?_⟩
     try dsimp only
     refine Sub.cutF 1 (by simp) ?_ ?_ <;> simp [List.range_succ, toIdx_range, passed, hren, k1, u1, hx2, w2]
   ·try simp at k1
    have d1 : p0.drop j2 = [] := List.drop_eq_nil_of_le (by omega)
    rw [d1, ixStruct_l2] at e2
    refine EV.exit ?_
    simp -implicitDefEqProofs
    refine ⟨⟨((), ()), e2.symm⟩, ?_⟩
    try dsimp only
    refine Sub.cutF 1 (by simp) ?_ ?_ <;> simp [List.range_succ, toIdx_range, passed, hren]
 ·skip
  rintro ⟨⟨v2, g2⟩, e2⟩
  simp only [thenK_normal, blockK_normal, scopeK_normal, bodyK_normal]
  replace e := run_on e e2
  try dsimp only at e
  refine EV.seq ?_
  refine EV.regionG tabOK ?_ -- region 7
  simp (maxSteps := 2000000) -implicitDefEqProofs [hren]
  refine EV.ret ?_
  simp only [thenK_ret, blockK_ret, scopeK_ret, bodyK_ret]
  subst e
  refine Fin.plain ?_ ?_
  ·simp
  ·simp [List.range_succ, hren]


def kStructOf_1 (c0 : List UInt8) (p0 : StructD) : Bool :=
 (decide (p0.name = c0))
set_option maxHeartbeats 40000000 in
theorem w_kStructOf_1 (c0 : List UInt8) (p0 : StructD)  : QC prog 90 [.agg [.s p0.name, .b p0.drop_, .ro 4 (p0.fields.map fieldC), .i .i64 p0.at_], .ptr 0 0 0 0] [.arr 0 1 [[.s c0]]] (.b (kStructOf_1 c0 p0)) [.arr 0 1 [[.s c0]]] := by
 refine QC.of_body tabOK func90 rfl (by kernel_rfl) ?_
 simp only [f90]
 generalize e : kStructOf_1 c0 p0 = R
 unfold kStructOf_1 at e
 refine EV.seq ?_
 refine EV.regionG tabOK ?_ -- region 0
 simp (maxSteps := 2000000) -implicitDefEqProofs
 refine EV.seq ?_
 refine EV.regionG tabOK ?_ -- region 1
 simp (maxSteps := 2000000) -implicitDefEqProofs
 refine EV.ret ?_
 simp only [thenK_ret, blockK_ret, scopeK_ret, bodyK_ret]
 subst e
 refine Fin.plain ?_ ?_
 ·simp
 ·simp [List.range_succ]


def kStructOf (p0 : SourceD) (p1 : List UInt8) : Int :=
 (ixStruct p0.structs (kStructOf_1 p1))
set_option maxHeartbeats 40000000 in
theorem w_kStructOf (p0 : SourceD) (p1 : List UInt8)  : QC prog 76 [.agg [.ro 4 (p0.structs.map structC), .ro 3 (p0.enums.map enumC), .ro 4 (p0.fns.map fnC)], .s p1] [] (.i .i64 (kStructOf p0 p1)) [] := by
 refine QC.of_body tabOK func76 rfl (by kernel_rfl) ?_
 simp only [f76]
 generalize e : kStructOf p0 p1 = R
 unfold kStructOf at e
 refine EV.seq ?_
 refine EV.regionG tabOK ?_ -- region 0
 simp (maxSteps := 2000000) -implicitDefEqProofs
 refine EV.seq ?_
 refine EV.regionG tabOK ?_ -- region 1
 simp (maxSteps := 2000000) -implicitDefEqProofs
 refine callG_own [1] rfl (w_ixStruct1 p0.structs (kStructOf_1 p1) 1 [.s p1] (by simp [Pu]) 90 (fun u0  => w_kStructOf_1 p1 u0)) ?_ ?_ ?_ ?_ ?_ ?_
 ·simp
 ·simp
 ·simp
 ·simp
 ·simp
 simp (maxSteps := 2000000) -implicitDefEqProofs [keys, callUpd, List.range_succ]
 refine EV.ret ?_
 simp only [thenK_ret, blockK_ret, scopeK_ret, bodyK_ret]
 subst e
 refine Fin.pure0 ?_
 first | (simp; done) | (simp <;> grind)

theorem ixStruct_at (p1 : StructD → Bool) : ∀ l j v, ixStruct_l2 p1 l j = .ret v → v < (j : Int) + l.length
 | [], j, v, h => by simp [ixStruct_l2] at h
 | x :: l, j, v, h => by
  simp only [ixStruct_l2] at h
  split at h
  ·simp at h; subst h; simp; omega
  ·have := ixStruct_at p1 l (j + 1) v h
   simp; omega
theorem kStructOf_lt (p0 : SourceD) (p1 : List UInt8) : kStructOf p0 p1 < p0.structs.length := by
 unfold kStructOf ixStruct
 cases h : ixStruct_l2 (kStructOf_1 p1) p0.structs 0 with
 | ret v => have := ixStruct_at _ _ _ _ h; simp only [Ctl.run]; omega
 | go v => simp only [Ctl.run]; omega

def ixEnum_l2 (p1 : EnumD → Bool) : List EnumD → Nat → Ctl (Int) (Unit)
 | [], _ => .go ()
 | x2 :: xs2, j2 => (if (p1 x2) = true then .ret (j2 : Int) else ixEnum_l2 p1 xs2 (j2 + 1))
def ixEnum (p0 : List EnumD) (p1 : EnumD → Bool) : Int :=
 (Ctl.run (ixEnum_l2 p1 p0 0) fun (v2 : Unit) => (-1))
set_option maxHeartbeats 40000000 in
theorem w_ixEnum1 (p0 : List EnumD) (p1 : EnumD → Bool)  (csz : Nat) (cc : List V) (hcc : ∀ x ∈ cc, Pu x) (fid1 : FuncId) (H1 : ∀ (u0 : EnumD), QC prog fid1 [.agg [.s u0.name, .ro 4 (u0.variants.map variantC), .i .i64 u0.at_], .ptr 0 0 0 0] [.arr 0 csz [cc]] (.b (p1 u0)) [.arr 0 csz [cc]]) : QC prog 91 [.ro 3 (p0.map enumC), .fn fid1 [.ptr 0 0 0 0]] [.arr 0 csz [cc]] (.i .i64 (ixEnum p0 p1)) [.arr 0 csz [cc]] := by
 refine QC.of_body tabOK func91 rfl (by kernel_rfl) ?_
 simp only [f91]
 generalize e : ixEnum p0 p1 = R
 unfold ixEnum at e
 have hren : ∀ μ, cc.map (ren0 μ) = cc := fun μ => pu_map hcc
 refine EV.seq ?_
 refine EV.regionG tabOK ?_ -- region 0
 simp (maxSteps := 2000000) -implicitDefEqProofs [hren]
 refine EV.seq ?_
 refine EV.seq ?_
 refine EV.regionG tabOK ?_ -- region 1
 simp (maxSteps := 2000000) -implicitDefEqProofs [hren]
 obtain ⟨z2, e2, e⟩ := run_split e
 refine EV.nrm (fun v : { v : (Unit) × (Unit) // z2 = .go v.1 } => (fun (v2 : Unit) (g2 : Unit) => (⟨[J, J, J, J, J, J, J, J, J, J, J, J, J, J, J, J, J, J, J], [.arr 0 csz [cc]]⟩ : St)) v.1.1 v.1.2) ?_ ?_
 ·skip
  refine EV.block ?_
  refine EV.loopB (fun x : { x : Nat // x ≤ p0.length ∧ ixEnum_l2 p1 (p0.drop x) x = z2 } => (fun (j2 : Nat) => (⟨[.ro 3 (p0.map enumC), .fn fid1 [.ptr 0 0 0 0], J, J, J, J, J, .i .i64 (p0.length : Int), .i .i64 (j2 : Int), J, J, J, J, J, J, J, J, J, J], [.arr 0 csz [cc]]⟩ : St)) x.1) (fun x => p0.length - x.1) ⟨0, Nat.zero_le _, e2⟩ ?_ ?_
  ·skip
   try dsimp only
   try dsimp only
   refine Sub.cutF 1 (by simp) ?_ ?_ <;> simp [List.range_succ, toIdx_range, passed, hren]
  ·skip
   rintro ⟨j2, hi2, e2⟩
   simp only at hi2 e2 ⊢
   refine EV.seq ?_
   refine EV.regionG tabOK ?_ -- region 2
   simp (maxSteps := 2000000) -implicitDefEqProofs [hren]
   refine EV.seq ?_
   refine EV.room 0 (by rfl) (fun mj2 => ?_)
   simp at mj2
   refine EV.condT ?_
   simp -implicitDefEqProofs [hren]
   refine condT_intro (fun k1 => ?_) (fun k1 => ?_)
   ·try simp at k1
    have u1 : j2 < p0.length := by omega
    obtain ⟨x2, hx2⟩ : ∃ z, p0[j2] = z := ⟨_, rfl⟩
    have mx2 : x2 ∈ p0 := by rw [← hx2]; exact List.getElem_mem _
    rw [List.drop_eq_getElem_cons u1, hx2, ixEnum_l2] at e2
    refine EV.skip ?_
    simp only [thenK_normal, blockK_normal, scopeK_normal]
    refine EV.seq ?_
    refine EV.block ?_
    refine EV.seq ?_
    refine EV.regionG tabOK ?_ -- region 3
    simp (maxSteps := 2000000) -implicitDefEqProofs [hren, k1, u1, hx2]
    refine EV.seq ?_
    refine EV.regionG tabOK ?_ -- region 4
    simp (maxSteps := 2000000) -implicitDefEqProofs [hren, k1, u1, hx2]
    refine callG_own [0] rfl (H1 x2) ?_ ?_ ?_ ?_ ?_ ?_
    ·simp [hren]
    ·simp [hren]
    ·simp
    ·simp
    ·simp
    simp (maxSteps := 2000000) -implicitDefEqProofs [hren, k1, u1, hx2, keys, callUpd, List.range_succ]
    refine EV.condT ?_
    simp -implicitDefEqProofs [hren, k1, u1, hx2]
    refine condT_intro (fun k2 => ?_) (fun k2 => ?_)
    ·try simp at k2
     obtain ⟨f2, e2⟩ := pos_on2 e2 (by first | simpa using k2 | grind)
     try simp at f2
     refine EV.seq ?_
     refine EV.regionG tabOK ?_ -- region 5
     simp (maxSteps := 2000000) -implicitDefEqProofs [hren, k1, u1, hx2]
     refine EV.ret ?_
     simp only [thenK_ret, blockK_ret, scopeK_ret, bodyK_ret]
     replace e := run_back e e2
     subst e
     refine Fin.plain ?_ ?_
     ·simp
     ·simp [List.range_succ, hren]
    ·try simp at k2
     obtain ⟨f2, e2⟩ := neg_on2 e2 (by first | simpa using k2 | grind)
     try simp at f2
     refine EV.skip ?_
     simp only [thenK_normal, blockK_normal, scopeK_normal]
     refine EV.regionG tabOK ?_ -- region 6
     simp (maxSteps := 2000000) -implicitDefEqProofs [hren, k1, u1, hx2]
     have w2 : IntKind.i64.wrap ((j2 : Int) + 1) = (j2 : Int) + 1 := wrap_in _ (by omega) (by omega)
     refine ⟨⟨j2 + 1, by omega, e2⟩, by dsimp only; omega, ?_⟩
     try dsimp only
     refine Sub.cutF 1 (by simp) ?_ ?_ <;> simp [List.range_succ, toIdx_range, passed, hren, k1, u1, hx2, w2]
   ·try simp at k1
    have d1 : p0.drop j2 = [] := List.drop_eq_nil_of_le (by omega)
    rw [d1, ixEnum_l2] at e2
    refine EV.exit ?_
    simp -implicitDefEqProofs
    refine ⟨⟨((), ()), e2.symm⟩, ?_⟩
    try dsimp only
    refine Sub.cutF 1 (by simp) ?_ ?_ <;> simp [List.range_succ, toIdx_range, passed, hren]
 ·skip
  rintro ⟨⟨v2, g2⟩, e2⟩
  simp only [thenK_normal, blockK_normal, scopeK_normal, bodyK_normal]
  replace e := run_on e e2
  try dsimp only at e
  refine EV.seq ?_
  refine EV.regionG tabOK ?_ -- region 7
  simp (maxSteps := 2000000) -implicitDefEqProofs [hren]
  refine EV.ret ?_
  simp only [thenK_ret, blockK_ret, scopeK_ret, bodyK_ret]
  subst e
  refine Fin.plain ?_ ?_
  ·simp
  ·simp [List.range_succ, hren]


def kEnumOf_1 (c0 : List UInt8) (p0 : EnumD) : Bool :=
 (decide (p0.name = c0))
set_option maxHeartbeats 40000000 in
theorem w_kEnumOf_1 (c0 : List UInt8) (p0 : EnumD)  : QC prog 92 [.agg [.s p0.name, .ro 4 (p0.variants.map variantC), .i .i64 p0.at_], .ptr 0 0 0 0] [.arr 0 1 [[.s c0]]] (.b (kEnumOf_1 c0 p0)) [.arr 0 1 [[.s c0]]] := by
 refine QC.of_body tabOK func92 rfl (by kernel_rfl) ?_
 simp only [f92]
 generalize e : kEnumOf_1 c0 p0 = R
 unfold kEnumOf_1 at e
 refine EV.seq ?_
 refine EV.regionG tabOK ?_ -- region 0
 simp (maxSteps := 2000000) -implicitDefEqProofs
 refine EV.seq ?_
 refine EV.regionG tabOK ?_ -- region 1
 simp (maxSteps := 2000000) -implicitDefEqProofs
 refine EV.ret ?_
 simp only [thenK_ret, blockK_ret, scopeK_ret, bodyK_ret]
 subst e
 refine Fin.plain ?_ ?_
 ·simp
 ·simp [List.range_succ]


def kEnumOf (p0 : SourceD) (p1 : List UInt8) : Int :=
 (ixEnum p0.enums (kEnumOf_1 p1))
set_option maxHeartbeats 40000000 in
theorem w_kEnumOf (p0 : SourceD) (p1 : List UInt8)  : QC prog 77 [.agg [.ro 4 (p0.structs.map structC), .ro 3 (p0.enums.map enumC), .ro 4 (p0.fns.map fnC)], .s p1] [] (.i .i64 (kEnumOf p0 p1)) [] := by
 refine QC.of_body tabOK func77 rfl (by kernel_rfl) ?_
 simp only [f77]
 generalize e : kEnumOf p0 p1 = R
 unfold kEnumOf at e
 refine EV.seq ?_
 refine EV.regionG tabOK ?_ -- region 0
 simp (maxSteps := 2000000) -implicitDefEqProofs
 refine EV.seq ?_
 refine EV.regionG tabOK ?_ -- region 1
 simp (maxSteps := 2000000) -implicitDefEqProofs
 refine callG_own [1] rfl (w_ixEnum1 p0.enums (kEnumOf_1 p1) 1 [.s p1] (by simp [Pu]) 92 (fun u0  => w_kEnumOf_1 p1 u0)) ?_ ?_ ?_ ?_ ?_ ?_
 ·simp
 ·simp
 ·simp
 ·simp
 ·simp
 simp (maxSteps := 2000000) -implicitDefEqProofs [keys, callUpd, List.range_succ]
 refine EV.ret ?_
 simp only [thenK_ret, blockK_ret, scopeK_ret, bodyK_ret]
 subst e
 refine Fin.pure0 ?_
 first | (simp; done) | (simp <;> grind)

theorem ixEnum_at (p1 : EnumD → Bool) : ∀ l j v, ixEnum_l2 p1 l j = .ret v → v < (j : Int) + l.length
 | [], j, v, h => by simp [ixEnum_l2] at h
 | x :: l, j, v, h => by
  simp only [ixEnum_l2] at h
  split at h
  ·simp at h; subst h; simp; omega
  ·have := ixEnum_at p1 l (j + 1) v h
   simp; omega
theorem kEnumOf_lt (p0 : SourceD) (p1 : List UInt8) : kEnumOf p0 p1 < p0.enums.length := by
 unfold kEnumOf ixEnum
 cases h : ixEnum_l2 (kEnumOf_1 p1) p0.enums 0 with
 | ret v => have := ixEnum_at _ _ _ _ h; simp only [Ctl.run]; omega
 | go v => simp only [Ctl.run]; omega

def ixFn_l2 (p1 : FnD → Bool) : List FnD → Nat → Ctl (Int) (Unit)
 | [], _ => .go ()
 | x2 :: xs2, j2 => (if (p1 x2) = true then .ret (j2 : Int) else ixFn_l2 p1 xs2 (j2 + 1))
def ixFn (p0 : List FnD) (p1 : FnD → Bool) : Int :=
 (Ctl.run (ixFn_l2 p1 p0 0) fun (v2 : Unit) => (-1))
set_option maxHeartbeats 40000000 in
theorem w_ixFn1 (p0 : List FnD) (p1 : FnD → Bool)  (csz : Nat) (cc : List V) (hcc : ∀ x ∈ cc, Pu x) (fid1 : FuncId) (H1 : ∀ (u0 : FnD), QC prog fid1 [.agg [.s u0.name, .ro 4 (u0.params.map fieldC), .ro 21 (u0.body.map stmtC), .i .i64 u0.at_], .ptr 0 0 0 0] [.arr 0 csz [cc]] (.b (p1 u0)) [.arr 0 csz [cc]]) : QC prog 93 [.ro 4 (p0.map fnC), .fn fid1 [.ptr 0 0 0 0]] [.arr 0 csz [cc]] (.i .i64 (ixFn p0 p1)) [.arr 0 csz [cc]] := by
 refine QC.of_body tabOK func93 rfl (by kernel_rfl) ?_
 simp only [f93]
 generalize e : ixFn p0 p1 = R
 unfold ixFn at e
 have hren : ∀ μ, cc.map (ren0 μ) = cc := fun μ => pu_map hcc
 refine EV.seq ?_
 refine EV.regionG tabOK ?_ -- region 0
 simp (maxSteps := 2000000) -implicitDefEqProofs [hren]
 refine EV.seq ?_
 refine EV.seq ?_
 refine EV.regionG tabOK ?_ -- region 1
 simp (maxSteps := 2000000) -implicitDefEqProofs [hren]
 obtain ⟨z2, e2, e⟩ := run_split e
 refine EV.nrm (fun v : { v : (Unit) × (Unit) // z2 = .go v.1 } => (fun (v2 : Unit) (g2 : Unit) => (⟨[J, J, J, J, J, J, J, J, J, J, J, J, J, J, J, J, J, J, J], [.arr 0 csz [cc]]⟩ : St)) v.1.1 v.1.2) ?_ ?_
 ·skip
  refine EV.block ?_
  refine EV.loopB (fun x : { x : Nat // x ≤ p0.length ∧ ixFn_l2 p1 (p0.drop x) x = z2 } => (fun (j2 : Nat) => (⟨[.ro 4 (p0.map fnC), .fn fid1 [.ptr 0 0 0 0], J, J, J, J, J, .i .i64 (p0.length : Int), .i .i64 (j2 : Int), J, J, J, J, J, J, J, J, J, J], [.arr 0 csz [cc]]⟩ : St)) x.1) (fun x => p0.length - x.1) ⟨0, Nat.zero_le _, e2⟩ ?_ ?_
  ·skip
   try dsimp only
   try dsimp only
   refine Sub.cutF 1 (by simp) ?_ ?_ <;> simp [List.range_succ, toIdx_range, passed, hren]
  ·skip
   rintro ⟨j2, hi2, e2⟩
   simp only at hi2 e2 ⊢
   refine EV.seq ?_
   refine EV.regionG tabOK ?_ -- region 2
   simp (maxSteps := 2000000) -implicitDefEqProofs [hren]
   refine EV.seq ?_
   refine EV.room 0 (by rfl) (fun mj2 => ?_)
   simp at mj2
   refine EV.condT ?_
   simp -implicitDefEqProofs [hren]
   refine condT_intro (fun k1 => ?_) (fun k1 => ?_)
   ·try simp at k1
    have u1 : j2 < p0.length := by omega
    obtain ⟨x2, hx2⟩ : ∃ z, p0[j2] = z := ⟨_, rfl⟩
    have mx2 : x2 ∈ p0 := by rw [← hx2]; exact List.getElem_mem _
    rw [List.drop_eq_getElem_cons u1, hx2, ixFn_l2] at e2
    refine EV.skip ?_
    simp only [thenK_normal, blockK_normal, scopeK_normal]
    refine EV.seq ?_
    refine EV.block ?_
    refine EV.seq ?_
    refine EV.regionG tabOK ?_ -- region 3
    simp (maxSteps := 2000000) -implicitDefEqProofs [hren, k1, u1, hx2]
    refine EV.seq ?_
    refine EV.regionG tabOK ?_ -- region 4
    simp (maxSteps := 2000000) -implicitDefEqProofs [hren, k1, u1, hx2]
    refine callG_own [0] rfl (H1 x2) ?_ ?_ ?_ ?_ ?_ ?_
    ·simp [hren]
    ·simp [hren]
    ·simp
    ·simp
    ·simp
    simp (maxSteps := 2000000) -implicitDefEqProofs [hren, k1, u1, hx2, keys, callUpd, List.range_succ]
    refine EV.condT ?_
    simp -implicitDefEqProofs [hren, k1, u1, hx2]
    refine condT_intro (fun k2 => ?_) (fun k2 => ?_)
    ·try simp at k2
     obtain ⟨f2, e2⟩ := pos_on2 e2 (by first | simpa using k2 | grind)
     try simp at f2
     refine EV.seq ?_
     refine EV.regionG tabOK ?_ -- region 5
     simp (maxSteps := 2000000) -implicitDefEqProofs [hren, k1, u1, hx2]
     refine EV.ret ?_
     simp only [thenK_ret, blockK_ret, scopeK_ret, bodyK_ret]
     replace e := run_back e e2
     subst e
     refine Fin.plain ?_ ?_
     ·simp
     ·simp [List.range_succ, hren]
    ·try simp at k2
     obtain ⟨f2, e2⟩ := neg_on2 e2 (by first | simpa using k2 | grind)
     try simp at f2
     refine EV.skip ?_
     simp only [thenK_normal, blockK_normal, scopeK_normal]
     refine EV.regionG tabOK ?_ -- region 6
     simp (maxSteps := 2000000) -implicitDefEqProofs [hren, k1, u1, hx2]
     have w2 : IntKind.i64.wrap ((j2 : Int) + 1) = (j2 : Int) + 1 := wrap_in _ (by omega) (by omega)
     refine ⟨⟨j2 + 1, by omega, e2⟩, by dsimp only; omega, ?_⟩
     try dsimp only
     refine Sub.cutF 1 (by simp) ?_ ?_ <;> simp [List.range_succ, toIdx_range, passed, hren, k1, u1, hx2, w2]
   ·try simp at k1
    have d1 : p0.drop j2 = [] := List.drop_eq_nil_of_le (by omega)
    rw [d1, ixFn_l2] at e2
    refine EV.exit ?_
    simp -implicitDefEqProofs
    refine ⟨⟨((), ()), e2.symm⟩, ?_⟩
    try dsimp only
    refine Sub.cutF 1 (by simp) ?_ ?_ <;> simp [List.range_succ, toIdx_range, passed, hren]
 ·skip
  rintro ⟨⟨v2, g2⟩, e2⟩
  simp only [thenK_normal, blockK_normal, scopeK_normal, bodyK_normal]
  replace e := run_on e e2
  try dsimp only at e
  refine EV.seq ?_
  refine EV.regionG tabOK ?_ -- region 7
  simp (maxSteps := 2000000) -implicitDefEqProofs [hren]
  refine EV.ret ?_
  simp only [thenK_ret, blockK_ret, scopeK_ret, bodyK_ret]
  subst e
  refine Fin.plain ?_ ?_
  ·simp
  ·simp [List.range_succ, hren]


def kFnOf_1 (c0 : List UInt8) (p0 : FnD) : Bool :=
 (decide (p0.name = c0))
set_option maxHeartbeats 40000000 in
theorem w_kFnOf_1 (c0 : List UInt8) (p0 : FnD)  : QC prog 94 [.agg [.s p0.name, .ro 4 (p0.params.map fieldC), .ro 21 (p0.body.map stmtC), .i .i64 p0.at_], .ptr 0 0 0 0] [.arr 0 1 [[.s c0]]] (.b (kFnOf_1 c0 p0)) [.arr 0 1 [[.s c0]]] := by
 refine QC.of_body tabOK func94 rfl (by kernel_rfl) ?_
 simp only [f94]
 generalize e : kFnOf_1 c0 p0 = R
 unfold kFnOf_1 at e
 refine EV.seq ?_
 refine EV.regionG tabOK ?_ -- region 0
 simp (maxSteps := 2000000) -implicitDefEqProofs
 refine EV.seq ?_
 refine EV.regionG tabOK ?_ -- region 1
 simp (maxSteps := 2000000) -implicitDefEqProofs
 refine EV.ret ?_
 simp only [thenK_ret, blockK_ret, scopeK_ret, bodyK_ret]
 subst e
 refine Fin.plain ?_ ?_
 ·simp
 ·simp [List.range_succ]


def kFnOf (p0 : SourceD) (p1 : List UInt8) : Int :=
 (ixFn p0.fns (kFnOf_1 p1))
set_option maxHeartbeats 40000000 in
theorem w_kFnOf (p0 : SourceD) (p1 : List UInt8)  : QC prog 78 [.agg [.ro 4 (p0.structs.map structC), .ro 3 (p0.enums.map enumC), .ro 4 (p0.fns.map fnC)], .s p1] [] (.i .i64 (kFnOf p0 p1)) [] := by
 refine QC.of_body tabOK func78 rfl (by kernel_rfl) ?_
 simp only [f78]
 generalize e : kFnOf p0 p1 = R
 unfold kFnOf at e
 refine EV.seq ?_
 refine EV.regionG tabOK ?_ -- region 0
 simp (maxSteps := 2000000) -implicitDefEqProofs
 refine EV.seq ?_
 refine EV.regionG tabOK ?_ -- region 1
 simp (maxSteps := 2000000) -implicitDefEqProofs
 refine callG_own [1] rfl (w_ixFn1 p0.fns (kFnOf_1 p1) 1 [.s p1] (by simp [Pu]) 94 (fun u0  => w_kFnOf_1 p1 u0)) ?_ ?_ ?_ ?_ ?_ ?_
 ·simp
 ·simp
 ·simp
 ·simp
 ·simp
 simp (maxSteps := 2000000) -implicitDefEqProofs [keys, callUpd, List.range_succ]
 refine EV.ret ?_
 simp only [thenK_ret, blockK_ret, scopeK_ret, bodyK_ret]
 subst e
 refine Fin.pure0 ?_
 first | (simp; done) | (simp <;> grind)

theorem ixFn_at (p1 : FnD → Bool) : ∀ l j v, ixFn_l2 p1 l j = .ret v → v < (j : Int) + l.length
 | [], j, v, h => by simp [ixFn_l2] at h
 | x :: l, j, v, h => by
  simp only [ixFn_l2] at h
  split at h
  ·simp at h; subst h; simp; omega
  ·have := ixFn_at p1 l (j + 1) v h
   simp; omega
theorem kFnOf_lt (p0 : SourceD) (p1 : List UInt8) : kFnOf p0 p1 < p0.fns.length := by
 unfold kFnOf ixFn
 cases h : ixFn_l2 (kFnOf_1 p1) p0.fns 0 with
 | ret v => have := ixFn_at _ _ _ _ h; simp only [Ctl.run]; omega
 | go v => simp only [Ctl.run]; omega
def ixTy_l2 (p1 : TyD → Bool) : List TyD → Nat → Ctl (Int) (Unit)
 | [], _ => .go ()
 | x2 :: xs2, j2 => (if (p1 x2) = true then .ret (j2 : Int) else ixTy_l2 p1 xs2 (j2 + 1))
def ixTy (p0 : List TyD) (p1 : TyD → Bool) : Int :=
 (Ctl.run (ixTy_l2 p1 p0 0) fun (v2 : Unit) => (-1))
set_option maxHeartbeats 40000000 in
theorem w_ixTy0 (p0 : List TyD) (p1 : TyD → Bool)  (fid1 : FuncId) (H1 : ∀ (u0 : TyD), u0 ∈ p0 → QC prog fid1 [.agg [.i .i64 u0.k, .s u0.name, .ro 3 (u0.l.map tyC)]] [] (.b (p1 u0)) []) : QC prog 80 [.ro 3 (p0.map tyC), .fn fid1 []] [] (.i .i64 (ixTy p0 p1)) [] := by
 refine QC.of_body tabOK func80 rfl (by kernel_rfl) ?_
 simp only [f80]
 generalize e : ixTy p0 p1 = R
 unfold ixTy at e
 refine EV.seq ?_
 refine EV.regionG tabOK ?_ -- region 0
 simp (maxSteps := 2000000) -implicitDefEqProofs
 refine EV.seq ?_
 refine EV.seq ?_
 refine EV.regionG tabOK ?_ -- region 1
 simp (maxSteps := 2000000) -implicitDefEqProofs
 obtain ⟨z2, e2, e⟩ := run_split e
 refine EV.nrm (fun v : { v : (Unit) × (Unit) // z2 = .go v.1 } => (fun (v2 : Unit) (g2 : Unit) => (⟨[J, J, J, J, J, J, J, J, J, J, J, J, J, J, J, J, J, J, J], []⟩ : St)) v.1.1 v.1.2) ?_ ?_
 ·skip
  refine EV.block ?_
  refine EV.loopB (fun x : { x : Nat // x ≤ p0.length ∧ ixTy_l2 p1 (p0.drop x) x = z2 } => (fun (j2 : Nat) => (⟨[.ro 3 (p0.map tyC), .fn fid1 [], J, J, J, J, J, .i .i64 (p0.length : Int), .i .i64 (j2 : Int), J, J, J, J, J, J, J, J, J, J], []⟩ : St)) x.1) (fun x => p0.length - x.1) ⟨0, Nat.zero_le _, e2⟩ ?_ ?_
  ·skip
   try dsimp only
   try dsimp only
   refine Sub.cutF 0 (by simp) ?_ ?_ <;> simp [List.range_succ, toIdx_range, passed]
  ·skip
   rintro ⟨j2, hi2, e2⟩
   simp only at hi2 e2 ⊢
   refine EV.seq ?_
   refine EV.regionG tabOK ?_ -- region 2
   simp (maxSteps := 2000000) -implicitDefEqProofs
   refine EV.seq ?_
   refine EV.room 0 (by rfl) (fun mj2 => ?_)
   simp at mj2
   refine EV.condT ?_
   simp -implicitDefEqProofs
   refine condT_intro (fun k1 => ?_) (fun k1 => ?_)
   ·try simp at k1
    have u1 : j2 < p0.length := by omega
    obtain ⟨x2, hx2⟩ : ∃ z, p0[j2] = z := ⟨_, rfl⟩
    have mx2 : x2 ∈ p0 := by rw [← hx2]; exact List.getElem_mem _
    rw [List.drop_eq_getElem_cons u1, hx2, ixTy_l2] at e2
    refine EV.skip ?_
    simp only [thenK_normal, blockK_normal, scopeK_normal]
    refine EV.seq ?_
    refine EV.block ?_
    refine EV.seq ?_
    refine EV.regionG tabOK ?_ -- region 3
    simp (maxSteps := 2000000) -implicitDefEqProofs [k1, u1, hx2]
    refine EV.seq ?_
    refine EV.regionG tabOK ?_ -- region 4
    simp (maxSteps := 2000000) -implicitDefEqProofs [k1, u1, hx2]
    refine callG_own [] rfl (H1 x2 (by assumption)) ?_ ?_ ?_ ?_ ?_ ?_
    ·simp
    ·simp
    ·simp
    ·simp
    ·simp
    simp (maxSteps := 2000000) -implicitDefEqProofs [k1, u1, hx2, keys, callUpd, List.range_succ]
    refine EV.condT ?_
    simp -implicitDefEqProofs [k1, u1, hx2]
    refine condT_intro (fun k2 => ?_) (fun k2 => ?_)
    ·try simp at k2
     obtain ⟨f2, e2⟩ := pos_on2 e2 (by first | simpa using k2 | grind)
     try simp at f2
     refine EV.seq ?_
     refine EV.regionG tabOK ?_ -- region 5
     simp (maxSteps := 2000000) -implicitDefEqProofs [k1, u1, hx2]
     refine EV.ret ?_
     simp only [thenK_ret, blockK_ret, scopeK_ret, bodyK_ret]
     replace e := run_back e e2
     subst e
     refine Fin.pure0 ?_
     first | (simp; done) | (simp <;> grind)
    ·try simp at k2
     obtain ⟨f2, e2⟩ := neg_on2 e2 (by first | simpa using k2 | grind)
     try simp at f2
     refine EV.skip ?_
     simp only [thenK_normal, blockK_normal, scopeK_normal]
     refine EV.regionG tabOK ?_ -- region 6
     simp (maxSteps := 2000000) -implicitDefEqProofs [k1, u1, hx2]
     have w2 : IntKind.i64.wrap ((j2 : Int) + 1) = (j2 : Int) + 1 := wrap_in _ (by omega) (by omega)
     refine ⟨⟨j2 + 1, by omega, e2⟩, by dsimp only; omega, ?_⟩
     try dsimp only
     refine Sub.cutF 0 (by simp) ?_ ?_ <;> simp [List.range_succ, toIdx_range, passed, k1, u1, hx2, w2]
   ·try simp at k1
    have d1 : p0.drop j2 = [] := List.drop_eq_nil_of_le (by omega)
    rw [d1, ixTy_l2] at e2
    refine EV.exit ?_
    simp -implicitDefEqProofs
    refine ⟨⟨((), ()), e2.symm⟩, ?_⟩
    try dsimp only
    refine Sub.cutF 0 (by simp) ?_ ?_ <;> simp [List.range_succ, toIdx_range, passed]
 ·skip
  rintro ⟨⟨v2, g2⟩, e2⟩
  simp only [thenK_normal, blockK_normal, scopeK_normal, bodyK_normal]
  replace e := run_on e e2
  try dsimp only at e
  refine EV.seq ?_
  refine EV.regionG tabOK ?_ -- region 7
  simp (maxSteps := 2000000) -implicitDefEqProofs
  refine EV.ret ?_
  simp only [thenK_ret, blockK_ret, scopeK_ret, bodyK_ret]
  subst e
  refine Fin.pure0 ?_
  first | (simp; done) | (simp <;> grind)


def cfTy (p0 : List TyD) (p1 : TyD → Bool) : Bool :=
 (decide (0 ≤ (ixTy p0 p1)))
set_option maxHeartbeats 40000000 in
theorem w_cfTy0 (p0 : List TyD) (p1 : TyD → Bool)  (fid1 : FuncId) (H1 : ∀ (u0 : TyD), u0 ∈ p0 → QC prog fid1 [.agg [.i .i64 u0.k, .s u0.name, .ro 3 (u0.l.map tyC)]] [] (.b (p1 u0)) []) : QC prog 44 [.ro 3 (p0.map tyC), .fn fid1 []] [] (.b (cfTy p0 p1)) [] := by
 refine QC.of_body tabOK func44 rfl (by kernel_rfl) ?_
 simp only [f44]
 generalize e : cfTy p0 p1 = R
 unfold cfTy at e
 refine EV.seq ?_
 refine EV.regionG tabOK ?_ -- region 0
 simp (maxSteps := 2000000) -implicitDefEqProofs
 refine EV.seq ?_
 refine EV.regionG tabOK ?_ -- region 1
 simp (maxSteps := 2000000) -implicitDefEqProofs
 refine callG_own [] rfl (w_ixTy0 p0 p1 fid1 (H1)) ?_ ?_ ?_ ?_ ?_ ?_
 ·simp
 ·simp
 ·simp
 ·simp
 ·simp
 simp (maxSteps := 2000000) -implicitDefEqProofs [keys, callUpd, List.range_succ]
 refine EV.ret ?_
 simp only [thenK_ret, blockK_ret, scopeK_ret, bodyK_ret]
 subst e
 refine Fin.pure0 ?_
 first | (simp; done) | (simp <;> grind)


def kHolds_b (r_kHolds : TyD → Bool) (p0 : TyD) : Bool :=
 (if p0.k = 5 then true else (if p0.k = 6 then true else (cfTy p0.l r_kHolds)))
set_option maxHeartbeats 40000000 in
theorem w_kHolds_b (r_kHolds : TyD → Bool) (p0 : TyD)  (D : Nat) (H_kHolds : ∀ (u0 : TyD), SizeOf.sizeOf u0 < D → QC prog 45 [.agg [.i .i64 u0.k, .s u0.name, .ro 3 (u0.l.map tyC)]] [] (.b (r_kHolds u0)) []) (hD : SizeOf.sizeOf p0 ≤ D) : QC prog 45 [.agg [.i .i64 p0.k, .s p0.name, .ro 3 (p0.l.map tyC)]] [] (.b (kHolds_b r_kHolds p0)) [] := by
 refine QC.of_body tabOK func45 rfl (by kernel_rfl) ?_
 simp only [f45]
 generalize e : kHolds_b r_kHolds p0 = R
 unfold kHolds_b at e
 refine EV.seq ?_
 refine EV.regionG tabOK ?_ -- region 0
 simp (maxSteps := 2000000) -implicitDefEqProofs
 refine EV.seq ?_
 refine EV.seq ?_
 refine EV.regionG tabOK ?_ -- region 1
 simp (maxSteps := 2000000) -implicitDefEqProofs
 refine EV.block ?_
 refine EV.seq ?_
 refine EV.seq ?_
 refine EV.regionG tabOK ?_ -- region 2
 simp (maxSteps := 2000000) -implicitDefEqProofs
 refine EV.condT ?_
 simp -implicitDefEqProofs
 refine condT_intro (fun k1 => ?_) (fun k1 => ?_)
 ·try simp at k1
  obtain ⟨f1, e⟩ := pos_on2 e (by first | simpa using k1 | grind)
  try simp at f1
  refine EV.skip ?_
  simp only [thenK_normal, blockK_normal, scopeK_normal]
  refine EV.condT ?_
  simp -implicitDefEqProofs
  refine EV.seq ?_
  refine EV.regionG tabOK ?_ -- region 4
  simp (maxSteps := 2000000) -implicitDefEqProofs
  refine EV.ret ?_
  simp only [thenK_ret, blockK_ret, scopeK_ret, bodyK_ret]
  subst e
  refine Fin.pure0 ?_
  first | (simp; done) | (simp <;> grind)
 ·try simp at k1
  obtain ⟨f1, e⟩ := neg_on2 e (by first | simpa using k1 | grind)
  try simp at f1
  refine EV.regionG tabOK ?_ -- region 3
  simp (maxSteps := 2000000) -implicitDefEqProofs
  refine EV.condT ?_
  simp -implicitDefEqProofs
  refine condT_intro (fun k2 => ?_) (fun k2 => ?_)
  ·try simp at k2
   obtain ⟨f2, e⟩ := pos_on2 e (by first | simpa using k2 | grind)
   try simp at f2
   refine EV.seq ?_
   refine EV.regionG tabOK ?_ -- region 4
   simp (maxSteps := 2000000) -implicitDefEqProofs
   refine EV.ret ?_
   simp only [thenK_ret, blockK_ret, scopeK_ret, bodyK_ret]
   subst e
   refine Fin.pure0 ?_
   first | (simp; done) | (simp <;> grind)
  ·try simp at k2
   obtain ⟨f2, e⟩ := neg_on2 e (by first | simpa using k2 | grind)
   try simp at f2
   refine EV.skip ?_
   simp only [thenK_normal, blockK_normal, scopeK_normal]
   refine EV.seq ?_
   have := sz_TyD_l p0
   refine EV.regionG tabOK ?_ -- region 5
   simp (maxSteps := 2000000) -implicitDefEqProofs
   refine callG_own [] rfl (w_cfTy0 p0.l r_kHolds 45 (fun u0 h0 => H_kHolds u0 (by have := List.sizeOf_lt_of_mem h0; first | omega | (simp at *; omega)))) ?_ ?_ ?_ ?_ ?_ ?_
   ·simp
   ·simp
   ·simp
   ·simp
   ·simp
   simp (maxSteps := 2000000) -implicitDefEqProofs [keys, callUpd, List.range_succ]
   refine EV.ret ?_
   simp only [thenK_ret, blockK_ret, scopeK_ret, bodyK_ret]
   subst e
   refine Fin.pure0 ?_
   first | (simp; done) | (simp <;> grind)

def kHolds_f : Nat → TyD → Bool
 | 0, _ => default
 | k + 1, p0 => kHolds_b (kHolds_f k) p0
def kHolds (p0 : TyD) : Bool := kHolds_f (SizeOf.sizeOf p0 + 1) p0
theorem w_kHolds_f : ∀ k : Nat, (∀ (p0 : TyD), SizeOf.sizeOf p0 < k → QC prog 45 [.agg [.i .i64 p0.k, .s p0.name, .ro 3 (p0.l.map tyC)]] [] (.b (kHolds_f k p0)) [])
 | 0 => by refine (fun _ h => absurd h (Nat.not_lt_zero _))
 | k + 1 => by refine (fun p0 h => by rw [kHolds_f]; exact w_kHolds_b (kHolds_f k) p0 k (w_kHolds_f k) (by omega))
theorem w_kHolds (p0 : TyD) : QC prog 45 [.agg [.i .i64 p0.k, .s p0.name, .ro 3 (p0.l.map tyC)]] [] (.b (kHolds p0)) [] := (w_kHolds_f (SizeOf.sizeOf p0 + 1)) p0 (Nat.lt_succ_self _)


def kResolve_b (r_kResolve : SourceD → TyD → (TyD × Int)) (p0 : SourceD) (p1 : TyD) : TyD × Int :=
 (Ctl.run ((if p1.k = 1 then .go (true, p1) else (if p1.k = 2 then (if (kStructOf p0 p1.name) < 0 then .go ((decide (0 ≤ (kEnumOf p0 p1.name))), (TyD.mk 3 p1.name p1.l)) else .go (true, p1)) else (if p1.k = 3 then .go ((decide (0 ≤ (kEnumOf p0 p1.name))), p1) else (if p1.k = 7 then .go ((decide (0 ≤ (kFnOf p0 p1.name))), p1) else (bnd (if p1.k = 4 then true else (if p1.k = 5 then true else (decide (p1.k = 6)))) fun (v14 : Bool) => (if v14 = true then (if ¬ ((p1.l.length : Int) = 1) then .ret ((TyD.mk 0 ([] : List UInt8) ([])), 80) else (bnd (p1.l.getD 0 default) fun (y18_3 : TyD) => (if ¬ ((r_kResolve p0 y18_3).2 = 0) then .ret ((TyD.mk 0 ([] : List UInt8) ([])), (r_kResolve p0 y18_3).2) else .go (true, (TyD.mk p1.k p1.name ([((r_kResolve p0 y18_3).1)] : List TyD)))))) else .ret ((TyD.mk 0 ([] : List UInt8) ([])), 80))))))) : Ctl (TyD × Int) (Bool × TyD)) fun (v4 : Bool × TyD) => (if ¬ (v4.1 = true) then ((TyD.mk 0 ([] : List UInt8) ([])), 71) else (v4.2, 0)))
set_option maxHeartbeats 40000000 in
theorem w_kResolve_b (r_kResolve : SourceD → TyD → (TyD × Int)) (p0 : SourceD) (p1 : TyD)  (D : Nat) (H_kResolve : ∀ (u0 : SourceD) (u1 : TyD), SizeOf.sizeOf u1 < D → QC prog 42 [.agg [.ro 4 (u0.structs.map structC), .ro 3 (u0.enums.map enumC), .ro 4 (u0.fns.map fnC)], .agg [.i .i64 u1.k, .s u1.name, .ro 3 (u1.l.map tyC)]] [] (.tup [.agg [.i .i64 (((r_kResolve u0 u1).1).k), .s (((r_kResolve u0 u1).1).name), .ro 3 ((((r_kResolve u0 u1).1).l).map tyC)], .i .i64 ((r_kResolve u0 u1).2)]) []) (hD : SizeOf.sizeOf p1 ≤ D) : QC prog 42 [.agg [.ro 4 (p0.structs.map structC), .ro 3 (p0.enums.map enumC), .ro 4 (p0.fns.map fnC)], .agg [.i .i64 p1.k, .s p1.name, .ro 3 (p1.l.map tyC)]] [] (.tup [.agg [.i .i64 (((kResolve_b r_kResolve p0 p1).1).k), .s (((kResolve_b r_kResolve p0 p1).1).name), .ro 3 ((((kResolve_b r_kResolve p0 p1).1).l).map tyC)], .i .i64 ((kResolve_b r_kResolve p0 p1).2)]) [] := by
 refine QC.of_body tabOK func42 rfl (by kernel_rfl) ?_
 simp only [f42]
 generalize e : kResolve_b r_kResolve p0 p1 = R
 unfold kResolve_b at e
 refine EV.seq ?_
 refine EV.regionG tabOK ?_ -- region 0
 simp (maxSteps := 2000000) -implicitDefEqProofs
 refine EV.seq ?_
 refine EV.regionG tabOK ?_ -- region 1
 simp (maxSteps := 2000000) -implicitDefEqProofs
 refine EV.seq ?_
 refine EV.seq ?_
 refine EV.regionG tabOK ?_ -- region 2
 simp (maxSteps := 2000000) -implicitDefEqProofs
 obtain ⟨z4, e4, e⟩ := run_split e
 refine EV.nrm (fun v : { v : (Bool × TyD) × (Unit) // z4 = .go v.1 } => (fun (v4 : Bool × TyD) (g4 : Unit) => (⟨[J, J, J, .ptr 1 0 0 0, .ptr 2 0 0 0, J, .b v4.1, J, J, J, J, J, J, J, J, J, J, J, J, J, J, J, J, J, J, J, J, J, J, J, J, J, J, J, J, J, J, J, J, J, J, J, J, J, J, J, J, J, J, J, J, J, J, J, J, J, J, J, J, J, J, J, J, J, J, J, J, J, J, J], [.arr 0 3 [[.ro 4 (p0.structs.map structC), .ro 3 (p0.enums.map enumC), .ro 4 (p0.fns.map fnC)]], .arr 0 3 [[.i .i64 v4.2.k, .s v4.2.name, .ro 3 (v4.2.l.map tyC)]], .arr 0 3 [[.i .i64 0, .s ([] : List UInt8), .c (.slice none 0 0)]]]⟩ : St)) v.1.1 v.1.2) ?_ ?_
 ·skip
  refine EV.block ?_
  refine EV.seq ?_
  refine EV.regionG tabOK ?_ -- region 4
  simp (maxSteps := 2000000) -implicitDefEqProofs
  refine EV.condT ?_
  simp -implicitDefEqProofs
  refine condT_intro (fun k1 => ?_) (fun k1 => ?_)
  ·try simp at k1
   obtain ⟨f1, e4⟩ := pos_on2 e4 (by first | simpa using k1 | grind)
   try simp at f1
   refine EV.skip ?_
   simp only [thenK_normal, blockK_normal, scopeK_normal]
   refine ⟨⟨((true, p1), ()), e4.symm⟩, ?_⟩
   try dsimp only
   refine Sub.cutF 3 (by simp) ?_ ?_ <;> simp [List.range_succ, toIdx_range, passed]
  ·try simp at k1
   obtain ⟨f1, e4⟩ := neg_on2 e4 (by first | simpa using k1 | grind)
   try simp at f1
   refine EV.seq ?_
   refine EV.regionG tabOK ?_ -- region 5
   simp (maxSteps := 2000000) -implicitDefEqProofs
   refine EV.condT ?_
   simp -implicitDefEqProofs
   refine condT_intro (fun k2 => ?_) (fun k2 => ?_)
   ·try simp at k2
    obtain ⟨f2, e4⟩ := pos_on2 e4 (by first | simpa using k2 | grind)
    try simp at f2
    refine EV.seq ?_
    have := kStructOf_lt p0 p1.name
    refine EV.regionG tabOK ?_ -- region 6
    simp (maxSteps := 2000000) -implicitDefEqProofs
    refine callG_fun (w_kStructOf p0 p1.name) ?_ ?_
    ·simp
    simp (maxSteps := 2000000) -implicitDefEqProofs
    refine EV.condT ?_
    simp -implicitDefEqProofs
    refine condT_intro (fun k3 => ?_) (fun k3 => ?_)
    ·try simp at k3
     obtain ⟨f3, e4⟩ := pos_on2 e4 (by first | simpa using k3 | grind)
     try simp at f3
     refine EV.seq ?_
     refine EV.regionG tabOK ?_ -- region 7
     simp (maxSteps := 2000000) -implicitDefEqProofs
     have := kEnumOf_lt p0 p1.name
     refine EV.regionG tabOK ?_ -- region 8
     simp (maxSteps := 2000000) -implicitDefEqProofs
     refine callG_fun (w_kEnumOf p0 p1.name) ?_ ?_
     ·simp
     simp (maxSteps := 2000000) -implicitDefEqProofs
     refine ⟨⟨(((decide (0 ≤ (kEnumOf p0 p1.name))), (TyD.mk 3 p1.name p1.l)), ()), e4.symm⟩, ?_⟩
     try dsimp only
     refine Sub.cutF 3 (by simp) ?_ ?_ <;> simp [List.range_succ, toIdx_range, passed]
    ·try simp at k3
     obtain ⟨f3, e4⟩ := neg_on2 e4 (by first | simpa using k3 | grind)
     try simp at f3
     refine EV.skip ?_
     simp only [thenK_normal, blockK_normal, scopeK_normal]
     refine ⟨⟨((true, p1), ()), e4.symm⟩, ?_⟩
     try dsimp only
     refine Sub.cutF 3 (by simp) ?_ ?_ <;> simp [List.range_succ, toIdx_range, passed]
   ·try simp at k2
    obtain ⟨f2, e4⟩ := neg_on2 e4 (by first | simpa using k2 | grind)
    try simp at f2
    refine EV.seq ?_
    refine EV.regionG tabOK ?_ -- region 9
    simp (maxSteps := 2000000) -implicitDefEqProofs
    refine EV.condT ?_
    simp -implicitDefEqProofs
    refine condT_intro (fun k4 => ?_) (fun k4 => ?_)
    ·try simp at k4
     obtain ⟨f4, e4⟩ := pos_on2 e4 (by first | simpa using k4 | grind)
     try simp at f4
     have := kEnumOf_lt p0 p1.name
     refine EV.regionG tabOK ?_ -- region 10
     simp (maxSteps := 2000000) -implicitDefEqProofs
     refine callG_fun (w_kEnumOf p0 p1.name) ?_ ?_
     ·simp
     simp (maxSteps := 2000000) -implicitDefEqProofs
     refine ⟨⟨(((decide (0 ≤ (kEnumOf p0 p1.name))), p1), ()), e4.symm⟩, ?_⟩
     try dsimp only
     refine Sub.cutF 3 (by simp) ?_ ?_ <;> simp [List.range_succ, toIdx_range, passed]
    ·try simp at k4
     obtain ⟨f4, e4⟩ := neg_on2 e4 (by first | simpa using k4 | grind)
     try simp at f4
     refine EV.seq ?_
     refine EV.regionG tabOK ?_ -- region 11
     simp (maxSteps := 2000000) -implicitDefEqProofs
     refine EV.condT ?_
     simp -implicitDefEqProofs
     refine condT_intro (fun k5 => ?_) (fun k5 => ?_)
     ·try simp at k5
      obtain ⟨f5, e4⟩ := pos_on2 e4 (by first | simpa using k5 | grind)
      try simp at f5
      have := kFnOf_lt p0 p1.name
      refine EV.regionG tabOK ?_ -- region 12
      simp (maxSteps := 2000000) -implicitDefEqProofs
      refine callG_fun (w_kFnOf p0 p1.name) ?_ ?_
      ·simp
      simp (maxSteps := 2000000) -implicitDefEqProofs
      refine ⟨⟨(((decide (0 ≤ (kFnOf p0 p1.name))), p1), ()), e4.symm⟩, ?_⟩
      try dsimp only
      refine Sub.cutF 3 (by simp) ?_ ?_ <;> simp [List.range_succ, toIdx_range, passed]
     ·try simp at k5
      obtain ⟨f5, e4⟩ := neg_on2 e4 (by first | simpa using k5 | grind)
      try simp at f5
      refine EV.seq ?_
      refine EV.seq ?_
      refine EV.regionG tabOK ?_ -- region 13
      simp (maxSteps := 2000000) -implicitDefEqProofs
      obtain ⟨z14, e14, e4⟩ := bnd_split e4
      refine EV.nrm (fun v : { v : (Bool) × (Unit) // z14 = v.1 } => (fun (v14 : Bool) (g14 : Unit) => (⟨[J, J, .ptr 0 0 0 0, .ptr 1 0 0 0, .ptr 2 0 0 0, J, .b true, J, J, J, J, J, J, J, J, J, J, J, J, J, J, J, J, J, J, J, J, J, J, J, J, J, J, J, J, J, J, J, J, J, J, .b v14, J, J, J, J, J, J, J, J, J, J, J, J, J, J, J, J, J, J, J, J, J, J, J, J, J, J, J, J], [.arr 0 3 [[.ro 4 (p0.structs.map structC), .ro 3 (p0.enums.map enumC), .ro 4 (p0.fns.map fnC)]], .arr 0 3 [[.i .i64 p1.k, .s p1.name, .ro 3 (p1.l.map tyC)]], .arr 0 3 [[.i .i64 0, .s ([] : List UInt8), .c (.slice none 0 0)]]]⟩ : St)) v.1.1 v.1.2) ?_ ?_
      ·skip
       refine EV.condT ?_
       simp -implicitDefEqProofs
       refine condT_intro (fun k6 => ?_) (fun k6 => ?_)
       ·try simp at k6
        obtain ⟨f6, e14⟩ := pos_on2 e14 (by first | simpa using k6 | grind)
        try simp at f6
        refine EV.skip ?_
        simp only [thenK_normal, blockK_normal, scopeK_normal]
        refine ⟨⟨(true, ()), e14.symm⟩, ?_⟩
        try dsimp only
        refine Sub.cutF 3 (by simp) ?_ ?_ <;> simp [List.range_succ, toIdx_range, passed]
       ·try simp at k6
        obtain ⟨f6, e14⟩ := neg_on2 e14 (by first | simpa using k6 | grind)
        try simp at f6
        refine EV.seq ?_
        refine EV.regionG tabOK ?_ -- region 14
        simp (maxSteps := 2000000) -implicitDefEqProofs
        refine EV.condT ?_
        simp -implicitDefEqProofs
        refine condT_intro (fun k7 => ?_) (fun k7 => ?_)
        ·try simp at k7
         obtain ⟨f7, e14⟩ := pos_on2 e14 (by first | simpa using k7 | grind)
         try simp at f7
         refine EV.skip ?_
         simp only [thenK_normal, blockK_normal, scopeK_normal]
         refine ⟨⟨(true, ()), e14.symm⟩, ?_⟩
         try dsimp only
         refine Sub.cutF 3 (by simp) ?_ ?_ <;> simp [List.range_succ, toIdx_range, passed]
        ·try simp at k7
         obtain ⟨f7, e14⟩ := neg_on2 e14 (by first | simpa using k7 | grind)
         try simp at f7
         refine EV.regionG tabOK ?_ -- region 15
         simp (maxSteps := 2000000) -implicitDefEqProofs
         refine ⟨⟨((decide (p1.k = 6)), ()), e14.symm⟩, ?_⟩
         try dsimp only
         refine Sub.cutF 3 (by simp) ?_ ?_ <;> simp [List.range_succ, toIdx_range, passed]
      ·skip
       rintro ⟨⟨v14, g14⟩, e14⟩
       simp only [thenK_normal, blockK_normal, scopeK_normal, bodyK_normal]
       replace e4 := bnd_on e4 e14
       try dsimp only at e4
       refine EV.condT ?_
       simp -implicitDefEqProofs
       refine condT_intro (fun k8 => ?_) (fun k8 => ?_)
       ·try simp at k8
        obtain ⟨f8, e4⟩ := pos_on2 e4 (by first | simpa using k8 | grind)
        try simp at f8
        refine EV.seq ?_
        refine EV.seq ?_
        refine EV.regionG tabOK ?_ -- region 16
        simp (maxSteps := 2000000) -implicitDefEqProofs
        refine EV.condT ?_
        simp -implicitDefEqProofs
        refine condT_intro (fun k9 => ?_) (fun k9 => ?_)
        ·try simp at k9
         obtain ⟨f9, e4⟩ := pos_on2 e4 (by first | simpa using k9 | grind)
         try simp at f9
         refine EV.seq ?_
         refine EV.regionG tabOK ?_ -- region 17
         simp (maxSteps := 2000000) -implicitDefEqProofs
         refine EV.ret ?_
         simp only [thenK_ret, blockK_ret, scopeK_ret, bodyK_ret]
         replace e := run_back e e4
         subst e
         refine Fin.data ?_ ?_
         ·simp [convV, conv1, conv0, cvOb, allP, allR, c0, Pu, take_len_map, List.getD, List.range_succ]
         ·simp [List.range_succ]
        ·try simp at k9
         obtain ⟨f9, e4⟩ := neg_on2 e4 (by first | simpa using k9 | grind)
         try simp at f9
         refine EV.skip ?_
         simp only [thenK_normal, blockK_normal, scopeK_normal]
         refine EV.seq ?_
         obtain ⟨y18_3, gy18_3⟩ : ∃ z, (p1.l.getD 0 default) = z := ⟨_, rfl⟩
         replace e4 := bnd_on e4 gy18_3
         try dsimp only at e4
         have b10 : 0 ≤ 0 ∧ 0 < (p1.l.length : Int) := by omega
         have c10 : 0 < p1.l.length := by omega
         have hy18_3 : p1.l[0] = y18_3 := by rw [← gy18_3, List.getD_eq_getElem?_getD, List.getElem?_eq_getElem c10]; rfl
         have my18_3 : y18_3 ∈ p1.l := by rw [← hy18_3]; exact List.getElem_mem _
         have zzy18_3 := List.sizeOf_lt_of_mem my18_3
         have := sz_TyD_l p1
         refine EV.drawG tabOK mixedOK ?_ -- region 18
         simp (maxSteps := 2000000) -implicitDefEqProofs [b10, c10, hy18_3]
         refine callG_fun (H_kResolve p0 y18_3 (by first | omega | (simp at *; omega))) ?_ ?_
         ·first | (simp; done) | (simp [b10, c10, hy18_3]; done)
         simp (maxSteps := 2000000) -implicitDefEqProofs [b10, c10, hy18_3]
         refine And.intro ?_ ?_
         ·first | decide +kernel | (simp -implicitDefEqProofs; decide +kernel) | (split <;> decide +kernel)
         try simp -implicitDefEqProofs
         refine EV.seq ?_
         refine EV.seq ?_
         refine EV.regionG tabOK ?_ -- region 19
         simp (maxSteps := 2000000) -implicitDefEqProofs [b10, c10, hy18_3]
         refine EV.condT ?_
         simp -implicitDefEqProofs [b10, c10, hy18_3]
         refine condT_intro (fun k11 => ?_) (fun k11 => ?_)
         ·try simp at k11
          obtain ⟨f11, e4⟩ := pos_on2 e4 (by first | simpa using k11 | grind)
          try simp at f11
          refine EV.seq ?_
          refine EV.regionG tabOK ?_ -- region 20
          simp (maxSteps := 2000000) -implicitDefEqProofs [b10, c10, hy18_3]
          refine EV.ret ?_
          simp only [thenK_ret, blockK_ret, scopeK_ret, bodyK_ret]
          replace e := run_back e e4
          subst e
          refine Fin.data ?_ ?_
          ·simp [convV, conv1, conv0, cvOb, allP, allR, c0, Pu, take_len_map, List.getD, List.range_succ]
          ·simp [List.range_succ]
         ·try simp at k11
          obtain ⟨f11, e4⟩ := neg_on2 e4 (by first | simpa using k11 | grind)
          try simp at f11
          refine EV.skip ?_
          simp only [thenK_normal, blockK_normal, scopeK_normal]
          refine EV.regionG tabOK ?_ -- region 21
          simp (maxSteps := 2000000) -implicitDefEqProofs [b10, c10, hy18_3]
          refine ⟨⟨((true, (TyD.mk p1.k p1.name ([((r_kResolve p0 y18_3).1)] : List TyD))), ()), e4.symm⟩, ?_⟩
          try dsimp only
          refine Sub.cutP (cs' := [.i .i64 p1.k, .s p1.name, .ro 3 (([((r_kResolve p0 y18_3).1)] : List TyD).map tyC)]) 3 (by simp) 1 (by decide) rfl ?_ ?_ ?_ <;> simp [setOb, allP, allR, c0, slotR, conv1, conv0, cvOb, Pu, take_len_map, List.getD, List.range_succ, toIdx_range, passed, b10, c10, hy18_3]
       ·try simp at k8
        obtain ⟨f8, e4⟩ := neg_on2 e4 (by first | simpa using k8 | grind)
        try simp at f8
        refine EV.seq ?_
        refine EV.regionG tabOK ?_ -- region 3
        simp (maxSteps := 2000000) -implicitDefEqProofs
        refine EV.ret ?_
        simp only [thenK_ret, blockK_ret, scopeK_ret, bodyK_ret]
        replace e := run_back e e4
        subst e
        refine Fin.data ?_ ?_
        ·simp [convV, conv1, conv0, cvOb, allP, allR, c0, Pu, take_len_map, List.getD, List.range_succ]
        ·simp [List.range_succ]
 ·skip
  rintro ⟨⟨v4, g4⟩, e4⟩
  simp only [thenK_normal, blockK_normal, scopeK_normal, bodyK_normal]
  replace e := run_on e e4
  try dsimp only at e
  refine EV.seq ?_
  refine EV.seq ?_
  refine EV.regionG tabOK ?_ -- region 22
  simp (maxSteps := 2000000) -implicitDefEqProofs
  refine EV.condT ?_
  simp -implicitDefEqProofs
  refine condT_intro (fun k12 => ?_) (fun k12 => ?_)
  ·try simp at k12
   obtain ⟨f12, e⟩ := pos_on2 e (by first | simpa using k12 | grind)
   try simp at f12
   refine EV.seq ?_
   refine EV.regionG tabOK ?_ -- region 23
   simp (maxSteps := 2000000) -implicitDefEqProofs
   refine EV.ret ?_
   simp only [thenK_ret, blockK_ret, scopeK_ret, bodyK_ret]
   subst e
   refine Fin.data ?_ ?_
   ·simp [convV, conv1, conv0, cvOb, allP, allR, c0, Pu, take_len_map, List.getD, List.range_succ]
   ·simp [List.range_succ]
  ·try simp at k12
   obtain ⟨f12, e⟩ := neg_on2 e (by first | simpa using k12 | grind)
   try simp at f12
   refine EV.skip ?_
   simp only [thenK_normal, blockK_normal, scopeK_normal]
   refine EV.seq ?_
   refine EV.regionG tabOK ?_ -- region 24
   simp (maxSteps := 2000000) -implicitDefEqProofs
   refine EV.ret ?_
   simp only [thenK_ret, blockK_ret, scopeK_ret, bodyK_ret]
   subst e
   refine Fin.pure0 ?_
   first | (simp; done) | (simp <;> grind)

def kResolve_f : Nat → SourceD → TyD → TyD × Int
 | 0, _, _ => default
 | k + 1, p0, p1 => kResolve_b (kResolve_f k) p0 p1
def kResolve (p0 : SourceD) (p1 : TyD) : TyD × Int := kResolve_f (SizeOf.sizeOf p1 + 1) p0 p1
theorem w_kResolve_f : ∀ k : Nat, (∀ (p0 : SourceD) (p1 : TyD), SizeOf.sizeOf p1 < k → QC prog 42 [.agg [.ro 4 (p0.structs.map structC), .ro 3 (p0.enums.map enumC), .ro 4 (p0.fns.map fnC)], .agg [.i .i64 p1.k, .s p1.name, .ro 3 (p1.l.map tyC)]] [] (.tup [.agg [.i .i64 (((kResolve_f k p0 p1).1).k), .s (((kResolve_f k p0 p1).1).name), .ro 3 ((((kResolve_f k p0 p1).1).l).map tyC)], .i .i64 ((kResolve_f k p0 p1).2)]) [])
 | 0 => by refine (fun _ _ h => absurd h (Nat.not_lt_zero _))
 | k + 1 => by refine (fun p0 p1 h => by rw [kResolve_f]; exact w_kResolve_b (kResolve_f k) p0 p1 k (w_kResolve_f k) (by omega))
theorem w_kResolve (p0 : SourceD) (p1 : TyD) : QC prog 42 [.agg [.ro 4 (p0.structs.map structC), .ro 3 (p0.enums.map enumC), .ro 4 (p0.fns.map fnC)], .agg [.i .i64 p1.k, .s p1.name, .ro 3 (p1.l.map tyC)]] [] (.tup [.agg [.i .i64 (((kResolve p0 p1).1).k), .s (((kResolve p0 p1).1).name), .ro 3 ((((kResolve p0 p1).1).l).map tyC)], .i .i64 ((kResolve p0 p1).2)]) [] := (w_kResolve_f (SizeOf.sizeOf p1 + 1)) p0 p1 (Nat.lt_succ_self _)


def kCopies (p0 : TyD) : Bool :=
 (if p0.k = 0 then true else (if p0.k = 1 then true else (if p0.k = 5 then true else false)))
set_option maxHeartbeats 40000000 in
theorem w_kCopies (p0 : TyD)  : QC prog 84 [.agg [.i .i64 p0.k, .s p0.name, .ro 3 (p0.l.map tyC)]] [] (.b (kCopies p0)) [] := by
 refine QC.of_body tabOK func84 rfl (by kernel_rfl) ?_
 simp only [f84]
 generalize e : kCopies p0 = R
 unfold kCopies at e
 refine EV.seq ?_
 refine EV.regionG tabOK ?_ -- region 0
 simp (maxSteps := 2000000) -implicitDefEqProofs
 refine EV.seq ?_
 refine EV.seq ?_
 refine EV.regionG tabOK ?_ -- region 1
 simp (maxSteps := 2000000) -implicitDefEqProofs
 refine EV.block ?_
 refine EV.seq ?_
 refine EV.seq ?_
 refine EV.regionG tabOK ?_ -- region 2
 simp (maxSteps := 2000000) -implicitDefEqProofs
 refine EV.condT ?_
 simp -implicitDefEqProofs
 refine condT_intro (fun k1 => ?_) (fun k1 => ?_)
 ·try simp at k1
  obtain ⟨f1, e⟩ := pos_on2 e (by first | simpa using k1 | grind)
  try simp at f1
  refine EV.skip ?_
  simp only [thenK_normal, blockK_normal, scopeK_normal]
  refine EV.condT ?_
  simp -implicitDefEqProofs
  refine EV.seq ?_
  refine EV.regionG tabOK ?_ -- region 5
  simp (maxSteps := 2000000) -implicitDefEqProofs
  refine EV.ret ?_
  simp only [thenK_ret, blockK_ret, scopeK_ret, bodyK_ret]
  subst e
  refine Fin.pure0 ?_
  first | (simp; done) | (simp <;> grind)
 ·try simp at k1
  obtain ⟨f1, e⟩ := neg_on2 e (by first | simpa using k1 | grind)
  try simp at f1
  refine EV.seq ?_
  refine EV.regionG tabOK ?_ -- region 3
  simp (maxSteps := 2000000) -implicitDefEqProofs
  refine EV.condT ?_
  simp -implicitDefEqProofs
  refine condT_intro (fun k2 => ?_) (fun k2 => ?_)
  ·try simp at k2
   obtain ⟨f2, e⟩ := pos_on2 e (by first | simpa using k2 | grind)
   try simp at f2
   refine EV.skip ?_
   simp only [thenK_normal, blockK_normal, scopeK_normal]
   refine EV.condT ?_
   simp -implicitDefEqProofs
   refine EV.seq ?_
   refine EV.regionG tabOK ?_ -- region 5
   simp (maxSteps := 2000000) -implicitDefEqProofs
   refine EV.ret ?_
   simp only [thenK_ret, blockK_ret, scopeK_ret, bodyK_ret]
   subst e
   refine Fin.pure0 ?_
   first | (simp; done) | (simp <;> grind)
  ·try simp at k2
   obtain ⟨f2, e⟩ := neg_on2 e (by first | simpa using k2 | grind)
   try simp at f2
   refine EV.regionG tabOK ?_ -- region 4
   simp (maxSteps := 2000000) -implicitDefEqProofs
   refine EV.condT ?_
   simp -implicitDefEqProofs
   refine condT_intro (fun k3 => ?_) (fun k3 => ?_)
   ·try simp at k3
    obtain ⟨f3, e⟩ := pos_on2 e (by first | simpa using k3 | grind)
    try simp at f3
    refine EV.seq ?_
    refine EV.regionG tabOK ?_ -- region 5
    simp (maxSteps := 2000000) -implicitDefEqProofs
    refine EV.ret ?_
    simp only [thenK_ret, blockK_ret, scopeK_ret, bodyK_ret]
    subst e
    refine Fin.pure0 ?_
    first | (simp; done) | (simp <;> grind)
   ·try simp at k3
    obtain ⟨f3, e⟩ := neg_on2 e (by first | simpa using k3 | grind)
    try simp at f3
    refine EV.skip ?_
    simp only [thenK_normal, blockK_normal, scopeK_normal]
    refine EV.seq ?_
    refine EV.regionG tabOK ?_ -- region 6
    simp (maxSteps := 2000000) -implicitDefEqProofs
    refine EV.ret ?_
    simp only [thenK_ret, blockK_ret, scopeK_ret, bodyK_ret]
    subst e
    refine Fin.pure0 ?_
    first | (simp; done) | (simp <;> grind)

def eqTy_l4 (p1 : List TyD) (p2 : TyD → TyD → Bool) : List TyD → Nat → Ctl (Bool) (Unit)
 | [], _ => .go ()
 | x4 :: xs4, j4 => (bnd (p1.getD j4 default) fun (y6_2 : TyD) => (if ¬ ((p2 x4 y6_2) = true) then .ret false else eqTy_l4 p1 p2 xs4 (j4 + 1)))
def eqTy (p0 : List TyD) (p1 : List TyD) (p2 : TyD → TyD → Bool) : Bool :=
 (if ¬ ((p0.length : Int) = (p1.length : Int)) then false else (Ctl.run (eqTy_l4 p1 p2 p0 0) fun (v4 : Unit) => true))
set_option maxHeartbeats 40000000 in
theorem w_eqTy0 (p0 : List TyD) (p1 : List TyD) (p2 : TyD → TyD → Bool)  (fid2 : FuncId) (H2 : ∀ (u0 : TyD) (u1 : TyD), u0 ∈ p0 → QC prog fid2 [.agg [.i .i64 u0.k, .s u0.name, .ro 3 (u0.l.map tyC)], .agg [.i .i64 u1.k, .s u1.name, .ro 3 (u1.l.map tyC)]] [] (.b (p2 u0 u1)) []) : QC prog 79 [.ro 3 (p0.map tyC), .ro 3 (p1.map tyC), .fn fid2 []] [] (.b (eqTy p0 p1 p2)) [] := by
 refine QC.of_body tabOK func79 rfl (by kernel_rfl) ?_
 simp only [f79]
 generalize e : eqTy p0 p1 p2 = R
 unfold eqTy at e
 refine EV.seq ?_
 refine EV.regionG tabOK ?_ -- region 0
 simp (maxSteps := 2000000) -implicitDefEqProofs
 refine EV.seq ?_
 refine EV.seq ?_
 refine EV.regionG tabOK ?_ -- region 1
 simp (maxSteps := 2000000) -implicitDefEqProofs
 refine EV.condT ?_
 simp -implicitDefEqProofs
 refine condT_intro (fun k1 => ?_) (fun k1 => ?_)
 ·try simp at k1
  obtain ⟨f1, e⟩ := pos_on2 e (by first | simpa using k1 | grind)
  try simp at f1
  refine EV.seq ?_
  refine EV.regionG tabOK ?_ -- region 2
  simp (maxSteps := 2000000) -implicitDefEqProofs
  refine EV.ret ?_
  simp only [thenK_ret, blockK_ret, scopeK_ret, bodyK_ret]
  subst e
  refine Fin.pure0 ?_
  first | (simp; done) | (simp <;> grind)
 ·try simp at k1
  obtain ⟨f1, e⟩ := neg_on2 e (by first | simpa using k1 | grind)
  try simp at f1
  refine EV.skip ?_
  simp only [thenK_normal, blockK_normal, scopeK_normal]
  refine EV.seq ?_
  refine EV.seq ?_
  refine EV.regionG tabOK ?_ -- region 3
  simp (maxSteps := 2000000) -implicitDefEqProofs
  obtain ⟨z4, e4, e⟩ := run_split e
  refine EV.nrm (fun v : { v : (Unit) × (Unit) // z4 = .go v.1 } => (fun (v4 : Unit) (g4 : Unit) => (⟨[J, J, J, J, J, J, J, J, J, J, J, J, J, J, J, J, J, J, J, J, J, J, J, J, J, J, J, J, J, J, J, J], []⟩ : St)) v.1.1 v.1.2) ?_ ?_
  ·skip
   refine EV.block ?_
   refine EV.loopB (fun x : { x : Nat // x ≤ p0.length ∧ eqTy_l4 p1 p2 (p0.drop x) x = z4 } => (fun (j4 : Nat) => (⟨[J, .ro 3 (p1.map tyC), .fn fid2 [], J, J, J, J, J, J, J, J, J, J, J, J, .ro 3 (p0.map tyC), .i .i64 (p0.length : Int), .i .i64 (j4 : Int), J, J, J, J, J, J, J, J, J, J, J, J, J, J], []⟩ : St)) x.1) (fun x => p0.length - x.1) ⟨0, Nat.zero_le _, e4⟩ ?_ ?_
   ·skip
    try dsimp only
    try dsimp only
    refine Sub.cutF 0 (by simp) ?_ ?_ <;> simp [List.range_succ, toIdx_range, passed]
   ·skip
    rintro ⟨j4, hi4, e4⟩
    simp only at hi4 e4 ⊢
    refine EV.seq ?_
    refine EV.regionG tabOK ?_ -- region 4
    simp (maxSteps := 2000000) -implicitDefEqProofs
    refine EV.seq ?_
    refine EV.room 15 (by rfl) (fun mj4 => ?_)
    simp at mj4
    refine EV.condT ?_
    simp -implicitDefEqProofs
    refine condT_intro (fun k2 => ?_) (fun k2 => ?_)
    ·try simp at k2
     have u2 : j4 < p0.length := by omega
     obtain ⟨x4, hx4⟩ : ∃ z, p0[j4] = z := ⟨_, rfl⟩
     have mx4 : x4 ∈ p0 := by rw [← hx4]; exact List.getElem_mem _
     rw [List.drop_eq_getElem_cons u2, hx4, eqTy_l4] at e4
     refine EV.skip ?_
     simp only [thenK_normal, blockK_normal, scopeK_normal]
     refine EV.seq ?_
     refine EV.block ?_
     refine EV.seq ?_
     refine EV.regionG tabOK ?_ -- region 5
     simp (maxSteps := 2000000) -implicitDefEqProofs [k2, u2, hx4]
     refine EV.seq ?_
     obtain ⟨y6_2, gy6_2⟩ : ∃ z, (p1.getD j4 default) = z := ⟨_, rfl⟩
     replace e4 := bnd_on e4 gy6_2
     try dsimp only at e4
     have b3 : 0 ≤ (j4 : Int) ∧ (j4 : Int) < (p1.length : Int) := by omega
     have c3 : j4 < p1.length := by omega
     have hy6_2 : p1[j4] = y6_2 := by rw [← gy6_2, List.getD_eq_getElem?_getD, List.getElem?_eq_getElem c3]; rfl
     have my6_2 : y6_2 ∈ p1 := by rw [← hy6_2]; exact List.getElem_mem _
     refine EV.regionG tabOK ?_ -- region 6
     simp (maxSteps := 2000000) -implicitDefEqProofs [k2, u2, hx4, b3, c3, hy6_2]
     refine EV.seq ?_
     refine EV.regionG tabOK ?_ -- region 7
     simp (maxSteps := 2000000) -implicitDefEqProofs [k2, u2, hx4, b3, c3, hy6_2]
     refine callG_own [] rfl (H2 x4 y6_2 (by assumption)) ?_ ?_ ?_ ?_ ?_ ?_
     ·simp
     ·simp
     ·simp
     ·simp
     ·simp
     simp (maxSteps := 2000000) -implicitDefEqProofs [k2, u2, hx4, b3, c3, hy6_2, keys, callUpd, List.range_succ]
     refine EV.condT ?_
     simp -implicitDefEqProofs [k2, u2, hx4, b3, c3, hy6_2]
     refine condT_intro (fun k4 => ?_) (fun k4 => ?_)
     ·try simp at k4
      obtain ⟨f4, e4⟩ := pos_on2 e4 (by first | simpa using k4 | grind)
      try simp at f4
      refine EV.seq ?_
      refine EV.regionG tabOK ?_ -- region 8
      simp (maxSteps := 2000000) -implicitDefEqProofs [k2, u2, hx4, b3, c3, hy6_2]
      refine EV.ret ?_
      simp only [thenK_ret, blockK_ret, scopeK_ret, bodyK_ret]
      replace e := run_back e e4
      subst e
      refine Fin.pure0 ?_
      first | (simp; done) | (simp <;> grind)
     ·try simp at k4
      obtain ⟨f4, e4⟩ := neg_on2 e4 (by first | simpa using k4 | grind)
      try simp at f4
      refine EV.skip ?_
      simp only [thenK_normal, blockK_normal, scopeK_normal]
      refine EV.regionG tabOK ?_ -- region 9
      simp (maxSteps := 2000000) -implicitDefEqProofs [k2, u2, hx4, b3, c3, hy6_2]
      have w4 : IntKind.i64.wrap ((j4 : Int) + 1) = (j4 : Int) + 1 := wrap_in _ (by omega) (by omega)
      refine ⟨⟨j4 + 1, by omega, e4⟩, by dsimp only; omega, ?_⟩
      try dsimp only
      refine Sub.cutF 0 (by simp) ?_ ?_ <;> simp [List.range_succ, toIdx_range, passed, k2, u2, hx4, b3, c3, hy6_2, w4]
    ·try simp at k2
     have d2 : p0.drop j4 = [] := List.drop_eq_nil_of_le (by omega)
     rw [d2, eqTy_l4] at e4
     refine EV.exit ?_
     simp -implicitDefEqProofs
     refine ⟨⟨((), ()), e4.symm⟩, ?_⟩
     try dsimp only
     refine Sub.cutF 0 (by simp) ?_ ?_ <;> simp [List.range_succ, toIdx_range, passed]
  ·skip
   rintro ⟨⟨v4, g4⟩, e4⟩
   simp only [thenK_normal, blockK_normal, scopeK_normal, bodyK_normal]
   replace e := run_on e e4
   try dsimp only at e
   refine EV.seq ?_
   refine EV.regionG tabOK ?_ -- region 10
   simp (maxSteps := 2000000) -implicitDefEqProofs
   refine EV.ret ?_
   simp only [thenK_ret, blockK_ret, scopeK_ret, bodyK_ret]
   subst e
   refine Fin.pure0 ?_
   first | (simp; done) | (simp <;> grind)


def mSame_b (r_mSame : TyD → TyD → Bool) (p0 : TyD) (p1 : TyD) : Bool :=
 (((decide (p0.k = p1.k)) && (decide (p0.name = p1.name))) && (eqTy p0.l p1.l r_mSame))
set_option maxHeartbeats 40000000 in
theorem w_mSame_b (r_mSame : TyD → TyD → Bool) (p0 : TyD) (p1 : TyD)  (D : Nat) (H_mSame : ∀ (u0 : TyD) (u1 : TyD), SizeOf.sizeOf u0 < D → QC prog 43 [.agg [.i .i64 u0.k, .s u0.name, .ro 3 (u0.l.map tyC)], .agg [.i .i64 u1.k, .s u1.name, .ro 3 (u1.l.map tyC)]] [] (.b (r_mSame u0 u1)) []) (hD : SizeOf.sizeOf p0 ≤ D) : QC prog 43 [.agg [.i .i64 p0.k, .s p0.name, .ro 3 (p0.l.map tyC)], .agg [.i .i64 p1.k, .s p1.name, .ro 3 (p1.l.map tyC)]] [] (.b (mSame_b r_mSame p0 p1)) [] := by
 refine QC.of_body tabOK func43 rfl (by kernel_rfl) ?_
 simp only [f43]
 generalize e : mSame_b r_mSame p0 p1 = R
 unfold mSame_b at e
 refine EV.seq ?_
 refine EV.regionG tabOK ?_ -- region 0
 simp (maxSteps := 2000000) -implicitDefEqProofs
 refine EV.seq ?_
 refine EV.nrm (fun _ : Unit => (⟨[J, J, J, J, .b (((decide (p0.k = p1.k)) && (decide (p0.name = p1.name))) && (eqTy p0.l p1.l r_mSame)), J, J, J, J, J, J, J, J, J, J, J, J, J, J, J, J, J, J, J], []⟩ : St)) ?_ ?_
 ·skip
  by_cases k2 : p0.k = p1.k
  ·skip
   have kk2 := k2
   try simp at kk2
   by_cases k3 : p0.name = p1.name
   ·skip
    have kk3 := k3
    try simp at kk3
    have := sz_TyD_l p0
    refine EV.regionG tabOK ?_ -- region 1
    simp (maxSteps := 2000000) -implicitDefEqProofs +contextual [k2, kk2, k3, kk3]
    refine callG_own [] rfl (w_eqTy0 p0.l p1.l r_mSame 43 (fun u0 u1 h0 => H_mSame u0 u1 (by have := List.sizeOf_lt_of_mem h0; first | omega | (simp at *; omega)))) ?_ ?_ ?_ ?_ ?_ ?_
    ·simp
    ·simp
    ·simp
    ·simp
    ·simp
    simp (maxSteps := 2000000) -implicitDefEqProofs +contextual [k2, kk2, k3, kk3, keys, callUpd, List.range_succ]
    refine ⟨(), ?_⟩
    try dsimp only
    refine Sub.cutF 0 (by simp) ?_ ?_ <;> simp [List.range_succ, toIdx_range, passed, k2, kk2, k3, kk3]
   ·skip
    have kk3 := k3
    try simp at kk3
    refine EV.regionG tabOK ?_ -- region 1
    simp (maxSteps := 2000000) -implicitDefEqProofs +contextual [k2, kk2, k3, kk3]
    refine ⟨(), ?_⟩
    try dsimp only
    refine Sub.cutF 0 (by simp) ?_ ?_ <;> simp [List.range_succ, toIdx_range, passed, k2, kk2, k3, kk3]
  ·skip
   have kk2 := k2
   try simp at kk2
   refine EV.regionG tabOK ?_ -- region 1
   simp (maxSteps := 2000000) -implicitDefEqProofs +contextual [k2, kk2]
   refine ⟨(), ?_⟩
   try dsimp only
   refine Sub.cutF 0 (by simp) ?_ ?_ <;> simp [List.range_succ, toIdx_range, passed, k2, kk2]
 ·skip
  rintro _
  simp only [thenK_normal, blockK_normal, scopeK_normal, bodyK_normal]
  refine EV.ret ?_
  simp only [thenK_ret, blockK_ret, scopeK_ret, bodyK_ret]
  subst e
  refine Fin.pure0 ?_
  first | (simp; done) | (simp <;> grind)

def mSame_f : Nat → TyD → TyD → Bool
 | 0, _, _ => default
 | k + 1, p0, p1 => mSame_b (mSame_f k) p0 p1
def mSame (p0 : TyD) (p1 : TyD) : Bool := mSame_f (SizeOf.sizeOf p0 + 1) p0 p1
theorem w_mSame_f : ∀ k : Nat, (∀ (p0 : TyD) (p1 : TyD), SizeOf.sizeOf p0 < k → QC prog 43 [.agg [.i .i64 p0.k, .s p0.name, .ro 3 (p0.l.map tyC)], .agg [.i .i64 p1.k, .s p1.name, .ro 3 (p1.l.map tyC)]] [] (.b (mSame_f k p0 p1)) [])
 | 0 => by refine (fun _ _ h => absurd h (Nat.not_lt_zero _))
 | k + 1 => by refine (fun p0 p1 h => by rw [mSame_f]; exact w_mSame_b (mSame_f k) p0 p1 k (w_mSame_f k) (by omega))
theorem w_mSame (p0 : TyD) (p1 : TyD) : QC prog 43 [.agg [.i .i64 p0.k, .s p0.name, .ro 3 (p0.l.map tyC)], .agg [.i .i64 p1.k, .s p1.name, .ro 3 (p1.l.map tyC)]] [] (.b (mSame p0 p1)) [] := (w_mSame_f (SizeOf.sizeOf p0 + 1)) p0 p1 (Nat.lt_succ_self _)


def mIs (p0 : TyD) : Bool :=
 (decide (p0.k = 1))
set_option maxHeartbeats 40000000 in
theorem w_mIs (p0 : TyD)  : QC prog 22 [.agg [.i .i64 p0.k, .s p0.name, .ro 3 (p0.l.map tyC)]] [] (.b (mIs p0)) [] := by
 refine QC.of_body tabOK func22 rfl (by kernel_rfl) ?_
 simp only [f22]
 generalize e : mIs p0 = R
 unfold mIs at e
 refine EV.seq ?_
 refine EV.regionG tabOK ?_ -- region 0
 simp (maxSteps := 2000000) -implicitDefEqProofs
 refine EV.seq ?_
 refine EV.regionG tabOK ?_ -- region 1
 simp (maxSteps := 2000000) -implicitDefEqProofs
 refine EV.ret ?_
 simp only [thenK_ret, blockK_ret, scopeK_ret, bodyK_ret]
 subst e
 refine Fin.pure0 ?_
 first | (simp; done) | (simp <;> grind)

def mStep (p0 : MirBodyD) (p1 : TyD) (p2 : Int) : TyD × Bool :=
 (if p2 = (-1) then (Ctl.run ((if p1.k = 4 then (if (p1.l.length : Int) = 1 then (bnd (p1.l.getD 0 default) fun (y7_2 : TyD) => .ret (y7_2, true)) else .go ()) else (if p1.k = 5 then (if (p1.l.length : Int) = 1 then (bnd (p1.l.getD 0 default) fun (y7_2 : TyD) => .ret (y7_2, true)) else .go ()) else (if p1.k = 6 then (if (p1.l.length : Int) = 1 then (bnd (p1.l.getD 0 default) fun (y7_2 : TyD) => .ret (y7_2, true)) else .go ()) else .go ()))) : Ctl (TyD × Bool) (Unit)) fun (v3 : Unit) => ((TyD.mk 0 ([] : List UInt8) ([])), false)) else (bnd (p0.s.structs.getD (((kStructOf p0.s p1.name)).toNat) default) fun (y10_17 : StructD) => (if (((¬ (p1.k = 2)) ∨ ((kStructOf p0.s p1.name) < 0)) ∨ (p2 < 0)) ∨ ((y10_17.fields.length : Int) ≤ p2) then ((TyD.mk 0 ([] : List UInt8) ([])), false) else (bnd (y10_17.fields.getD ((p2).toNat) default) fun (y12_10 : FieldD) => (((kResolve p0.s y12_10.ty).1), (decide ((kResolve p0.s y12_10.ty).2 = 0)))))))
set_option maxHeartbeats 40000000 in
theorem w_mStep (p0 : MirBodyD) (p1 : TyD) (p2 : Int)  : QC prog 59 [.agg [.ro 4 (p0.s.structs.map structC), .ro 3 (p0.s.enums.map enumC), .ro 4 (p0.s.fns.map fnC), .s p0.b.name, .i .i64 p0.b.params, .ro 4 (p0.b.locals.map localC), .ro 17 (p0.b.blocks.map blockC)], .agg [.i .i64 p1.k, .s p1.name, .ro 3 (p1.l.map tyC)], .i .i64 p2] [] (.tup [.agg [.i .i64 (((mStep p0 p1 p2).1).k), .s (((mStep p0 p1 p2).1).name), .ro 3 ((((mStep p0 p1 p2).1).l).map tyC)], .b ((mStep p0 p1 p2).2)]) [] := by
 refine QC.of_body tabOK func59 rfl (by kernel_rfl) ?_
 simp only [f59]
 generalize e : mStep p0 p1 p2 = R
 unfold mStep at e
 refine EV.seq ?_
 refine EV.regionG tabOK ?_ -- region 0
 simp (maxSteps := 2000000) -implicitDefEqProofs
 refine EV.seq ?_
 refine EV.seq ?_
 refine EV.regionG tabOK ?_ -- region 1
 simp (maxSteps := 2000000) -implicitDefEqProofs
 refine EV.condT ?_
 simp -implicitDefEqProofs
 refine condT_intro (fun k1 => ?_) (fun k1 => ?_)
 ·try simp at k1
  obtain ⟨f1, e⟩ := pos_on2 e (by first | simpa using k1 | grind)
  try simp at f1
  refine EV.seq ?_
  refine EV.seq ?_
  refine EV.regionG tabOK ?_ -- region 2
  simp (maxSteps := 2000000) -implicitDefEqProofs
  obtain ⟨z3, e3, e⟩ := run_split e
  refine EV.nrm (fun v : { v : (Unit) × (Unit) // z3 = .go v.1 } => (fun (v3 : Unit) (g3 : Unit) => (⟨[J, J, J, J, J, J, .ptr 2 0 0 0, J, J, J, J, J, J, J, J, J, J, J, J, J, J, J, J, J, J, J, J, J, J, J, J, J, J, J, J, J, J, J, J, J, J, J, J, J, J, J, J, J, J, J, J, J, J, J, J, J, J, J, J, J, J, J, J, J, J, J, J, J, J, J, J, J, J, J, J, J, J], [.arr 0 7 [[.ro 4 (p0.s.structs.map structC), .ro 3 (p0.s.enums.map enumC), .ro 4 (p0.s.fns.map fnC), .s p0.b.name, .i .i64 p0.b.params, .ro 4 (p0.b.locals.map localC), .ro 17 (p0.b.blocks.map blockC)]], .arr 0 3 [[.i .i64 p1.k, .s p1.name, .ro 3 (p1.l.map tyC)]], .arr 0 3 [[.i .i64 0, .s ([] : List UInt8), .c (.slice none 0 0)]]]⟩ : St)) v.1.1 v.1.2) ?_ ?_
  ·skip
   refine EV.block ?_
   refine EV.seq ?_
   refine EV.seq ?_
   refine EV.regionG tabOK ?_ -- region 3
   simp (maxSteps := 2000000) -implicitDefEqProofs
   refine EV.condT ?_
   simp -implicitDefEqProofs
   refine condT_intro (fun k2 => ?_) (fun k2 => ?_)
   ·try simp at k2
    obtain ⟨f2, e3⟩ := pos_on2 e3 (by first | simpa using k2 | grind)
    try simp at f2
    refine EV.skip ?_
    simp only [thenK_normal, blockK_normal, scopeK_normal]
    refine EV.condT ?_
    simp -implicitDefEqProofs
    refine EV.seq ?_
    refine EV.regionG tabOK ?_ -- region 6
    simp (maxSteps := 2000000) -implicitDefEqProofs
    refine EV.condT ?_
    simp -implicitDefEqProofs
    refine condT_intro (fun k3 => ?_) (fun k3 => ?_)
    ·try simp at k3
     obtain ⟨f3, e3⟩ := pos_on2 e3 (by first | simpa using k3 | grind)
     try simp at f3
     refine EV.seq ?_
     obtain ⟨y7_2, gy7_2⟩ : ∃ z, (p1.l.getD 0 default) = z := ⟨_, rfl⟩
     replace e3 := bnd_on e3 gy7_2
     try dsimp only at e3
     have b4 : 0 ≤ 0 ∧ 0 < (p1.l.length : Int) := by omega
     have c4 : 0 < p1.l.length := by omega
     have hy7_2 : p1.l[0] = y7_2 := by rw [← gy7_2, List.getD_eq_getElem?_getD, List.getElem?_eq_getElem c4]; rfl
     have my7_2 : y7_2 ∈ p1.l := by rw [← hy7_2]; exact List.getElem_mem _
     refine EV.regionG tabOK ?_ -- region 7
     simp (maxSteps := 2000000) -implicitDefEqProofs [b4, c4, hy7_2]
     refine EV.ret ?_
     simp only [thenK_ret, blockK_ret, scopeK_ret, bodyK_ret]
     replace e := run_back e e3
     subst e
     refine Fin.pure0 ?_
     first | (simp; done) | (simp <;> grind)
    ·try simp at k3
     obtain ⟨f3, e3⟩ := neg_on2 e3 (by first | simpa using k3 | grind)
     try simp at f3
     refine EV.skip ?_
     simp only [thenK_normal, blockK_normal, scopeK_normal]
     refine ⟨⟨((), ()), e3.symm⟩, ?_⟩
     try dsimp only
     refine Sub.cutF 3 (by simp) ?_ ?_ <;> simp [List.range_succ, toIdx_range, passed]
   ·try simp at k2
    obtain ⟨f2, e3⟩ := neg_on2 e3 (by first | simpa using k2 | grind)
    try simp at f2
    refine EV.seq ?_
    refine EV.regionG tabOK ?_ -- region 4
    simp (maxSteps := 2000000) -implicitDefEqProofs
    refine EV.condT ?_
    simp -implicitDefEqProofs
    refine condT_intro (fun k5 => ?_) (fun k5 => ?_)
    ·try simp at k5
     obtain ⟨f5, e3⟩ := pos_on2 e3 (by first | simpa using k5 | grind)
     try simp at f5
     refine EV.skip ?_
     simp only [thenK_normal, blockK_normal, scopeK_normal]
     refine EV.condT ?_
     simp -implicitDefEqProofs
     refine EV.seq ?_
     refine EV.regionG tabOK ?_ -- region 6
     simp (maxSteps := 2000000) -implicitDefEqProofs
     refine EV.condT ?_
     simp -implicitDefEqProofs
     refine condT_intro (fun k6 => ?_) (fun k6 => ?_)
     ·try simp at k6
      obtain ⟨f6, e3⟩ := pos_on2 e3 (by first | simpa using k6 | grind)
      try simp at f6
      refine EV.seq ?_
      obtain ⟨y7_2, gy7_2⟩ : ∃ z, (p1.l.getD 0 default) = z := ⟨_, rfl⟩
      replace e3 := bnd_on e3 gy7_2
      try dsimp only at e3
      have b7 : 0 ≤ 0 ∧ 0 < (p1.l.length : Int) := by omega
      have c7 : 0 < p1.l.length := by omega
      have hy7_2 : p1.l[0] = y7_2 := by rw [← gy7_2, List.getD_eq_getElem?_getD, List.getElem?_eq_getElem c7]; rfl
      have my7_2 : y7_2 ∈ p1.l := by rw [← hy7_2]; exact List.getElem_mem _
      refine EV.regionG tabOK ?_ -- region 7
      simp (maxSteps := 2000000) -implicitDefEqProofs [b7, c7, hy7_2]
      refine EV.ret ?_
      simp only [thenK_ret, blockK_ret, scopeK_ret, bodyK_ret]
      replace e := run_back e e3
      subst e
      refine Fin.pure0 ?_
      first | (simp; done) | (simp <;> grind)
     ·try simp at k6
      obtain ⟨f6, e3⟩ := neg_on2 e3 (by first | simpa using k6 | grind)
      try simp at f6
      refine EV.skip ?_
      simp only [thenK_normal, blockK_normal, scopeK_normal]
      refine ⟨⟨((), ()), e3.symm⟩, ?_⟩
      try dsimp only
      refine Sub.cutF 3 (by simp) ?_ ?_ <;> simp [List.range_succ, toIdx_range, passed]
    ·try simp at k5
     obtain ⟨f5, e3⟩ := neg_on2 e3 (by first | simpa using k5 | grind)
     try simp at f5
     refine EV.regionG tabOK ?_ -- region 5
     simp (maxSteps := 2000000) -implicitDefEqProofs
     refine EV.condT ?_
     simp -implicitDefEqProofs
     refine condT_intro (fun k8 => ?_) (fun k8 => ?_)
     ·try simp at k8
      obtain ⟨f8, e3⟩ := pos_on2 e3 (by first | simpa using k8 | grind)
      try simp at f8
      refine EV.seq ?_
      refine EV.regionG tabOK ?_ -- region 6
      simp (maxSteps := 2000000) -implicitDefEqProofs
      refine EV.condT ?_
      simp -implicitDefEqProofs
      refine condT_intro (fun k9 => ?_) (fun k9 => ?_)
      ·try simp at k9
       obtain ⟨f9, e3⟩ := pos_on2 e3 (by first | simpa using k9 | grind)
       try simp at f9
       refine EV.seq ?_
       obtain ⟨y7_2, gy7_2⟩ : ∃ z, (p1.l.getD 0 default) = z := ⟨_, rfl⟩
       replace e3 := bnd_on e3 gy7_2
       try dsimp only at e3
       have b10 : 0 ≤ 0 ∧ 0 < (p1.l.length : Int) := by omega
       have c10 : 0 < p1.l.length := by omega
       have hy7_2 : p1.l[0] = y7_2 := by rw [← gy7_2, List.getD_eq_getElem?_getD, List.getElem?_eq_getElem c10]; rfl
       have my7_2 : y7_2 ∈ p1.l := by rw [← hy7_2]; exact List.getElem_mem _
       refine EV.regionG tabOK ?_ -- region 7
       simp (maxSteps := 2000000) -implicitDefEqProofs [b10, c10, hy7_2]
       refine EV.ret ?_
       simp only [thenK_ret, blockK_ret, scopeK_ret, bodyK_ret]
       replace e := run_back e e3
       subst e
       refine Fin.pure0 ?_
       first | (simp; done) | (simp <;> grind)
      ·try simp at k9
       obtain ⟨f9, e3⟩ := neg_on2 e3 (by first | simpa using k9 | grind)
       try simp at f9
       refine EV.skip ?_
       simp only [thenK_normal, blockK_normal, scopeK_normal]
       refine ⟨⟨((), ()), e3.symm⟩, ?_⟩
       try dsimp only
       refine Sub.cutF 3 (by simp) ?_ ?_ <;> simp [List.range_succ, toIdx_range, passed]
     ·try simp at k8
      obtain ⟨f8, e3⟩ := neg_on2 e3 (by first | simpa using k8 | grind)
      try simp at f8
      refine EV.skip ?_
      simp only [thenK_normal, blockK_normal, scopeK_normal]
      refine ⟨⟨((), ()), e3.symm⟩, ?_⟩
      try dsimp only
      refine Sub.cutF 3 (by simp) ?_ ?_ <;> simp [List.range_succ, toIdx_range, passed]
  ·skip
   rintro ⟨⟨v3, g3⟩, e3⟩
   simp only [thenK_normal, blockK_normal, scopeK_normal, bodyK_normal]
   replace e := run_on e e3
   try dsimp only at e
   refine EV.seq ?_
   refine EV.regionG tabOK ?_ -- region 8
   simp (maxSteps := 2000000) -implicitDefEqProofs
   refine EV.ret ?_
   simp only [thenK_ret, blockK_ret, scopeK_ret, bodyK_ret]
   subst e
   refine Fin.data ?_ ?_
   ·simp [convV, conv1, conv0, cvOb, allP, allR, c0, Pu, take_len_map, List.getD, List.range_succ]
   ·simp [List.range_succ]
 ·try simp at k1
  obtain ⟨f1, e⟩ := neg_on2 e (by first | simpa using k1 | grind)
  try simp at f1
  refine EV.skip ?_
  simp only [thenK_normal, blockK_normal, scopeK_normal]
  refine EV.seq ?_
  have := kStructOf_lt p0.s p1.name
  refine EV.regionG tabOK ?_ -- region 9
  simp (maxSteps := 2000000) -implicitDefEqProofs
  refine callG_fun (w_kStructOf p0.s p1.name) ?_ ?_
  ·simp
  simp (maxSteps := 2000000) -implicitDefEqProofs
  refine EV.seq ?_
  refine EV.seq ?_
  obtain ⟨y10_17, gy10_17⟩ : ∃ z, (p0.s.structs.getD (((kStructOf p0.s p1.name)).toNat) default) = z := ⟨_, rfl⟩
  replace e := bnd_on e gy10_17
  try dsimp only at e
  refine EV.nrm (fun _ : Unit => (⟨[J, J, .i .i64 p2, .ptr 0 0 0 0, J, J, .ptr 2 0 0 0, J, .i .i64 (kStructOf p0.s p1.name), J, J, J, J, J, J, J, J, J, J, J, J, J, J, J, J, J, J, J, J, J, J, J, J, J, J, J, J, J, J, J, J, J, J, J, J, J, J, J, J, J, J, J, J, J, J, .b ((((!(decide (p1.k = 2))) || (decide ((kStructOf p0.s p1.name) < 0))) || (decide (p2 < 0))) || (decide ((y10_17.fields.length : Int) ≤ p2))), J, J, J, J, J, J, J, J, J, J, J, J, J, J, J, J, J, J, J, J, J], [.arr 0 7 [[.ro 4 (p0.s.structs.map structC), .ro 3 (p0.s.enums.map enumC), .ro 4 (p0.s.fns.map fnC), .s p0.b.name, .i .i64 p0.b.params, .ro 4 (p0.b.locals.map localC), .ro 17 (p0.b.blocks.map blockC)]], .arr 0 3 [[.i .i64 p1.k, .s p1.name, .ro 3 (p1.l.map tyC)]], .arr 0 3 [[.i .i64 0, .s ([] : List UInt8), .c (.slice none 0 0)]]]⟩ : St)) ?_ ?_
  ·skip
   by_cases k12 : p1.k = 2
   ·skip
    have kk12 := k12
    try simp at kk12
    by_cases k13 : (kStructOf p0.s p1.name) < 0
    ·skip
     have kk13 := k13
     try simp at kk13
     refine EV.regionG tabOK ?_ -- region 10
     simp (maxSteps := 2000000) -implicitDefEqProofs +contextual [k12, kk12, k13, kk13]
     refine ⟨(), ?_⟩
     try dsimp only
     refine Sub.cutF 3 (by simp) ?_ ?_ <;> simp [List.range_succ, toIdx_range, passed, k12, kk12, k13, kk13]
    ·skip
     have kk13 := k13
     try simp at kk13
     by_cases k14 : p2 < 0
     ·skip
      have kk14 := k14
      try simp at kk14
      refine EV.regionG tabOK ?_ -- region 10
      simp (maxSteps := 2000000) -implicitDefEqProofs +contextual [k12, kk12, k13, kk13, k14, kk14]
      refine ⟨(), ?_⟩
      try dsimp only
      refine Sub.cutF 3 (by simp) ?_ ?_ <;> simp [List.range_succ, toIdx_range, passed, k12, kk12, k13, kk13, k14, kk14]
     ·skip
      have kk14 := k14
      try simp at kk14
      have b15 : 0 ≤ (kStructOf p0.s p1.name) ∧ (kStructOf p0.s p1.name) < (p0.s.structs.length : Int) := by omega
      have c15 : ((kStructOf p0.s p1.name)).toNat < p0.s.structs.length := by omega
      have hy10_17 : p0.s.structs[((kStructOf p0.s p1.name)).toNat] = y10_17 := by rw [← gy10_17, List.getD_eq_getElem?_getD, List.getElem?_eq_getElem c15]; rfl
      have my10_17 : y10_17 ∈ p0.s.structs := by rw [← hy10_17]; exact List.getElem_mem _
      refine EV.regionG tabOK ?_ -- region 10
      simp (maxSteps := 2000000) -implicitDefEqProofs +contextual [k12, kk12, k13, kk13, k14, kk14, b15, c15, hy10_17]
      refine ⟨(), ?_⟩
      try dsimp only
      refine Sub.cutF 3 (by simp) ?_ ?_ <;> simp [List.range_succ, toIdx_range, passed, k12, kk12, k13, kk13, k14, kk14, b15, c15, hy10_17]
   ·skip
    have kk12 := k12
    try simp at kk12
    refine EV.regionG tabOK ?_ -- region 10
    simp (maxSteps := 2000000) -implicitDefEqProofs +contextual [k12, kk12]
    refine ⟨(), ?_⟩
    try dsimp only
    refine Sub.cutF 3 (by simp) ?_ ?_ <;> simp [List.range_succ, toIdx_range, passed, k12, kk12]
  ·skip
   rintro _
   simp only [thenK_normal, blockK_normal, scopeK_normal, bodyK_normal]
   refine EV.condT ?_
   simp -implicitDefEqProofs
   refine condT_intro (fun k16 => ?_) (fun k16 => ?_)
   ·try simp at k16
    obtain ⟨f16, e⟩ := pos_on2 e (by first | simpa using k16 | grind)
    try simp at f16
    refine EV.seq ?_
    refine EV.regionG tabOK ?_ -- region 11
    simp (maxSteps := 2000000) -implicitDefEqProofs
    refine EV.ret ?_
    simp only [thenK_ret, blockK_ret, scopeK_ret, bodyK_ret]
    subst e
    refine Fin.data ?_ ?_
    ·simp [convV, conv1, conv0, cvOb, allP, allR, c0, Pu, take_len_map, List.getD, List.range_succ]
    ·simp [List.range_succ]
   ·try simp at k16
    obtain ⟨f16, e⟩ := neg_on2 e (by first | simpa using k16 | grind)
    try simp at f16
    refine EV.skip ?_
    simp only [thenK_normal, blockK_normal, scopeK_normal]
    refine EV.seq ?_
    obtain ⟨y12_10, gy12_10⟩ : ∃ z, (y10_17.fields.getD ((p2).toNat) default) = z := ⟨_, rfl⟩
    replace e := bnd_on e gy12_10
    try dsimp only at e
    have b17 : 0 ≤ (kStructOf p0.s p1.name) ∧ (kStructOf p0.s p1.name) < (p0.s.structs.length : Int) := by omega
    have c17 : ((kStructOf p0.s p1.name)).toNat < p0.s.structs.length := by omega
    have hy10_17 : p0.s.structs[((kStructOf p0.s p1.name)).toNat] = y10_17 := by rw [← gy10_17, List.getD_eq_getElem?_getD, List.getElem?_eq_getElem c17]; rfl
    have my10_17 : y10_17 ∈ p0.s.structs := by rw [← hy10_17]; exact List.getElem_mem _
    have b18 : 0 ≤ p2 ∧ p2 < (y10_17.fields.length : Int) := by omega
    have c18 : (p2).toNat < y10_17.fields.length := by omega
    have hy12_10 : y10_17.fields[(p2).toNat] = y12_10 := by rw [← gy12_10, List.getD_eq_getElem?_getD, List.getElem?_eq_getElem c18]; rfl
    have my12_10 : y12_10 ∈ y10_17.fields := by rw [← hy12_10]; exact List.getElem_mem _
    refine EV.drawG tabOK mixedOK ?_ -- region 12
    simp (maxSteps := 2000000) -implicitDefEqProofs [b17, c17, hy10_17, b18, c18, hy12_10]
    refine callG_fun (w_kResolve p0.s y12_10.ty) ?_ ?_
    ·first | (simp; done) | (simp [b17, c17, hy10_17, b18, c18, hy12_10]; done)
    simp (maxSteps := 2000000) -implicitDefEqProofs [b17, c17, hy10_17, b18, c18, hy12_10]
    refine And.intro ?_ ?_
    ·first | decide +kernel | (simp -implicitDefEqProofs; decide +kernel) | (split <;> decide +kernel)
    try simp -implicitDefEqProofs
    refine EV.seq ?_
    refine EV.regionG tabOK ?_ -- region 13
    simp (maxSteps := 2000000) -implicitDefEqProofs [b17, c17, hy10_17, b18, c18, hy12_10]
    refine EV.ret ?_
    simp only [thenK_ret, blockK_ret, scopeK_ret, bodyK_ret]
    subst e
    refine Fin.pure0 ?_
    first | (simp; done) | (simp <;> grind)

def mSpot_l5 (p0 : MirBodyD) : List Int → Bool → TyD → Ctl (TyD × Bool × Int) (Bool × TyD)
 | [], a5_0, a5_1 => .go (a5_0, a5_1)
 | x5 :: xs5, a5_0, a5_1 => (if ¬ ((mStep p0 a5_1 x5).2 = true) then .ret ((TyD.mk 0 ([] : List UInt8) ([])), false, 84) else mSpot_l5 p0 xs5 (a5_0 || ((decide (x5 = (-1))) && (decide (a5_1.k = 5)))) ((mStep p0 a5_1 x5).1))
def mSpot (p0 : MirBodyD) (p1 : SpotD) : TyD × Bool × Int :=
 (if (p1.local_ < 0) ∨ ((p0.b.locals.length : Int) ≤ p1.local_) then ((TyD.mk 0 ([] : List UInt8) ([])), false, 84) else (bnd (p0.b.locals.getD ((p1.local_).toNat) default) fun (y3_5 : LocalD) => (Ctl.run (mSpot_l5 p0 p1.path false y3_5.ty) fun (v5 : Bool × TyD) => (v5.2, v5.1, 0))))
set_option maxHeartbeats 40000000 in
theorem w_mSpot (p0 : MirBodyD) (p1 : SpotD)  : QC prog 26 [.agg [.ro 4 (p0.s.structs.map structC), .ro 3 (p0.s.enums.map enumC), .ro 4 (p0.s.fns.map fnC), .s p0.b.name, .i .i64 p0.b.params, .ro 4 (p0.b.locals.map localC), .ro 17 (p0.b.blocks.map blockC)], .agg [.i .i64 p1.local_, .ro 1 (p1.path.map (fun z => [.i .i64 z]))]] [] (.tup [.agg [.i .i64 (((mSpot p0 p1).1).k), .s (((mSpot p0 p1).1).name), .ro 3 ((((mSpot p0 p1).1).l).map tyC)], .b ((mSpot p0 p1).2.1), .i .i64 ((mSpot p0 p1).2.2)]) [] := by
 refine QC.of_body tabOK func26 rfl (by kernel_rfl) ?_
 simp only [f26]
 generalize e : mSpot p0 p1 = R
 unfold mSpot at e
 refine EV.seq ?_
 refine EV.regionG tabOK ?_ -- region 0
 simp (maxSteps := 2000000) -implicitDefEqProofs
 refine EV.seq ?_
 refine EV.seq ?_
 refine EV.regionG tabOK ?_ -- region 1
 simp (maxSteps := 2000000) -implicitDefEqProofs +contextual
 refine EV.condT ?_
 simp -implicitDefEqProofs
 refine condT_intro (fun k1 => ?_) (fun k1 => ?_)
 ·try simp at k1
  obtain ⟨f1, e⟩ := pos_on2 e (by first | simpa using k1 | grind)
  try simp at f1
  refine EV.seq ?_
  refine EV.regionG tabOK ?_ -- region 2
  simp (maxSteps := 2000000) -implicitDefEqProofs
  refine EV.ret ?_
  simp only [thenK_ret, blockK_ret, scopeK_ret, bodyK_ret]
  subst e
  refine Fin.data ?_ ?_
  ·simp [convV, conv1, conv0, cvOb, allP, allR, c0, Pu, take_len_map, List.getD, List.range_succ]
  ·simp [List.range_succ]
 ·try simp at k1
  obtain ⟨f1, e⟩ := neg_on2 e (by first | simpa using k1 | grind)
  try simp at f1
  refine EV.skip ?_
  simp only [thenK_normal, blockK_normal, scopeK_normal]
  refine EV.seq ?_
  obtain ⟨y3_5, gy3_5⟩ : ∃ z, (p0.b.locals.getD ((p1.local_).toNat) default) = z := ⟨_, rfl⟩
  replace e := bnd_on e gy3_5
  try dsimp only at e
  have b2 : 0 ≤ p1.local_ ∧ p1.local_ < (p0.b.locals.length : Int) := by omega
  have c2 : (p1.local_).toNat < p0.b.locals.length := by omega
  have hy3_5 : p0.b.locals[(p1.local_).toNat] = y3_5 := by rw [← gy3_5, List.getD_eq_getElem?_getD, List.getElem?_eq_getElem c2]; rfl
  have my3_5 : y3_5 ∈ p0.b.locals := by rw [← hy3_5]; exact List.getElem_mem _
  refine EV.regionG tabOK ?_ -- region 3
  simp (maxSteps := 2000000) -implicitDefEqProofs [b2, c2, hy3_5]
  refine EV.seq ?_
  refine EV.seq ?_
  refine EV.regionG tabOK ?_ -- region 4
  simp (maxSteps := 2000000) -implicitDefEqProofs [b2, c2, hy3_5]
  obtain ⟨z5, e5, e⟩ := run_split e
  refine EV.nrm (fun v : { v : (Bool × TyD) × (Unit) // z5 = .go v.1 } => (fun (v5 : Bool × TyD) (g5 : Unit) => (⟨[J, J, J, J, .ptr 2 0 0 0, J, J, .ptr 3 0 0 0, .b v5.1, J, J, J, J, J, J, J, J, J, J, J, J, J, J, J, J, J, J, J, J, J, J, J, J, J, J, J, J, J, J, J, J, J, J, J, J, J, J, J, J, J, J, J, J, J, J, J, J, J, J, J, J, J, J, J, J], [.arr 0 7 [[.ro 4 (p0.s.structs.map structC), .ro 3 (p0.s.enums.map enumC), .ro 4 (p0.s.fns.map fnC), .s p0.b.name, .i .i64 p0.b.params, .ro 4 (p0.b.locals.map localC), .ro 17 (p0.b.blocks.map blockC)]], .arr 0 2 [[.i .i64 p1.local_, .ro 1 (p1.path.map (fun z => [.i .i64 z]))]], .arr 0 3 [[.i .i64 0, .s ([] : List UInt8), .c (.slice none 0 0)]], .arr 0 3 [[.i .i64 v5.2.k, .s v5.2.name, .ro 3 (v5.2.l.map tyC)]]]⟩ : St)) v.1.1 v.1.2) ?_ ?_
  ·skip
   refine EV.block ?_
   refine EV.loopB (fun x : { x : Nat × Bool × TyD // x.1 ≤ p1.path.length ∧ mSpot_l5 p0 (p1.path.drop x.1) x.2.1 x.2.2 = z5 } => (fun (j5 : Nat) (a5_0 : Bool) (a5_1 : TyD) => (⟨[J, J, .ptr 0 0 0 0, J, .ptr 2 0 0 0, J, J, .ptr 3 0 0 0, .b a5_0, J, J, J, J, J, J, J, J, J, J, J, J, J, J, J, J, J, J, J, J, J, J, J, J, J, J, .ro 1 (p1.path.map (fun z => [.i .i64 z])), .i .i64 (p1.path.length : Int), .i .i64 (j5 : Int), J, J, J, J, J, J, J, J, J, J, J, J, J, J, J, J, J, J, J, J, J, J, J, J, J, J, J], [.arr 0 7 [[.ro 4 (p0.s.structs.map structC), .ro 3 (p0.s.enums.map enumC), .ro 4 (p0.s.fns.map fnC), .s p0.b.name, .i .i64 p0.b.params, .ro 4 (p0.b.locals.map localC), .ro 17 (p0.b.blocks.map blockC)]], .arr 0 2 [[.i .i64 p1.local_, .ro 1 (p1.path.map (fun z => [.i .i64 z]))]], .arr 0 3 [[.i .i64 0, .s ([] : List UInt8), .c (.slice none 0 0)]], .arr 0 3 [[.i .i64 a5_1.k, .s a5_1.name, .ro 3 (a5_1.l.map tyC)]]]⟩ : St)) x.1.1 x.1.2.1 x.1.2.2) (fun x => p1.path.length - x.1.1) ⟨(0, false, y3_5.ty), Nat.zero_le _, e5⟩ ?_ ?_
   ·skip
    try dsimp only
    try dsimp only
    refine Sub.cutF 4 (by simp) ?_ ?_ <;> simp [List.range_succ, toIdx_range, passed, b2, c2, hy3_5]
   ·skip
    rintro ⟨⟨j5, a5_0, a5_1⟩, hi5, e5⟩
    simp only at hi5 e5 ⊢
    refine EV.seq ?_
    refine EV.regionG tabOK ?_ -- region 5
    simp (maxSteps := 2000000) -implicitDefEqProofs [b2, c2, hy3_5]
    refine EV.seq ?_
    refine EV.room 35 (by rfl) (fun mj5 => ?_)
    simp at mj5
    refine EV.condT ?_
    simp -implicitDefEqProofs [b2, c2, hy3_5]
    refine condT_intro (fun k3 => ?_) (fun k3 => ?_)
    ·try simp at k3
     have u3 : j5 < p1.path.length := by omega
     obtain ⟨x5, hx5⟩ : ∃ z, p1.path[j5] = z := ⟨_, rfl⟩
     have mx5 : x5 ∈ p1.path := by rw [← hx5]; exact List.getElem_mem _
     rw [List.drop_eq_getElem_cons u3, hx5, mSpot_l5] at e5
     refine EV.skip ?_
     simp only [thenK_normal, blockK_normal, scopeK_normal]
     refine EV.seq ?_
     refine EV.block ?_
     refine EV.seq ?_
     refine EV.regionG tabOK ?_ -- region 6
     simp (maxSteps := 2000000) -implicitDefEqProofs [b2, c2, hy3_5, k3, u3, hx5]
     refine EV.seq ?_
     refine EV.regionG tabOK ?_ -- region 7
     simp (maxSteps := 2000000) -implicitDefEqProofs +contextual [b2, c2, hy3_5, k3, u3, hx5]
     refine EV.seq ?_
     refine EV.regionG tabOK ?_ -- region 8
     simp (maxSteps := 2000000) -implicitDefEqProofs [b2, c2, hy3_5, k3, u3, hx5]
     refine callG_fun (w_mStep p0 a5_1 x5) ?_ ?_
     ·first | (simp; done) | (simp [b2, c2, hy3_5, k3, u3, hx5]; done)
     simp (maxSteps := 2000000) -implicitDefEqProofs [b2, c2, hy3_5, k3, u3, hx5]
     refine EV.seq ?_
     refine EV.seq ?_
     refine EV.regionG tabOK ?_ -- region 9
     simp (maxSteps := 2000000) -implicitDefEqProofs [b2, c2, hy3_5, k3, u3, hx5]
     refine EV.condT ?_
     simp -implicitDefEqProofs [b2, c2, hy3_5, k3, u3, hx5]
     refine condT_intro (fun k4 => ?_) (fun k4 => ?_)
     ·try simp at k4
      obtain ⟨f4, e5⟩ := pos_on2 e5 (by first | simpa using k4 | grind)
      try simp at f4
      refine EV.seq ?_
      refine EV.regionG tabOK ?_ -- region 10
      simp (maxSteps := 2000000) -implicitDefEqProofs [b2, c2, hy3_5, k3, u3, hx5]
      refine EV.ret ?_
      simp only [thenK_ret, blockK_ret, scopeK_ret, bodyK_ret]
      replace e := run_back e e5
      subst e
      refine Fin.data ?_ ?_
      ·simp [convV, conv1, conv0, cvOb, allP, allR, c0, Pu, take_len_map, List.getD, List.range_succ]
      ·simp [List.range_succ]
     ·try simp at k4
      obtain ⟨f4, e5⟩ := neg_on2 e5 (by first | simpa using k4 | grind)
      try simp at f4
      refine EV.skip ?_
      simp only [thenK_normal, blockK_normal, scopeK_normal]
      refine EV.regionG tabOK ?_ -- region 11
      simp (maxSteps := 2000000) -implicitDefEqProofs [b2, c2, hy3_5, k3, u3, hx5]
      refine EV.regionG tabOK ?_ -- region 12
      simp (maxSteps := 2000000) -implicitDefEqProofs [b2, c2, hy3_5, k3, u3, hx5]
      have w5 : IntKind.i64.wrap ((j5 : Int) + 1) = (j5 : Int) + 1 := wrap_in _ (by omega) (by omega)
      refine ⟨⟨(j5 + 1, (a5_0 || ((decide (x5 = (-1))) && (decide (a5_1.k = 5)))), ((mStep p0 a5_1 x5).1)), by omega, e5⟩, by dsimp only; omega, ?_⟩
      try dsimp only
      refine Sub.cutF 4 (by simp) ?_ ?_ <;> simp [List.range_succ, toIdx_range, passed, b2, c2, hy3_5, k3, u3, hx5, w5]
    ·try simp at k3
     have d3 : p1.path.drop j5 = [] := List.drop_eq_nil_of_le (by omega)
     rw [d3, mSpot_l5] at e5
     refine EV.exit ?_
     simp -implicitDefEqProofs
     refine ⟨⟨((a5_0, a5_1), ()), e5.symm⟩, ?_⟩
     try dsimp only
     refine Sub.cutF 4 (by simp) ?_ ?_ <;> simp [List.range_succ, toIdx_range, passed, b2, c2, hy3_5]
  ·skip
   rintro ⟨⟨v5, g5⟩, e5⟩
   simp only [thenK_normal, blockK_normal, scopeK_normal, bodyK_normal]
   replace e := run_on e e5
   try dsimp only at e
   refine EV.seq ?_
   refine EV.regionG tabOK ?_ -- region 13
   simp (maxSteps := 2000000) -implicitDefEqProofs [b2, c2, hy3_5]
   refine EV.ret ?_
   simp only [thenK_ret, blockK_ret, scopeK_ret, bodyK_ret]
   subst e
   refine Fin.pure0 ?_
   first | (simp; done) | (simp <;> grind)


def mType (p0 : SourceD) (p1 : BodyD) (p2 : SpotD) : TyD × Bool × Int :=
 (((mSpot (MirBodyD.mk p0 p1) p2).1), (mSpot (MirBodyD.mk p0 p1) p2).2.1, (mSpot (MirBodyD.mk p0 p1) p2).2.2)
set_option maxHeartbeats 40000000 in
theorem w_mType (p0 : SourceD) (p1 : BodyD) (p2 : SpotD)  : QC prog 11 [.agg [.ro 4 (p0.structs.map structC), .ro 3 (p0.enums.map enumC), .ro 4 (p0.fns.map fnC)], .agg [.s p1.name, .i .i64 p1.params, .ro 4 (p1.locals.map localC), .ro 17 (p1.blocks.map blockC)], .agg [.i .i64 p2.local_, .ro 1 (p2.path.map (fun z => [.i .i64 z]))]] [] (.tup [.agg [.i .i64 (((mType p0 p1 p2).1).k), .s (((mType p0 p1 p2).1).name), .ro 3 ((((mType p0 p1 p2).1).l).map tyC)], .b ((mType p0 p1 p2).2.1), .i .i64 ((mType p0 p1 p2).2.2)]) [] := by
 refine QC.of_body tabOK func11 rfl (by kernel_rfl) ?_
 simp only [f11]
 generalize e : mType p0 p1 p2 = R
 unfold mType at e
 refine EV.seq ?_
 refine EV.regionG tabOK ?_ -- region 0
 simp (maxSteps := 2000000) -implicitDefEqProofs
 refine EV.seq ?_
 refine EV.regionG tabOK ?_ -- region 1
 simp (maxSteps := 2000000) -implicitDefEqProofs
 refine callG_fun (w_mSpot (MirBodyD.mk p0 p1) p2) ?_ ?_
 ·simp
 simp (maxSteps := 2000000) -implicitDefEqProofs
 refine EV.ret ?_
 simp only [thenK_ret, blockK_ret, scopeK_ret, bodyK_ret]
 subst e
 refine Fin.pure0 ?_
 first | (simp; done) | (simp <;> grind)


def mEmpty (p0 : SpotD) : Bool :=
 ((decide (p0.local_ = 0)) && (decide ((p0.path.length : Int) = 0)))
set_option maxHeartbeats 40000000 in
theorem w_mEmpty (p0 : SpotD)  : QC prog 51 [.agg [.i .i64 p0.local_, .ro 1 (p0.path.map (fun z => [.i .i64 z]))]] [] (.b (mEmpty p0)) [] := by
 refine QC.of_body tabOK func51 rfl (by kernel_rfl) ?_
 simp only [f51]
 generalize e : mEmpty p0 = R
 unfold mEmpty at e
 refine EV.seq ?_
 refine EV.regionG tabOK ?_ -- region 0
 simp (maxSteps := 2000000) -implicitDefEqProofs
 refine EV.seq ?_
 refine EV.regionG tabOK ?_ -- region 1
 simp (maxSteps := 2000000) -implicitDefEqProofs +contextual
 refine EV.ret ?_
 simp only [thenK_ret, blockK_ret, scopeK_ret, bodyK_ret]
 subst e
 refine Fin.pure0 ?_
 first | (simp; done) | (simp <;> grind)


def mUse (p0 : MirBodyD) (p1 : UseD) : TyD × Int :=
 (if p1.num = true then (if (p1.move = true) ∨ (¬ ((mEmpty p1.s) = true)) then ((TyD.mk 0 ([] : List UInt8) ([])), 84) else ((TyD.mk 1 ([] : List UInt8) ([])), 0)) else (if ¬ ((mSpot p0 p1.s).2.2 = 0) then ((TyD.mk 0 ([] : List UInt8) ([])), (mSpot p0 p1.s).2.2) else (if ((¬ (p1.n = 0)) ∨ ((p1.move == (kCopies ((mSpot p0 p1.s).1))) = true)) ∨ ((p1.move = true) ∧ (0 < (p1.s.path.length : Int))) then ((TyD.mk 0 ([] : List UInt8) ([])), 84) else (((mSpot p0 p1.s).1), 0))))
set_option maxHeartbeats 40000000 in
theorem w_mUse (p0 : MirBodyD) (p1 : UseD)  : QC prog 65 [.agg [.ro 4 (p0.s.structs.map structC), .ro 3 (p0.s.enums.map enumC), .ro 4 (p0.s.fns.map fnC), .s p0.b.name, .i .i64 p0.b.params, .ro 4 (p0.b.locals.map localC), .ro 17 (p0.b.blocks.map blockC)], .agg [.b p1.num, .i .i64 p1.n, .b p1.move, .i .i64 p1.s.local_, .ro 1 (p1.s.path.map (fun z => [.i .i64 z]))]] [] (.tup [.agg [.i .i64 (((mUse p0 p1).1).k), .s (((mUse p0 p1).1).name), .ro 3 ((((mUse p0 p1).1).l).map tyC)], .i .i64 ((mUse p0 p1).2)]) [] := by
 refine QC.of_body tabOK func65 rfl (by kernel_rfl) ?_
 simp only [f65]
 generalize e : mUse p0 p1 = R
 unfold mUse at e
 refine EV.seq ?_
 refine EV.regionG tabOK ?_ -- region 0
 simp (maxSteps := 2000000) -implicitDefEqProofs
 refine EV.seq ?_
 refine EV.seq ?_
 refine EV.regionG tabOK ?_ -- region 1
 simp (maxSteps := 2000000) -implicitDefEqProofs
 refine EV.condT ?_
 simp -implicitDefEqProofs
 refine condT_intro (fun k1 => ?_) (fun k1 => ?_)
 ·try simp at k1
  obtain ⟨f1, e⟩ := pos_on2 e (by first | simpa using k1 | grind)
  try simp at f1
  refine EV.seq ?_
  refine EV.seq ?_
  refine EV.nrm (fun _ : Unit => (⟨[J, J, J, J, .ptr 2 0 0 0, J, J, J, J, J, J, J, J, J, J, J, J, J, .b (p1.move || (!(mEmpty p1.s))), J, J, J, J, J, J, J, J, J, J, J, J, J, J, J, J, J, J, J, J, J, J, J, J, J, J, J, J, J, J, J, J, J, J, J, J, J], [.arr 0 7 [[.ro 4 (p0.s.structs.map structC), .ro 3 (p0.s.enums.map enumC), .ro 4 (p0.s.fns.map fnC), .s p0.b.name, .i .i64 p0.b.params, .ro 4 (p0.b.locals.map localC), .ro 17 (p0.b.blocks.map blockC)]], .arr 0 5 [[.b p1.num, .i .i64 p1.n, .b p1.move, .i .i64 p1.s.local_, .ro 1 (p1.s.path.map (fun z => [.i .i64 z]))]], .arr 0 3 [[.i .i64 0, .s ([] : List UInt8), .c (.slice none 0 0)]]]⟩ : St)) ?_ ?_
  ·skip
   cases k3 : p1.move
   ·skip
    have kk3 := k3
    try simp at kk3
    refine EV.regionG tabOK ?_ -- region 2
    simp (maxSteps := 2000000) -implicitDefEqProofs +contextual [k3, kk3]
    refine callG_fun (w_mEmpty p1.s) ?_ ?_
    ·first | (simp; done) | (simp [k3, kk3]; done)
    simp (maxSteps := 2000000) -implicitDefEqProofs +contextual [k3, kk3]
    refine ⟨(), ?_⟩
    try dsimp only
    refine Sub.cutF 3 (by simp) ?_ ?_ <;> simp [List.range_succ, toIdx_range, passed, k3, kk3]
   ·skip
    have kk3 := k3
    try simp at kk3
    refine EV.regionG tabOK ?_ -- region 2
    simp (maxSteps := 2000000) -implicitDefEqProofs +contextual [k3, kk3]
    refine ⟨(), ?_⟩
    try dsimp only
    refine Sub.cutF 3 (by simp) ?_ ?_ <;> simp [List.range_succ, toIdx_range, passed, k3, kk3]
  ·skip
   rintro _
   simp only [thenK_normal, blockK_normal, scopeK_normal, bodyK_normal]
   refine EV.condT ?_
   simp -implicitDefEqProofs
   refine condT_intro (fun k4 => ?_) (fun k4 => ?_)
   ·try simp at k4
    obtain ⟨f4, e⟩ := pos_on2 e (by first | simpa using k4 | grind)
    try simp at f4
    refine EV.seq ?_
    refine EV.regionG tabOK ?_ -- region 3
    simp (maxSteps := 2000000) -implicitDefEqProofs
    refine EV.ret ?_
    simp only [thenK_ret, blockK_ret, scopeK_ret, bodyK_ret]
    subst e
    refine Fin.data ?_ ?_
    ·simp [convV, conv1, conv0, cvOb, allP, allR, c0, Pu, take_len_map, List.getD, List.range_succ]
    ·simp [List.range_succ]
   ·try simp at k4
    obtain ⟨f4, e⟩ := neg_on2 e (by first | simpa using k4 | grind)
    try simp at f4
    refine EV.skip ?_
    simp only [thenK_normal, blockK_normal, scopeK_normal]
    refine EV.seq ?_
    refine EV.regionG tabOK ?_ -- region 4
    simp (maxSteps := 2000000) -implicitDefEqProofs
    refine EV.ret ?_
    simp only [thenK_ret, blockK_ret, scopeK_ret, bodyK_ret]
    subst e
    refine Fin.data ?_ ?_
    ·simp [convV, conv1, conv0, cvOb, allP, allR, c0, Pu, take_len_map, List.getD, List.range_succ]
    ·simp [List.range_succ]
 ·try simp at k1
  obtain ⟨f1, e⟩ := neg_on2 e (by first | simpa using k1 | grind)
  try simp at f1
  refine EV.skip ?_
  simp only [thenK_normal, blockK_normal, scopeK_normal]
  refine EV.seq ?_
  refine EV.regionG tabOK ?_ -- region 5
  simp (maxSteps := 2000000) -implicitDefEqProofs
  refine callG_fun (w_mSpot p0 p1.s) ?_ ?_
  ·simp
  simp (maxSteps := 2000000) -implicitDefEqProofs
  refine EV.seq ?_
  refine EV.seq ?_
  refine EV.regionG tabOK ?_ -- region 6
  simp (maxSteps := 2000000) -implicitDefEqProofs
  refine EV.condT ?_
  simp -implicitDefEqProofs
  refine condT_intro (fun k5 => ?_) (fun k5 => ?_)
  ·try simp at k5
   obtain ⟨f5, e⟩ := pos_on2 e (by first | simpa using k5 | grind)
   try simp at f5
   refine EV.seq ?_
   refine EV.regionG tabOK ?_ -- region 7
   simp (maxSteps := 2000000) -implicitDefEqProofs
   refine EV.ret ?_
   simp only [thenK_ret, blockK_ret, scopeK_ret, bodyK_ret]
   subst e
   refine Fin.data ?_ ?_
   ·simp [convV, conv1, conv0, cvOb, allP, allR, c0, Pu, take_len_map, List.getD, List.range_succ]
   ·simp [List.range_succ]
  ·try simp at k5
   obtain ⟨f5, e⟩ := neg_on2 e (by first | simpa using k5 | grind)
   try simp at f5
   refine EV.skip ?_
   simp only [thenK_normal, blockK_normal, scopeK_normal]
   refine EV.seq ?_
   refine EV.seq ?_
   refine EV.nrm (fun _ : Unit => (⟨[J, J, J, J, .ptr 2 0 0 0, J, .ptr 3 0 0 0, J, J, J, J, J, J, J, J, J, J, J, J, J, J, J, J, J, J, J, J, J, J, J, J, J, J, J, J, J, J, J, J, J, J, J, J, J, J, J, J, J, J, J, J, J, J, .b (((!(decide (p1.n = 0))) || (p1.move == (kCopies ((mSpot p0 p1.s).1)))) || (p1.move && (decide (0 < (p1.s.path.length : Int))))), J, J], [.arr 0 7 [[.ro 4 (p0.s.structs.map structC), .ro 3 (p0.s.enums.map enumC), .ro 4 (p0.s.fns.map fnC), .s p0.b.name, .i .i64 p0.b.params, .ro 4 (p0.b.locals.map localC), .ro 17 (p0.b.blocks.map blockC)]], .arr 0 5 [[.b p1.num, .i .i64 p1.n, .b p1.move, .i .i64 p1.s.local_, .ro 1 (p1.s.path.map (fun z => [.i .i64 z]))]], .arr 0 3 [[.i .i64 0, .s ([] : List UInt8), .c (.slice none 0 0)]], .arr 0 3 [[.i .i64 (((mSpot p0 p1.s).1).k), .s (((mSpot p0 p1.s).1).name), .ro 3 ((((mSpot p0 p1.s).1).l).map tyC)]]]⟩ : St)) ?_ ?_
   ·skip
    by_cases k7 : p1.n = 0
    ·skip
     have kk7 := k7
     try simp at kk7
     cases k8 : p1.move
     ·skip
      have kk8 := k8
      try simp at kk8
      cases k9 : (kCopies ((mSpot p0 p1.s).1))
      ·skip
       have kk9 := k9
       try simp at kk9
       refine EV.drawG tabOK mixedOK ?_ -- region 8
       simp (maxSteps := 2000000) -implicitDefEqProofs +contextual [k7, kk7, k8, kk8, k9, kk9]
       refine callG_fun (w_kCopies ((mSpot p0 p1.s).1)) ?_ ?_
       ·first | (simp; done) | (simp [k7, kk7, k8, kk8, k9, kk9]; done)
       simp (maxSteps := 2000000) -implicitDefEqProofs +contextual [k7, kk7, k8, kk8, k9, kk9]
       refine And.intro ?_ ?_
       ·first | decide +kernel | (simp -implicitDefEqProofs; decide +kernel) | (split <;> decide +kernel)
       try simp -implicitDefEqProofs
       refine ⟨(), ?_⟩
       try dsimp only
       refine Sub.cutF 4 (by simp) ?_ ?_ <;> simp [List.range_succ, toIdx_range, passed, k7, kk7, k8, kk8, k9, kk9]
      ·skip
       have kk9 := k9
       try simp at kk9
       refine EV.drawG tabOK mixedOK ?_ -- region 8
       simp (maxSteps := 2000000) -implicitDefEqProofs +contextual [k7, kk7, k8, kk8, k9, kk9]
       refine callG_fun (w_kCopies ((mSpot p0 p1.s).1)) ?_ ?_
       ·first | (simp; done) | (simp [k7, kk7, k8, kk8, k9, kk9]; done)
       simp (maxSteps := 2000000) -implicitDefEqProofs +contextual [k7, kk7, k8, kk8, k9, kk9]
       refine And.intro ?_ ?_
       ·first | decide +kernel | (simp -implicitDefEqProofs; decide +kernel) | (split <;> decide +kernel)
       try simp -implicitDefEqProofs
       refine ⟨(), ?_⟩
       try dsimp only
       refine Sub.cutF 4 (by simp) ?_ ?_ <;> simp [List.range_succ, toIdx_range, passed, k7, kk7, k8, kk8, k9, kk9]
     ·skip
      have kk8 := k8
      try simp at kk8
      cases k10 : (kCopies ((mSpot p0 p1.s).1))
      ·skip
       have kk10 := k10
       try simp at kk10
       refine EV.drawG tabOK mixedOK ?_ -- region 8
       simp (maxSteps := 2000000) -implicitDefEqProofs +contextual [k7, kk7, k8, kk8, k10, kk10]
       refine callG_fun (w_kCopies ((mSpot p0 p1.s).1)) ?_ ?_
       ·first | (simp; done) | (simp [k7, kk7, k8, kk8, k10, kk10]; done)
       simp (maxSteps := 2000000) -implicitDefEqProofs +contextual [k7, kk7, k8, kk8, k10, kk10]
       refine And.intro ?_ ?_
       ·first | decide +kernel | (simp -implicitDefEqProofs; decide +kernel) | (split <;> decide +kernel)
       try simp -implicitDefEqProofs
       refine ⟨(), ?_⟩
       try dsimp only
       refine Sub.cutF 4 (by simp) ?_ ?_ <;> simp [List.range_succ, toIdx_range, passed, k7, kk7, k8, kk8, k10, kk10]
      ·skip
       have kk10 := k10
       try simp at kk10
       refine EV.drawG tabOK mixedOK ?_ -- region 8
       simp (maxSteps := 2000000) -implicitDefEqProofs +contextual [k7, kk7, k8, kk8, k10, kk10]
       refine callG_fun (w_kCopies ((mSpot p0 p1.s).1)) ?_ ?_
       ·first | (simp; done) | (simp [k7, kk7, k8, kk8, k10, kk10]; done)
       simp (maxSteps := 2000000) -implicitDefEqProofs +contextual [k7, kk7, k8, kk8, k10, kk10]
       refine And.intro ?_ ?_
       ·first | decide +kernel | (simp -implicitDefEqProofs; decide +kernel) | (split <;> decide +kernel)
       try simp -implicitDefEqProofs
       refine ⟨(), ?_⟩
       try dsimp only
       refine Sub.cutF 4 (by simp) ?_ ?_ <;> simp [List.range_succ, toIdx_range, passed, k7, kk7, k8, kk8, k10, kk10]
    ·skip
     have kk7 := k7
     try simp at kk7
     refine EV.drawG tabOK mixedOK ?_ -- region 8
     simp (maxSteps := 2000000) -implicitDefEqProofs +contextual [k7, kk7]
     refine And.intro ?_ ?_
     ·first | decide +kernel | (simp -implicitDefEqProofs; decide +kernel) | (split <;> decide +kernel)
     try simp -implicitDefEqProofs
     refine ⟨(), ?_⟩
     try dsimp only
     refine Sub.cutF 4 (by simp) ?_ ?_ <;> simp [List.range_succ, toIdx_range, passed, k7, kk7]
   ·skip
    rintro _
    simp only [thenK_normal, blockK_normal, scopeK_normal, bodyK_normal]
    refine EV.condT ?_
    simp -implicitDefEqProofs
    refine condT_intro (fun k11 => ?_) (fun k11 => ?_)
    ·try simp at k11
     obtain ⟨f11, e⟩ := pos_on2 e (by first | simpa using k11 | grind)
     try simp at f11
     refine EV.seq ?_
     refine EV.regionG tabOK ?_ -- region 9
     simp (maxSteps := 2000000) -implicitDefEqProofs
     refine EV.ret ?_
     simp only [thenK_ret, blockK_ret, scopeK_ret, bodyK_ret]
     subst e
     refine Fin.data ?_ ?_
     ·simp [convV, conv1, conv0, cvOb, allP, allR, c0, Pu, take_len_map, List.getD, List.range_succ]
     ·simp [List.range_succ]
    ·try simp at k11
     obtain ⟨f11, e⟩ := neg_on2 e (by first | simpa using k11 | grind)
     try simp at f11
     refine EV.skip ?_
     simp only [thenK_normal, blockK_normal, scopeK_normal]
     refine EV.seq ?_
     refine EV.regionG tabOK ?_ -- region 10
     simp (maxSteps := 2000000) -implicitDefEqProofs
     refine EV.ret ?_
     simp only [thenK_ret, blockK_ret, scopeK_ret, bodyK_ret]
     subst e
     refine Fin.pure0 ?_
     first | (simp; done) | (simp <;> grind)
end
end Go.Proofs.Tryd
end
