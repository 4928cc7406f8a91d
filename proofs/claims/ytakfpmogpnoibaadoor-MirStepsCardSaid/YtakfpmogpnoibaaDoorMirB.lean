/- Contracts of the program's functions over steps, and over bodies. -/
import Derived.Test.YtakfpmogpnoibaaDoorKndA
import Derived.Test.YtakfpmogpnoibaaDoorMirA
set_option linter.unusedVariables false
set_option linter.unusedSimpArgs false
set_option linter.constructorNameAsVariable false
section
namespace Go.Proofs.Tryd
open Go Go.AM
attribute [local simp] wpG_op wpG_nil contG_some wpG_guard guardG_v guardG_o guardG_tup gval pureOp stepG_if isPick pickG_pick pickB_b pickOK isCall step_move step_assign step_alloc step_box boxV_some step_load step_store step_binOp step_unOp step_fieldAddr faV step_indexAddr ixA_slc ixA_arr step_extract extV_tup step_nilCheck ncV_ptr ncV_rp ncV_fn ncV_mp step_build buildV step_buildSlice bsV step_index ixV_arr ixV_str step_append apB step_makeSlice msV_i step_makeFunc over step_len step_makeMap mmV step_mapUpdate step_insert muA_map muB_mp step_lookup lkA_map lkB_mp step_slice slcV_s slcV_sl slcV_ro cutB_some slObV_arr bound_none bound_some bndV_i lenB_str lenB_ro lenB_sl lenB_nil lenB_z ld_ptr ld_rp offV_ptr offV_rp idxV_ro idxV_sl unV_not unV_neg binV_int binV_str binV_eqlb binV_neqb intOp strOp St.put updL setOb St.ev toV St.lk cellsOf AM.valOf TK.agg stv fillV places TI.zero condT_true condT_false finS resL resSlot packV ren ren1 ren0 Value.cells builtinV appendV elemsOf keepT room_of wrap_in toIdx passed Function.comp_def take_len_map lenV touchOf hid tab1 tab2 tab3 tab4 tab5 tab6 tab7 tab8 tab9 tab10 tab11 tab12 tab13 tab14 tab15 tab16 tab17 tab18 tab19 tab20 tab21 tab22 tab23 tab24 tab25 tab26 tab27 tab28 tab29 tab30 tab31 tab32 tab33 tab34 tab35 tab36 tab37 tab38 tab39 tab40 tab41 tab42 tab43 tab44 tab45 tab46 tab47 tab48 tab49 tab50 tab51 tab52 tab53 tab54 tab55 tab57 tab58 tab59 tab61 tab62 tab63 tab64 tab65 tab66 tab67 tab68 tab69 tab70 tab71 tab72 tab73 tab74 tab75 tab76 tab77 tab78 tab79 tab80 tab81 tab82 tab83 tab84 tab85 tab86 tab87 tab88 tab89 tab90 tab91 tab92 tab93 tab94 tab95 tab96 tab97 tab98 tab99 tab100 tab101 tab103 tab104 tab105 tab106 tab107 tab108 tab109 tab110 tab111 tab112 tab113 tab114 tab115 tab116 tab117 tab118 tab119 tab120 tab121 tab122 tab123 tab124 tab125 tab126 tab127 tab128 tab129 tab130 tab131 tab132 tab133 tab135 tab137 tab138 tab140 tab141 tab142 tab143 tab144 tab145 tab146 tab147 tab148 tab149 tab150 tab151 tab152 tab153 tab155 tab156 tab157 tab158 tab159 tab160 tab161 tab162 tab163 tab164 tab165 tab166 tab167 tab168 tab170 tab171 tab172 tab173 tab174 tab175 tab176 tab177 tab178 tab179 tab180 tab181 tab182 tab186 tab187 tab188 tab189 tab190 tab191 tab192 tab193 tab194 tab195 armC_eq blockC_eq bodyC_eq enumC_eq fieldC_eq fnC_eq inC_eq localC_eq mirBodyC_eq operC_eq placeC_eq rvC_eq sourceC_eq spotC_eq stepC_eq stmtC_eq structC_eq tmC_eq tyC_eq useC_eq valueC_eq variantC_eq cutL_nil cutL_junk cutL_cons ren_arr ren_gone ren_unborn ren_var ren_row step_convert cvV_i cvV_sl cvV_s cvK_slc cvE_u8 bytesOf bor1 bor2 bor3 bor4
set_option linter.unusedSimpArgs false
set_option linter.unusedVariables false
set_option maxRecDepth 10000
set_option maxHeartbeats 4000000
noncomputable section

def mNoUse (p0 : UseD) : Bool :=
 ((((!p0.num) && (decide (p0.n = 0))) && (!p0.move)) && (mEmpty p0.s))
set_option maxHeartbeats 40000000 in
theorem w_mNoUse (p0 : UseD)  : QC prog 48 [.agg [.b p0.num, .i .i64 p0.n, .b p0.move, .i .i64 p0.s.local_, .ro 1 (p0.s.path.map (fun z => [.i .i64 z]))]] [] (.b (mNoUse p0)) [] := by
 refine QC.of_body tabOK func48 rfl (by kernel_rfl) ?_
 simp only [f48]
 generalize e : mNoUse p0 = R
 unfold mNoUse at e
 refine EV.seq ?_
 refine EV.regionG tabOK ?_ -- region 0
 simp (maxSteps := 2000000) -implicitDefEqProofs
 refine EV.seq ?_
 refine EV.nrm (fun _ : Unit => (⟨[J, J, .b ((((!p0.num) && (decide (p0.n = 0))) && (!p0.move)) && (mEmpty p0.s)), J, J, J, J, J, J, J, J, J, J, J, J, J, J, J, J, J, J], []⟩ : St)) ?_ ?_
 ·skip
  cases k2 : p0.num
  ·skip
   have kk2 := k2
   try simp at kk2
   by_cases k3 : p0.n = 0
   ·skip
    have kk3 := k3
    try simp at kk3
    cases k4 : p0.move
    ·skip
     have kk4 := k4
     try simp at kk4
     refine EV.regionG tabOK ?_ -- region 1
     simp (maxSteps := 2000000) -implicitDefEqProofs +contextual [k2, kk2, k3, kk3, k4, kk4]
     refine callG_fun (w_mEmpty p0.s) ?_ ?_
     ·first | (simp; done) | (simp [k2, kk2, k3, kk3, k4, kk4]; done)
     simp (maxSteps := 2000000) -implicitDefEqProofs +contextual [k2, kk2, k3, kk3, k4, kk4]
     refine ⟨(), ?_⟩
     try dsimp only
     refine Sub.cutF 0 (by simp) ?_ ?_ <;> simp [List.range_succ, toIdx_range, passed, k2, kk2, k3, kk3, k4, kk4]
    ·skip
     have kk4 := k4
     try simp at kk4
     refine EV.regionG tabOK ?_ -- region 1
     simp (maxSteps := 2000000) -implicitDefEqProofs +contextual [k2, kk2, k3, kk3, k4, kk4]
     refine ⟨(), ?_⟩
     try dsimp only
     refine Sub.cutF 0 (by simp) ?_ ?_ <;> simp [List.range_succ, toIdx_range, passed, k2, kk2, k3, kk3, k4, kk4]
   ·skip
    have kk3 := k3
    try simp at kk3
    refine EV.regionG tabOK ?_ -- region 1
    simp (maxSteps := 2000000) -implicitDefEqProofs +contextual [k2, kk2, k3, kk3]
    refine ⟨(), ?_⟩
    try dsimp only
    refine Sub.cutF 0 (by simp) ?_ ?_ <;> simp [List.range_succ, toIdx_range, passed, k2, kk2, k3, kk3]
  ·skip
   have kk2 := k2
   try simp at kk2
   refine EV.regionG tabOK ?_ -- region 1
   simp (maxSteps := 2000000) -implicitDefEqProofs +contextual [k2, kk2]
   refine ⟨(), ?_⟩
   try dsimp only
   refine Sub.cutF 0 (by simp) ?_ ?_ <;> simp [List.range_succ, toIdx_range, passed, k2, kk2]
 ·skip
  rintro _
  simp only [thenK_normal, blockK_normal, scopeK_normal, bodyK_normal]
  refine EV.ret ?_
  simp only [thenK_ret, blockK_ret, scopeK_ret, bodyK_ret]
  subst e
  refine Fin.pure0 ?_
  first | (simp; done) | (simp <;> grind)


def mNoValue (p0 : ValueD) : Bool :=
 (((((decide (p0.k = 0)) && (decide ((p0.uses.length : Int) = 0))) && (mEmpty p0.s)) && (decide (p0.which = 0))) && (decide (p0.tag = 0)))
set_option maxHeartbeats 40000000 in
theorem w_mNoValue (p0 : ValueD)  : QC prog 47 [.agg [.i .i64 p0.k, .ro 5 (p0.uses.map useC), .i .i64 p0.s.local_, .ro 1 (p0.s.path.map (fun z => [.i .i64 z])), .i .i64 p0.which, .i .i64 p0.tag]] [] (.b (mNoValue p0)) [] := by
 refine QC.of_body tabOK func47 rfl (by kernel_rfl) ?_
 simp only [f47]
 generalize e : mNoValue p0 = R
 unfold mNoValue at e
 refine EV.seq ?_
 refine EV.regionG tabOK ?_ -- region 0
 simp (maxSteps := 2000000) -implicitDefEqProofs
 refine EV.seq ?_
 refine EV.nrm (fun _ : Unit => (⟨[J, J, .b (((((decide (p0.k = 0)) && (decide ((p0.uses.length : Int) = 0))) && (mEmpty p0.s)) && (decide (p0.which = 0))) && (decide (p0.tag = 0))), J, J, J, J, J, J, J, J, J, J, J, J, J, J, J, J, J, J, J, J, J, J, J, J], []⟩ : St)) ?_ ?_
 ·skip
  by_cases k2 : p0.k = 0
  ·skip
   have kk2 := k2
   try simp at kk2
   by_cases k3 : (p0.uses.length : Int) = 0
   ·skip
    have kk3 := k3
    try simp at kk3
    refine EV.regionG tabOK ?_ -- region 1
    simp (maxSteps := 2000000) -implicitDefEqProofs +contextual [k2, kk2, k3, kk3]
    refine callG_fun (w_mEmpty p0.s) ?_ ?_
    ·first | (simp; done) | (simp [k2, kk2, k3, kk3]; done)
    simp (maxSteps := 2000000) -implicitDefEqProofs +contextual [k2, kk2, k3, kk3]
    refine ⟨(), ?_⟩
    try dsimp only
    refine Sub.cutF 0 (by simp) ?_ ?_ <;> simp [List.range_succ, toIdx_range, passed, k2, kk2, k3, kk3]
   ·skip
    have kk3 := k3
    try simp at kk3
    refine EV.regionG tabOK ?_ -- region 1
    simp (maxSteps := 2000000) -implicitDefEqProofs +contextual [k2, kk2, k3, kk3]
    refine ⟨(), ?_⟩
    try dsimp only
    refine Sub.cutF 0 (by simp) ?_ ?_ <;> simp [List.range_succ, toIdx_range, passed, k2, kk2, k3, kk3]
  ·skip
   have kk2 := k2
   try simp at kk2
   refine EV.regionG tabOK ?_ -- region 1
   simp (maxSteps := 2000000) -implicitDefEqProofs +contextual [k2, kk2]
   refine ⟨(), ?_⟩
   try dsimp only
   refine Sub.cutF 0 (by simp) ?_ ?_ <;> simp [List.range_succ, toIdx_range, passed, k2, kk2]
 ·skip
  rintro _
  simp only [thenK_normal, blockK_normal, scopeK_normal, bodyK_normal]
  refine EV.ret ?_
  simp only [thenK_ret, blockK_ret, scopeK_ret, bodyK_ret]
  subst e
  refine Fin.pure0 ?_
  first | (simp; done) | (simp <;> grind)


def mBare (p0 : MirBodyD) (p1 : SpotD) : Bool :=
 (((decide ((p1.path.length : Int) = 0)) && (decide (0 ≤ p1.local_))) && (decide (p1.local_ < (IntKind.i64.wrap ((p0.b.locals.length : Int) - 1)))))
set_option maxHeartbeats 40000000 in
theorem w_mBare (p0 : MirBodyD) (p1 : SpotD)  : QC prog 46 [.agg [.ro 4 (p0.s.structs.map structC), .ro 3 (p0.s.enums.map enumC), .ro 4 (p0.s.fns.map fnC), .s p0.b.name, .i .i64 p0.b.params, .ro 4 (p0.b.locals.map localC), .ro 17 (p0.b.blocks.map blockC)], .agg [.i .i64 p1.local_, .ro 1 (p1.path.map (fun z => [.i .i64 z]))]] [] (.b (mBare p0 p1)) [] := by
 refine QC.of_body tabOK func46 rfl (by kernel_rfl) ?_
 simp only [f46]
 generalize e : mBare p0 p1 = R
 unfold mBare at e
 refine EV.seq ?_
 refine EV.regionG tabOK ?_ -- region 0
 simp (maxSteps := 2000000) -implicitDefEqProofs
 refine EV.seq ?_
 refine EV.regionG tabOK ?_ -- region 1
 simp (maxSteps := 2000000) -implicitDefEqProofs +contextual
 refine EV.ret ?_
 simp only [thenK_ret, blockK_ret, scopeK_ret, bodyK_ret]
 subst e
 refine Fin.pure0 ?_
 first | (simp; done) | (simp <;> grind)


def mNumber (p0 : MirBodyD) (p1 : UseD) : Bool :=
 ((decide ((mUse p0 p1).2 = 0)) && (mIs ((mUse p0 p1).1)))
set_option maxHeartbeats 40000000 in
theorem w_mNumber (p0 : MirBodyD) (p1 : UseD)  : QC prog 52 [.agg [.ro 4 (p0.s.structs.map structC), .ro 3 (p0.s.enums.map enumC), .ro 4 (p0.s.fns.map fnC), .s p0.b.name, .i .i64 p0.b.params, .ro 4 (p0.b.locals.map localC), .ro 17 (p0.b.blocks.map blockC)], .agg [.b p1.num, .i .i64 p1.n, .b p1.move, .i .i64 p1.s.local_, .ro 1 (p1.s.path.map (fun z => [.i .i64 z]))]] [] (.b (mNumber p0 p1)) [] := by
 refine QC.of_body tabOK func52 rfl (by kernel_rfl) ?_
 simp only [f52]
 generalize e : mNumber p0 p1 = R
 unfold mNumber at e
 refine EV.seq ?_
 refine EV.regionG tabOK ?_ -- region 0
 simp (maxSteps := 2000000) -implicitDefEqProofs
 refine EV.seq ?_
 refine EV.regionG tabOK ?_ -- region 1
 simp (maxSteps := 2000000) -implicitDefEqProofs
 refine callG_fun (w_mUse p0 p1) ?_ ?_
 ·simp
 simp (maxSteps := 2000000) -implicitDefEqProofs
 refine EV.seq ?_
 refine EV.nrm (fun _ : Unit => (⟨[J, J, J, J, .b ((decide ((mUse p0 p1).2 = 0)) && (mIs ((mUse p0 p1).1))), J, J, J, J, J, J, J, J, J, J, J, J, J, J], []⟩ : St)) ?_ ?_
 ·skip
  by_cases k2 : (mUse p0 p1).2 = 0
  ·skip
   have kk2 := k2
   try simp at kk2
   refine EV.regionG tabOK ?_ -- region 2
   simp (maxSteps := 2000000) -implicitDefEqProofs +contextual [k2, kk2]
   refine callG_fun (w_mIs ((mUse p0 p1).1)) ?_ ?_
   ·first | (simp; done) | (simp [k2, kk2]; done)
   simp (maxSteps := 2000000) -implicitDefEqProofs +contextual [k2, kk2]
   refine ⟨(), ?_⟩
   try dsimp only
   refine Sub.cutF 0 (by simp) ?_ ?_ <;> simp [List.range_succ, toIdx_range, passed, k2, kk2]
  ·skip
   have kk2 := k2
   try simp at kk2
   refine EV.regionG tabOK ?_ -- region 2
   simp (maxSteps := 2000000) -implicitDefEqProofs +contextual [k2, kk2]
   refine ⟨(), ?_⟩
   try dsimp only
   refine Sub.cutF 0 (by simp) ?_ ?_ <;> simp [List.range_succ, toIdx_range, passed, k2, kk2]
 ·skip
  rintro _
  simp only [thenK_normal, blockK_normal, scopeK_normal, bodyK_normal]
  refine EV.ret ?_
  simp only [thenK_ret, blockK_ret, scopeK_ret, bodyK_ret]
  subst e
  refine Fin.pure0 ?_
  first | (simp; done) | (simp <;> grind)


def mVariants (p0 : MirBodyD) (p1 : SpotD) : (List VariantD) × Bool :=
 (if (((¬ ((mSpot p0 p1).2.2 = 0)) ∨ (0 < (p1.path.length : Int))) ∨ (¬ (((mSpot p0 p1).1).k = 3))) ∨ ((kEnumOf p0.s (((mSpot p0 p1).1).name)) < 0) then ([], false) else (bnd (p0.s.enums.getD (((kEnumOf p0.s (((mSpot p0 p1).1).name))).toNat) default) fun (y5_4 : EnumD) => (y5_4.variants, true)))
set_option maxHeartbeats 40000000 in
theorem w_mVariants (p0 : MirBodyD) (p1 : SpotD)  : QC prog 58 [.agg [.ro 4 (p0.s.structs.map structC), .ro 3 (p0.s.enums.map enumC), .ro 4 (p0.s.fns.map fnC), .s p0.b.name, .i .i64 p0.b.params, .ro 4 (p0.b.locals.map localC), .ro 17 (p0.b.blocks.map blockC)], .agg [.i .i64 p1.local_, .ro 1 (p1.path.map (fun z => [.i .i64 z]))]] [] (.tup [.ro 4 (((mVariants p0 p1).1).map variantC), .b ((mVariants p0 p1).2)]) [] := by
 refine QC.of_body tabOK func58 rfl (by kernel_rfl) ?_
 simp only [f58]
 generalize e : mVariants p0 p1 = R
 unfold mVariants at e
 refine EV.seq ?_
 refine EV.regionG tabOK ?_ -- region 0
 simp (maxSteps := 2000000) -implicitDefEqProofs
 refine EV.seq ?_
 refine EV.regionG tabOK ?_ -- region 1
 simp (maxSteps := 2000000) -implicitDefEqProofs
 refine callG_fun (w_mSpot p0 p1) ?_ ?_
 ·simp
 simp (maxSteps := 2000000) -implicitDefEqProofs
 refine EV.seq ?_
 have := kEnumOf_lt p0.s (((mSpot p0 p1).1).name)
 refine EV.regionG tabOK ?_ -- region 2
 simp (maxSteps := 2000000) -implicitDefEqProofs
 refine callG_fun (w_kEnumOf p0.s (((mSpot p0 p1).1).name)) ?_ ?_
 ·simp
 simp (maxSteps := 2000000) -implicitDefEqProofs
 refine EV.seq ?_
 refine EV.seq ?_
 refine EV.regionG tabOK ?_ -- region 3
 simp (maxSteps := 2000000) -implicitDefEqProofs +contextual
 refine EV.condT ?_
 simp -implicitDefEqProofs
 refine condT_intro (fun k1 => ?_) (fun k1 => ?_)
 ·try simp at k1
  obtain ⟨f1, e⟩ := pos_on2 e (by first | simpa using k1 | grind)
  try simp at f1
  refine EV.seq ?_
  refine EV.regionG tabOK ?_ -- region 4
  simp (maxSteps := 2000000) -implicitDefEqProofs
  refine EV.ret ?_
  simp only [thenK_ret, blockK_ret, scopeK_ret, bodyK_ret]
  subst e
  refine Fin.data ?_ ?_
  ·simp [convV, conv1, conv0, cvOb, allP, allR, c0, Pu, take_len_map, List.getD, List.range_succ]
  ·simp [List.range_succ]
 ·try simp at k1
  obtain ⟨f1, e⟩ := neg_on2 e (by first | simpa using k1 | grind)
  try simp at f1
  refine EV.skip ?_
  simp only [thenK_normal, blockK_normal, scopeK_normal]
  refine EV.seq ?_
  obtain ⟨y5_4, gy5_4⟩ : ∃ z, (p0.s.enums.getD (((kEnumOf p0.s (((mSpot p0 p1).1).name))).toNat) default) = z := ⟨_, rfl⟩
  replace e := bnd_on e gy5_4
  try dsimp only at e
  have b2 : 0 ≤ (kEnumOf p0.s (((mSpot p0 p1).1).name)) ∧ (kEnumOf p0.s (((mSpot p0 p1).1).name)) < (p0.s.enums.length : Int) := by omega
  have c2 : ((kEnumOf p0.s (((mSpot p0 p1).1).name))).toNat < p0.s.enums.length := by omega
  have hy5_4 : p0.s.enums[((kEnumOf p0.s (((mSpot p0 p1).1).name))).toNat] = y5_4 := by rw [← gy5_4, List.getD_eq_getElem?_getD, List.getElem?_eq_getElem c2]; rfl
  have my5_4 : y5_4 ∈ p0.s.enums := by rw [← hy5_4]; exact List.getElem_mem _
  refine EV.regionG tabOK ?_ -- region 5
  simp (maxSteps := 2000000) -implicitDefEqProofs [b2, c2, hy5_4]
  refine EV.ret ?_
  simp only [thenK_ret, blockK_ret, scopeK_ret, bodyK_ret]
  subst e
  refine Fin.pure0 ?_
  first | (simp; done) | (simp <;> grind)


def mSettable (p0 : MirBodyD) (p1 : SpotD) : Bool :=
 (((decide ((mSpot p0 p1).2.2 = 0)) && (mIs ((mSpot p0 p1).1))) && (!(mSpot p0 p1).2.1))
set_option maxHeartbeats 40000000 in
theorem w_mSettable (p0 : MirBodyD) (p1 : SpotD)  : QC prog 56 [.agg [.ro 4 (p0.s.structs.map structC), .ro 3 (p0.s.enums.map enumC), .ro 4 (p0.s.fns.map fnC), .s p0.b.name, .i .i64 p0.b.params, .ro 4 (p0.b.locals.map localC), .ro 17 (p0.b.blocks.map blockC)], .agg [.i .i64 p1.local_, .ro 1 (p1.path.map (fun z => [.i .i64 z]))]] [] (.b (mSettable p0 p1)) [] := by
 refine QC.of_body tabOK func56 rfl (by kernel_rfl) ?_
 simp only [f56]
 generalize e : mSettable p0 p1 = R
 unfold mSettable at e
 refine EV.seq ?_
 refine EV.regionG tabOK ?_ -- region 0
 simp (maxSteps := 2000000) -implicitDefEqProofs
 refine EV.seq ?_
 refine EV.regionG tabOK ?_ -- region 1
 simp (maxSteps := 2000000) -implicitDefEqProofs
 refine callG_fun (w_mSpot p0 p1) ?_ ?_
 ·simp
 simp (maxSteps := 2000000) -implicitDefEqProofs
 refine EV.seq ?_
 refine EV.nrm (fun _ : Unit => (⟨[J, J, J, J, .b (((decide ((mSpot p0 p1).2.2 = 0)) && (mIs ((mSpot p0 p1).1))) && (!(mSpot p0 p1).2.1)), J, J, J, J, J, J, J, J, J, J, J, J, J, J, J, J, J, J, J, J], []⟩ : St)) ?_ ?_
 ·skip
  by_cases k2 : (mSpot p0 p1).2.2 = 0
  ·skip
   have kk2 := k2
   try simp at kk2
   refine EV.regionG tabOK ?_ -- region 2
   simp (maxSteps := 2000000) -implicitDefEqProofs +contextual [k2, kk2]
   refine callG_fun (w_mIs ((mSpot p0 p1).1)) ?_ ?_
   ·first | (simp; done) | (simp [k2, kk2]; done)
   simp (maxSteps := 2000000) -implicitDefEqProofs +contextual [k2, kk2]
   refine ⟨(), ?_⟩
   try dsimp only
   refine Sub.cutF 0 (by simp) ?_ ?_ <;> simp [List.range_succ, toIdx_range, passed, k2, kk2]
  ·skip
   have kk2 := k2
   try simp at kk2
   refine EV.regionG tabOK ?_ -- region 2
   simp (maxSteps := 2000000) -implicitDefEqProofs +contextual [k2, kk2]
   refine ⟨(), ?_⟩
   try dsimp only
   refine Sub.cutF 0 (by simp) ?_ ?_ <;> simp [List.range_succ, toIdx_range, passed, k2, kk2]
 ·skip
  rintro _
  simp only [thenK_normal, blockK_normal, scopeK_normal, bodyK_normal]
  refine EV.ret ?_
  simp only [thenK_ret, blockK_ret, scopeK_ret, bodyK_ret]
  subst e
  refine Fin.pure0 ?_
  first | (simp; done) | (simp <;> grind)
def eqInts_l4 (p1 : List Int) : List Int → Nat → Ctl (Bool) (Unit)
 | [], _ => .go ()
 | x4 :: xs4, j4 => (bnd (p1.getD j4 default) fun (y6_6 : Int) => (if ¬ (x4 = y6_6) then .ret false else eqInts_l4 p1 xs4 (j4 + 1)))
def eqInts (p0 : List Int) (p1 : List Int) : Bool :=
 (if ¬ ((p0.length : Int) = (p1.length : Int)) then false else (Ctl.run (eqInts_l4 p1 p0 0) fun (v4 : Unit) => true))
set_option maxHeartbeats 40000000 in
theorem w_eqInts (p0 : List Int) (p1 : List Int)  : QC prog 81 [.ro 1 (p0.map (fun z => [.i .i64 z])), .ro 1 (p1.map (fun z => [.i .i64 z]))] [] (.b (eqInts p0 p1)) [] := by
 refine QC.of_body tabOK func81 rfl (by kernel_rfl) ?_
 simp only [f81]
 generalize e : eqInts p0 p1 = R
 unfold eqInts at e
 refine EV.seq ?_
 refine EV.regionG tabOK ?_ -- region 0
 simp (maxSteps := 2000000) -implicitDefEqProofs
 refine EV.seq ?_
 refine EV.seq ?_
 refine EV.regionG tabOK ?_ -- region 1
 simp (maxSteps := 2000000) -implicitDefEqProofs
 refine EV.condT ?_
 simp -implicitDefEqProofs
 refine condT_intro (fun k1 => ?_) (fun k1 => ?_)
 ·try simp at k1
  obtain ⟨f1, e⟩ := pos_on2 e (by first | simpa using k1 | grind)
  try simp at f1
  refine EV.seq ?_
  refine EV.regionG tabOK ?_ -- region 2
  simp (maxSteps := 2000000) -implicitDefEqProofs
  refine EV.ret ?_
  simp only [thenK_ret, blockK_ret, scopeK_ret, bodyK_ret]
  subst e
  refine Fin.pure0 ?_
  first | (simp; done) | (simp <;> grind)
 ·try simp at k1
  obtain ⟨f1, e⟩ := neg_on2 e (by first | simpa using k1 | grind)
  try simp at f1
  refine EV.skip ?_
  simp only [thenK_normal, blockK_normal, scopeK_normal]
  refine EV.seq ?_
  refine EV.seq ?_
  refine EV.regionG tabOK ?_ -- region 3
  simp (maxSteps := 2000000) -implicitDefEqProofs
  obtain ⟨z4, e4, e⟩ := run_split e
  refine EV.nrm (fun v : { v : (Unit) × (Unit) // z4 = .go v.1 } => (fun (v4 : Unit) (g4 : Unit) => (⟨[J, J, J, J, J, J, J, J, J, J, J, J, J, J, J, J, J, J, J, J, J, J, J, J, J, J], []⟩ : St)) v.1.1 v.1.2) ?_ ?_
  ·skip
   refine EV.block ?_
   refine EV.loopB (fun x : { x : Nat // x ≤ p0.length ∧ eqInts_l4 p1 (p0.drop x) x = z4 } => (fun (j4 : Nat) => (⟨[.ro 1 (p0.map (fun z => [.i .i64 z])), .ro 1 (p1.map (fun z => [.i .i64 z])), J, J, J, J, J, J, J, J, J, J, .i .i64 (p0.length : Int), .i .i64 (j4 : Int), J, J, J, J, J, J, J, J, J, J, J, J], []⟩ : St)) x.1) (fun x => p0.length - x.1) ⟨0, Nat.zero_le _, e4⟩ ?_ ?_
   ·skip
    try dsimp only
    try dsimp only
    refine Sub.cutF 0 (by simp) ?_ ?_ <;> simp [List.range_succ, toIdx_range, passed]
   ·skip
    rintro ⟨j4, hi4, e4⟩
    simp only at hi4 e4 ⊢
    refine EV.seq ?_
    refine EV.regionG tabOK ?_ -- region 4
    simp (maxSteps := 2000000) -implicitDefEqProofs
    refine EV.seq ?_
    refine EV.room 0 (by rfl) (fun mj4 => ?_)
    simp at mj4
    refine EV.condT ?_
    simp -implicitDefEqProofs
    refine condT_intro (fun k2 => ?_) (fun k2 => ?_)
    ·try simp at k2
     have u2 : j4 < p0.length := by omega
     obtain ⟨x4, hx4⟩ : ∃ z, p0[j4] = z := ⟨_, rfl⟩
     have mx4 : x4 ∈ p0 := by rw [← hx4]; exact List.getElem_mem _
     rw [List.drop_eq_getElem_cons u2, hx4, eqInts_l4] at e4
     refine EV.skip ?_
     simp only [thenK_normal, blockK_normal, scopeK_normal]
     refine EV.seq ?_
     refine EV.block ?_
     refine EV.seq ?_
     refine EV.regionG tabOK ?_ -- region 5
     simp (maxSteps := 2000000) -implicitDefEqProofs [k2, u2, hx4]
     refine EV.seq ?_
     obtain ⟨y6_6, gy6_6⟩ : ∃ z, (p1.getD j4 default) = z := ⟨_, rfl⟩
     replace e4 := bnd_on e4 gy6_6
     try dsimp only at e4
     have b3 : 0 ≤ (j4 : Int) ∧ (j4 : Int) < (p1.length : Int) := by omega
     have c3 : j4 < p1.length := by omega
     have hy6_6 : p1[j4] = y6_6 := by rw [← gy6_6, List.getD_eq_getElem?_getD, List.getElem?_eq_getElem c3]; rfl
     have my6_6 : y6_6 ∈ p1 := by rw [← hy6_6]; exact List.getElem_mem _
     refine EV.drawG tabOK mixedOK ?_ -- region 6
     simp (maxSteps := 2000000) -implicitDefEqProofs [k2, u2, hx4, b3, c3, hy6_6]
     refine And.intro ?_ ?_
     ·first | decide +kernel | (simp -implicitDefEqProofs; decide +kernel) | (split <;> decide +kernel)
     try simp -implicitDefEqProofs
     refine EV.condT ?_
     simp -implicitDefEqProofs [k2, u2, hx4, b3, c3, hy6_6]
     refine condT_intro (fun k4 => ?_) (fun k4 => ?_)
     ·try simp at k4
      obtain ⟨f4, e4⟩ := pos_on2 e4 (by first | simpa using k4 | grind)
      try simp at f4
      refine EV.seq ?_
      refine EV.regionG tabOK ?_ -- region 7
      simp (maxSteps := 2000000) -implicitDefEqProofs [k2, u2, hx4, b3, c3, hy6_6]
      refine EV.ret ?_
      simp only [thenK_ret, blockK_ret, scopeK_ret, bodyK_ret]
      replace e := run_back e e4
      subst e
      refine Fin.pure0 ?_
      first | (simp; done) | (simp <;> grind)
     ·try simp at k4
      obtain ⟨f4, e4⟩ := neg_on2 e4 (by first | simpa using k4 | grind)
      try simp at f4
      refine EV.skip ?_
      simp only [thenK_normal, blockK_normal, scopeK_normal]
      refine EV.regionG tabOK ?_ -- region 8
      simp (maxSteps := 2000000) -implicitDefEqProofs [k2, u2, hx4, b3, c3, hy6_6]
      have w4 : IntKind.i64.wrap ((j4 : Int) + 1) = (j4 : Int) + 1 := wrap_in _ (by omega) (by omega)
      refine ⟨⟨j4 + 1, by omega, e4⟩, by dsimp only; omega, ?_⟩
      try dsimp only
      refine Sub.cutF 0 (by simp) ?_ ?_ <;> simp [List.range_succ, toIdx_range, passed, k2, u2, hx4, b3, c3, hy6_6, w4]
    ·try simp at k2
     have d2 : p0.drop j4 = [] := List.drop_eq_nil_of_le (by omega)
     rw [d2, eqInts_l4] at e4
     refine EV.exit ?_
     simp -implicitDefEqProofs
     refine ⟨⟨((), ()), e4.symm⟩, ?_⟩
     try dsimp only
     refine Sub.cutF 0 (by simp) ?_ ?_ <;> simp [List.range_succ, toIdx_range, passed]
  ·skip
   rintro ⟨⟨v4, g4⟩, e4⟩
   simp only [thenK_normal, blockK_normal, scopeK_normal, bodyK_normal]
   replace e := run_on e e4
   try dsimp only at e
   refine EV.seq ?_
   refine EV.regionG tabOK ?_ -- region 9
   simp (maxSteps := 2000000) -implicitDefEqProofs
   refine EV.ret ?_
   simp only [thenK_ret, blockK_ret, scopeK_ret, bodyK_ret]
   subst e
   refine Fin.pure0 ?_
   first | (simp; done) | (simp <;> grind)


def mDrop (p0 : MirBodyD) (p1 : InD) : Bool :=
 (if (mNoUse p1.u) = true then true else (((((!p1.u.num) && (decide (p1.u.n = 0))) && p1.u.move) && (decide (p1.u.s.local_ = p1.s.local_))) && (eqInts p1.u.s.path p1.s.path)))
set_option maxHeartbeats 40000000 in
theorem w_mDrop (p0 : MirBodyD) (p1 : InD)  : QC prog 49 [.agg [.ro 4 (p0.s.structs.map structC), .ro 3 (p0.s.enums.map enumC), .ro 4 (p0.s.fns.map fnC), .s p0.b.name, .i .i64 p0.b.params, .ro 4 (p0.b.locals.map localC), .ro 17 (p0.b.blocks.map blockC)], .agg [.i .i64 p1.k, .i .i64 p1.at_, .i .i64 p1.s.local_, .ro 1 (p1.s.path.map (fun z => [.i .i64 z])), .i .i64 p1.v.k, .ro 5 (p1.v.uses.map useC), .i .i64 p1.v.s.local_, .ro 1 (p1.v.s.path.map (fun z => [.i .i64 z])), .i .i64 p1.v.which, .i .i64 p1.v.tag, .b p1.u.num, .i .i64 p1.u.n, .b p1.u.move, .i .i64 p1.u.s.local_, .ro 1 (p1.u.s.path.map (fun z => [.i .i64 z]))]] [] (.b (mDrop p0 p1)) [] := by
 refine QC.of_body tabOK func49 rfl (by kernel_rfl) ?_
 simp only [f49]
 generalize e : mDrop p0 p1 = R
 unfold mDrop at e
 refine EV.seq ?_
 refine EV.regionG tabOK ?_ -- region 0
 simp (maxSteps := 2000000) -implicitDefEqProofs
 refine EV.seq ?_
 refine EV.regionG tabOK ?_ -- region 1
 simp (maxSteps := 2000000) -implicitDefEqProofs
 refine EV.seq ?_
 refine EV.seq ?_
 refine EV.regionG tabOK ?_ -- region 2
 simp (maxSteps := 2000000) -implicitDefEqProofs
 refine callG_fun (w_mNoUse p1.u) ?_ ?_
 ·simp
 simp (maxSteps := 2000000) -implicitDefEqProofs
 refine EV.condT ?_
 simp -implicitDefEqProofs
 refine condT_intro (fun k1 => ?_) (fun k1 => ?_)
 ·try simp at k1
  obtain ⟨f1, e⟩ := pos_on2 e (by first | simpa using k1 | grind)
  try simp at f1
  refine EV.seq ?_
  refine EV.regionG tabOK ?_ -- region 3
  simp (maxSteps := 2000000) -implicitDefEqProofs
  refine EV.ret ?_
  simp only [thenK_ret, blockK_ret, scopeK_ret, bodyK_ret]
  subst e
  refine Fin.pure0 ?_
  first | (simp; done) | (simp <;> grind)
 ·try simp at k1
  obtain ⟨f1, e⟩ := neg_on2 e (by first | simpa using k1 | grind)
  try simp at f1
  refine EV.skip ?_
  simp only [thenK_normal, blockK_normal, scopeK_normal]
  refine EV.seq ?_
  refine EV.nrm (fun _ : Unit => (⟨[J, J, J, J, .b (((((!p1.u.num) && (decide (p1.u.n = 0))) && p1.u.move) && (decide (p1.u.s.local_ = p1.s.local_))) && (eqInts p1.u.s.path p1.s.path)), J, J, J, J, J, J, J, J, J, J, J, J, J, J, J, J, J, J, J, J, J, J, J, J, J, J, J, J, J, J, J, J, J, J, J], []⟩ : St)) ?_ ?_
  ·skip
   cases k3 : p1.u.num
   ·skip
    have kk3 := k3
    try simp at kk3
    by_cases k4 : p1.u.n = 0
    ·skip
     have kk4 := k4
     try simp at kk4
     cases k5 : p1.u.move
     ·skip
      have kk5 := k5
      try simp at kk5
      refine EV.regionG tabOK ?_ -- region 4
      simp (maxSteps := 2000000) -implicitDefEqProofs +contextual [k3, kk3, k4, kk4, k5, kk5]
      refine ⟨(), ?_⟩
      try dsimp only
      refine Sub.cutF 0 (by simp) ?_ ?_ <;> simp [List.range_succ, toIdx_range, passed, k3, kk3, k4, kk4, k5, kk5]
     ·skip
      have kk5 := k5
      try simp at kk5
      by_cases k6 : p1.u.s.local_ = p1.s.local_
      ·skip
       have kk6 := k6
       try simp at kk6
       refine EV.regionG tabOK ?_ -- region 4
       simp (maxSteps := 2000000) -implicitDefEqProofs +contextual [k3, kk3, k4, kk4, k5, kk5, k6, kk6]
       refine callG_fun (w_eqInts p1.u.s.path p1.s.path) ?_ ?_
       ·first | (simp; done) | (simp [k3, kk3, k4, kk4, k5, kk5, k6, kk6]; done)
       simp (maxSteps := 2000000) -implicitDefEqProofs +contextual [k3, kk3, k4, kk4, k5, kk5, k6, kk6]
       refine ⟨(), ?_⟩
       try dsimp only
       refine Sub.cutF 0 (by simp) ?_ ?_ <;> simp [List.range_succ, toIdx_range, passed, k3, kk3, k4, kk4, k5, kk5, k6, kk6]
      ·skip
       have kk6 := k6
       try simp at kk6
       refine EV.regionG tabOK ?_ -- region 4
       simp (maxSteps := 2000000) -implicitDefEqProofs +contextual [k3, kk3, k4, kk4, k5, kk5, k6, kk6]
       refine ⟨(), ?_⟩
       try dsimp only
       refine Sub.cutF 0 (by simp) ?_ ?_ <;> simp [List.range_succ, toIdx_range, passed, k3, kk3, k4, kk4, k5, kk5, k6, kk6]
    ·skip
     have kk4 := k4
     try simp at kk4
     refine EV.regionG tabOK ?_ -- region 4
     simp (maxSteps := 2000000) -implicitDefEqProofs +contextual [k3, kk3, k4, kk4]
     refine ⟨(), ?_⟩
     try dsimp only
     refine Sub.cutF 0 (by simp) ?_ ?_ <;> simp [List.range_succ, toIdx_range, passed, k3, kk3, k4, kk4]
   ·skip
    have kk3 := k3
    try simp at kk3
    refine EV.regionG tabOK ?_ -- region 4
    simp (maxSteps := 2000000) -implicitDefEqProofs +contextual [k3, kk3]
    refine ⟨(), ?_⟩
    try dsimp only
    refine Sub.cutF 0 (by simp) ?_ ?_ <;> simp [List.range_succ, toIdx_range, passed, k3, kk3]
  ·skip
   rintro _
   simp only [thenK_normal, blockK_normal, scopeK_normal, bodyK_normal]
   refine EV.ret ?_
   simp only [thenK_ret, blockK_ret, scopeK_ret, bodyK_ret]
   subst e
   refine Fin.pure0 ?_
   first | (simp; done) | (simp <;> grind)


def mOpen (p0 : MirBodyD) (p1 : InD) : Bool :=
 (if ((((((¬ ((mVariants p0 p1.s).2 = true)) ∨ (¬ (p1.v.k = 0))) ∨ (0 < (p1.v.uses.length : Int))) ∨ (¬ (p1.v.which = 0))) ∨ (0 < (p1.v.s.path.length : Int))) ∨ (p1.v.tag < 0)) ∨ ((((mVariants p0 p1.s).1).length : Int) ≤ p1.v.tag) then false else (bnd (((mVariants p0 p1.s).1).getD ((p1.v.tag).toNat) default) fun (y5_3 : VariantD) => (if y5_3.ty.k = 0 then (decide (p1.v.s.local_ = (-1))) else (((decide ((kResolve p0.s y5_3.ty).2 = 0)) && (decide ((mSpot p0 p1.v.s).2.2 = 0))) && (mSame ((mSpot p0 p1.v.s).1) ((kResolve p0.s y5_3.ty).1))))))
set_option maxHeartbeats 40000000 in
theorem w_mOpen (p0 : MirBodyD) (p1 : InD)  : QC prog 53 [.agg [.ro 4 (p0.s.structs.map structC), .ro 3 (p0.s.enums.map enumC), .ro 4 (p0.s.fns.map fnC), .s p0.b.name, .i .i64 p0.b.params, .ro 4 (p0.b.locals.map localC), .ro 17 (p0.b.blocks.map blockC)], .agg [.i .i64 p1.k, .i .i64 p1.at_, .i .i64 p1.s.local_, .ro 1 (p1.s.path.map (fun z => [.i .i64 z])), .i .i64 p1.v.k, .ro 5 (p1.v.uses.map useC), .i .i64 p1.v.s.local_, .ro 1 (p1.v.s.path.map (fun z => [.i .i64 z])), .i .i64 p1.v.which, .i .i64 p1.v.tag, .b p1.u.num, .i .i64 p1.u.n, .b p1.u.move, .i .i64 p1.u.s.local_, .ro 1 (p1.u.s.path.map (fun z => [.i .i64 z]))]] [] (.b (mOpen p0 p1)) [] := by
 refine QC.of_body tabOK func53 rfl (by kernel_rfl) ?_
 simp only [f53]
 generalize e : mOpen p0 p1 = R
 unfold mOpen at e
 refine EV.seq ?_
 refine EV.regionG tabOK ?_ -- region 0
 simp (maxSteps := 2000000) -implicitDefEqProofs
 refine EV.seq ?_
 refine EV.regionG tabOK ?_ -- region 1
 simp (maxSteps := 2000000) -implicitDefEqProofs
 refine callG_fun (w_mVariants p0 p1.s) ?_ ?_
 ·simp
 simp (maxSteps := 2000000) -implicitDefEqProofs
 refine EV.seq ?_
 refine EV.regionG tabOK ?_ -- region 2
 simp (maxSteps := 2000000) -implicitDefEqProofs
 refine EV.seq ?_
 refine EV.seq ?_
 refine EV.regionG tabOK ?_ -- region 3
 simp (maxSteps := 2000000) -implicitDefEqProofs +contextual
 refine EV.condT ?_
 simp -implicitDefEqProofs
 refine condT_intro (fun k1 => ?_) (fun k1 => ?_)
 ·try simp at k1
  obtain ⟨f1, e⟩ := pos_on2 e (by first | simpa using k1 | grind)
  try simp at f1
  refine EV.seq ?_
  refine EV.regionG tabOK ?_ -- region 4
  simp (maxSteps := 2000000) -implicitDefEqProofs
  refine EV.ret ?_
  simp only [thenK_ret, blockK_ret, scopeK_ret, bodyK_ret]
  subst e
  refine Fin.pure0 ?_
  first | (simp; done) | (simp <;> grind)
 ·try simp at k1
  obtain ⟨f1, e⟩ := neg_on2 e (by first | simpa using k1 | grind)
  try simp at f1
  refine EV.skip ?_
  simp only [thenK_normal, blockK_normal, scopeK_normal]
  refine EV.seq ?_
  refine EV.seq ?_
  obtain ⟨y5_3, gy5_3⟩ : ∃ z, (((mVariants p0 p1.s).1).getD ((p1.v.tag).toNat) default) = z := ⟨_, rfl⟩
  replace e := bnd_on e gy5_3
  try dsimp only at e
  have b2 : 0 ≤ p1.v.tag ∧ p1.v.tag < (((mVariants p0 p1.s).1).length : Int) := by omega
  have c2 : (p1.v.tag).toNat < ((mVariants p0 p1.s).1).length := by omega
  have hy5_3 : ((mVariants p0 p1.s).1)[(p1.v.tag).toNat] = y5_3 := by rw [← gy5_3, List.getD_eq_getElem?_getD, List.getElem?_eq_getElem c2]; rfl
  have my5_3 : y5_3 ∈ ((mVariants p0 p1.s).1) := by rw [← hy5_3]; exact List.getElem_mem _
  refine EV.regionG tabOK ?_ -- region 5
  simp (maxSteps := 2000000) -implicitDefEqProofs [b2, c2, hy5_3]
  refine EV.condT ?_
  simp -implicitDefEqProofs [b2, c2, hy5_3]
  refine condT_intro (fun k3 => ?_) (fun k3 => ?_)
  ·try simp at k3
   obtain ⟨f3, e⟩ := pos_on2 e (by first | simpa using k3 | grind)
   try simp at f3
   refine EV.seq ?_
   refine EV.regionG tabOK ?_ -- region 6
   simp (maxSteps := 2000000) -implicitDefEqProofs [b2, c2, hy5_3]
   refine EV.ret ?_
   simp only [thenK_ret, blockK_ret, scopeK_ret, bodyK_ret]
   subst e
   refine Fin.pure0 ?_
   first | (simp; done) | (simp <;> grind)
  ·try simp at k3
   obtain ⟨f3, e⟩ := neg_on2 e (by first | simpa using k3 | grind)
   try simp at f3
   refine EV.skip ?_
   simp only [thenK_normal, blockK_normal, scopeK_normal]
   refine EV.seq ?_
   refine EV.drawG tabOK mixedOK ?_ -- region 7
   simp (maxSteps := 2000000) -implicitDefEqProofs [b2, c2, hy5_3]
   refine callG_fun (w_kResolve p0.s y5_3.ty) ?_ ?_
   ·first | (simp; done) | (simp [b2, c2, hy5_3]; done)
   simp (maxSteps := 2000000) -implicitDefEqProofs [b2, c2, hy5_3]
   refine And.intro ?_ ?_
   ·first | decide +kernel | (simp -implicitDefEqProofs; decide +kernel) | (split <;> decide +kernel)
   try simp -implicitDefEqProofs
   refine EV.seq ?_
   refine EV.regionG tabOK ?_ -- region 8
   simp (maxSteps := 2000000) -implicitDefEqProofs [b2, c2, hy5_3]
   refine callG_fun (w_mSpot p0 p1.v.s) ?_ ?_
   ·first | (simp; done) | (simp [b2, c2, hy5_3]; done)
   simp (maxSteps := 2000000) -implicitDefEqProofs [b2, c2, hy5_3]
   refine EV.seq ?_
   refine EV.nrm (fun _ : Unit => (⟨[J, J, J, J, .b (((decide ((kResolve p0.s y5_3.ty).2 = 0)) && (decide ((mSpot p0 p1.v.s).2.2 = 0))) && (mSame ((mSpot p0 p1.v.s).1) ((kResolve p0.s y5_3.ty).1))), J, J, J, J, J, J, J, J, J, J, J, J, J, J, J, J, J, J, J, J, J, J, J, J, J, J, J, J, J, J, J, J, J, J, J, J, J, J, J, J, J, J, J, J, J, J, J, J, J, J, J, J, J, J, J, J, J, J, J, J, J, J, J, J, J, J, J, J, J, J, J, J, J, J, J, J, J, J, J, J, J, J, J, J, J, J, J, J, J, J, J, J, J, J, J, J, J], []⟩ : St)) ?_ ?_
   ·skip
    by_cases k5 : (kResolve p0.s y5_3.ty).2 = 0
    ·skip
     have kk5 := k5
     try simp at kk5
     by_cases k6 : (mSpot p0 p1.v.s).2.2 = 0
     ·skip
      have kk6 := k6
      try simp at kk6
      refine EV.regionG tabOK ?_ -- region 9
      simp (maxSteps := 2000000) -implicitDefEqProofs +contextual [b2, c2, hy5_3, k5, kk5, k6, kk6]
      refine callG_fun (w_mSame ((mSpot p0 p1.v.s).1) ((kResolve p0.s y5_3.ty).1)) ?_ ?_
      ·first | (simp; done) | (simp [b2, c2, hy5_3, k5, kk5, k6, kk6]; done)
      simp (maxSteps := 2000000) -implicitDefEqProofs +contextual [b2, c2, hy5_3, k5, kk5, k6, kk6]
      refine ⟨(), ?_⟩
      try dsimp only
      refine Sub.cutF 0 (by simp) ?_ ?_ <;> simp [List.range_succ, toIdx_range, passed, b2, c2, hy5_3, k5, kk5, k6, kk6]
     ·skip
      have kk6 := k6
      try simp at kk6
      refine EV.regionG tabOK ?_ -- region 9
      simp (maxSteps := 2000000) -implicitDefEqProofs +contextual [b2, c2, hy5_3, k5, kk5, k6, kk6]
      refine ⟨(), ?_⟩
      try dsimp only
      refine Sub.cutF 0 (by simp) ?_ ?_ <;> simp [List.range_succ, toIdx_range, passed, b2, c2, hy5_3, k5, kk5, k6, kk6]
    ·skip
     have kk5 := k5
     try simp at kk5
     refine EV.regionG tabOK ?_ -- region 9
     simp (maxSteps := 2000000) -implicitDefEqProofs +contextual [b2, c2, hy5_3, k5, kk5]
     refine ⟨(), ?_⟩
     try dsimp only
     refine Sub.cutF 0 (by simp) ?_ ?_ <;> simp [List.range_succ, toIdx_range, passed, b2, c2, hy5_3, k5, kk5]
   ·skip
    rintro _
    simp only [thenK_normal, blockK_normal, scopeK_normal, bodyK_normal]
    refine EV.ret ?_
    simp only [thenK_ret, blockK_ret, scopeK_ret, bodyK_ret]
    subst e
    refine Fin.pure0 ?_
    first | (simp; done) | (simp <;> grind)


def mSet (p0 : MirBodyD) (p1 : InD) : Bool :=
 ((((decide ((mSpot p0 p1.s).2.2 = 0)) && (decide ((mValue p0 p1.v).2 = 0))) && (mSame ((mSpot p0 p1.s).1) ((mValue p0 p1.v).1))) && ((decide ((p1.s.path.length : Int) = 0)) || ((mIs ((mSpot p0 p1.s).1)) && (!(mSpot p0 p1.s).2.1))))
set_option maxHeartbeats 40000000 in
theorem w_mSet (p0 : MirBodyD) (p1 : InD) (hs : SrcOK p0.s) : QC prog 50 [.agg [.ro 4 (p0.s.structs.map structC), .ro 3 (p0.s.enums.map enumC), .ro 4 (p0.s.fns.map fnC), .s p0.b.name, .i .i64 p0.b.params, .ro 4 (p0.b.locals.map localC), .ro 17 (p0.b.blocks.map blockC)], .agg [.i .i64 p1.k, .i .i64 p1.at_, .i .i64 p1.s.local_, .ro 1 (p1.s.path.map (fun z => [.i .i64 z])), .i .i64 p1.v.k, .ro 5 (p1.v.uses.map useC), .i .i64 p1.v.s.local_, .ro 1 (p1.v.s.path.map (fun z => [.i .i64 z])), .i .i64 p1.v.which, .i .i64 p1.v.tag, .b p1.u.num, .i .i64 p1.u.n, .b p1.u.move, .i .i64 p1.u.s.local_, .ro 1 (p1.u.s.path.map (fun z => [.i .i64 z]))]] [] (.b (mSet p0 p1)) [] := by
 refine QC.of_body tabOK func50 rfl (by kernel_rfl) ?_
 simp only [f50]
 generalize e : mSet p0 p1 = R
 unfold mSet at e
 refine EV.seq ?_
 refine EV.regionG tabOK ?_ -- region 0
 simp (maxSteps := 2000000) -implicitDefEqProofs
 refine EV.seq ?_
 refine EV.regionG tabOK ?_ -- region 1
 simp (maxSteps := 2000000) -implicitDefEqProofs
 refine callG_fun (w_mSpot p0 p1.s) ?_ ?_
 ·simp
 simp (maxSteps := 2000000) -implicitDefEqProofs
 refine EV.seq ?_
 refine EV.regionG tabOK ?_ -- region 2
 simp (maxSteps := 2000000) -implicitDefEqProofs
 refine callG_fun (w_mValue p0 p1.v hs) ?_ ?_
 ·simp
 simp (maxSteps := 2000000) -implicitDefEqProofs
 refine EV.seq ?_
 refine EV.nrm (fun _ : Unit => (⟨[J, J, J, J, .b ((((decide ((mSpot p0 p1.s).2.2 = 0)) && (decide ((mValue p0 p1.v).2 = 0))) && (mSame ((mSpot p0 p1.s).1) ((mValue p0 p1.v).1))) && ((decide ((p1.s.path.length : Int) = 0)) || ((mIs ((mSpot p0 p1.s).1)) && (!(mSpot p0 p1.s).2.1)))), J, J, J, J, J, J, J, J, J, J, J, J, J, J, J, J, J, J, J, J, J, J, J, J, J, J, J, J, J, J, J, J, J, J, J, J, J, J, J, J, J, J, J, J, J, J], []⟩ : St)) ?_ ?_
 ·skip
  by_cases k2 : (mSpot p0 p1.s).2.2 = 0
  ·skip
   have kk2 := k2
   try simp at kk2
   by_cases k3 : (mValue p0 p1.v).2 = 0
   ·skip
    have kk3 := k3
    try simp at kk3
    cases k4 : (mSame ((mSpot p0 p1.s).1) ((mValue p0 p1.v).1))
    ·skip
     have kk4 := k4
     try simp at kk4
     refine EV.regionG tabOK ?_ -- region 3
     simp (maxSteps := 2000000) -implicitDefEqProofs +contextual [k2, kk2, k3, kk3, k4, kk4]
     refine callG_fun (w_mSame ((mSpot p0 p1.s).1) ((mValue p0 p1.v).1)) ?_ ?_
     ·first | (simp; done) | (simp [k2, kk2, k3, kk3, k4, kk4]; done)
     simp (maxSteps := 2000000) -implicitDefEqProofs +contextual [k2, kk2, k3, kk3, k4, kk4]
     refine ⟨(), ?_⟩
     try dsimp only
     refine Sub.cutF 0 (by simp) ?_ ?_ <;> simp [List.range_succ, toIdx_range, passed, k2, kk2, k3, kk3, k4, kk4]
    ·skip
     have kk4 := k4
     try simp at kk4
     by_cases k5 : (p1.s.path.length : Int) = 0
     ·skip
      have kk5 := k5
      try simp at kk5
      refine EV.regionG tabOK ?_ -- region 3
      simp (maxSteps := 2000000) -implicitDefEqProofs +contextual [k2, kk2, k3, kk3, k4, kk4, k5, kk5]
      refine callG_fun (w_mSame ((mSpot p0 p1.s).1) ((mValue p0 p1.v).1)) ?_ ?_
      ·first | (simp; done) | (simp [k2, kk2, k3, kk3, k4, kk4, k5, kk5]; done)
      simp (maxSteps := 2000000) -implicitDefEqProofs +contextual [k2, kk2, k3, kk3, k4, kk4, k5, kk5]
      refine ⟨(), ?_⟩
      try dsimp only
      refine Sub.cutF 0 (by simp) ?_ ?_ <;> simp [List.range_succ, toIdx_range, passed, k2, kk2, k3, kk3, k4, kk4, k5, kk5]
     ·skip
      have kk5 := k5
      try simp at kk5
      refine EV.regionG tabOK ?_ -- region 3
      simp (maxSteps := 2000000) -implicitDefEqProofs +contextual [k2, kk2, k3, kk3, k4, kk4, k5, kk5]
      refine callG_fun (w_mSame ((mSpot p0 p1.s).1) ((mValue p0 p1.v).1)) ?_ ?_
      ·first | (simp; done) | (simp [k2, kk2, k3, kk3, k4, kk4, k5, kk5]; done)
      simp (maxSteps := 2000000) -implicitDefEqProofs +contextual [k2, kk2, k3, kk3, k4, kk4, k5, kk5]
      refine callG_fun (w_mIs ((mSpot p0 p1.s).1)) ?_ ?_
      ·first | (simp; done) | (simp [k2, kk2, k3, kk3, k4, kk4, k5, kk5]; done)
      simp (maxSteps := 2000000) -implicitDefEqProofs +contextual [k2, kk2, k3, kk3, k4, kk4, k5, kk5]
      refine ⟨(), ?_⟩
      try dsimp only
      refine Sub.cutF 0 (by simp) ?_ ?_ <;> simp [List.range_succ, toIdx_range, passed, k2, kk2, k3, kk3, k4, kk4, k5, kk5]
   ·skip
    have kk3 := k3
    try simp at kk3
    refine EV.regionG tabOK ?_ -- region 3
    simp (maxSteps := 2000000) -implicitDefEqProofs +contextual [k2, kk2, k3, kk3]
    refine ⟨(), ?_⟩
    try dsimp only
    refine Sub.cutF 0 (by simp) ?_ ?_ <;> simp [List.range_succ, toIdx_range, passed, k2, kk2, k3, kk3]
  ·skip
   have kk2 := k2
   try simp at kk2
   refine EV.regionG tabOK ?_ -- region 3
   simp (maxSteps := 2000000) -implicitDefEqProofs +contextual [k2, kk2]
   refine ⟨(), ?_⟩
   try dsimp only
   refine Sub.cutF 0 (by simp) ?_ ?_ <;> simp [List.range_succ, toIdx_range, passed, k2, kk2]
 ·skip
  rintro _
  simp only [thenK_normal, blockK_normal, scopeK_normal, bodyK_normal]
  refine EV.ret ?_
  simp only [thenK_ret, blockK_ret, scopeK_ret, bodyK_ret]
  subst e
  refine Fin.pure0 ?_
  first | (simp; done) | (simp <;> grind)

def mIn (p0 : MirBodyD) (p1 : InD) : Bool :=
 (bnd (if p1.k = 0 then true else (decide (p1.k = 1))) fun (v3 : Bool) => (if v3 = true then (((mBare p0 p1.s) && (mNoValue p1.v)) && (mNoUse p1.u)) else (if p1.k = 3 then (((mBare p0 p1.s) && (mNoValue p1.v)) && (mDrop p0 p1)) else (if p1.k = 2 then ((mNoUse p1.u) && (mSet p0 p1)) else (if p1.k = 4 then (((mEmpty p1.s) && (mNoValue p1.v)) && (mNumber p0 p1.u)) else (if p1.k = 5 then ((mNoUse p1.u) && (mOpen p0 p1)) else false))))))
set_option maxHeartbeats 40000000 in
theorem w_mIn (p0 : MirBodyD) (p1 : InD) (hs : SrcOK p0.s) : QC prog 24 [.agg [.ro 4 (p0.s.structs.map structC), .ro 3 (p0.s.enums.map enumC), .ro 4 (p0.s.fns.map fnC), .s p0.b.name, .i .i64 p0.b.params, .ro 4 (p0.b.locals.map localC), .ro 17 (p0.b.blocks.map blockC)], .agg [.i .i64 p1.k, .i .i64 p1.at_, .i .i64 p1.s.local_, .ro 1 (p1.s.path.map (fun z => [.i .i64 z])), .i .i64 p1.v.k, .ro 5 (p1.v.uses.map useC), .i .i64 p1.v.s.local_, .ro 1 (p1.v.s.path.map (fun z => [.i .i64 z])), .i .i64 p1.v.which, .i .i64 p1.v.tag, .b p1.u.num, .i .i64 p1.u.n, .b p1.u.move, .i .i64 p1.u.s.local_, .ro 1 (p1.u.s.path.map (fun z => [.i .i64 z]))]] [] (.b (mIn p0 p1)) [] := by
 refine QC.of_body tabOK func24 rfl (by kernel_rfl) ?_
 simp only [f24]
 generalize e : mIn p0 p1 = R
 unfold mIn at e
 refine EV.seq ?_
 refine EV.regionG tabOK ?_ -- region 0
 simp (maxSteps := 2000000) -implicitDefEqProofs
 refine EV.seq ?_
 refine EV.seq ?_
 refine EV.regionG tabOK ?_ -- region 1
 simp (maxSteps := 2000000) -implicitDefEqProofs
 refine EV.block ?_
 refine EV.seq ?_
 refine EV.seq ?_
 refine EV.regionG tabOK ?_ -- region 2
 simp (maxSteps := 2000000) -implicitDefEqProofs
 obtain ⟨z3, e3, e⟩ := bnd_split e
 refine EV.nrm (fun v : { v : (Bool) × (Unit) // z3 = v.1 } => (fun (v3 : Bool) (g3 : Unit) => (⟨[J, J, .ptr 0 0 0 0, .ptr 1 0 0 0, J, J, .i .i64 p1.k, .b v3, J, J, J, J, J, J, J, J, J, J, J, J, J, J, J, J, J, J, J, J, J, J, J, J, J, J, J, J, J, J, J, J, J, J, J, J, J, J, J, J, J, J, J, J, J, J, J, J, J, J, J, J, J, J, J, J, J, J, J, J, J, J, J, J, J, J, J, J], [.arr 0 7 [[.ro 4 (p0.s.structs.map structC), .ro 3 (p0.s.enums.map enumC), .ro 4 (p0.s.fns.map fnC), .s p0.b.name, .i .i64 p0.b.params, .ro 4 (p0.b.locals.map localC), .ro 17 (p0.b.blocks.map blockC)]], .arr 0 15 [[.i .i64 p1.k, .i .i64 p1.at_, .i .i64 p1.s.local_, .ro 1 (p1.s.path.map (fun z => [.i .i64 z])), .i .i64 p1.v.k, .ro 5 (p1.v.uses.map useC), .i .i64 p1.v.s.local_, .ro 1 (p1.v.s.path.map (fun z => [.i .i64 z])), .i .i64 p1.v.which, .i .i64 p1.v.tag, .b p1.u.num, .i .i64 p1.u.n, .b p1.u.move, .i .i64 p1.u.s.local_, .ro 1 (p1.u.s.path.map (fun z => [.i .i64 z]))]]]⟩ : St)) v.1.1 v.1.2) ?_ ?_
 ·skip
  refine EV.condT ?_
  simp -implicitDefEqProofs
  refine condT_intro (fun k1 => ?_) (fun k1 => ?_)
  ·try simp at k1
   obtain ⟨f1, e3⟩ := pos_on2 e3 (by first | simpa using k1 | grind)
   try simp at f1
   refine EV.skip ?_
   simp only [thenK_normal, blockK_normal, scopeK_normal]
   refine ⟨⟨(true, ()), e3.symm⟩, ?_⟩
   try dsimp only
   refine Sub.cutF 2 (by simp) ?_ ?_ <;> simp [List.range_succ, toIdx_range, passed]
  ·try simp at k1
   obtain ⟨f1, e3⟩ := neg_on2 e3 (by first | simpa using k1 | grind)
   try simp at f1
   refine EV.regionG tabOK ?_ -- region 3
   simp (maxSteps := 2000000) -implicitDefEqProofs
   refine ⟨⟨((decide (p1.k = 1)), ()), e3.symm⟩, ?_⟩
   try dsimp only
   refine Sub.cutF 2 (by simp) ?_ ?_ <;> simp [List.range_succ, toIdx_range, passed]
 ·skip
  rintro ⟨⟨v3, g3⟩, e3⟩
  simp only [thenK_normal, blockK_normal, scopeK_normal, bodyK_normal]
  replace e := bnd_on e e3
  try dsimp only at e
  refine EV.condT ?_
  simp -implicitDefEqProofs
  refine condT_intro (fun k2 => ?_) (fun k2 => ?_)
  ·try simp at k2
   obtain ⟨f2, e⟩ := pos_on2 e (by first | simpa using k2 | grind)
   try simp at f2
   refine EV.seq ?_
   refine EV.nrm (fun _ : Unit => (⟨[J, J, J, J, .b (((mBare p0 p1.s) && (mNoValue p1.v)) && (mNoUse p1.u)), J, J, J, J, J, J, J, J, J, J, J, J, J, J, J, J, J, J, J, J, J, J, J, J, J, J, J, J, J, J, J, J, J, J, J, J, J, J, J, J, J, J, J, J, J, J, J, J, J, J, J, J, J, J, J, J, J, J, J, J, J, J, J, J, J, J, J, J, J, J, J], []⟩ : St)) ?_ ?_
   ·skip
    cases k4 : (mBare p0 p1.s)
    ·skip
     have kk4 := k4
     try simp at kk4
     refine EV.regionG tabOK ?_ -- region 4
     simp (maxSteps := 2000000) -implicitDefEqProofs +contextual [k4, kk4]
     refine callG_fun (w_mBare p0 p1.s) ?_ ?_
     ·first | (simp; done) | (simp [k4, kk4]; done)
     simp (maxSteps := 2000000) -implicitDefEqProofs +contextual [k4, kk4]
     refine ⟨(), ?_⟩
     try dsimp only
     refine Sub.cutF 0 (by simp) ?_ ?_ <;> simp [List.range_succ, toIdx_range, passed, k4, kk4]
    ·skip
     have kk4 := k4
     try simp at kk4
     cases k5 : (mNoValue p1.v)
     ·skip
      have kk5 := k5
      try simp at kk5
      refine EV.regionG tabOK ?_ -- region 4
      simp (maxSteps := 2000000) -implicitDefEqProofs +contextual [k4, kk4, k5, kk5]
      refine callG_fun (w_mBare p0 p1.s) ?_ ?_
      ·first | (simp; done) | (simp [k4, kk4, k5, kk5]; done)
      simp (maxSteps := 2000000) -implicitDefEqProofs +contextual [k4, kk4, k5, kk5]
      refine callG_fun (w_mNoValue p1.v) ?_ ?_
      ·first | (simp; done) | (simp [k4, kk4, k5, kk5]; done)
      simp (maxSteps := 2000000) -implicitDefEqProofs +contextual [k4, kk4, k5, kk5]
      refine ⟨(), ?_⟩
      try dsimp only
      refine Sub.cutF 0 (by simp) ?_ ?_ <;> simp [List.range_succ, toIdx_range, passed, k4, kk4, k5, kk5]
     ·skip
      have kk5 := k5
      try simp at kk5
      refine EV.regionG tabOK ?_ -- region 4
      simp (maxSteps := 2000000) -implicitDefEqProofs +contextual [k4, kk4, k5, kk5]
      refine callG_fun (w_mBare p0 p1.s) ?_ ?_
      ·first | (simp; done) | (simp [k4, kk4, k5, kk5]; done)
      simp (maxSteps := 2000000) -implicitDefEqProofs +contextual [k4, kk4, k5, kk5]
      refine callG_fun (w_mNoValue p1.v) ?_ ?_
      ·first | (simp; done) | (simp [k4, kk4, k5, kk5]; done)
      simp (maxSteps := 2000000) -implicitDefEqProofs +contextual [k4, kk4, k5, kk5]
      refine callG_fun (w_mNoUse p1.u) ?_ ?_
      ·first | (simp; done) | (simp [k4, kk4, k5, kk5]; done)
      simp (maxSteps := 2000000) -implicitDefEqProofs +contextual [k4, kk4, k5, kk5]
      refine ⟨(), ?_⟩
      try dsimp only
      refine Sub.cutF 0 (by simp) ?_ ?_ <;> simp [List.range_succ, toIdx_range, passed, k4, kk4, k5, kk5]
   ·skip
    rintro _
    simp only [thenK_normal, blockK_normal, scopeK_normal, bodyK_normal]
    refine EV.ret ?_
    simp only [thenK_ret, blockK_ret, scopeK_ret, bodyK_ret]
    subst e
    refine Fin.pure0 ?_
    first | (simp; done) | (simp <;> grind)
  ·try simp at k2
   obtain ⟨f2, e⟩ := neg_on2 e (by first | simpa using k2 | grind)
   try simp at f2
   refine EV.seq ?_
   refine EV.regionG tabOK ?_ -- region 5
   simp (maxSteps := 2000000) -implicitDefEqProofs
   refine EV.condT ?_
   simp -implicitDefEqProofs
   refine condT_intro (fun k6 => ?_) (fun k6 => ?_)
   ·try simp at k6
    obtain ⟨f6, e⟩ := pos_on2 e (by first | simpa using k6 | grind)
    try simp at f6
    refine EV.seq ?_
    refine EV.nrm (fun _ : Unit => (⟨[J, J, J, J, .b (((mBare p0 p1.s) && (mNoValue p1.v)) && (mDrop p0 p1)), J, J, J, J, J, J, J, J, J, J, J, J, J, J, J, J, J, J, J, J, J, J, J, J, J, J, J, J, J, J, J, J, J, J, J, J, J, J, J, J, J, J, J, J, J, J, J, J, J, J, J, J, J, J, J, J, J, J, J, J, J, J, J, J, J, J, J, J, J, J, J], []⟩ : St)) ?_ ?_
    ·skip
     cases k8 : (mBare p0 p1.s)
     ·skip
      have kk8 := k8
      try simp at kk8
      refine EV.regionG tabOK ?_ -- region 6
      simp (maxSteps := 2000000) -implicitDefEqProofs +contextual [k8, kk8]
      refine callG_fun (w_mBare p0 p1.s) ?_ ?_
      ·first | (simp; done) | (simp [k8, kk8]; done)
      simp (maxSteps := 2000000) -implicitDefEqProofs +contextual [k8, kk8]
      refine ⟨(), ?_⟩
      try dsimp only
      refine Sub.cutF 0 (by simp) ?_ ?_ <;> simp [List.range_succ, toIdx_range, passed, k8, kk8]
     ·skip
      have kk8 := k8
      try simp at kk8
      cases k9 : (mNoValue p1.v)
      ·skip
       have kk9 := k9
       try simp at kk9
       refine EV.regionG tabOK ?_ -- region 6
       simp (maxSteps := 2000000) -implicitDefEqProofs +contextual [k8, kk8, k9, kk9]
       refine callG_fun (w_mBare p0 p1.s) ?_ ?_
       ·first | (simp; done) | (simp [k8, kk8, k9, kk9]; done)
       simp (maxSteps := 2000000) -implicitDefEqProofs +contextual [k8, kk8, k9, kk9]
       refine callG_fun (w_mNoValue p1.v) ?_ ?_
       ·first | (simp; done) | (simp [k8, kk8, k9, kk9]; done)
       simp (maxSteps := 2000000) -implicitDefEqProofs +contextual [k8, kk8, k9, kk9]
       refine ⟨(), ?_⟩
       try dsimp only
       refine Sub.cutF 0 (by simp) ?_ ?_ <;> simp [List.range_succ, toIdx_range, passed, k8, kk8, k9, kk9]
      ·skip
       have kk9 := k9
       try simp at kk9
       refine EV.regionG tabOK ?_ -- region 6
       simp (maxSteps := 2000000) -implicitDefEqProofs +contextual [k8, kk8, k9, kk9]
       refine callG_fun (w_mBare p0 p1.s) ?_ ?_
       ·first | (simp; done) | (simp [k8, kk8, k9, kk9]; done)
       simp (maxSteps := 2000000) -implicitDefEqProofs +contextual [k8, kk8, k9, kk9]
       refine callG_fun (w_mNoValue p1.v) ?_ ?_
       ·first | (simp; done) | (simp [k8, kk8, k9, kk9]; done)
       simp (maxSteps := 2000000) -implicitDefEqProofs +contextual [k8, kk8, k9, kk9]
       refine callG_fun (w_mDrop p0 p1) ?_ ?_
       ·first | (simp; done) | (simp [k8, kk8, k9, kk9]; done)
       simp (maxSteps := 2000000) -implicitDefEqProofs +contextual [k8, kk8, k9, kk9]
       refine ⟨(), ?_⟩
       try dsimp only
       refine Sub.cutF 0 (by simp) ?_ ?_ <;> simp [List.range_succ, toIdx_range, passed, k8, kk8, k9, kk9]
    ·skip
     rintro _
     simp only [thenK_normal, blockK_normal, scopeK_normal, bodyK_normal]
     refine EV.ret ?_
     simp only [thenK_ret, blockK_ret, scopeK_ret, bodyK_ret]
     subst e
     refine Fin.pure0 ?_
     first | (simp; done) | (simp <;> grind)
   ·try simp at k6
    obtain ⟨f6, e⟩ := neg_on2 e (by first | simpa using k6 | grind)
    try simp at f6
    refine EV.seq ?_
    refine EV.regionG tabOK ?_ -- region 7
    simp (maxSteps := 2000000) -implicitDefEqProofs
    refine EV.condT ?_
    simp -implicitDefEqProofs
    refine condT_intro (fun k10 => ?_) (fun k10 => ?_)
    ·try simp at k10
     obtain ⟨f10, e⟩ := pos_on2 e (by first | simpa using k10 | grind)
     try simp at f10
     refine EV.seq ?_
     refine EV.nrm (fun _ : Unit => (⟨[J, J, J, J, .b ((mNoUse p1.u) && (mSet p0 p1)), J, J, J, J, J, J, J, J, J, J, J, J, J, J, J, J, J, J, J, J, J, J, J, J, J, J, J, J, J, J, J, J, J, J, J, J, J, J, J, J, J, J, J, J, J, J, J, J, J, J, J, J, J, J, J, J, J, J, J, J, J, J, J, J, J, J, J, J, J, J, J], []⟩ : St)) ?_ ?_
     ·skip
      cases k12 : (mNoUse p1.u)
      ·skip
       have kk12 := k12
       try simp at kk12
       refine EV.regionG tabOK ?_ -- region 8
       simp (maxSteps := 2000000) -implicitDefEqProofs +contextual [k12, kk12]
       refine callG_fun (w_mNoUse p1.u) ?_ ?_
       ·first | (simp; done) | (simp [k12, kk12]; done)
       simp (maxSteps := 2000000) -implicitDefEqProofs +contextual [k12, kk12]
       refine ⟨(), ?_⟩
       try dsimp only
       refine Sub.cutF 0 (by simp) ?_ ?_ <;> simp [List.range_succ, toIdx_range, passed, k12, kk12]
      ·skip
       have kk12 := k12
       try simp at kk12
       refine EV.regionG tabOK ?_ -- region 8
       simp (maxSteps := 2000000) -implicitDefEqProofs +contextual [k12, kk12]
       refine callG_fun (w_mNoUse p1.u) ?_ ?_
       ·first | (simp; done) | (simp [k12, kk12]; done)
       simp (maxSteps := 2000000) -implicitDefEqProofs +contextual [k12, kk12]
       refine callG_fun (w_mSet p0 p1 hs) ?_ ?_
       ·first | (simp; done) | (simp [k12, kk12]; done)
       simp (maxSteps := 2000000) -implicitDefEqProofs +contextual [k12, kk12]
       refine ⟨(), ?_⟩
       try dsimp only
       refine Sub.cutF 0 (by simp) ?_ ?_ <;> simp [List.range_succ, toIdx_range, passed, k12, kk12]
     ·skip
      rintro _
      simp only [thenK_normal, blockK_normal, scopeK_normal, bodyK_normal]
      refine EV.ret ?_
      simp only [thenK_ret, blockK_ret, scopeK_ret, bodyK_ret]
      subst e
      refine Fin.pure0 ?_
      first | (simp; done) | (simp <;> grind)
    ·try simp at k10
     obtain ⟨f10, e⟩ := neg_on2 e (by first | simpa using k10 | grind)
     try simp at f10
     refine EV.seq ?_
     refine EV.regionG tabOK ?_ -- region 9
     simp (maxSteps := 2000000) -implicitDefEqProofs
     refine EV.condT ?_
     simp -implicitDefEqProofs
     refine condT_intro (fun k13 => ?_) (fun k13 => ?_)
     ·try simp at k13
      obtain ⟨f13, e⟩ := pos_on2 e (by first | simpa using k13 | grind)
      try simp at f13
      refine EV.seq ?_
      refine EV.nrm (fun _ : Unit => (⟨[J, J, J, J, .b (((mEmpty p1.s) && (mNoValue p1.v)) && (mNumber p0 p1.u)), J, J, J, J, J, J, J, J, J, J, J, J, J, J, J, J, J, J, J, J, J, J, J, J, J, J, J, J, J, J, J, J, J, J, J, J, J, J, J, J, J, J, J, J, J, J, J, J, J, J, J, J, J, J, J, J, J, J, J, J, J, J, J, J, J, J, J, J, J, J, J], []⟩ : St)) ?_ ?_
      ·skip
       cases k15 : (mEmpty p1.s)
       ·skip
        have kk15 := k15
        try simp at kk15
        refine EV.regionG tabOK ?_ -- region 10
        simp (maxSteps := 2000000) -implicitDefEqProofs +contextual [k15, kk15]
        refine callG_fun (w_mEmpty p1.s) ?_ ?_
        ·first | (simp; done) | (simp [k15, kk15]; done)
        simp (maxSteps := 2000000) -implicitDefEqProofs +contextual [k15, kk15]
        refine ⟨(), ?_⟩
        try dsimp only
        refine Sub.cutF 0 (by simp) ?_ ?_ <;> simp [List.range_succ, toIdx_range, passed, k15, kk15]
       ·skip
        have kk15 := k15
        try simp at kk15
        cases k16 : (mNoValue p1.v)
        ·skip
         have kk16 := k16
         try simp at kk16
         refine EV.regionG tabOK ?_ -- region 10
         simp (maxSteps := 2000000) -implicitDefEqProofs +contextual [k15, kk15, k16, kk16]
         refine callG_fun (w_mEmpty p1.s) ?_ ?_
         ·first | (simp; done) | (simp [k15, kk15, k16, kk16]; done)
         simp (maxSteps := 2000000) -implicitDefEqProofs +contextual [k15, kk15, k16, kk16]
         refine callG_fun (w_mNoValue p1.v) ?_ ?_
         ·first | (simp; done) | (simp [k15, kk15, k16, kk16]; done)
         simp (maxSteps := 2000000) -implicitDefEqProofs +contextual [k15, kk15, k16, kk16]
         refine ⟨(), ?_⟩
         try dsimp only
         refine Sub.cutF 0 (by simp) ?_ ?_ <;> simp [List.range_succ, toIdx_range, passed, k15, kk15, k16, kk16]
        ·skip
         have kk16 := k16
         try simp at kk16
         refine EV.regionG tabOK ?_ -- region 10
         simp (maxSteps := 2000000) -implicitDefEqProofs +contextual [k15, kk15, k16, kk16]
         refine callG_fun (w_mEmpty p1.s) ?_ ?_
         ·first | (simp; done) | (simp [k15, kk15, k16, kk16]; done)
         simp (maxSteps := 2000000) -implicitDefEqProofs +contextual [k15, kk15, k16, kk16]
         refine callG_fun (w_mNoValue p1.v) ?_ ?_
         ·first | (simp; done) | (simp [k15, kk15, k16, kk16]; done)
         simp (maxSteps := 2000000) -implicitDefEqProofs +contextual [k15, kk15, k16, kk16]
         refine callG_fun (w_mNumber p0 p1.u) ?_ ?_
         ·first | (simp; done) | (simp [k15, kk15, k16, kk16]; done)
         simp (maxSteps := 2000000) -implicitDefEqProofs +contextual [k15, kk15, k16, kk16]
         refine ⟨(), ?_⟩
         try dsimp only
         refine Sub.cutF 0 (by simp) ?_ ?_ <;> simp [List.range_succ, toIdx_range, passed, k15, kk15, k16, kk16]
      ·skip
       rintro _
       simp only [thenK_normal, blockK_normal, scopeK_normal, bodyK_normal]
       refine EV.ret ?_
       simp only [thenK_ret, blockK_ret, scopeK_ret, bodyK_ret]
       subst e
       refine Fin.pure0 ?_
       first | (simp; done) | (simp <;> grind)
     ·try simp at k13
      obtain ⟨f13, e⟩ := neg_on2 e (by first | simpa using k13 | grind)
      try simp at f13
      refine EV.seq ?_
      refine EV.regionG tabOK ?_ -- region 11
      simp (maxSteps := 2000000) -implicitDefEqProofs
      refine EV.condT ?_
      simp -implicitDefEqProofs
      refine condT_intro (fun k17 => ?_) (fun k17 => ?_)
      ·try simp at k17
       obtain ⟨f17, e⟩ := pos_on2 e (by first | simpa using k17 | grind)
       try simp at f17
       refine EV.seq ?_
       refine EV.nrm (fun _ : Unit => (⟨[J, J, J, J, .b ((mNoUse p1.u) && (mOpen p0 p1)), J, J, J, J, J, J, J, J, J, J, J, J, J, J, J, J, J, J, J, J, J, J, J, J, J, J, J, J, J, J, J, J, J, J, J, J, J, J, J, J, J, J, J, J, J, J, J, J, J, J, J, J, J, J, J, J, J, J, J, J, J, J, J, J, J, J, J, J, J, J, J], []⟩ : St)) ?_ ?_
       ·skip
        cases k19 : (mNoUse p1.u)
        ·skip
         have kk19 := k19
         try simp at kk19
         refine EV.regionG tabOK ?_ -- region 12
         simp (maxSteps := 2000000) -implicitDefEqProofs +contextual [k19, kk19]
         refine callG_fun (w_mNoUse p1.u) ?_ ?_
         ·first | (simp; done) | (simp [k19, kk19]; done)
         simp (maxSteps := 2000000) -implicitDefEqProofs +contextual [k19, kk19]
         refine ⟨(), ?_⟩
         try dsimp only
         refine Sub.cutF 0 (by simp) ?_ ?_ <;> simp [List.range_succ, toIdx_range, passed, k19, kk19]
        ·skip
         have kk19 := k19
         try simp at kk19
         refine EV.regionG tabOK ?_ -- region 12
         simp (maxSteps := 2000000) -implicitDefEqProofs +contextual [k19, kk19]
         refine callG_fun (w_mNoUse p1.u) ?_ ?_
         ·first | (simp; done) | (simp [k19, kk19]; done)
         simp (maxSteps := 2000000) -implicitDefEqProofs +contextual [k19, kk19]
         refine callG_fun (w_mOpen p0 p1) ?_ ?_
         ·first | (simp; done) | (simp [k19, kk19]; done)
         simp (maxSteps := 2000000) -implicitDefEqProofs +contextual [k19, kk19]
         refine ⟨(), ?_⟩
         try dsimp only
         refine Sub.cutF 0 (by simp) ?_ ?_ <;> simp [List.range_succ, toIdx_range, passed, k19, kk19]
       ·skip
        rintro _
        simp only [thenK_normal, blockK_normal, scopeK_normal, bodyK_normal]
        refine EV.ret ?_
        simp only [thenK_ret, blockK_ret, scopeK_ret, bodyK_ret]
        subst e
        refine Fin.pure0 ?_
        first | (simp; done) | (simp <;> grind)
      ·try simp at k17
       obtain ⟨f17, e⟩ := neg_on2 e (by first | simpa using k17 | grind)
       try simp at f17
       refine EV.skip ?_
       simp only [thenK_normal, blockK_normal, scopeK_normal]
       refine EV.seq ?_
       refine EV.regionG tabOK ?_ -- region 13
       simp (maxSteps := 2000000) -implicitDefEqProofs
       refine EV.ret ?_
       simp only [thenK_ret, blockK_ret, scopeK_ret, bodyK_ret]
       subst e
       refine Fin.pure0 ?_
       first | (simp; done) | (simp <;> grind)

def mLocal (p0 : MirBodyD) (p1 : LocalD) : Bool :=
 (((decide ((kResolve p0.s p1.ty).2 = 0)) && (mSame ((kResolve p0.s p1.ty).1) p1.ty)) && (!(cfTy (((kResolve p0.s p1.ty).1).l) kHolds)))
set_option maxHeartbeats 40000000 in
theorem w_mLocal (p0 : MirBodyD) (p1 : LocalD)  : QC prog 23 [.agg [.ro 4 (p0.s.structs.map structC), .ro 3 (p0.s.enums.map enumC), .ro 4 (p0.s.fns.map fnC), .s p0.b.name, .i .i64 p0.b.params, .ro 4 (p0.b.locals.map localC), .ro 17 (p0.b.blocks.map blockC)], .agg [.s p1.name, .i .i64 p1.ty.k, .s p1.ty.name, .ro 3 (p1.ty.l.map tyC)]] [] (.b (mLocal p0 p1)) [] := by
 refine QC.of_body tabOK func23 rfl (by kernel_rfl) ?_
 simp only [f23]
 generalize e : mLocal p0 p1 = R
 unfold mLocal at e
 refine EV.seq ?_
 refine EV.regionG tabOK ?_ -- region 0
 simp (maxSteps := 2000000) -implicitDefEqProofs
 refine EV.seq ?_
 refine EV.regionG tabOK ?_ -- region 1
 simp (maxSteps := 2000000) -implicitDefEqProofs
 refine callG_fun (w_kResolve p0.s p1.ty) ?_ ?_
 ·simp
 simp (maxSteps := 2000000) -implicitDefEqProofs
 refine EV.seq ?_
 refine EV.nrm (fun _ : Unit => (⟨[J, J, J, J, .b (((decide ((kResolve p0.s p1.ty).2 = 0)) && (mSame ((kResolve p0.s p1.ty).1) p1.ty)) && (!(cfTy (((kResolve p0.s p1.ty).1).l) kHolds))), J, J, J, J, J, J, J, J, J, J, J, J, J, J, J, J, J, J, J, J, J, J, J, J], []⟩ : St)) ?_ ?_
 ·skip
  by_cases k2 : (kResolve p0.s p1.ty).2 = 0
  ·skip
   have kk2 := k2
   try simp at kk2
   cases k3 : (mSame ((kResolve p0.s p1.ty).1) p1.ty)
   ·skip
    have kk3 := k3
    try simp at kk3
    refine EV.regionG tabOK ?_ -- region 2
    simp (maxSteps := 2000000) -implicitDefEqProofs +contextual [k2, kk2, k3, kk3]
    refine callG_fun (w_mSame ((kResolve p0.s p1.ty).1) p1.ty) ?_ ?_
    ·first | (simp; done) | (simp [k2, kk2, k3, kk3]; done)
    simp (maxSteps := 2000000) -implicitDefEqProofs +contextual [k2, kk2, k3, kk3]
    refine ⟨(), ?_⟩
    try dsimp only
    refine Sub.cutF 0 (by simp) ?_ ?_ <;> simp [List.range_succ, toIdx_range, passed, k2, kk2, k3, kk3]
   ·skip
    have kk3 := k3
    try simp at kk3
    refine EV.regionG tabOK ?_ -- region 2
    simp (maxSteps := 2000000) -implicitDefEqProofs +contextual [k2, kk2, k3, kk3]
    refine callG_fun (w_mSame ((kResolve p0.s p1.ty).1) p1.ty) ?_ ?_
    ·first | (simp; done) | (simp [k2, kk2, k3, kk3]; done)
    simp (maxSteps := 2000000) -implicitDefEqProofs +contextual [k2, kk2, k3, kk3]
    refine callG_own [] rfl (w_cfTy0 (((kResolve p0.s p1.ty).1).l) kHolds 45 (fun u0 h0 => w_kHolds  u0)) ?_ ?_ ?_ ?_ ?_ ?_
    ·simp
    ·simp
    ·simp
    ·simp
    ·simp
    simp (maxSteps := 2000000) -implicitDefEqProofs +contextual [k2, kk2, k3, kk3, keys, callUpd, List.range_succ]
    refine ⟨(), ?_⟩
    try dsimp only
    refine Sub.cutF 0 (by simp) ?_ ?_ <;> simp [List.range_succ, toIdx_range, passed, k2, kk2, k3, kk3]
  ·skip
   have kk2 := k2
   try simp at kk2
   refine EV.regionG tabOK ?_ -- region 2
   simp (maxSteps := 2000000) -implicitDefEqProofs +contextual [k2, kk2]
   refine ⟨(), ?_⟩
   try dsimp only
   refine Sub.cutF 0 (by simp) ?_ ?_ <;> simp [List.range_succ, toIdx_range, passed, k2, kk2]
 ·skip
  rintro _
  simp only [thenK_normal, blockK_normal, scopeK_normal, bodyK_normal]
  refine EV.ret ?_
  simp only [thenK_ret, blockK_ret, scopeK_ret, bodyK_ret]
  subst e
  refine Fin.pure0 ?_
  first | (simp; done) | (simp <;> grind)
end
end Go.Proofs.Tryd
end
