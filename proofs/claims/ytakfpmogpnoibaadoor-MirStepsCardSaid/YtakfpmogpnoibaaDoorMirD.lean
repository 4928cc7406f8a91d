/- The contract of the program's function that tells whether a body may be. -/
import Derived.Test.YtakfpmogpnoibaaDoorMirB
import Derived.Test.YtakfpmogpnoibaaDoorMirC
set_option linter.unusedVariables false
set_option linter.unusedSimpArgs false
set_option linter.constructorNameAsVariable false
section
namespace Go.Proofs.Tryd
open Go Go.AM
attribute [local simp] wpG_op wpG_nil contG_some wpG_guard guardG_v guardG_o guardG_tup gval pureOp stepG_if isPick pickG_pick pickB_b pickOK isCall step_move step_assign step_alloc step_box boxV_some step_load step_store step_binOp step_unOp step_fieldAddr faV step_indexAddr ixA_slc ixA_arr step_extract extV_tup step_nilCheck ncV_ptr ncV_rp ncV_fn ncV_mp step_build buildV step_buildSlice bsV step_index ixV_arr ixV_str step_append apB step_makeSlice msV_i step_makeFunc over step_len step_makeMap mmV step_mapUpdate step_insert muA_map muB_mp step_lookup lkA_map lkB_mp step_slice slcV_s slcV_sl slcV_ro cutB_some slObV_arr bound_none bound_some bndV_i lenB_str lenB_ro lenB_sl lenB_nil lenB_z ld_ptr ld_rp offV_ptr offV_rp idxV_ro idxV_sl unV_not unV_neg binV_int binV_str binV_eqlb binV_neqb intOp strOp St.put updL setOb St.ev toV St.lk cellsOf AM.valOf TK.agg stv fillV places TI.zero condT_true condT_false finS resL resSlot packV ren ren1 ren0 Value.cells builtinV appendV elemsOf keepT room_of wrap_in toIdx passed Function.comp_def take_len_map lenV touchOf hid tab1 tab2 tab3 tab4 tab5 tab6 tab7 tab8 tab9 tab10 tab11 tab12 tab13 tab14 tab15 tab16 tab17 tab18 tab19 tab20 tab21 tab22 tab23 tab24 tab25 tab26 tab27 tab28 tab29 tab30 tab31 tab32 tab33 tab34 tab35 tab36 tab37 tab38 tab39 tab40 tab41 tab42 tab43 tab44 tab45 tab46 tab47 tab48 tab49 tab50 tab51 tab52 tab53 tab54 tab55 tab57 tab58 tab59 tab61 tab62 tab63 tab64 tab65 tab66 tab67 tab68 tab69 tab70 tab71 tab72 tab73 tab74 tab75 tab76 tab77 tab78 tab79 tab80 tab81 tab82 tab83 tab84 tab85 tab86 tab87 tab88 tab89 tab90 tab91 tab92 tab93 tab94 tab95 tab96 tab97 tab98 tab99 tab100 tab101 tab103 tab104 tab105 tab106 tab107 tab108 tab109 tab110 tab111 tab112 tab113 tab114 tab115 tab116 tab117 tab118 tab119 tab120 tab121 tab122 tab123 tab124 tab125 tab126 tab127 tab128 tab129 tab130 tab131 tab132 tab133 tab135 tab137 tab138 tab140 tab141 tab142 tab143 tab144 tab145 tab146 tab147 tab148 tab149 tab150 tab151 tab152 tab153 tab155 tab156 tab157 tab158 tab159 tab160 tab161 tab162 tab163 tab164 tab165 tab166 tab167 tab168 tab170 tab171 tab172 tab173 tab174 tab175 tab176 tab177 tab178 tab179 tab180 tab181 tab182 tab186 tab187 tab188 tab189 tab190 tab191 tab192 tab193 tab194 tab195 armC_eq blockC_eq bodyC_eq enumC_eq fieldC_eq fnC_eq inC_eq localC_eq mirBodyC_eq operC_eq placeC_eq rvC_eq sourceC_eq spotC_eq stepC_eq stmtC_eq structC_eq tmC_eq tyC_eq useC_eq valueC_eq variantC_eq cutL_nil cutL_junk cutL_cons ren_arr ren_gone ren_unborn ren_var ren_row step_convert cvV_i cvV_sl cvV_s cvK_slc cvE_u8 bytesOf bor1 bor2 bor3 bor4
set_option linter.unusedSimpArgs false
set_option linter.unusedVariables false
set_option maxRecDepth 10000
set_option maxHeartbeats 4000000
noncomputable section
def mValid_l6 (p0 : SourceD) (p1 : BodyD) : List LocalD → Ctl (Bool) (Unit)
 | [] => .go ()
 | x6 :: xs6 => (if ¬ ((mLocal (MirBodyD.mk p0 p1) x6) = true) then .ret false else mValid_l6 p0 p1 xs6)
def mValid_l15 (p0 : SourceD) (p1 : BodyD) : List InD → Ctl (Bool) (Unit)
 | [] => .go ()
 | x15 :: xs15 => (if ¬ ((mIn (MirBodyD.mk p0 p1) x15) = true) then .ret false else mValid_l15 p0 p1 xs15)
def mValid_l12 (p0 : SourceD) (p1 : BodyD) : List BlockD → Ctl (Bool) (Unit)
 | [] => .go ()
 | x12 :: xs12 => (Ctl.bind (mValid_l15 p0 p1 x12.ins) fun (v15 : Unit) => (if ¬ ((mTm (MirBodyD.mk p0 p1) x12.end_) = true) then .ret false else mValid_l12 p0 p1 xs12))
def mValid (p0 : SourceD) (p1 : BodyD) : Bool :=
 (bnd (p1.locals.getD (((IntKind.i64.wrap ((p1.locals.length : Int) - 1))).toNat) default) fun (y2_28 : LocalD) => (if (((((((p1.blocks.length : Int) = 0) ∨ ((p1.locals.length : Int) < 1)) ∨ (201 < (p1.locals.length : Int))) ∨ (p1.params < 0)) ∨ ((p1.locals.length : Int) ≤ p1.params)) ∨ (¬ (y2_28.name = ([] : List UInt8)))) ∨ (¬ ((mIs y2_28.ty) = true)) then false else (Ctl.run (mValid_l6 p0 p1 p1.locals) fun (v6 : Unit) => (Ctl.run (mValid_l12 p0 p1 p1.blocks) fun (v12 : Unit) => true))))
set_option maxHeartbeats 40000000 in
theorem w_mValid (p0 : SourceD) (p1 : BodyD) (hs : SrcOK p0) : QC prog 10 [.agg [.ro 4 (p0.structs.map structC), .ro 3 (p0.enums.map enumC), .ro 4 (p0.fns.map fnC)], .agg [.s p1.name, .i .i64 p1.params, .ro 4 (p1.locals.map localC), .ro 17 (p1.blocks.map blockC)]] [] (.b (mValid p0 p1)) [] := by
 refine QC.of_body tabOK func10 rfl (by kernel_rfl) ?_
 simp only [f10]
 generalize e : mValid p0 p1 = R
 unfold mValid at e
 refine EV.seq ?_
 refine EV.regionG tabOK ?_ -- region 0
 simp (maxSteps := 2000000) -implicitDefEqProofs
 refine EV.seq ?_
 refine EV.regionG tabOK ?_ -- region 1
 simp (maxSteps := 2000000) -implicitDefEqProofs
 refine EV.seq ?_
 refine EV.seq ?_
 obtain ⟨y2_28, gy2_28⟩ : ∃ z, (p1.locals.getD (((IntKind.i64.wrap ((p1.locals.length : Int) - 1))).toNat) default) = z := ⟨_, rfl⟩
 replace e := bnd_on e gy2_28
 try dsimp only at e
 refine EV.nrm (fun _ : Unit => (⟨[J, J, .ptr 0 0 0 0, .ptr 1 0 0 0, J, J, J, J, J, J, J, J, J, J, J, J, J, J, J, J, J, J, J, J, J, J, J, J, J, J, J, J, J, J, J, J, J, J, J, J, J, J, J, J, J, J, J, J, J, J, J, J, J, J, J, J, J, J, J, .b (((((((decide ((p1.blocks.length : Int) = 0)) || (decide ((p1.locals.length : Int) < 1))) || (decide (201 < (p1.locals.length : Int)))) || (decide (p1.params < 0))) || (decide ((p1.locals.length : Int) ≤ p1.params))) || (!(decide (y2_28.name = ([] : List UInt8))))) || (!(mIs y2_28.ty))), J, J, J, J, J, J, J, J, J, J, J, J, J, J, J, J, J, J, J, J, J, J, J, J, J, J, J, J, J, J, J, J, J, J, J, J, J, J, J, J], [.arr 0 3 [[.ro 4 (p0.structs.map structC), .ro 3 (p0.enums.map enumC), .ro 4 (p0.fns.map fnC)]], .arr 0 4 [[.s p1.name, .i .i64 p1.params, .ro 4 (p1.locals.map localC), .ro 17 (p1.blocks.map blockC)]]]⟩ : St)) ?_ ?_
 ·skip
  by_cases k2 : (p1.blocks.length : Int) = 0
  ·skip
   have kk2 := k2
   try simp at kk2
   refine EV.regionG tabOK ?_ -- region 2
   simp (maxSteps := 2000000) -implicitDefEqProofs +contextual [k2, kk2]
   refine ⟨(), ?_⟩
   try dsimp only
   refine Sub.cutF 2 (by simp) ?_ ?_ <;> simp [List.range_succ, toIdx_range, passed, k2, kk2]
  ·skip
   have kk2 := k2
   try simp at kk2
   by_cases k3 : (p1.locals.length : Int) < 1
   ·skip
    have kk3 := k3
    try simp at kk3
    refine EV.regionG tabOK ?_ -- region 2
    simp (maxSteps := 2000000) -implicitDefEqProofs +contextual [k2, kk2, k3, kk3]
    refine ⟨(), ?_⟩
    try dsimp only
    refine Sub.cutF 2 (by simp) ?_ ?_ <;> simp [List.range_succ, toIdx_range, passed, k2, kk2, k3, kk3]
   ·skip
    have kk3 := k3
    try simp at kk3
    by_cases k4 : 201 < (p1.locals.length : Int)
    ·skip
     have kk4 := k4
     try simp at kk4
     refine EV.regionG tabOK ?_ -- region 2
     simp (maxSteps := 2000000) -implicitDefEqProofs +contextual [k2, kk2, k3, kk3, k4, kk4]
     refine ⟨(), ?_⟩
     try dsimp only
     refine Sub.cutF 2 (by simp) ?_ ?_ <;> simp [List.range_succ, toIdx_range, passed, k2, kk2, k3, kk3, k4, kk4]
    ·skip
     have kk4 := k4
     try simp at kk4
     by_cases k5 : p1.params < 0
     ·skip
      have kk5 := k5
      try simp at kk5
      refine EV.regionG tabOK ?_ -- region 2
      simp (maxSteps := 2000000) -implicitDefEqProofs +contextual [k2, kk2, k3, kk3, k4, kk4, k5, kk5]
      refine ⟨(), ?_⟩
      try dsimp only
      refine Sub.cutF 2 (by simp) ?_ ?_ <;> simp [List.range_succ, toIdx_range, passed, k2, kk2, k3, kk3, k4, kk4, k5, kk5]
     ·skip
      have kk5 := k5
      try simp at kk5
      by_cases k6 : (p1.locals.length : Int) ≤ p1.params
      ·skip
       have kk6 := k6
       try simp at kk6
       refine EV.regionG tabOK ?_ -- region 2
       simp (maxSteps := 2000000) -implicitDefEqProofs +contextual [k2, kk2, k3, kk3, k4, kk4, k5, kk5, k6, kk6]
       refine ⟨(), ?_⟩
       try dsimp only
       refine Sub.cutF 2 (by simp) ?_ ?_ <;> simp [List.range_succ, toIdx_range, passed, k2, kk2, k3, kk3, k4, kk4, k5, kk5, k6, kk6]
      ·skip
       have kk6 := k6
       try simp at kk6
       by_cases k7 : y2_28.name = ([] : List UInt8)
       ·skip
        have kk7 := k7
        try simp at kk7
        have b8 : 0 ≤ (IntKind.i64.wrap ((p1.locals.length : Int) - 1)) ∧ (IntKind.i64.wrap ((p1.locals.length : Int) - 1)) < (p1.locals.length : Int) := by (first | omega | (rw [IntKind.wrap_i64]; omega))
        have c8 : ((IntKind.i64.wrap ((p1.locals.length : Int) - 1))).toNat < p1.locals.length := by omega
        have hy2_28 : p1.locals[((IntKind.i64.wrap ((p1.locals.length : Int) - 1))).toNat] = y2_28 := by rw [← gy2_28, List.getD_eq_getElem?_getD, List.getElem?_eq_getElem c8]; rfl
        have my2_28 : y2_28 ∈ p1.locals := by rw [← hy2_28]; exact List.getElem_mem _
        refine EV.regionG tabOK ?_ -- region 2
        simp (maxSteps := 2000000) -implicitDefEqProofs +contextual [k2, kk2, k3, kk3, k4, kk4, k5, kk5, k6, kk6, k7, kk7, b8, c8, hy2_28]
        refine callG_fun (w_mIs y2_28.ty) ?_ ?_
        ·first | (simp; done) | (simp [k2, kk2, k3, kk3, k4, kk4, k5, kk5, k6, kk6, k7, kk7, b8, c8, hy2_28]; done)
        simp (maxSteps := 2000000) -implicitDefEqProofs +contextual [k2, kk2, k3, kk3, k4, kk4, k5, kk5, k6, kk6, k7, kk7, b8, c8, hy2_28]
        refine ⟨(), ?_⟩
        try dsimp only
        refine Sub.cutF 2 (by simp) ?_ ?_ <;> simp [List.range_succ, toIdx_range, passed, k2, kk2, k3, kk3, k4, kk4, k5, kk5, k6, kk6, k7, kk7, b8, c8, hy2_28]
       ·skip
        have kk7 := k7
        try simp at kk7
        have b9 : 0 ≤ (IntKind.i64.wrap ((p1.locals.length : Int) - 1)) ∧ (IntKind.i64.wrap ((p1.locals.length : Int) - 1)) < (p1.locals.length : Int) := by (first | omega | (rw [IntKind.wrap_i64]; omega))
        have c9 : ((IntKind.i64.wrap ((p1.locals.length : Int) - 1))).toNat < p1.locals.length := by omega
        have hy2_28 : p1.locals[((IntKind.i64.wrap ((p1.locals.length : Int) - 1))).toNat] = y2_28 := by rw [← gy2_28, List.getD_eq_getElem?_getD, List.getElem?_eq_getElem c9]; rfl
        have my2_28 : y2_28 ∈ p1.locals := by rw [← hy2_28]; exact List.getElem_mem _
        refine EV.regionG tabOK ?_ -- region 2
        simp (maxSteps := 2000000) -implicitDefEqProofs +contextual [k2, kk2, k3, kk3, k4, kk4, k5, kk5, k6, kk6, k7, kk7, b9, c9, hy2_28]
        refine ⟨(), ?_⟩
        try dsimp only
        refine Sub.cutF 2 (by simp) ?_ ?_ <;> simp [List.range_succ, toIdx_range, passed, k2, kk2, k3, kk3, k4, kk4, k5, kk5, k6, kk6, k7, kk7, b9, c9, hy2_28]
 ·skip
  rintro _
  simp only [thenK_normal, blockK_normal, scopeK_normal, bodyK_normal]
  refine EV.condT ?_
  simp -implicitDefEqProofs
  refine condT_intro (fun k10 => ?_) (fun k10 => ?_)
  ·try simp at k10
   obtain ⟨f10, e⟩ := pos_on2 e (by first | simpa using k10 | grind)
   try simp at f10
   refine EV.seq ?_
   refine EV.regionG tabOK ?_ -- region 3
   simp (maxSteps := 2000000) -implicitDefEqProofs
   refine EV.ret ?_
   simp only [thenK_ret, blockK_ret, scopeK_ret, bodyK_ret]
   subst e
   refine Fin.pure0 ?_
   first | (simp; done) | (simp <;> grind)
  ·try simp at k10
   obtain ⟨f10, e⟩ := neg_on2 e (by first | simpa using k10 | grind)
   try simp at f10
   refine EV.skip ?_
   simp only [thenK_normal, blockK_normal, scopeK_normal]
   refine EV.seq ?_
   refine EV.regionG tabOK ?_ -- region 4
   simp (maxSteps := 2000000) -implicitDefEqProofs
   refine EV.seq ?_
   refine EV.seq ?_
   refine EV.regionG tabOK ?_ -- region 5
   simp (maxSteps := 2000000) -implicitDefEqProofs
   obtain ⟨z6, e6, e⟩ := run_split e
   refine EV.nrm (fun v : { v : (Unit) × (Unit) // z6 = .go v.1 } => (fun (v6 : Unit) (g6 : Unit) => (⟨[J, J, J, .ptr 1 0 0 0, J, J, .ptr 2 0 0 0, J, J, J, J, J, J, J, J, J, J, J, J, J, J, J, J, J, J, J, J, J, J, J, J, J, J, J, J, J, J, J, J, J, J, J, J, J, J, J, J, J, J, J, J, J, J, J, J, J, J, J, J, J, J, J, J, J, J, J, J, J, J, J, J, J, J, J, J, J, J, J, J, J, J, J, J, J, J, J, J, J, J, J, J, J, J, J, J, J, J, J, J, J], [.arr 0 3 [[.ro 4 (p0.structs.map structC), .ro 3 (p0.enums.map enumC), .ro 4 (p0.fns.map fnC)]], .arr 0 4 [[.s p1.name, .i .i64 p1.params, .ro 4 (p1.locals.map localC), .ro 17 (p1.blocks.map blockC)]], .arr 0 7 [[.ro 4 (p0.structs.map structC), .ro 3 (p0.enums.map enumC), .ro 4 (p0.fns.map fnC), .s p1.name, .i .i64 p1.params, .ro 4 (p1.locals.map localC), .ro 17 (p1.blocks.map blockC)]]]⟩ : St)) v.1.1 v.1.2) ?_ ?_
   ·skip
    refine EV.block ?_
    refine EV.loopB (fun x : { x : Nat // x ≤ p1.locals.length ∧ mValid_l6 p0 p1 (p1.locals.drop x) = z6 } => (fun (j6 : Nat) => (⟨[J, J, J, .ptr 1 0 0 0, J, J, .ptr 2 0 0 0, J, J, J, J, J, J, J, J, J, J, J, J, J, J, J, J, J, J, J, J, J, J, J, J, J, J, J, J, J, J, J, J, J, J, J, J, J, J, J, J, J, J, J, J, J, J, J, J, J, J, J, J, J, J, J, J, J, .ro 4 (p1.locals.map localC), .i .i64 (p1.locals.length : Int), .i .i64 (j6 : Int), J, J, J, J, J, J, J, J, J, J, J, J, J, J, J, J, J, J, J, J, J, J, J, J, J, J, J, J, J, J, J, J, J], [.arr 0 3 [[.ro 4 (p0.structs.map structC), .ro 3 (p0.enums.map enumC), .ro 4 (p0.fns.map fnC)]], .arr 0 4 [[.s p1.name, .i .i64 p1.params, .ro 4 (p1.locals.map localC), .ro 17 (p1.blocks.map blockC)]], .arr 0 7 [[.ro 4 (p0.structs.map structC), .ro 3 (p0.enums.map enumC), .ro 4 (p0.fns.map fnC), .s p1.name, .i .i64 p1.params, .ro 4 (p1.locals.map localC), .ro 17 (p1.blocks.map blockC)]]]⟩ : St)) x.1) (fun x => p1.locals.length - x.1) ⟨0, Nat.zero_le _, e6⟩ ?_ ?_
    ·skip
     try dsimp only
     try dsimp only
     refine Sub.cutF 3 (by simp) ?_ ?_ <;> simp [List.range_succ, toIdx_range, passed]
    ·skip
     rintro ⟨j6, hi6, e6⟩
     simp only at hi6 e6 ⊢
     refine EV.seq ?_
     refine EV.regionG tabOK ?_ -- region 6
     simp (maxSteps := 2000000) -implicitDefEqProofs
     refine EV.seq ?_
     refine EV.room 64 (by rfl) (fun mj6 => ?_)
     simp at mj6
     refine EV.condT ?_
     simp -implicitDefEqProofs
     refine condT_intro (fun k11 => ?_) (fun k11 => ?_)
     ·try simp at k11
      have u11 : j6 < p1.locals.length := by omega
      obtain ⟨x6, hx6⟩ : ∃ z, p1.locals[j6] = z := ⟨_, rfl⟩
      have mx6 : x6 ∈ p1.locals := by rw [← hx6]; exact List.getElem_mem _
      rw [List.drop_eq_getElem_cons u11, hx6, mValid_l6] at e6
      refine EV.skip ?_
      simp only [thenK_normal, blockK_normal, scopeK_normal]
      refine EV.seq ?_
      refine EV.block ?_
      refine EV.seq ?_
      refine EV.regionG tabOK ?_ -- region 7
      simp (maxSteps := 2000000) -implicitDefEqProofs [k11, u11, hx6]
      refine EV.seq ?_
      refine EV.regionG tabOK ?_ -- region 8
      simp (maxSteps := 2000000) -implicitDefEqProofs [k11, u11, hx6]
      refine callG_fun (w_mLocal (MirBodyD.mk p0 p1) x6) ?_ ?_
      ·first | (simp; done) | (simp [k11, u11, hx6]; done)
      simp (maxSteps := 2000000) -implicitDefEqProofs [k11, u11, hx6]
      refine EV.condT ?_
      simp -implicitDefEqProofs [k11, u11, hx6]
      refine condT_intro (fun k12 => ?_) (fun k12 => ?_)
      ·try simp at k12
       obtain ⟨f12, e6⟩ := pos_on2 e6 (by first | simpa using k12 | grind)
       try simp at f12
       refine EV.seq ?_
       refine EV.regionG tabOK ?_ -- region 9
       simp (maxSteps := 2000000) -implicitDefEqProofs [k11, u11, hx6]
       refine EV.ret ?_
       simp only [thenK_ret, blockK_ret, scopeK_ret, bodyK_ret]
       replace e := run_back e e6
       subst e
       refine Fin.pure0 ?_
       first | (simp; done) | (simp <;> grind)
      ·try simp at k12
       obtain ⟨f12, e6⟩ := neg_on2 e6 (by first | simpa using k12 | grind)
       try simp at f12
       refine EV.skip ?_
       simp only [thenK_normal, blockK_normal, scopeK_normal]
       refine EV.regionG tabOK ?_ -- region 10
       simp (maxSteps := 2000000) -implicitDefEqProofs [k11, u11, hx6]
       have w6 : IntKind.i64.wrap ((j6 : Int) + 1) = (j6 : Int) + 1 := wrap_in _ (by omega) (by omega)
       refine ⟨⟨j6 + 1, by omega, e6⟩, by dsimp only; omega, ?_⟩
       try dsimp only
       refine Sub.cutF 3 (by simp) ?_ ?_ <;> simp [List.range_succ, toIdx_range, passed, k11, u11, hx6, w6]
     ·try simp at k11
      have d11 : p1.locals.drop j6 = [] := List.drop_eq_nil_of_le (by omega)
      rw [d11, mValid_l6] at e6
      refine EV.exit ?_
      simp -implicitDefEqProofs
      refine ⟨⟨((), ()), e6.symm⟩, ?_⟩
      try dsimp only
      refine Sub.cutF 3 (by simp) ?_ ?_ <;> simp [List.range_succ, toIdx_range, passed]
   ·skip
    rintro ⟨⟨v6, g6⟩, e6⟩
    simp only [thenK_normal, blockK_normal, scopeK_normal, bodyK_normal]
    replace e := run_on e e6
    try dsimp only at e
    refine EV.seq ?_
    refine EV.seq ?_
    refine EV.regionG tabOK ?_ -- region 11
    simp (maxSteps := 2000000) -implicitDefEqProofs
    obtain ⟨z12, e12, e⟩ := run_split e
    refine EV.nrm (fun v : { v : (Unit) × (Unit) // z12 = .go v.1 } => (fun (v12 : Unit) (g12 : Unit) => (⟨[J, J, J, J, J, J, J, J, J, J, J, J, J, J, J, J, J, J, J, J, J, J, J, J, J, J, J, J, J, J, J, J, J, J, J, J, J, J, J, J, J, J, J, J, J, J, J, J, J, J, J, J, J, J, J, J, J, J, J, J, J, J, J, J, J, J, J, J, J, J, J, J, J, J, J, J, J, J, J, J, J, J, J, J, J, J, J, J, J, J, J, J, J, J, J, J, J, J, J, J], []⟩ : St)) v.1.1 v.1.2) ?_ ?_
    ·skip
     refine EV.block ?_
     refine EV.loopB (fun x : { x : Nat // x ≤ p1.blocks.length ∧ mValid_l12 p0 p1 (p1.blocks.drop x) = z12 } => (fun (j12 : Nat) => (⟨[J, J, J, J, J, J, .ptr 2 0 0 0, J, J, J, J, J, J, J, J, J, J, J, J, J, J, J, J, J, J, J, J, J, J, J, J, J, J, J, J, J, J, J, J, J, J, J, J, J, J, J, J, J, J, J, J, J, J, J, J, J, J, J, J, J, J, J, J, J, J, J, J, J, J, J, J, J, J, J, J, J, .ro 17 (p1.blocks.map blockC), .i .i64 (p1.blocks.length : Int), .i .i64 (j12 : Int), J, J, J, J, J, J, J, J, J, J, J, J, J, J, J, J, J, J, J, J, J], [.arr 0 3 [[.ro 4 (p0.structs.map structC), .ro 3 (p0.enums.map enumC), .ro 4 (p0.fns.map fnC)]], .arr 0 4 [[.s p1.name, .i .i64 p1.params, .ro 4 (p1.locals.map localC), .ro 17 (p1.blocks.map blockC)]], .arr 0 7 [[.ro 4 (p0.structs.map structC), .ro 3 (p0.enums.map enumC), .ro 4 (p0.fns.map fnC), .s p1.name, .i .i64 p1.params, .ro 4 (p1.locals.map localC), .ro 17 (p1.blocks.map blockC)]]]⟩ : St)) x.1) (fun x => p1.blocks.length - x.1) ⟨0, Nat.zero_le _, e12⟩ ?_ ?_
     ·skip
      try dsimp only
      try dsimp only
      refine Sub.cutF 3 (by simp) ?_ ?_ <;> simp [List.range_succ, toIdx_range, passed]
     ·skip
      rintro ⟨j12, hi12, e12⟩
      simp only at hi12 e12 ⊢
      refine EV.seq ?_
      refine EV.regionG tabOK ?_ -- region 12
      simp (maxSteps := 2000000) -implicitDefEqProofs
      refine EV.seq ?_
      refine EV.room 76 (by rfl) (fun mj12 => ?_)
      simp at mj12
      refine EV.condT ?_
      simp -implicitDefEqProofs
      refine condT_intro (fun k13 => ?_) (fun k13 => ?_)
      ·try simp at k13
       have u13 : j12 < p1.blocks.length := by omega
       obtain ⟨x12, hx12⟩ : ∃ z, p1.blocks[j12] = z := ⟨_, rfl⟩
       have mx12 : x12 ∈ p1.blocks := by rw [← hx12]; exact List.getElem_mem _
       rw [List.drop_eq_getElem_cons u13, hx12, mValid_l12] at e12
       refine EV.skip ?_
       simp only [thenK_normal, blockK_normal, scopeK_normal]
       refine EV.seq ?_
       refine EV.block ?_
       refine EV.seq ?_
       refine EV.regionG tabOK ?_ -- region 13
       simp (maxSteps := 2000000) -implicitDefEqProofs [k13, u13, hx12]
       refine EV.seq ?_
       refine EV.seq ?_
       refine EV.regionG tabOK ?_ -- region 14
       simp (maxSteps := 2000000) -implicitDefEqProofs [k13, u13, hx12]
       obtain ⟨z15, e15, e12⟩ := bind_split e12
       refine EV.nrm (fun v : { v : (Unit) × (Unit) // z15 = .go v.1 } => (fun (v15 : Unit) (g15 : Unit) => (⟨[J, J, J, J, J, J, .ptr 2 0 0 0, J, J, J, .ptr 3 0 0 0, J, J, J, J, J, J, J, J, J, J, J, J, J, J, J, J, J, J, J, J, J, J, J, J, J, J, J, J, J, J, J, J, J, J, J, J, J, J, J, J, J, J, J, J, J, J, J, J, J, J, J, J, J, J, J, J, J, J, J, J, J, J, J, J, J, .ro 17 (p1.blocks.map blockC), .i .i64 (p1.blocks.length : Int), .i .i64 (j12 : Int), J, J, J, J, J, J, J, J, J, J, J, J, J, J, J, J, J, J, J, J, J], [.arr 0 3 [[.ro 4 (p0.structs.map structC), .ro 3 (p0.enums.map enumC), .ro 4 (p0.fns.map fnC)]], .arr 0 4 [[.s p1.name, .i .i64 p1.params, .ro 4 (p1.locals.map localC), .ro 17 (p1.blocks.map blockC)]], .arr 0 7 [[.ro 4 (p0.structs.map structC), .ro 3 (p0.enums.map enumC), .ro 4 (p0.fns.map fnC), .s p1.name, .i .i64 p1.params, .ro 4 (p1.locals.map localC), .ro 17 (p1.blocks.map blockC)]], .arr 0 17 [[.ro 15 (x12.ins.map inC), .i .i64 x12.end_.k, .i .i64 x12.end_.at_, .i .i64 x12.end_.s.local_, .ro 1 (x12.end_.s.path.map (fun z => [.i .i64 z])), .i .i64 x12.end_.v.k, .ro 5 (x12.end_.v.uses.map useC), .i .i64 x12.end_.v.s.local_, .ro 1 (x12.end_.v.s.path.map (fun z => [.i .i64 z])), .i .i64 x12.end_.v.which, .i .i64 x12.end_.v.tag, .b x12.end_.u.num, .i .i64 x12.end_.u.n, .b x12.end_.u.move, .i .i64 x12.end_.u.s.local_, .ro 1 (x12.end_.u.s.path.map (fun z => [.i .i64 z])), .ro 1 (x12.end_.to_.map (fun z => [.i .i64 z]))]]]⟩ : St)) v.1.1 v.1.2) ?_ ?_
       ·skip
        refine EV.block ?_
        refine EV.loopB (fun x : { x : Nat // x ≤ x12.ins.length ∧ mValid_l15 p0 p1 (x12.ins.drop x) = z15 } => (fun (j15 : Nat) => (⟨[J, J, J, J, J, J, .ptr 2 0 0 0, J, J, J, .ptr 3 0 0 0, J, J, J, J, J, J, J, J, J, J, J, J, J, J, J, J, J, J, J, J, J, J, J, J, J, J, J, J, J, J, J, J, J, J, J, J, J, J, J, J, J, J, J, J, J, J, J, J, J, J, J, J, J, J, J, J, J, J, J, J, J, J, J, J, J, .ro 17 (p1.blocks.map blockC), .i .i64 (p1.blocks.length : Int), .i .i64 (j12 : Int), J, J, J, J, .ro 15 (x12.ins.map inC), .i .i64 (x12.ins.length : Int), .i .i64 (j15 : Int), J, J, J, J, J, J, J, J, J, J, J, J, J, J], [.arr 0 3 [[.ro 4 (p0.structs.map structC), .ro 3 (p0.enums.map enumC), .ro 4 (p0.fns.map fnC)]], .arr 0 4 [[.s p1.name, .i .i64 p1.params, .ro 4 (p1.locals.map localC), .ro 17 (p1.blocks.map blockC)]], .arr 0 7 [[.ro 4 (p0.structs.map structC), .ro 3 (p0.enums.map enumC), .ro 4 (p0.fns.map fnC), .s p1.name, .i .i64 p1.params, .ro 4 (p1.locals.map localC), .ro 17 (p1.blocks.map blockC)]], .arr 0 17 [[.ro 15 (x12.ins.map inC), .i .i64 x12.end_.k, .i .i64 x12.end_.at_, .i .i64 x12.end_.s.local_, .ro 1 (x12.end_.s.path.map (fun z => [.i .i64 z])), .i .i64 x12.end_.v.k, .ro 5 (x12.end_.v.uses.map useC), .i .i64 x12.end_.v.s.local_, .ro 1 (x12.end_.v.s.path.map (fun z => [.i .i64 z])), .i .i64 x12.end_.v.which, .i .i64 x12.end_.v.tag, .b x12.end_.u.num, .i .i64 x12.end_.u.n, .b x12.end_.u.move, .i .i64 x12.end_.u.s.local_, .ro 1 (x12.end_.u.s.path.map (fun z => [.i .i64 z])), .ro 1 (x12.end_.to_.map (fun z => [.i .i64 z]))]]]⟩ : St)) x.1) (fun x => x12.ins.length - x.1) ⟨0, Nat.zero_le _, e15⟩ ?_ ?_
        ·skip
         try dsimp only
         try dsimp only
         refine Sub.cutF 4 (by simp) ?_ ?_ <;> simp [List.range_succ, toIdx_range, passed, k13, u13, hx12]
        ·skip
         rintro ⟨j15, hi15, e15⟩
         simp only at hi15 e15 ⊢
         refine EV.seq ?_
         refine EV.regionG tabOK ?_ -- region 15
         simp (maxSteps := 2000000) -implicitDefEqProofs [k13, u13, hx12]
         refine EV.seq ?_
         refine EV.room 83 (by rfl) (fun mj15 => ?_)
         simp at mj15
         refine EV.condT ?_
         simp -implicitDefEqProofs [k13, u13, hx12]
         refine condT_intro (fun k14 => ?_) (fun k14 => ?_)
         ·try simp at k14
          have u14 : j15 < x12.ins.length := by omega
          obtain ⟨x15, hx15⟩ : ∃ z, x12.ins[j15] = z := ⟨_, rfl⟩
          have mx15 : x15 ∈ x12.ins := by rw [← hx15]; exact List.getElem_mem _
          rw [List.drop_eq_getElem_cons u14, hx15, mValid_l15] at e15
          refine EV.skip ?_
          simp only [thenK_normal, blockK_normal, scopeK_normal]
          refine EV.seq ?_
          refine EV.block ?_
          refine EV.seq ?_
          refine EV.regionG tabOK ?_ -- region 16
          simp (maxSteps := 2000000) -implicitDefEqProofs [k13, u13, hx12, k14, u14, hx15]
          refine EV.seq ?_
          refine EV.regionG tabOK ?_ -- region 17
          simp (maxSteps := 2000000) -implicitDefEqProofs [k13, u13, hx12, k14, u14, hx15]
          refine callG_fun (w_mIn (MirBodyD.mk p0 p1) x15 hs) ?_ ?_
          ·first | (simp; done) | (simp [k13, u13, hx12, k14, u14, hx15]; done)
          simp (maxSteps := 2000000) -implicitDefEqProofs [k13, u13, hx12, k14, u14, hx15]
          refine EV.condT ?_
          simp -implicitDefEqProofs [k13, u13, hx12, k14, u14, hx15]
          refine condT_intro (fun k15 => ?_) (fun k15 => ?_)
          ·try simp at k15
           obtain ⟨f15, e15⟩ := pos_on2 e15 (by first | simpa using k15 | grind)
           try simp at f15
           refine EV.seq ?_
           refine EV.regionG tabOK ?_ -- region 18
           simp (maxSteps := 2000000) -implicitDefEqProofs [k13, u13, hx12, k14, u14, hx15]
           refine EV.ret ?_
           simp only [thenK_ret, blockK_ret, scopeK_ret, bodyK_ret]
           replace e12 := bind_back e12 e15
           replace e := run_back e e12
           subst e
           refine Fin.pure0 ?_
           first | (simp; done) | (simp <;> grind)
          ·try simp at k15
           obtain ⟨f15, e15⟩ := neg_on2 e15 (by first | simpa using k15 | grind)
           try simp at f15
           refine EV.skip ?_
           simp only [thenK_normal, blockK_normal, scopeK_normal]
           refine EV.regionG tabOK ?_ -- region 19
           simp (maxSteps := 2000000) -implicitDefEqProofs [k13, u13, hx12, k14, u14, hx15]
           have w15 : IntKind.i64.wrap ((j15 : Int) + 1) = (j15 : Int) + 1 := wrap_in _ (by omega) (by omega)
           refine ⟨⟨j15 + 1, by omega, e15⟩, by dsimp only; omega, ?_⟩
           try dsimp only
           refine Sub.cutF 4 (by simp) ?_ ?_ <;> simp [List.range_succ, toIdx_range, passed, k13, u13, hx12, k14, u14, hx15, w15]
         ·try simp at k14
          have d14 : x12.ins.drop j15 = [] := List.drop_eq_nil_of_le (by omega)
          rw [d14, mValid_l15] at e15
          refine EV.exit ?_
          simp -implicitDefEqProofs
          refine ⟨⟨((), ()), e15.symm⟩, ?_⟩
          try dsimp only
          refine Sub.cutF 4 (by simp) ?_ ?_ <;> simp [List.range_succ, toIdx_range, passed, k13, u13, hx12]
       ·skip
        rintro ⟨⟨v15, g15⟩, e15⟩
        simp only [thenK_normal, blockK_normal, scopeK_normal, bodyK_normal]
        replace e12 := bind_on e12 e15
        try dsimp only at e12
        refine EV.seq ?_
        refine EV.regionG tabOK ?_ -- region 20
        simp (maxSteps := 2000000) -implicitDefEqProofs [k13, u13, hx12]
        refine callG_fun (w_mTm (MirBodyD.mk p0 p1) x12.end_) ?_ ?_
        ·first | (simp; done) | (simp [k13, u13, hx12]; done)
        simp (maxSteps := 2000000) -implicitDefEqProofs [k13, u13, hx12]
        refine EV.condT ?_
        simp -implicitDefEqProofs [k13, u13, hx12]
        refine condT_intro (fun k16 => ?_) (fun k16 => ?_)
        ·try simp at k16
         obtain ⟨f16, e12⟩ := pos_on2 e12 (by first | simpa using k16 | grind)
         try simp at f16
         refine EV.seq ?_
         refine EV.regionG tabOK ?_ -- region 21
         simp (maxSteps := 2000000) -implicitDefEqProofs [k13, u13, hx12]
         refine EV.ret ?_
         simp only [thenK_ret, blockK_ret, scopeK_ret, bodyK_ret]
         replace e := run_back e e12
         subst e
         refine Fin.pure0 ?_
         first | (simp; done) | (simp <;> grind)
        ·try simp at k16
         obtain ⟨f16, e12⟩ := neg_on2 e12 (by first | simpa using k16 | grind)
         try simp at f16
         refine EV.skip ?_
         simp only [thenK_normal, blockK_normal, scopeK_normal]
         refine EV.regionG tabOK ?_ -- region 22
         simp (maxSteps := 2000000) -implicitDefEqProofs [k13, u13, hx12]
         have w12 : IntKind.i64.wrap ((j12 : Int) + 1) = (j12 : Int) + 1 := wrap_in _ (by omega) (by omega)
         refine ⟨⟨j12 + 1, by omega, e12⟩, by dsimp only; omega, ?_⟩
         try dsimp only
         refine Sub.cutF 3 (by simp) ?_ ?_ <;> simp [List.range_succ, toIdx_range, passed, k13, u13, hx12, w12]
      ·try simp at k13
       have d13 : p1.blocks.drop j12 = [] := List.drop_eq_nil_of_le (by omega)
       rw [d13, mValid_l12] at e12
       refine EV.exit ?_
       simp -implicitDefEqProofs
       refine ⟨⟨((), ()), e12.symm⟩, ?_⟩
       try dsimp only
       refine Sub.cutF 0 (by simp) ?_ ?_ <;> simp [List.range_succ, toIdx_range, passed]
    ·skip
     rintro ⟨⟨v12, g12⟩, e12⟩
     simp only [thenK_normal, blockK_normal, scopeK_normal, bodyK_normal]
     replace e := run_on e e12
     try dsimp only at e
     refine EV.seq ?_
     refine EV.regionG tabOK ?_ -- region 23
     simp (maxSteps := 2000000) -implicitDefEqProofs
     refine EV.ret ?_
     simp only [thenK_ret, blockK_ret, scopeK_ret, bodyK_ret]
     subst e
     refine Fin.pure0 ?_
     first | (simp; done) | (simp <;> grind)
end
end Go.Proofs.Tryd
end
