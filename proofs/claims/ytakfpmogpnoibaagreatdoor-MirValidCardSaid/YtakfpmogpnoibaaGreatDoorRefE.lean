/- The contract of the document's answer for a body. -/
import Derived.Test.YtakfpmogpnoibaaGreatDoorRefC
import Derived.Test.YtakfpmogpnoibaaGreatDoorRefD
set_option linter.unusedVariables false
set_option linter.unusedSimpArgs false
set_option linter.constructorNameAsVariable false
section
namespace Go.Proofs.Tryz
open Go Go.AM
attribute [local simp] wpG_op wpG_nil contG_some wpG_guard guardG_v guardG_o guardG_tup gval pureOp stepG_if isPick pickG_pick pickB_b pickOK isCall step_move step_assign step_alloc step_box boxV_some step_load step_store step_binOp step_unOp step_fieldAddr faV step_indexAddr ixA_slc ixA_arr step_extract extV_tup step_nilCheck ncV_ptr ncV_rp ncV_fn ncV_mp step_build buildV step_buildSlice bsV step_index ixV_arr ixV_str step_append apB step_makeSlice msV_i step_makeFunc over step_len step_makeMap mmV step_mapUpdate step_insert muA_map muB_mp step_lookup lkA_map lkB_mp step_slice slcV_s slcV_sl slcV_ro cutB_some slObV_arr bound_none bound_some bndV_i lenB_str lenB_ro lenB_sl lenB_nil lenB_z ld_ptr ld_rp offV_ptr offV_rp idxV_ro idxV_sl unV_not unV_neg binV_int binV_str binV_eqlb binV_neqb intOp strOp St.put updL setOb St.ev toV St.lk cellsOf AM.valOf TK.agg stv fillV places TI.zero condT_true condT_false finS resL resSlot packV ren ren1 ren0 Value.cells builtinV appendV elemsOf keepT room_of wrap_in toIdx passed Function.comp_def take_len_map lenV touchOf hid tab1 tab2 tab3 tab4 tab5 tab6 tab7 tab8 tab9 tab10 tab11 tab12 tab13 tab14 tab15 tab16 tab17 tab18 tab19 tab20 tab21 tab22 tab23 tab24 tab25 tab26 tab27 tab28 tab29 tab30 tab31 tab32 tab33 tab34 tab35 tab36 tab37 tab38 tab39 tab40 tab41 tab42 tab43 tab44 tab45 tab46 tab47 tab48 tab49 tab50 tab51 tab52 tab53 tab54 tab55 tab56 tab57 tab58 tab59 tab60 tab61 tab62 tab63 tab64 tab65 tab66 tab67 tab68 tab69 tab70 tab71 tab73 tab74 tab76 tab77 tab78 tab79 tab80 tab81 tab82 tab83 tab84 tab85 tab86 tab87 tab88 tab89 tab90 tab91 tab92 tab93 tab94 tab95 tab96 tab97 tab98 tab99 tab100 tab101 tab102 tab103 tab104 tab105 tab106 tab107 tab108 tab109 tab110 tab111 tab112 tab113 tab114 tab115 tab116 tab117 tab118 tab119 tab120 tab121 tab122 tab123 tab124 tab125 tab126 tab127 tab128 tab129 tab130 tab131 tab132 tab133 tab134 tab135 tab136 tab137 tab138 tab139 tab140 tab141 tab142 tab143 tab144 tab145 tab146 tab147 tab148 tab149 tab150 tab151 tab152 tab153 tab154 tab155 tab156 tab157 tab158 tab159 tab160 tab161 tab162 tab163 tab164 tab165 tab166 tab167 tab168 tab169 tab170 tab171 tab172 tab173 tab174 tab175 tab176 tab177 tab178 tab179 tab180 tab181 tab182 tab184 tab185 tab186 tab187 tab188 tab189 tab190 tab191 tab192 tab193 tab194 tab195 tab196 tab197 tab199 tab200 tab201 tab202 tab203 tab205 tab206 tab208 tab209 tab210 tab211 tab212 tab213 tab214 tab215 tab216 tab217 tab218 tab219 tab220 tab221 tab222 tab223 tab224 tab225 tab227 tab228 tab229 tab230 tab231 tab232 tab233 tab234 tab235 tab236 tab237 tab238 tab239 tab240 tab241 tab243 tab244 tab246 tab247 tab249 tab250 tab251 tab252 tab253 tab254 tab255 tab257 tab258 tab259 tab260 tab261 tab262 tab263 tab264 tab265 tab266 tab267 tab268 tab272 tab273 tab274 tab275 tab276 tab277 tab278 armC_eq blockC_eq bodyC_eq enumC_eq fieldC_eq fnC_eq inC_eq localC_eq mirBodyC_eq operC_eq placeC_eq rvC_eq sourceC_eq spotC_eq stepC_eq stmtC_eq structC_eq tmC_eq tyC_eq useC_eq valueC_eq variantC_eq cutL_nil cutL_junk cutL_cons ren_arr ren_gone ren_unborn ren_var ren_row step_convert cvV_i cvV_sl cvV_s cvK_slc cvE_u8 bytesOf bor1 bor2 bor3 bor4
set_option linter.unusedSimpArgs false
set_option linter.unusedVariables false
set_option maxRecDepth 10000
set_option maxHeartbeats 4000000
noncomputable section
def rMirValid_l12  : List TyD → Ctl (Bool) (Unit)
 | [] => .go ()
 | x12 :: xs12 => (if (rHolds x12) = true then .ret false else rMirValid_l12 xs12)
def rMirValid_l5 (p0 : SourceD) : List LocalD → Ctl (Bool) (Unit)
 | [] => .go ()
 | x5 :: xs5 => (if (¬ ((rResolve p0 x5.ty).2 = 0)) ∨ (¬ ((rSameTy ((rResolve p0 x5.ty).1) x5.ty) = true)) then .ret false else (Ctl.bind (rMirValid_l12 (((rResolve p0 x5.ty).1).l)) fun (v12 : Unit) => rMirValid_l5 p0 xs5))
def rMirValid_l20 (p0 : SourceD) (p1 : BodyD) : List InD → Ctl (Bool) (Unit)
 | [] => .go ()
 | x20 :: xs20 => (if ¬ ((rValidIn p0 p1 x20) = true) then .ret false else rMirValid_l20 p0 p1 xs20)
def rMirValid_l17 (p0 : SourceD) (p1 : BodyD) : List BlockD → Ctl (Bool) (Unit)
 | [] => .go ()
 | x17 :: xs17 => (Ctl.bind (rMirValid_l20 p0 p1 x17.ins) fun (v20 : Unit) => (if ¬ ((rValidTm p0 p1 x17.end_) = true) then .ret false else rMirValid_l17 p0 p1 xs17))
def rMirValid (p0 : SourceD) (p1 : BodyD) : Bool :=
 (bnd (p1.locals.getD (((IntKind.i64.wrap ((p1.locals.length : Int) - 1))).toNat) default) fun (y2_29 : LocalD) => (if (((((((p1.blocks.length : Int) = 0) ∨ ((p1.locals.length : Int) < 1)) ∨ (201 < (p1.locals.length : Int))) ∨ (p1.params < 0)) ∨ ((IntKind.i64.wrap ((p1.locals.length : Int) - 1)) < p1.params)) ∨ (¬ (y2_29.name = ([] : List UInt8)))) ∨ (¬ (y2_29.ty.k = 1)) then false else (Ctl.run (rMirValid_l5 p0 p1.locals) fun (v5 : Unit) => (Ctl.run (rMirValid_l17 p0 p1 p1.blocks) fun (v17 : Unit) => true))))
set_option maxHeartbeats 40000000 in
theorem w_rMirValid (p0 : SourceD) (p1 : BodyD) (hs : SrcOK p0) : QC prog 23 [.agg [.ro 4 (p0.structs.map structC), .ro 3 (p0.enums.map enumC), .ro 4 (p0.fns.map fnC)], .agg [.s p1.name, .i .i64 p1.params, .ro 4 (p1.locals.map localC), .ro 17 (p1.blocks.map blockC)]] [] (.b (rMirValid p0 p1)) [] := by
 refine QC.of_body tabOK func23 rfl (by kernel_rfl) ?_
 simp only [f23]
 generalize e : rMirValid p0 p1 = R
 unfold rMirValid at e
 refine EV.seq ?_
 refine EV.regionG tabOK ?_ -- region 0
 simp (maxSteps := 2000000) -implicitDefEqProofs
 refine EV.seq ?_
 refine EV.regionG tabOK ?_ -- region 1
 simp (maxSteps := 2000000) -implicitDefEqProofs
 refine EV.seq ?_
 refine EV.seq ?_
 obtain ⟨y2_29, gy2_29⟩ : ∃ z, (p1.locals.getD (((IntKind.i64.wrap ((p1.locals.length : Int) - 1))).toNat) default) = z := ⟨_, rfl⟩
 replace e := bnd_on e gy2_29
 try dsimp only at e
 refine EV.nrm (fun _ : Unit => (⟨[J, J, .ptr 0 0 0 0, .ptr 1 0 0 0, J, .i .i64 (p1.locals.length : Int), J, J, J, J, J, J, J, J, J, J, J, J, J, J, J, J, J, J, J, J, J, J, J, J, J, J, J, J, J, J, J, J, J, J, J, J, J, J, J, J, J, J, J, J, J, J, J, J, J, J, J, J, J, J, J, J, .b (((((((decide ((p1.blocks.length : Int) = 0)) || (decide ((p1.locals.length : Int) < 1))) || (decide (201 < (p1.locals.length : Int)))) || (decide (p1.params < 0))) || (decide ((IntKind.i64.wrap ((p1.locals.length : Int) - 1)) < p1.params))) || (!(decide (y2_29.name = ([] : List UInt8))))) || (!(decide (y2_29.ty.k = 1)))), J, J, J, J, J, J, J, J, J, J, J, J, J, J, J, J, J, J, J, J, J, J, J, J, J, J, J, J, J, J, J, J, J, J, J, J, J, J, J, J, J, J, J, J, J, J, J, J, J, J, J, J, J, J, J, J, J, J, J, J, J, J, J, J, J, J, J, J, J, J, J, J, J, J, J, J, J, J, J, J, J, J, J, J, J, J], [.arr 0 3 [[.ro 4 (p0.structs.map structC), .ro 3 (p0.enums.map enumC), .ro 4 (p0.fns.map fnC)]], .arr 0 4 [[.s p1.name, .i .i64 p1.params, .ro 4 (p1.locals.map localC), .ro 17 (p1.blocks.map blockC)]]]⟩ : St)) ?_ ?_
 ·skip
  by_cases k2 : (p1.blocks.length : Int) = 0
  ·skip
   have kk2 := k2
   try simp at kk2
   refine EV.regionG tabOK ?_ -- region 2
   simp (maxSteps := 2000000) -implicitDefEqProofs +contextual [k2, kk2]
   refine ⟨(), ?_⟩
   try dsimp only
   refine Sub.cutF 2 (by simp) ?_ ?_ <;> simp [List.range_succ, toIdx_range, passed, k2, kk2]
  ·skip
   have kk2 := k2
   try simp at kk2
   by_cases k3 : (p1.locals.length : Int) < 1
   ·skip
    have kk3 := k3
    try simp at kk3
    refine EV.regionG tabOK ?_ -- region 2
    simp (maxSteps := 2000000) -implicitDefEqProofs +contextual [k2, kk2, k3, kk3]
    refine ⟨(), ?_⟩
    try dsimp only
    refine Sub.cutF 2 (by simp) ?_ ?_ <;> simp [List.range_succ, toIdx_range, passed, k2, kk2, k3, kk3]
   ·skip
    have kk3 := k3
    try simp at kk3
    by_cases k4 : 201 < (p1.locals.length : Int)
    ·skip
     have kk4 := k4
     try simp at kk4
     refine EV.regionG tabOK ?_ -- region 2
     simp (maxSteps := 2000000) -implicitDefEqProofs +contextual [k2, kk2, k3, kk3, k4, kk4]
     refine ⟨(), ?_⟩
     try dsimp only
     refine Sub.cutF 2 (by simp) ?_ ?_ <;> simp [List.range_succ, toIdx_range, passed, k2, kk2, k3, kk3, k4, kk4]
    ·skip
     have kk4 := k4
     try simp at kk4
     by_cases k5 : p1.params < 0
     ·skip
      have kk5 := k5
      try simp at kk5
      refine EV.regionG tabOK ?_ -- region 2
      simp (maxSteps := 2000000) -implicitDefEqProofs +contextual [k2, kk2, k3, kk3, k4, kk4, k5, kk5]
      refine ⟨(), ?_⟩
      try dsimp only
      refine Sub.cutF 2 (by simp) ?_ ?_ <;> simp [List.range_succ, toIdx_range, passed, k2, kk2, k3, kk3, k4, kk4, k5, kk5]
     ·skip
      have kk5 := k5
      try simp at kk5
      by_cases k6 : (IntKind.i64.wrap ((p1.locals.length : Int) - 1)) < p1.params
      ·skip
       have kk6 := k6
       try simp at kk6
       refine EV.regionG tabOK ?_ -- region 2
       simp (maxSteps := 2000000) -implicitDefEqProofs +contextual [k2, kk2, k3, kk3, k4, kk4, k5, kk5, k6, kk6]
       refine ⟨(), ?_⟩
       try dsimp only
       refine Sub.cutF 2 (by simp) ?_ ?_ <;> simp [List.range_succ, toIdx_range, passed, k2, kk2, k3, kk3, k4, kk4, k5, kk5, k6, kk6]
      ·skip
       have kk6 := k6
       try simp at kk6
       by_cases k7 : y2_29.name = ([] : List UInt8)
       ·skip
        have kk7 := k7
        try simp at kk7
        have b8 : 0 ≤ (IntKind.i64.wrap ((p1.locals.length : Int) - 1)) ∧ (IntKind.i64.wrap ((p1.locals.length : Int) - 1)) < (p1.locals.length : Int) := by (first | omega | (rw [IntKind.wrap_i64]; omega))
        have c8 : ((IntKind.i64.wrap ((p1.locals.length : Int) - 1))).toNat < p1.locals.length := by omega
        have hy2_29 : p1.locals[((IntKind.i64.wrap ((p1.locals.length : Int) - 1))).toNat] = y2_29 := by rw [← gy2_29, List.getD_eq_getElem?_getD, List.getElem?_eq_getElem c8]; rfl
        have my2_29 : y2_29 ∈ p1.locals := by rw [← hy2_29]; exact List.getElem_mem _
        refine EV.regionG tabOK ?_ -- region 2
        simp (maxSteps := 2000000) -implicitDefEqProofs +contextual [k2, kk2, k3, kk3, k4, kk4, k5, kk5, k6, kk6, k7, kk7, b8, c8, hy2_29]
        refine ⟨(), ?_⟩
        try dsimp only
        refine Sub.cutF 2 (by simp) ?_ ?_ <;> simp [List.range_succ, toIdx_range, passed, k2, kk2, k3, kk3, k4, kk4, k5, kk5, k6, kk6, k7, kk7, b8, c8, hy2_29]
       ·skip
        have kk7 := k7
        try simp at kk7
        have b9 : 0 ≤ (IntKind.i64.wrap ((p1.locals.length : Int) - 1)) ∧ (IntKind.i64.wrap ((p1.locals.length : Int) - 1)) < (p1.locals.length : Int) := by (first | omega | (rw [IntKind.wrap_i64]; omega))
        have c9 : ((IntKind.i64.wrap ((p1.locals.length : Int) - 1))).toNat < p1.locals.length := by omega
        have hy2_29 : p1.locals[((IntKind.i64.wrap ((p1.locals.length : Int) - 1))).toNat] = y2_29 := by rw [← gy2_29, List.getD_eq_getElem?_getD, List.getElem?_eq_getElem c9]; rfl
        have my2_29 : y2_29 ∈ p1.locals := by rw [← hy2_29]; exact List.getElem_mem _
        refine EV.regionG tabOK ?_ -- region 2
        simp (maxSteps := 2000000) -implicitDefEqProofs +contextual [k2, kk2, k3, kk3, k4, kk4, k5, kk5, k6, kk6, k7, kk7, b9, c9, hy2_29]
        refine ⟨(), ?_⟩
        try dsimp only
        refine Sub.cutF 2 (by simp) ?_ ?_ <;> simp [List.range_succ, toIdx_range, passed, k2, kk2, k3, kk3, k4, kk4, k5, kk5, k6, kk6, k7, kk7, b9, c9, hy2_29]
 ·skip
  rintro _
  simp only [thenK_normal, blockK_normal, scopeK_normal, bodyK_normal]
  refine EV.condT ?_
  simp -implicitDefEqProofs
  refine condT_intro (fun k10 => ?_) (fun k10 => ?_)
  ·try simp at k10
   obtain ⟨f10, e⟩ := pos_on2 e (by first | simpa using k10 | grind)
   try simp at f10
   refine EV.seq ?_
   refine EV.regionG tabOK ?_ -- region 3
   simp (maxSteps := 2000000) -implicitDefEqProofs
   refine EV.ret ?_
   simp only [thenK_ret, blockK_ret, scopeK_ret, bodyK_ret]
   subst e
   refine Fin.pure0 ?_
   first | (simp; done) | (simp <;> grind)
  ·try simp at k10
   obtain ⟨f10, e⟩ := neg_on2 e (by first | simpa using k10 | grind)
   try simp at f10
   refine EV.skip ?_
   simp only [thenK_normal, blockK_normal, scopeK_normal]
   refine EV.seq ?_
   refine EV.seq ?_
   refine EV.regionG tabOK ?_ -- region 4
   simp (maxSteps := 2000000) -implicitDefEqProofs
   obtain ⟨z5, e5, e⟩ := run_split e
   refine EV.nrm (fun v : { v : (Unit) × (Unit) // z5 = .go v.1 } => (fun (v5 : Unit) (g5 : Unit) => (⟨[J, J, .ptr 0 0 0 0, .ptr 1 0 0 0, J, J, J, J, J, J, J, J, J, J, J, J, J, J, J, J, J, J, J, J, J, J, J, J, J, J, J, J, J, J, J, J, J, J, J, J, J, J, J, J, J, J, J, J, J, J, J, J, J, J, J, J, J, J, J, J, J, J, J, J, J, J, J, J, J, J, J, J, J, J, J, J, J, J, J, J, J, J, J, J, J, J, J, J, J, J, J, J, J, J, J, J, J, J, J, J, J, J, J, J, J, J, J, J, J, J, J, J, J, J, J, J, J, J, J, J, J, J, J, J, J, J, J, J, J, J, J, J, J, J, J, J, J, J, J, J, J, J, J, J, J, J, J, J, J], [.arr 0 3 [[.ro 4 (p0.structs.map structC), .ro 3 (p0.enums.map enumC), .ro 4 (p0.fns.map fnC)]], .arr 0 4 [[.s p1.name, .i .i64 p1.params, .ro 4 (p1.locals.map localC), .ro 17 (p1.blocks.map blockC)]]]⟩ : St)) v.1.1 v.1.2) ?_ ?_
   ·skip
    refine EV.block ?_
    refine EV.loopB (fun x : { x : Nat // x ≤ p1.locals.length ∧ rMirValid_l5 p0 (p1.locals.drop x) = z5 } => (fun (j5 : Nat) => (⟨[J, J, .ptr 0 0 0 0, .ptr 1 0 0 0, J, .i .i64 (p1.locals.length : Int), .i .i64 (j5 : Int), J, J, J, J, J, J, J, J, J, J, J, J, J, J, J, J, J, J, J, J, J, J, J, J, J, J, J, J, J, J, J, J, J, J, J, J, J, J, J, J, J, J, J, J, J, J, J, J, J, J, J, J, J, J, J, J, J, J, J, J, J, J, J, J, J, J, J, J, J, J, J, J, J, J, J, J, J, J, J, J, J, J, J, J, J, J, J, J, J, J, J, J, J, J, J, J, J, J, J, J, J, J, J, J, J, J, J, J, J, J, J, J, J, J, J, J, J, J, J, J, J, J, J, J, J, J, J, J, J, J, J, J, J, J, J, J, J, J, J, J, J, J], [.arr 0 3 [[.ro 4 (p0.structs.map structC), .ro 3 (p0.enums.map enumC), .ro 4 (p0.fns.map fnC)]], .arr 0 4 [[.s p1.name, .i .i64 p1.params, .ro 4 (p1.locals.map localC), .ro 17 (p1.blocks.map blockC)]]]⟩ : St)) x.1) (fun x => p1.locals.length - x.1) ⟨0, Nat.zero_le _, e5⟩ ?_ ?_
    ·skip
     try dsimp only
     try dsimp only
     refine Sub.cutF 2 (by simp) ?_ ?_ <;> simp [List.range_succ, toIdx_range, passed]
    ·skip
     rintro ⟨j5, hi5, e5⟩
     simp only at hi5 e5 ⊢
     refine EV.seq ?_
     refine EV.seq ?_
     refine EV.regionG tabOK ?_ -- region 5
     simp (maxSteps := 2000000) -implicitDefEqProofs
     refine EV.condT ?_
     simp -implicitDefEqProofs
     refine condT_intro (fun k11 => ?_) (fun k11 => ?_)
     ·try simp at k11
      have u11 : j5 < p1.locals.length := by omega
      obtain ⟨x5, hx5⟩ : ∃ z, p1.locals[j5] = z := ⟨_, rfl⟩
      have mx5 : x5 ∈ p1.locals := by rw [← hx5]; exact List.getElem_mem _
      rw [List.drop_eq_getElem_cons u11, hx5, rMirValid_l5] at e5
      refine EV.skip ?_
      simp only [thenK_normal, blockK_normal, scopeK_normal]
      refine EV.seq ?_
      refine EV.block ?_
      refine EV.seq ?_
      refine EV.drawG tabOK mixedOK ?_ -- region 7
      simp (maxSteps := 2000000) -implicitDefEqProofs [k11, u11, hx5]
      refine callG_fun (w_rResolve p0 x5.ty) ?_ ?_
      ·first | (simp; done) | (simp [k11, u11, hx5]; done)
      simp (maxSteps := 2000000) -implicitDefEqProofs [k11, u11, hx5]
      refine And.intro ?_ ?_
      ·first | decide +kernel | (simp -implicitDefEqProofs; decide +kernel) | (split <;> decide +kernel)
      try simp -implicitDefEqProofs
      refine EV.seq ?_
      refine EV.drawG tabOK mixedOK ?_ -- region 8
      simp (maxSteps := 2000000) -implicitDefEqProofs [k11, u11, hx5]
      refine callG_fun (w_rSameTy ((rResolve p0 x5.ty).1) x5.ty) ?_ ?_
      ·first | (simp; done) | (simp [k11, u11, hx5]; done)
      simp (maxSteps := 2000000) -implicitDefEqProofs [k11, u11, hx5]
      refine And.intro ?_ ?_
      ·first | decide +kernel | (simp -implicitDefEqProofs; decide +kernel) | (split <;> decide +kernel)
      try simp -implicitDefEqProofs
      refine EV.seq ?_
      refine EV.seq ?_
      refine EV.regionG tabOK ?_ -- region 9
      simp (maxSteps := 2000000) -implicitDefEqProofs +contextual [k11, u11, hx5]
      refine EV.condT ?_
      simp -implicitDefEqProofs [k11, u11, hx5]
      refine condT_intro (fun k12 => ?_) (fun k12 => ?_)
      ·try simp at k12
       obtain ⟨f12, e5⟩ := pos_on2 e5 (by first | simpa using k12 | grind)
       try simp at f12
       refine EV.seq ?_
       refine EV.regionG tabOK ?_ -- region 10
       simp (maxSteps := 2000000) -implicitDefEqProofs [k11, u11, hx5]
       refine EV.ret ?_
       simp only [thenK_ret, blockK_ret, scopeK_ret, bodyK_ret]
       replace e := run_back e e5
       subst e
       refine Fin.pure0 ?_
       first | (simp; done) | (simp <;> grind)
      ·try simp at k12
       obtain ⟨f12, e5⟩ := neg_on2 e5 (by first | simpa using k12 | grind)
       try simp at f12
       refine EV.skip ?_
       simp only [thenK_normal, blockK_normal, scopeK_normal]
       refine EV.seq ?_
       refine EV.regionG tabOK ?_ -- region 11
       simp (maxSteps := 2000000) -implicitDefEqProofs [k11, u11, hx5]
       obtain ⟨z12, e12, e5⟩ := bind_split e5
       refine EV.nrm (fun v : { v : (Unit) × (Unit) // z12 = .go v.1 } => (fun (v12 : Unit) (g12 : Unit) => (⟨[J, J, .ptr 0 0 0 0, .ptr 1 0 0 0, J, .i .i64 (p1.locals.length : Int), .i .i64 (j5 : Int), J, J, J, J, J, J, J, J, J, J, J, J, J, J, J, J, J, J, J, J, J, J, J, J, J, J, J, J, J, J, J, J, J, J, J, J, J, J, J, J, J, J, J, J, J, J, J, J, J, J, J, J, J, J, J, J, J, J, J, J, J, J, J, J, J, J, J, J, J, J, J, J, J, J, J, J, J, J, J, J, J, J, J, J, J, J, J, J, J, J, J, J, J, J, J, J, J, J, J, J, J, J, J, J, J, J, J, J, J, J, J, J, J, J, J, J, J, J, J, J, J, J, J, J, J, J, J, J, J, J, J, J, J, J, J, J, J, J, J, J, J, J], [.arr 0 3 [[.ro 4 (p0.structs.map structC), .ro 3 (p0.enums.map enumC), .ro 4 (p0.fns.map fnC)]], .arr 0 4 [[.s p1.name, .i .i64 p1.params, .ro 4 (p1.locals.map localC), .ro 17 (p1.blocks.map blockC)]]]⟩ : St)) v.1.1 v.1.2) ?_ ?_
       ·skip
        refine EV.block ?_
        refine EV.loopB (fun x : { x : Nat // x ≤ (((rResolve p0 x5.ty).1).l).length ∧ rMirValid_l12 ((((rResolve p0 x5.ty).1).l).drop x) = z12 } => (fun (j12 : Nat) => (⟨[J, J, .ptr 0 0 0 0, .ptr 1 0 0 0, J, .i .i64 (p1.locals.length : Int), .i .i64 (j5 : Int), .ptr 2 0 0 0, J, J, .i .i64 (j12 : Int), J, J, J, J, J, J, J, J, J, J, J, J, J, J, J, J, J, J, J, J, J, J, J, J, J, J, J, J, J, J, J, J, J, J, J, J, J, J, J, J, J, J, J, J, J, J, J, J, J, J, J, J, J, J, J, J, J, J, J, J, J, J, J, J, J, J, J, J, J, J, J, J, J, J, J, J, J, J, J, J, J, J, J, J, J, J, J, J, J, J, J, J, J, J, J, J, J, J, J, J, J, J, J, J, J, J, J, J, J, J, J, J, J, J, J, J, J, J, J, J, J, J, J, J, J, J, J, J, J, J, J, J, J, J, J, J, J, J], [.arr 0 3 [[.ro 4 (p0.structs.map structC), .ro 3 (p0.enums.map enumC), .ro 4 (p0.fns.map fnC)]], .arr 0 4 [[.s p1.name, .i .i64 p1.params, .ro 4 (p1.locals.map localC), .ro 17 (p1.blocks.map blockC)]], .arr 0 3 [[.i .i64 (((rResolve p0 x5.ty).1).k), .s (((rResolve p0 x5.ty).1).name), .ro 3 ((((rResolve p0 x5.ty).1).l).map tyC)]]]⟩ : St)) x.1) (fun x => (((rResolve p0 x5.ty).1).l).length - x.1) ⟨0, Nat.zero_le _, e12⟩ ?_ ?_
        ·skip
         try dsimp only
         try dsimp only
         refine Sub.cutF 3 (by simp) ?_ ?_ <;> simp [List.range_succ, toIdx_range, passed, k11, u11, hx5]
        ·skip
         rintro ⟨j12, hi12, e12⟩
         simp only at hi12 e12 ⊢
         refine EV.seq ?_
         refine EV.seq ?_
         refine EV.regionG tabOK ?_ -- region 12
         simp (maxSteps := 2000000) -implicitDefEqProofs [k11, u11, hx5]
         refine EV.room 95 (by rfl) (fun mj12 => ?_)
         simp at mj12
         refine EV.condT ?_
         simp -implicitDefEqProofs [k11, u11, hx5]
         refine condT_intro (fun k13 => ?_) (fun k13 => ?_)
         ·try simp at k13
          have u13 : j12 < (((rResolve p0 x5.ty).1).l).length := by omega
          obtain ⟨x12, hx12⟩ : ∃ z, (((rResolve p0 x5.ty).1).l)[j12] = z := ⟨_, rfl⟩
          have mx12 : x12 ∈ (((rResolve p0 x5.ty).1).l) := by rw [← hx12]; exact List.getElem_mem _
          rw [List.drop_eq_getElem_cons u13, hx12, rMirValid_l12] at e12
          refine EV.skip ?_
          simp only [thenK_normal, blockK_normal, scopeK_normal]
          refine EV.seq ?_
          refine EV.block ?_
          refine EV.seq ?_
          refine EV.regionG tabOK ?_ -- region 14
          simp (maxSteps := 2000000) -implicitDefEqProofs [k11, u11, hx5, k13, u13, hx12]
          refine callG_fun (w_rHolds x12) ?_ ?_
          ·first | (simp; done) | (simp [k11, u11, hx5, k13, u13, hx12]; done)
          simp (maxSteps := 2000000) -implicitDefEqProofs [k11, u11, hx5, k13, u13, hx12]
          refine EV.condT ?_
          simp -implicitDefEqProofs [k11, u11, hx5, k13, u13, hx12]
          refine condT_intro (fun k14 => ?_) (fun k14 => ?_)
          ·try simp at k14
           obtain ⟨f14, e12⟩ := pos_on2 e12 (by first | simpa using k14 | grind)
           try simp at f14
           refine EV.seq ?_
           refine EV.regionG tabOK ?_ -- region 15
           simp (maxSteps := 2000000) -implicitDefEqProofs [k11, u11, hx5, k13, u13, hx12]
           refine EV.ret ?_
           simp only [thenK_ret, blockK_ret, scopeK_ret, bodyK_ret]
           replace e5 := bind_back e5 e12
           replace e := run_back e e5
           subst e
           refine Fin.pure0 ?_
           first | (simp; done) | (simp <;> grind)
          ·try simp at k14
           obtain ⟨f14, e12⟩ := neg_on2 e12 (by first | simpa using k14 | grind)
           try simp at f14
           refine EV.skip ?_
           simp only [thenK_normal, blockK_normal, scopeK_normal]
           refine EV.regionG tabOK ?_ -- region 13
           simp (maxSteps := 2000000) -implicitDefEqProofs [k11, u11, hx5, k13, u13, hx12]
           have w12 : IntKind.i64.wrap ((j12 : Int) + 1) = (j12 : Int) + 1 := wrap_in _ (by omega) (by omega)
           refine ⟨⟨j12 + 1, by omega, e12⟩, by dsimp only; omega, ?_⟩
           try dsimp only
           refine Sub.cutF 3 (by simp) ?_ ?_ <;> simp [List.range_succ, toIdx_range, passed, k11, u11, hx5, k13, u13, hx12, w12]
         ·try simp at k13
          have d13 : (((rResolve p0 x5.ty).1).l).drop j12 = [] := List.drop_eq_nil_of_le (by omega)
          rw [d13, rMirValid_l12] at e12
          refine EV.exit ?_
          simp -implicitDefEqProofs
          refine ⟨⟨((), ()), e12.symm⟩, ?_⟩
          try dsimp only
          refine Sub.cutF 2 (by simp) ?_ ?_ <;> simp [List.range_succ, toIdx_range, passed, k11, u11, hx5]
       ·skip
        rintro ⟨⟨v12, g12⟩, e12⟩
        simp only [thenK_normal, blockK_normal, scopeK_normal, bodyK_normal]
        replace e5 := bind_on e5 e12
        try dsimp only at e5
        refine EV.regionG tabOK ?_ -- region 6
        simp (maxSteps := 2000000) -implicitDefEqProofs [k11, u11, hx5]
        have w5 : IntKind.i64.wrap ((j5 : Int) + 1) = (j5 : Int) + 1 := wrap_in _ (by omega) (by omega)
        refine ⟨⟨j5 + 1, by omega, e5⟩, by dsimp only; omega, ?_⟩
        try dsimp only
        refine Sub.cutF 2 (by simp) ?_ ?_ <;> simp [List.range_succ, toIdx_range, passed, k11, u11, hx5, w5]
     ·try simp at k11
      have d11 : p1.locals.drop j5 = [] := List.drop_eq_nil_of_le (by omega)
      rw [d11, rMirValid_l5] at e5
      refine EV.exit ?_
      simp -implicitDefEqProofs
      refine ⟨⟨((), ()), e5.symm⟩, ?_⟩
      try dsimp only
      refine Sub.cutF 2 (by simp) ?_ ?_ <;> simp [List.range_succ, toIdx_range, passed]
   ·skip
    rintro ⟨⟨v5, g5⟩, e5⟩
    simp only [thenK_normal, blockK_normal, scopeK_normal, bodyK_normal]
    replace e := run_on e e5
    try dsimp only at e
    refine EV.seq ?_
    refine EV.seq ?_
    refine EV.regionG tabOK ?_ -- region 16
    simp (maxSteps := 2000000) -implicitDefEqProofs
    obtain ⟨z17, e17, e⟩ := run_split e
    refine EV.nrm (fun v : { v : (Unit) × (Unit) // z17 = .go v.1 } => (fun (v17 : Unit) (g17 : Unit) => (⟨[J, J, J, J, J, J, J, J, J, J, J, J, J, J, J, J, J, J, J, J, J, J, J, J, J, J, J, J, J, J, J, J, J, J, J, J, J, J, J, J, J, J, J, J, J, J, J, J, J, J, J, J, J, J, J, J, J, J, J, J, J, J, J, J, J, J, J, J, J, J, J, J, J, J, J, J, J, J, J, J, J, J, J, J, J, J, J, J, J, J, J, J, J, J, J, J, J, J, J, J, J, J, J, J, J, J, J, J, J, J, J, J, J, J, J, J, J, J, J, J, J, J, J, J, J, J, J, J, J, J, J, J, J, J, J, J, J, J, J, J, J, J, J, J, J, J, J, J, J], []⟩ : St)) v.1.1 v.1.2) ?_ ?_
    ·skip
     refine EV.block ?_
     refine EV.loopB (fun x : { x : Nat // x ≤ p1.blocks.length ∧ rMirValid_l17 p0 p1 (p1.blocks.drop x) = z17 } => (fun (j17 : Nat) => (⟨[J, J, .ptr 0 0 0 0, .ptr 1 0 0 0, J, J, J, J, J, J, J, .i .i64 (j17 : Int), J, J, J, J, J, J, J, J, J, J, J, J, J, J, J, J, J, J, J, J, J, J, J, J, J, J, J, J, J, J, J, J, J, J, J, J, J, J, J, J, J, J, J, J, J, J, J, J, J, J, J, J, J, J, J, J, J, J, J, J, J, J, J, J, J, J, J, J, J, J, J, J, J, J, J, J, J, J, J, J, J, J, J, J, J, J, J, J, J, J, J, J, J, J, J, J, J, J, J, J, J, J, J, J, J, J, J, J, J, J, J, J, J, J, J, J, J, J, J, J, J, J, J, J, J, J, J, J, J, J, J, J, J, J, J, J, J], [.arr 0 3 [[.ro 4 (p0.structs.map structC), .ro 3 (p0.enums.map enumC), .ro 4 (p0.fns.map fnC)]], .arr 0 4 [[.s p1.name, .i .i64 p1.params, .ro 4 (p1.locals.map localC), .ro 17 (p1.blocks.map blockC)]]]⟩ : St)) x.1) (fun x => p1.blocks.length - x.1) ⟨0, Nat.zero_le _, e17⟩ ?_ ?_
     ·skip
      try dsimp only
      try dsimp only
      refine Sub.cutF 2 (by simp) ?_ ?_ <;> simp [List.range_succ, toIdx_range, passed]
     ·skip
      rintro ⟨j17, hi17, e17⟩
      simp only at hi17 e17 ⊢
      refine EV.seq ?_
      refine EV.seq ?_
      refine EV.regionG tabOK ?_ -- region 17
      simp (maxSteps := 2000000) -implicitDefEqProofs
      refine EV.room 108 (by rfl) (fun mj17 => ?_)
      simp at mj17
      refine EV.condT ?_
      simp -implicitDefEqProofs
      refine condT_intro (fun k15 => ?_) (fun k15 => ?_)
      ·try simp at k15
       have u15 : j17 < p1.blocks.length := by omega
       obtain ⟨x17, hx17⟩ : ∃ z, p1.blocks[j17] = z := ⟨_, rfl⟩
       have mx17 : x17 ∈ p1.blocks := by rw [← hx17]; exact List.getElem_mem _
       rw [List.drop_eq_getElem_cons u15, hx17, rMirValid_l17] at e17
       refine EV.skip ?_
       simp only [thenK_normal, blockK_normal, scopeK_normal]
       refine EV.seq ?_
       refine EV.block ?_
       refine EV.seq ?_
       refine EV.seq ?_
       refine EV.regionG tabOK ?_ -- region 19
       simp (maxSteps := 2000000) -implicitDefEqProofs [k15, u15, hx17]
       obtain ⟨z20, e20, e17⟩ := bind_split e17
       refine EV.nrm (fun v : { v : (Unit) × (Unit) // z20 = .go v.1 } => (fun (v20 : Unit) (g20 : Unit) => (⟨[J, J, .ptr 0 0 0 0, .ptr 1 0 0 0, J, J, J, J, J, J, J, .i .i64 (j17 : Int), J, J, J, J, J, J, J, J, J, J, J, J, J, J, J, J, J, J, J, J, J, J, J, J, J, J, J, J, J, J, J, J, J, J, J, J, J, J, J, J, J, J, J, J, J, J, J, J, J, J, J, J, J, J, J, J, J, J, J, J, J, J, J, J, J, J, J, J, J, J, J, J, J, J, J, J, J, J, J, J, J, J, J, J, J, J, J, J, J, J, J, J, J, J, J, J, J, J, J, J, J, J, J, J, J, J, J, J, J, J, J, J, J, J, J, J, J, J, J, J, J, J, J, J, J, J, J, J, J, J, J, J, J, J, J, J, J], [.arr 0 3 [[.ro 4 (p0.structs.map structC), .ro 3 (p0.enums.map enumC), .ro 4 (p0.fns.map fnC)]], .arr 0 4 [[.s p1.name, .i .i64 p1.params, .ro 4 (p1.locals.map localC), .ro 17 (p1.blocks.map blockC)]]]⟩ : St)) v.1.1 v.1.2) ?_ ?_
       ·skip
        refine EV.block ?_
        refine EV.loopB (fun x : { x : Nat // x ≤ x17.ins.length ∧ rMirValid_l20 p0 p1 (x17.ins.drop x) = z20 } => (fun (j20 : Nat) => (⟨[J, J, .ptr 0 0 0 0, .ptr 1 0 0 0, J, J, J, J, J, J, J, .i .i64 (j17 : Int), .i .i64 (j20 : Int), J, J, J, J, J, J, J, J, J, J, J, J, J, J, J, J, J, J, J, J, J, J, J, J, J, J, J, J, J, J, J, J, J, J, J, J, J, J, J, J, J, J, J, J, J, J, J, J, J, J, J, J, J, J, J, J, J, J, J, J, J, J, J, J, J, J, J, J, J, J, J, J, J, J, J, J, J, J, J, J, J, J, J, J, J, J, J, J, J, J, J, J, J, J, J, J, J, J, J, J, J, J, J, J, J, J, J, J, J, J, J, J, J, J, J, J, J, J, J, J, J, J, J, J, J, J, J, J, J, J, J, J, J, J, J, J], [.arr 0 3 [[.ro 4 (p0.structs.map structC), .ro 3 (p0.enums.map enumC), .ro 4 (p0.fns.map fnC)]], .arr 0 4 [[.s p1.name, .i .i64 p1.params, .ro 4 (p1.locals.map localC), .ro 17 (p1.blocks.map blockC)]]]⟩ : St)) x.1) (fun x => x17.ins.length - x.1) ⟨0, Nat.zero_le _, e20⟩ ?_ ?_
        ·skip
         try dsimp only
         try dsimp only
         refine Sub.cutF 2 (by simp) ?_ ?_ <;> simp [List.range_succ, toIdx_range, passed, k15, u15, hx17]
        ·skip
         rintro ⟨j20, hi20, e20⟩
         simp only at hi20 e20 ⊢
         refine EV.seq ?_
         refine EV.seq ?_
         refine EV.regionG tabOK ?_ -- region 20
         simp (maxSteps := 2000000) -implicitDefEqProofs [k15, u15, hx17]
         refine EV.room 119 (by rfl) (fun mj20 => ?_)
         simp at mj20
         refine EV.condT ?_
         simp -implicitDefEqProofs [k15, u15, hx17]
         refine condT_intro (fun k16 => ?_) (fun k16 => ?_)
         ·try simp at k16
          have u16 : j20 < x17.ins.length := by omega
          obtain ⟨x20, hx20⟩ : ∃ z, x17.ins[j20] = z := ⟨_, rfl⟩
          have mx20 : x20 ∈ x17.ins := by rw [← hx20]; exact List.getElem_mem _
          rw [List.drop_eq_getElem_cons u16, hx20, rMirValid_l20] at e20
          refine EV.skip ?_
          simp only [thenK_normal, blockK_normal, scopeK_normal]
          refine EV.seq ?_
          refine EV.block ?_
          refine EV.seq ?_
          refine EV.drawG tabOK mixedOK ?_ -- region 22
          simp (maxSteps := 2000000) -implicitDefEqProofs [k15, u15, hx17, k16, u16, hx20]
          refine callG_fun (w_rValidIn p0 p1 x20 hs) ?_ ?_
          ·first | (simp; done) | (simp [k15, u15, hx17, k16, u16, hx20]; done)
          simp (maxSteps := 2000000) -implicitDefEqProofs [k15, u15, hx17, k16, u16, hx20]
          refine And.intro ?_ ?_
          ·first | decide +kernel | (simp -implicitDefEqProofs; decide +kernel) | (split <;> decide +kernel)
          try simp -implicitDefEqProofs
          refine EV.seq ?_
          refine EV.regionG tabOK ?_ -- region 23
          simp (maxSteps := 2000000) -implicitDefEqProofs [k15, u15, hx17, k16, u16, hx20]
          refine EV.condT ?_
          simp -implicitDefEqProofs [k15, u15, hx17, k16, u16, hx20]
          refine condT_intro (fun k17 => ?_) (fun k17 => ?_)
          ·try simp at k17
           obtain ⟨f17, e20⟩ := pos_on2 e20 (by first | simpa using k17 | grind)
           try simp at f17
           refine EV.seq ?_
           refine EV.regionG tabOK ?_ -- region 24
           simp (maxSteps := 2000000) -implicitDefEqProofs [k15, u15, hx17, k16, u16, hx20]
           refine EV.ret ?_
           simp only [thenK_ret, blockK_ret, scopeK_ret, bodyK_ret]
           replace e17 := bind_back e17 e20
           replace e := run_back e e17
           subst e
           refine Fin.pure0 ?_
           first | (simp; done) | (simp <;> grind)
          ·try simp at k17
           obtain ⟨f17, e20⟩ := neg_on2 e20 (by first | simpa using k17 | grind)
           try simp at f17
           refine EV.skip ?_
           simp only [thenK_normal, blockK_normal, scopeK_normal]
           refine EV.regionG tabOK ?_ -- region 21
           simp (maxSteps := 2000000) -implicitDefEqProofs [k15, u15, hx17, k16, u16, hx20]
           have w20 : IntKind.i64.wrap ((j20 : Int) + 1) = (j20 : Int) + 1 := wrap_in _ (by omega) (by omega)
           refine ⟨⟨j20 + 1, by omega, e20⟩, by dsimp only; omega, ?_⟩
           try dsimp only
           refine Sub.cutF 2 (by simp) ?_ ?_ <;> simp [List.range_succ, toIdx_range, passed, k15, u15, hx17, k16, u16, hx20, w20]
         ·try simp at k16
          have d16 : x17.ins.drop j20 = [] := List.drop_eq_nil_of_le (by omega)
          rw [d16, rMirValid_l20] at e20
          refine EV.exit ?_
          simp -implicitDefEqProofs
          refine ⟨⟨((), ()), e20.symm⟩, ?_⟩
          try dsimp only
          refine Sub.cutF 2 (by simp) ?_ ?_ <;> simp [List.range_succ, toIdx_range, passed, k15, u15, hx17]
       ·skip
        rintro ⟨⟨v20, g20⟩, e20⟩
        simp only [thenK_normal, blockK_normal, scopeK_normal, bodyK_normal]
        replace e17 := bind_on e17 e20
        try dsimp only at e17
        refine EV.seq ?_
        refine EV.drawG tabOK mixedOK ?_ -- region 25
        simp (maxSteps := 2000000) -implicitDefEqProofs [k15, u15, hx17]
        refine callG_fun (w_rValidTm p0 p1 x17.end_ hs) ?_ ?_
        ·first | (simp; done) | (simp [k15, u15, hx17]; done)
        simp (maxSteps := 2000000) -implicitDefEqProofs [k15, u15, hx17]
        refine And.intro ?_ ?_
        ·first | decide +kernel | (simp -implicitDefEqProofs; decide +kernel) | (split <;> decide +kernel)
        try simp -implicitDefEqProofs
        refine EV.seq ?_
        refine EV.regionG tabOK ?_ -- region 26
        simp (maxSteps := 2000000) -implicitDefEqProofs [k15, u15, hx17]
        refine EV.condT ?_
        simp -implicitDefEqProofs [k15, u15, hx17]
        refine condT_intro (fun k18 => ?_) (fun k18 => ?_)
        ·try simp at k18
         obtain ⟨f18, e17⟩ := pos_on2 e17 (by first | simpa using k18 | grind)
         try simp at f18
         refine EV.seq ?_
         refine EV.regionG tabOK ?_ -- region 27
         simp (maxSteps := 2000000) -implicitDefEqProofs [k15, u15, hx17]
         refine EV.ret ?_
         simp only [thenK_ret, blockK_ret, scopeK_ret, bodyK_ret]
         replace e := run_back e e17
         subst e
         refine Fin.pure0 ?_
         first | (simp; done) | (simp <;> grind)
        ·try simp at k18
         obtain ⟨f18, e17⟩ := neg_on2 e17 (by first | simpa using k18 | grind)
         try simp at f18
         refine EV.skip ?_
         simp only [thenK_normal, blockK_normal, scopeK_normal]
         refine EV.regionG tabOK ?_ -- region 18
         simp (maxSteps := 2000000) -implicitDefEqProofs [k15, u15, hx17]
         have w17 : IntKind.i64.wrap ((j17 : Int) + 1) = (j17 : Int) + 1 := wrap_in _ (by omega) (by omega)
         refine ⟨⟨j17 + 1, by omega, e17⟩, by dsimp only; omega, ?_⟩
         try dsimp only
         refine Sub.cutF 2 (by simp) ?_ ?_ <;> simp [List.range_succ, toIdx_range, passed, k15, u15, hx17, w17]
      ·try simp at k15
       have d15 : p1.blocks.drop j17 = [] := List.drop_eq_nil_of_le (by omega)
       rw [d15, rMirValid_l17] at e17
       refine EV.exit ?_
       simp -implicitDefEqProofs
       refine ⟨⟨((), ()), e17.symm⟩, ?_⟩
       try dsimp only
       refine Sub.cutF 0 (by simp) ?_ ?_ <;> simp [List.range_succ, toIdx_range, passed]
    ·skip
     rintro ⟨⟨v17, g17⟩, e17⟩
     simp only [thenK_normal, blockK_normal, scopeK_normal, bodyK_normal]
     replace e := run_on e e17
     try dsimp only at e
     refine EV.seq ?_
     refine EV.regionG tabOK ?_ -- region 28
     simp (maxSteps := 2000000) -implicitDefEqProofs
     refine EV.ret ?_
     simp only [thenK_ret, blockK_ret, scopeK_ret, bodyK_ret]
     subst e
     refine Fin.pure0 ?_
     first | (simp; done) | (simp <;> grind)
end
end Go.Proofs.Tryz
end
