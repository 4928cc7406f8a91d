/- The contract of the document's answer for a step. -/
import Derived.Test.YtakfpmogpnoibaaGreatDoorRefB
set_option linter.unusedVariables false
set_option linter.unusedSimpArgs false
set_option linter.constructorNameAsVariable false
section
namespace Go.Proofs.Tryz
open Go Go.AM
attribute [local simp] wpG_op wpG_nil contG_some wpG_guard guardG_v guardG_o guardG_tup gval pureOp stepG_if isPick pickG_pick pickB_b pickOK isCall step_move step_assign step_alloc step_box boxV_some step_load step_store step_binOp step_unOp step_fieldAddr faV step_indexAddr ixA_slc ixA_arr step_extract extV_tup step_nilCheck ncV_ptr ncV_rp ncV_fn ncV_mp step_build buildV step_buildSlice bsV step_index ixV_arr ixV_str step_append apB step_makeSlice msV_i step_makeFunc over step_len step_makeMap mmV step_mapUpdate step_insert muA_map muB_mp step_lookup lkA_map lkB_mp step_slice slcV_s slcV_sl slcV_ro cutB_some slObV_arr bound_none bound_some bndV_i lenB_str lenB_ro lenB_sl lenB_nil lenB_z ld_ptr ld_rp offV_ptr offV_rp idxV_ro idxV_sl unV_not unV_neg binV_int binV_str binV_eqlb binV_neqb intOp strOp St.put updL setOb St.ev toV St.lk cellsOf AM.valOf TK.agg stv fillV places TI.zero condT_true condT_false finS resL resSlot packV ren ren1 ren0 Value.cells builtinV appendV elemsOf keepT room_of wrap_in toIdx passed Function.comp_def take_len_map lenV touchOf hid tab1 tab2 tab3 tab4 tab5 tab6 tab7 tab8 tab9 tab10 tab11 tab12 tab13 tab14 tab15 tab16 tab17 tab18 tab19 tab20 tab21 tab22 tab23 tab24 tab25 tab26 tab27 tab28 tab29 tab30 tab31 tab32 tab33 tab34 tab35 tab36 tab37 tab38 tab39 tab40 tab41 tab42 tab43 tab44 tab45 tab46 tab47 tab48 tab49 tab50 tab51 tab52 tab53 tab54 tab55 tab56 tab57 tab58 tab59 tab60 tab61 tab62 tab63 tab64 tab65 tab66 tab67 tab68 tab69 tab70 tab71 tab73 tab74 tab76 tab77 tab78 tab79 tab80 tab81 tab82 tab83 tab84 tab85 tab86 tab87 tab88 tab89 tab90 tab91 tab92 tab93 tab94 tab95 tab96 tab97 tab98 tab99 tab100 tab101 tab102 tab103 tab104 tab105 tab106 tab107 tab108 tab109 tab110 tab111 tab112 tab113 tab114 tab115 tab116 tab117 tab118 tab119 tab120 tab121 tab122 tab123 tab124 tab125 tab126 tab127 tab128 tab129 tab130 tab131 tab132 tab133 tab134 tab135 tab136 tab137 tab138 tab139 tab140 tab141 tab142 tab143 tab144 tab145 tab146 tab147 tab148 tab149 tab150 tab151 tab152 tab153 tab154 tab155 tab156 tab157 tab158 tab159 tab160 tab161 tab162 tab163 tab164 tab165 tab166 tab167 tab168 tab169 tab170 tab171 tab172 tab173 tab174 tab175 tab176 tab177 tab178 tab179 tab180 tab181 tab182 tab184 tab185 tab186 tab187 tab188 tab189 tab190 tab191 tab192 tab193 tab194 tab195 tab196 tab197 tab199 tab200 tab201 tab202 tab203 tab205 tab206 tab208 tab209 tab210 tab211 tab212 tab213 tab214 tab215 tab216 tab217 tab218 tab219 tab220 tab221 tab222 tab223 tab224 tab225 tab227 tab228 tab229 tab230 tab231 tab232 tab233 tab234 tab235 tab236 tab237 tab238 tab239 tab240 tab241 tab243 tab244 tab246 tab247 tab249 tab250 tab251 tab252 tab253 tab254 tab255 tab257 tab258 tab259 tab260 tab261 tab262 tab263 tab264 tab265 tab266 tab267 tab268 tab272 tab273 tab274 tab275 tab276 tab277 tab278 armC_eq blockC_eq bodyC_eq enumC_eq fieldC_eq fnC_eq inC_eq localC_eq mirBodyC_eq operC_eq placeC_eq rvC_eq sourceC_eq spotC_eq stepC_eq stmtC_eq structC_eq tmC_eq tyC_eq useC_eq valueC_eq variantC_eq cutL_nil cutL_junk cutL_cons ren_arr ren_gone ren_unborn ren_var ren_row step_convert cvV_i cvV_sl cvV_s cvK_slc cvE_u8 bytesOf bor1 bor2 bor3 bor4
set_option linter.unusedSimpArgs false
set_option linter.unusedVariables false
set_option maxRecDepth 10000
set_option maxHeartbeats 4000000
noncomputable section

def rValidIn (p0 : SourceD) (p1 : BodyD) (p2 : InD) : Bool :=
 (bnd (if p2.k = 0 then true else (decide (p2.k = 1))) fun (v3 : Bool) => (if v3 = true then (((rBare p1 p2.s) && (rNoValue p2.v)) && (rNoUse p2.u)) else (if p2.k = 3 then (((rBare p1 p2.s) && (rNoValue p2.v)) && (((((!p2.u.num) && (decide (p2.u.n = 0))) && p2.u.move) && (rSameSpot p2.u.s p2.s)) || (rNoUse p2.u))) else (if p2.k = 2 then (((((decide ((rType p0 p1 p2.s).2.2 = 0)) && (decide ((rValue p0 p1 p2.v).2 = 0))) && (rSameTy ((rType p0 p1 p2.s).1) ((rValue p0 p1 p2.v).1))) && (rNoUse p2.u)) && ((decide ((p2.s.path.length : Int) = 0)) || ((decide (((rType p0 p1 p2.s).1).k = 1)) && (!(rType p0 p1 p2.s).2.1)))) else (if p2.k = 4 then (((rNoSpot p2.s) && (rNoValue p2.v)) && (rNum p0 p1 p2.u)) else (if p2.k = 5 then (bnd (p0.enums.getD (((rEnum p0 p1 p2.s)).toNat) default) fun (y18_42 : EnumD) => (if ((((((((rEnum p0 p1 p2.s) < 0) ∨ (¬ ((rNoUse p2.u) = true))) ∨ (¬ (p2.v.k = 0))) ∨ (¬ ((p2.v.uses.length : Int) = 0))) ∨ (¬ (p2.v.which = 0))) ∨ (¬ ((p2.v.s.path.length : Int) = 0))) ∨ (p2.v.tag < 0)) ∨ ((y18_42.variants.length : Int) ≤ p2.v.tag) then false else (bnd (y18_42.variants.getD ((p2.v.tag).toNat) default) fun (y20_8 : VariantD) => (if y20_8.ty.k = 0 then (decide (p2.v.s.local_ = (-1))) else (((decide ((rResolve p0 y20_8.ty).2 = 0)) && (decide ((rType p0 p1 p2.v.s).2.2 = 0))) && (rSameTy ((rResolve p0 y20_8.ty).1) ((rType p0 p1 p2.v.s).1))))))) else false))))))
set_option maxHeartbeats 40000000 in
theorem w_rValidIn (p0 : SourceD) (p1 : BodyD) (p2 : InD) (hs : SrcOK p0) : QC prog 87 [.agg [.ro 4 (p0.structs.map structC), .ro 3 (p0.enums.map enumC), .ro 4 (p0.fns.map fnC)], .agg [.s p1.name, .i .i64 p1.params, .ro 4 (p1.locals.map localC), .ro 17 (p1.blocks.map blockC)], .agg [.i .i64 p2.k, .i .i64 p2.at_, .i .i64 p2.s.local_, .ro 1 (p2.s.path.map (fun z => [.i .i64 z])), .i .i64 p2.v.k, .ro 5 (p2.v.uses.map useC), .i .i64 p2.v.s.local_, .ro 1 (p2.v.s.path.map (fun z => [.i .i64 z])), .i .i64 p2.v.which, .i .i64 p2.v.tag, .b p2.u.num, .i .i64 p2.u.n, .b p2.u.move, .i .i64 p2.u.s.local_, .ro 1 (p2.u.s.path.map (fun z => [.i .i64 z]))]] [] (.b (rValidIn p0 p1 p2)) [] := by
 refine QC.of_body tabOK func87 rfl (by kernel_rfl) ?_
 simp only [f87]
 generalize e : rValidIn p0 p1 p2 = R
 unfold rValidIn at e
 refine EV.seq ?_
 refine EV.regionG tabOK ?_ -- region 0
 simp (maxSteps := 2000000) -implicitDefEqProofs
 refine EV.seq ?_
 refine EV.seq ?_
 refine EV.regionG tabOK ?_ -- region 1
 simp (maxSteps := 2000000) -implicitDefEqProofs
 refine EV.block ?_
 refine EV.seq ?_
 refine EV.seq ?_
 refine EV.regionG tabOK ?_ -- region 2
 simp (maxSteps := 2000000) -implicitDefEqProofs
 obtain ⟨z3, e3, e⟩ := bnd_split e
 refine EV.nrm (fun v : { v : (Bool) × (Unit) // z3 = v.1 } => (fun (v3 : Bool) (g3 : Unit) => (⟨[J, J, J, .ptr 0 0 0 0, .ptr 1 0 0 0, .ptr 2 0 0 0, J, J, J, J, J, J, J, J, J, J, J, J, J, J, J, J, J, J, .i .i64 p2.k, .b v3, J, J, J, J, J, J, J, J, J, J, J, J, J, J, J, J, J, J, J, J, J, J, J, J, J, J, J, J, J, J, J, J, J, J, J, J, J, J, J, J, J, J, J, J, J, J, J, J, J, J, J, J, J, J, J, J, J, J, J, J, J, J, J, J, J, J, J, J, J, J, J, J, J, J, J, J, J, J, J, J, J, J, J, J, J, J, J, J, J, J, J, J, J, J, J, J, J, J, J, J, J, J, J, J, J, J, J, J, J, J, J, J, J, J, J, J, J, J, J, J, J, J, J, J, J, J, J, J, J, J, J, J, J, J, J, J, J, J, J, J, J, J, J, J, J, J, J, J, J, J, J, J, J, J, J, J, J, J, J, J, J, J, J, J, J, J, J, J, J, J, J, J, J, J, J, J, J, J, J, J, J, J, J, J, J, J, J, J, J, J, J, J, J, J, J, J, J, J, J, J, J, J, J, J, J, J, J, J, J, J, J, J, J, J, J, J, J, J, J, J, J, J, J, J, J, J, J, J, J], [.arr 0 3 [[.ro 4 (p0.structs.map structC), .ro 3 (p0.enums.map enumC), .ro 4 (p0.fns.map fnC)]], .arr 0 4 [[.s p1.name, .i .i64 p1.params, .ro 4 (p1.locals.map localC), .ro 17 (p1.blocks.map blockC)]], .arr 0 15 [[.i .i64 p2.k, .i .i64 p2.at_, .i .i64 p2.s.local_, .ro 1 (p2.s.path.map (fun z => [.i .i64 z])), .i .i64 p2.v.k, .ro 5 (p2.v.uses.map useC), .i .i64 p2.v.s.local_, .ro 1 (p2.v.s.path.map (fun z => [.i .i64 z])), .i .i64 p2.v.which, .i .i64 p2.v.tag, .b p2.u.num, .i .i64 p2.u.n, .b p2.u.move, .i .i64 p2.u.s.local_, .ro 1 (p2.u.s.path.map (fun z => [.i .i64 z]))]]]⟩ : St)) v.1.1 v.1.2) ?_ ?_
 ·skip
  refine EV.condT ?_
  simp -implicitDefEqProofs
  refine condT_intro (fun k1 => ?_) (fun k1 => ?_)
  ·as_aux_lemma =>
   try simp at k1
   obtain ⟨f1, e3⟩ := pos_on2 e3 (by first | simpa using k1 | grind)
   try simp at f1
   refine EV.skip ?_
   simp only [thenK_normal, blockK_normal, scopeK_normal]
   refine ⟨⟨(true, ()), e3.symm⟩, ?_⟩
   try dsimp only
   refine Sub.cutF 3 (by simp) ?_ ?_ <;> simp [List.range_succ, toIdx_range, passed]
  ·as_aux_lemma =>
   try simp at k1
   obtain ⟨f1, e3⟩ := neg_on2 e3 (by first | simpa using k1 | grind)
   try simp at f1
   refine EV.regionG tabOK ?_ -- region 3
   simp (maxSteps := 2000000) -implicitDefEqProofs
   refine ⟨⟨((decide (p2.k = 1)), ()), e3.symm⟩, ?_⟩
   try dsimp only
   refine Sub.cutF 3 (by simp) ?_ ?_ <;> simp [List.range_succ, toIdx_range, passed]
 ·skip
  rintro ⟨⟨v3, g3⟩, e3⟩
  simp only [thenK_normal, blockK_normal, scopeK_normal, bodyK_normal]
  replace e := bnd_on e e3
  try dsimp only at e
  refine EV.condT ?_
  simp -implicitDefEqProofs
  refine condT_intro (fun k2 => ?_) (fun k2 => ?_)
  ·as_aux_lemma =>
   try simp at k2
   obtain ⟨f2, e⟩ := pos_on2 e (by first | simpa using k2 | grind)
   try simp at f2
   refine EV.seq ?_
   refine EV.nrm (fun _ : Unit => (⟨[J, J, J, J, J, J, .b (((rBare p1 p2.s) && (rNoValue p2.v)) && (rNoUse p2.u)), J, J, J, J, J, J, J, J, J, J, J, J, J, J, J, J, J, J, J, J, J, J, J, J, J, J, J, J, J, J, J, J, J, J, J, J, J, J, J, J, J, J, J, J, J, J, J, J, J, J, J, J, J, J, J, J, J, J, J, J, J, J, J, J, J, J, J, J, J, J, J, J, J, J, J, J, J, J, J, J, J, J, J, J, J, J, J, J, J, J, J, J, J, J, J, J, J, J, J, J, J, J, J, J, J, J, J, J, J, J, J, J, J, J, J, J, J, J, J, J, J, J, J, J, J, J, J, J, J, J, J, J, J, J, J, J, J, J, J, J, J, J, J, J, J, J, J, J, J, J, J, J, J, J, J, J, J, J, J, J, J, J, J, J, J, J, J, J, J, J, J, J, J, J, J, J, J, J, J, J, J, J, J, J, J, J, J, J, J, J, J, J, J, J, J, J, J, J, J, J, J, J, J, J, J, J, J, J, J, J, J, J, J, J, J, J, J, J, J, J, J, J, J, J, J, J, J, J, J, J, J, J, J, J, J, J, J, J, J, J, J, J, J, J, J, J, J, J], []⟩ : St)) ?_ ?_
   ·skip
    cases k4 : (rBare p1 p2.s)
    ·as_aux_lemma =>
     have kk4 := k4
     try simp at kk4
     refine EV.regionG tabOK ?_ -- region 4
     simp (maxSteps := 2000000) -implicitDefEqProofs +contextual [k4, kk4]
     refine callG_fun (w_rBare p1 p2.s) ?_ ?_
     ·first | (simp; done) | (simp [k4, kk4]; done)
     simp (maxSteps := 2000000) -implicitDefEqProofs +contextual [k4, kk4]
     refine ⟨(), ?_⟩
     try dsimp only
     refine Sub.cutF 0 (by simp) ?_ ?_ <;> simp [List.range_succ, toIdx_range, passed, k4, kk4]
    ·as_aux_lemma =>
     have kk4 := k4
     try simp at kk4
     cases k5 : (rNoValue p2.v)
     ·as_aux_lemma =>
      have kk5 := k5
      try simp at kk5
      refine EV.regionG tabOK ?_ -- region 4
      simp (maxSteps := 2000000) -implicitDefEqProofs +contextual [k4, kk4, k5, kk5]
      refine callG_fun (w_rBare p1 p2.s) ?_ ?_
      ·first | (simp; done) | (simp [k4, kk4, k5, kk5]; done)
      simp (maxSteps := 2000000) -implicitDefEqProofs +contextual [k4, kk4, k5, kk5]
      refine callG_fun (w_rNoValue p2.v) ?_ ?_
      ·first | (simp; done) | (simp [k4, kk4, k5, kk5]; done)
      simp (maxSteps := 2000000) -implicitDefEqProofs +contextual [k4, kk4, k5, kk5]
      refine ⟨(), ?_⟩
      try dsimp only
      refine Sub.cutF 0 (by simp) ?_ ?_ <;> simp [List.range_succ, toIdx_range, passed, k4, kk4, k5, kk5]
     ·as_aux_lemma =>
      have kk5 := k5
      try simp at kk5
      refine EV.regionG tabOK ?_ -- region 4
      simp (maxSteps := 2000000) -implicitDefEqProofs +contextual [k4, kk4, k5, kk5]
      refine callG_fun (w_rBare p1 p2.s) ?_ ?_
      ·first | (simp; done) | (simp [k4, kk4, k5, kk5]; done)
      simp (maxSteps := 2000000) -implicitDefEqProofs +contextual [k4, kk4, k5, kk5]
      refine callG_fun (w_rNoValue p2.v) ?_ ?_
      ·first | (simp; done) | (simp [k4, kk4, k5, kk5]; done)
      simp (maxSteps := 2000000) -implicitDefEqProofs +contextual [k4, kk4, k5, kk5]
      refine callG_fun (w_rNoUse p2.u) ?_ ?_
      ·first | (simp; done) | (simp [k4, kk4, k5, kk5]; done)
      simp (maxSteps := 2000000) -implicitDefEqProofs +contextual [k4, kk4, k5, kk5]
      refine ⟨(), ?_⟩
      try dsimp only
      refine Sub.cutF 0 (by simp) ?_ ?_ <;> simp [List.range_succ, toIdx_range, passed, k4, kk4, k5, kk5]
   ·skip
    rintro _
    simp only [thenK_normal, blockK_normal, scopeK_normal, bodyK_normal]
    refine EV.ret ?_
    simp only [thenK_ret, blockK_ret, scopeK_ret, bodyK_ret]
    subst e
    refine Fin.pure0 ?_
    first | (simp; done) | (simp <;> grind)
  ·as_aux_lemma =>
   try simp at k2
   obtain ⟨f2, e⟩ := neg_on2 e (by first | simpa using k2 | grind)
   try simp at f2
   refine EV.seq ?_
   refine EV.regionG tabOK ?_ -- region 5
   simp (maxSteps := 2000000) -implicitDefEqProofs
   refine EV.condT ?_
   simp -implicitDefEqProofs
   refine condT_intro (fun k6 => ?_) (fun k6 => ?_)
   ·as_aux_lemma =>
    try simp at k6
    obtain ⟨f6, e⟩ := pos_on2 e (by first | simpa using k6 | grind)
    try simp at f6
    refine EV.seq ?_
    refine EV.nrm (fun _ : Unit => (⟨[J, J, J, J, .ptr 1 0 0 0, .ptr 2 0 0 0, J, .b ((((!p2.u.num) && (decide (p2.u.n = 0))) && p2.u.move) && (rSameSpot p2.u.s p2.s)), J, J, J, J, J, J, J, J, J, J, J, J, J, J, J, J, J, J, J, J, J, J, J, J, J, J, J, J, J, J, J, J, J, J, J, J, J, J, J, J, J, J, J, J, J, J, J, J, J, J, J, J, J, J, J, J, J, J, J, J, J, J, J, J, J, J, J, J, J, J, J, J, J, J, J, J, J, J, J, J, J, J, J, J, J, J, J, J, J, J, J, J, J, J, J, J, J, J, J, J, J, J, J, J, J, J, J, J, J, J, J, J, J, J, J, J, J, J, J, J, J, J, J, J, J, J, J, J, J, J, J, J, J, J, J, J, J, J, J, J, J, J, J, J, J, J, J, J, J, J, J, J, J, J, J, J, J, J, J, J, J, J, J, J, J, J, J, J, J, J, J, J, J, J, J, J, J, J, J, J, J, J, J, J, J, J, J, J, J, J, J, J, J, J, J, J, J, J, J, J, J, J, J, J, J, J, J, J, J, J, J, J, J, J, J, J, J, J, J, J, J, J, J, J, J, J, J, J, J, J, J, J, J, J, J, J, J, J, J, J, J, J, J, J, J, J, J], [.arr 0 3 [[.ro 4 (p0.structs.map structC), .ro 3 (p0.enums.map enumC), .ro 4 (p0.fns.map fnC)]], .arr 0 4 [[.s p1.name, .i .i64 p1.params, .ro 4 (p1.locals.map localC), .ro 17 (p1.blocks.map blockC)]], .arr 0 15 [[.i .i64 p2.k, .i .i64 p2.at_, .i .i64 p2.s.local_, .ro 1 (p2.s.path.map (fun z => [.i .i64 z])), .i .i64 p2.v.k, .ro 5 (p2.v.uses.map useC), .i .i64 p2.v.s.local_, .ro 1 (p2.v.s.path.map (fun z => [.i .i64 z])), .i .i64 p2.v.which, .i .i64 p2.v.tag, .b p2.u.num, .i .i64 p2.u.n, .b p2.u.move, .i .i64 p2.u.s.local_, .ro 1 (p2.u.s.path.map (fun z => [.i .i64 z]))]]]⟩ : St)) ?_ ?_
    ·skip
     cases k8 : p2.u.num
     ·as_aux_lemma =>
      have kk8 := k8
      try simp at kk8
      by_cases k9 : p2.u.n = 0
      ·as_aux_lemma =>
       have kk9 := k9
       try simp at kk9
       cases k10 : p2.u.move
       ·as_aux_lemma =>
        have kk10 := k10
        try simp at kk10
        refine EV.regionG tabOK ?_ -- region 6
        simp (maxSteps := 2000000) -implicitDefEqProofs +contextual [k8, kk8, k9, kk9, k10, kk10]
        refine ⟨(), ?_⟩
        try dsimp only
        refine Sub.cutF 3 (by simp) ?_ ?_ <;> simp [List.range_succ, toIdx_range, passed, k8, kk8, k9, kk9, k10, kk10]
       ·as_aux_lemma =>
        have kk10 := k10
        try simp at kk10
        refine EV.regionG tabOK ?_ -- region 6
        simp (maxSteps := 2000000) -implicitDefEqProofs +contextual [k8, kk8, k9, kk9, k10, kk10]
        refine callG_fun (w_rSameSpot p2.u.s p2.s) ?_ ?_
        ·first | (simp; done) | (simp [k8, kk8, k9, kk9, k10, kk10]; done)
        simp (maxSteps := 2000000) -implicitDefEqProofs +contextual [k8, kk8, k9, kk9, k10, kk10]
        refine ⟨(), ?_⟩
        try dsimp only
        refine Sub.cutF 3 (by simp) ?_ ?_ <;> simp [List.range_succ, toIdx_range, passed, k8, kk8, k9, kk9, k10, kk10]
      ·as_aux_lemma =>
       have kk9 := k9
       try simp at kk9
       refine EV.regionG tabOK ?_ -- region 6
       simp (maxSteps := 2000000) -implicitDefEqProofs +contextual [k8, kk8, k9, kk9]
       refine ⟨(), ?_⟩
       try dsimp only
       refine Sub.cutF 3 (by simp) ?_ ?_ <;> simp [List.range_succ, toIdx_range, passed, k8, kk8, k9, kk9]
     ·as_aux_lemma =>
      have kk8 := k8
      try simp at kk8
      refine EV.regionG tabOK ?_ -- region 6
      simp (maxSteps := 2000000) -implicitDefEqProofs +contextual [k8, kk8]
      refine ⟨(), ?_⟩
      try dsimp only
      refine Sub.cutF 3 (by simp) ?_ ?_ <;> simp [List.range_succ, toIdx_range, passed, k8, kk8]
    ·skip
     rintro _
     simp only [thenK_normal, blockK_normal, scopeK_normal, bodyK_normal]
     refine EV.seq ?_
     refine EV.nrm (fun _ : Unit => (⟨[J, J, J, J, J, J, .b (((rBare p1 p2.s) && (rNoValue p2.v)) && (((((!p2.u.num) && (decide (p2.u.n = 0))) && p2.u.move) && (rSameSpot p2.u.s p2.s)) || (rNoUse p2.u))), J, J, J, J, J, J, J, J, J, J, J, J, J, J, J, J, J, J, J, J, J, J, J, J, J, J, J, J, J, J, J, J, J, J, J, J, J, J, J, J, J, J, J, J, J, J, J, J, J, J, J, J, J, J, J, J, J, J, J, J, J, J, J, J, J, J, J, J, J, J, J, J, J, J, J, J, J, J, J, J, J, J, J, J, J, J, J, J, J, J, J, J, J, J, J, J, J, J, J, J, J, J, J, J, J, J, J, J, J, J, J, J, J, J, J, J, J, J, J, J, J, J, J, J, J, J, J, J, J, J, J, J, J, J, J, J, J, J, J, J, J, J, J, J, J, J, J, J, J, J, J, J, J, J, J, J, J, J, J, J, J, J, J, J, J, J, J, J, J, J, J, J, J, J, J, J, J, J, J, J, J, J, J, J, J, J, J, J, J, J, J, J, J, J, J, J, J, J, J, J, J, J, J, J, J, J, J, J, J, J, J, J, J, J, J, J, J, J, J, J, J, J, J, J, J, J, J, J, J, J, J, J, J, J, J, J, J, J, J, J, J, J, J, J, J, J, J, J], []⟩ : St)) ?_ ?_
     ·skip
      cases k12 : (rBare p1 p2.s)
      ·as_aux_lemma =>
       have kk12 := k12
       try simp at kk12
       refine EV.regionG tabOK ?_ -- region 7
       simp (maxSteps := 2000000) -implicitDefEqProofs +contextual [k12, kk12]
       refine callG_fun (w_rBare p1 p2.s) ?_ ?_
       ·first | (simp; done) | (simp [k12, kk12]; done)
       simp (maxSteps := 2000000) -implicitDefEqProofs +contextual [k12, kk12]
       refine ⟨(), ?_⟩
       try dsimp only
       refine Sub.cutF 0 (by simp) ?_ ?_ <;> simp [List.range_succ, toIdx_range, passed, k12, kk12]
      ·as_aux_lemma =>
       have kk12 := k12
       try simp at kk12
       cases k13 : (rNoValue p2.v)
       ·as_aux_lemma =>
        have kk13 := k13
        try simp at kk13
        refine EV.regionG tabOK ?_ -- region 7
        simp (maxSteps := 2000000) -implicitDefEqProofs +contextual [k12, kk12, k13, kk13]
        refine callG_fun (w_rBare p1 p2.s) ?_ ?_
        ·first | (simp; done) | (simp [k12, kk12, k13, kk13]; done)
        simp (maxSteps := 2000000) -implicitDefEqProofs +contextual [k12, kk12, k13, kk13]
        refine callG_fun (w_rNoValue p2.v) ?_ ?_
        ·first | (simp; done) | (simp [k12, kk12, k13, kk13]; done)
        simp (maxSteps := 2000000) -implicitDefEqProofs +contextual [k12, kk12, k13, kk13]
        refine ⟨(), ?_⟩
        try dsimp only
        refine Sub.cutF 0 (by simp) ?_ ?_ <;> simp [List.range_succ, toIdx_range, passed, k12, kk12, k13, kk13]
       ·as_aux_lemma =>
        have kk13 := k13
        try simp at kk13
        cases k14 : p2.u.num
        ·as_aux_lemma =>
         have kk14 := k14
         try simp at kk14
         by_cases k15 : p2.u.n = 0
         ·as_aux_lemma =>
          have kk15 := k15
          try simp at kk15
          cases k16 : p2.u.move
          ·as_aux_lemma =>
           have kk16 := k16
           try simp at kk16
           refine EV.regionG tabOK ?_ -- region 7
           simp (maxSteps := 2000000) -implicitDefEqProofs +contextual [k12, kk12, k13, kk13, k14, kk14, k15, kk15, k16, kk16]
           refine callG_fun (w_rBare p1 p2.s) ?_ ?_
           ·first | (simp; done) | (simp [k12, kk12, k13, kk13, k14, kk14, k15, kk15, k16, kk16]; done)
           simp (maxSteps := 2000000) -implicitDefEqProofs +contextual [k12, kk12, k13, kk13, k14, kk14, k15, kk15, k16, kk16]
           refine callG_fun (w_rNoValue p2.v) ?_ ?_
           ·first | (simp; done) | (simp [k12, kk12, k13, kk13, k14, kk14, k15, kk15, k16, kk16]; done)
           simp (maxSteps := 2000000) -implicitDefEqProofs +contextual [k12, kk12, k13, kk13, k14, kk14, k15, kk15, k16, kk16]
           refine callG_fun (w_rNoUse p2.u) ?_ ?_
           ·first | (simp; done) | (simp [k12, kk12, k13, kk13, k14, kk14, k15, kk15, k16, kk16]; done)
           simp (maxSteps := 2000000) -implicitDefEqProofs +contextual [k12, kk12, k13, kk13, k14, kk14, k15, kk15, k16, kk16]
           refine ⟨(), ?_⟩
           try dsimp only
           refine Sub.cutF 0 (by simp) ?_ ?_ <;> simp [List.range_succ, toIdx_range, passed, k12, kk12, k13, kk13, k14, kk14, k15, kk15, k16, kk16]
          ·as_aux_lemma =>
           have kk16 := k16
           try simp at kk16
           cases k17 : (rSameSpot p2.u.s p2.s)
           ·as_aux_lemma =>
            have kk17 := k17
            try simp at kk17
            refine EV.regionG tabOK ?_ -- region 7
            simp (maxSteps := 2000000) -implicitDefEqProofs +contextual [k12, kk12, k13, kk13, k14, kk14, k15, kk15, k16, kk16, k17, kk17]
            refine callG_fun (w_rBare p1 p2.s) ?_ ?_
            ·first | (simp; done) | (simp [k12, kk12, k13, kk13, k14, kk14, k15, kk15, k16, kk16, k17, kk17]; done)
            simp (maxSteps := 2000000) -implicitDefEqProofs +contextual [k12, kk12, k13, kk13, k14, kk14, k15, kk15, k16, kk16, k17, kk17]
            refine callG_fun (w_rNoValue p2.v) ?_ ?_
            ·first | (simp; done) | (simp [k12, kk12, k13, kk13, k14, kk14, k15, kk15, k16, kk16, k17, kk17]; done)
            simp (maxSteps := 2000000) -implicitDefEqProofs +contextual [k12, kk12, k13, kk13, k14, kk14, k15, kk15, k16, kk16, k17, kk17]
            refine callG_fun (w_rNoUse p2.u) ?_ ?_
            ·first | (simp; done) | (simp [k12, kk12, k13, kk13, k14, kk14, k15, kk15, k16, kk16, k17, kk17]; done)
            simp (maxSteps := 2000000) -implicitDefEqProofs +contextual [k12, kk12, k13, kk13, k14, kk14, k15, kk15, k16, kk16, k17, kk17]
            refine ⟨(), ?_⟩
            try dsimp only
            refine Sub.cutF 0 (by simp) ?_ ?_ <;> simp [List.range_succ, toIdx_range, passed, k12, kk12, k13, kk13, k14, kk14, k15, kk15, k16, kk16, k17, kk17]
           ·as_aux_lemma =>
            have kk17 := k17
            try simp at kk17
            refine EV.regionG tabOK ?_ -- region 7
            simp (maxSteps := 2000000) -implicitDefEqProofs +contextual [k12, kk12, k13, kk13, k14, kk14, k15, kk15, k16, kk16, k17, kk17]
            refine callG_fun (w_rBare p1 p2.s) ?_ ?_
            ·first | (simp; done) | (simp [k12, kk12, k13, kk13, k14, kk14, k15, kk15, k16, kk16, k17, kk17]; done)
            simp (maxSteps := 2000000) -implicitDefEqProofs +contextual [k12, kk12, k13, kk13, k14, kk14, k15, kk15, k16, kk16, k17, kk17]
            refine callG_fun (w_rNoValue p2.v) ?_ ?_
            ·first | (simp; done) | (simp [k12, kk12, k13, kk13, k14, kk14, k15, kk15, k16, kk16, k17, kk17]; done)
            simp (maxSteps := 2000000) -implicitDefEqProofs +contextual [k12, kk12, k13, kk13, k14, kk14, k15, kk15, k16, kk16, k17, kk17]
            refine ⟨(), ?_⟩
            try dsimp only
            refine Sub.cutF 0 (by simp) ?_ ?_ <;> simp [List.range_succ, toIdx_range, passed, k12, kk12, k13, kk13, k14, kk14, k15, kk15, k16, kk16, k17, kk17]
         ·as_aux_lemma =>
          have kk15 := k15
          try simp at kk15
          refine EV.regionG tabOK ?_ -- region 7
          simp (maxSteps := 2000000) -implicitDefEqProofs +contextual [k12, kk12, k13, kk13, k14, kk14, k15, kk15]
          refine callG_fun (w_rBare p1 p2.s) ?_ ?_
          ·first | (simp; done) | (simp [k12, kk12, k13, kk13, k14, kk14, k15, kk15]; done)
          simp (maxSteps := 2000000) -implicitDefEqProofs +contextual [k12, kk12, k13, kk13, k14, kk14, k15, kk15]
          refine callG_fun (w_rNoValue p2.v) ?_ ?_
          ·first | (simp; done) | (simp [k12, kk12, k13, kk13, k14, kk14, k15, kk15]; done)
          simp (maxSteps := 2000000) -implicitDefEqProofs +contextual [k12, kk12, k13, kk13, k14, kk14, k15, kk15]
          refine callG_fun (w_rNoUse p2.u) ?_ ?_
          ·first | (simp; done) | (simp [k12, kk12, k13, kk13, k14, kk14, k15, kk15]; done)
          simp (maxSteps := 2000000) -implicitDefEqProofs +contextual [k12, kk12, k13, kk13, k14, kk14, k15, kk15]
          refine ⟨(), ?_⟩
          try dsimp only
          refine Sub.cutF 0 (by simp) ?_ ?_ <;> simp [List.range_succ, toIdx_range, passed, k12, kk12, k13, kk13, k14, kk14, k15, kk15]
        ·as_aux_lemma =>
         have kk14 := k14
         try simp at kk14
         refine EV.regionG tabOK ?_ -- region 7
         simp (maxSteps := 2000000) -implicitDefEqProofs +contextual [k12, kk12, k13, kk13, k14, kk14]
         refine callG_fun (w_rBare p1 p2.s) ?_ ?_
         ·first | (simp; done) | (simp [k12, kk12, k13, kk13, k14, kk14]; done)
         simp (maxSteps := 2000000) -implicitDefEqProofs +contextual [k12, kk12, k13, kk13, k14, kk14]
         refine callG_fun (w_rNoValue p2.v) ?_ ?_
         ·first | (simp; done) | (simp [k12, kk12, k13, kk13, k14, kk14]; done)
         simp (maxSteps := 2000000) -implicitDefEqProofs +contextual [k12, kk12, k13, kk13, k14, kk14]
         refine callG_fun (w_rNoUse p2.u) ?_ ?_
         ·first | (simp; done) | (simp [k12, kk12, k13, kk13, k14, kk14]; done)
         simp (maxSteps := 2000000) -implicitDefEqProofs +contextual [k12, kk12, k13, kk13, k14, kk14]
         refine ⟨(), ?_⟩
         try dsimp only
         refine Sub.cutF 0 (by simp) ?_ ?_ <;> simp [List.range_succ, toIdx_range, passed, k12, kk12, k13, kk13, k14, kk14]
     ·skip
      rintro _
      simp only [thenK_normal, blockK_normal, scopeK_normal, bodyK_normal]
      refine EV.ret ?_
      simp only [thenK_ret, blockK_ret, scopeK_ret, bodyK_ret]
      subst e
      refine Fin.pure0 ?_
      first | (simp; done) | (simp <;> grind)
   ·as_aux_lemma =>
    try simp at k6
    obtain ⟨f6, e⟩ := neg_on2 e (by first | simpa using k6 | grind)
    try simp at f6
    refine EV.seq ?_
    refine EV.regionG tabOK ?_ -- region 8
    simp (maxSteps := 2000000) -implicitDefEqProofs
    refine EV.condT ?_
    simp -implicitDefEqProofs
    refine condT_intro (fun k18 => ?_) (fun k18 => ?_)
    ·as_aux_lemma =>
     try simp at k18
     obtain ⟨f18, e⟩ := pos_on2 e (by first | simpa using k18 | grind)
     try simp at f18
     refine EV.seq ?_
     refine EV.regionG tabOK ?_ -- region 9
     simp (maxSteps := 2000000) -implicitDefEqProofs
     refine callG_fun (w_rType p0 p1 p2.s) ?_ ?_
     ·simp
     simp (maxSteps := 2000000) -implicitDefEqProofs
     refine EV.seq ?_
     refine EV.regionG tabOK ?_ -- region 10
     simp (maxSteps := 2000000) -implicitDefEqProofs
     refine callG_fun (w_rValue p0 p1 p2.v hs) ?_ ?_
     ·simp
     simp (maxSteps := 2000000) -implicitDefEqProofs
     refine EV.seq ?_
     refine EV.regionG tabOK ?_ -- region 11
     simp (maxSteps := 2000000) -implicitDefEqProofs
     refine callG_fun (w_rSameTy ((rType p0 p1 p2.s).1) ((rValue p0 p1 p2.v).1)) ?_ ?_
     ·simp
     simp (maxSteps := 2000000) -implicitDefEqProofs
     refine EV.seq ?_
     refine EV.nrm (fun _ : Unit => (⟨[J, J, J, J, J, J, .b (((((decide ((rType p0 p1 p2.s).2.2 = 0)) && (decide ((rValue p0 p1 p2.v).2 = 0))) && (rSameTy ((rType p0 p1 p2.s).1) ((rValue p0 p1 p2.v).1))) && (rNoUse p2.u)) && ((decide ((p2.s.path.length : Int) = 0)) || ((decide (((rType p0 p1 p2.s).1).k = 1)) && (!(rType p0 p1 p2.s).2.1)))), J, J, J, J, J, J, J, J, J, J, J, J, J, J, J, J, J, J, J, J, J, J, J, J, J, J, J, J, J, J, J, J, J, J, J, J, J, J, J, J, J, J, J, J, J, J, J, J, J, J, J, J, J, J, J, J, J, J, J, J, J, J, J, J, J, J, J, J, J, J, J, J, J, J, J, J, J, J, J, J, J, J, J, J, J, J, J, J, J, J, J, J, J, J, J, J, J, J, J, J, J, J, J, J, J, J, J, J, J, J, J, J, J, J, J, J, J, J, J, J, J, J, J, J, J, J, J, J, J, J, J, J, J, J, J, J, J, J, J, J, J, J, J, J, J, J, J, J, J, J, J, J, J, J, J, J, J, J, J, J, J, J, J, J, J, J, J, J, J, J, J, J, J, J, J, J, J, J, J, J, J, J, J, J, J, J, J, J, J, J, J, J, J, J, J, J, J, J, J, J, J, J, J, J, J, J, J, J, J, J, J, J, J, J, J, J, J, J, J, J, J, J, J, J, J, J, J, J, J, J, J, J, J, J, J, J, J, J, J, J, J, J, J, J, J, J, J, J], []⟩ : St)) ?_ ?_
     ·skip
      by_cases k20 : (rType p0 p1 p2.s).2.2 = 0
      ·as_aux_lemma =>
       have kk20 := k20
       try simp at kk20
       by_cases k21 : (rValue p0 p1 p2.v).2 = 0
       ·as_aux_lemma =>
        have kk21 := k21
        try simp at kk21
        cases k22 : (rSameTy ((rType p0 p1 p2.s).1) ((rValue p0 p1 p2.v).1))
        ·as_aux_lemma =>
         have kk22 := k22
         try simp at kk22
         refine EV.regionG tabOK ?_ -- region 12
         simp (maxSteps := 2000000) -implicitDefEqProofs +contextual [k20, kk20, k21, kk21, k22, kk22]
         refine ⟨(), ?_⟩
         try dsimp only
         refine Sub.cutF 0 (by simp) ?_ ?_ <;> simp [List.range_succ, toIdx_range, passed, k20, kk20, k21, kk21, k22, kk22]
        ·as_aux_lemma =>
         have kk22 := k22
         try simp at kk22
         refine EV.regionG tabOK ?_ -- region 12
         simp (maxSteps := 2000000) -implicitDefEqProofs +contextual [k20, kk20, k21, kk21, k22, kk22]
         refine callG_fun (w_rNoUse p2.u) ?_ ?_
         ·first | (simp; done) | (simp [k20, kk20, k21, kk21, k22, kk22]; done)
         simp (maxSteps := 2000000) -implicitDefEqProofs +contextual [k20, kk20, k21, kk21, k22, kk22]
         refine ⟨(), ?_⟩
         try dsimp only
         refine Sub.cutF 0 (by simp) ?_ ?_ <;> simp [List.range_succ, toIdx_range, passed, k20, kk20, k21, kk21, k22, kk22]
       ·as_aux_lemma =>
        have kk21 := k21
        try simp at kk21
        refine EV.regionG tabOK ?_ -- region 12
        simp (maxSteps := 2000000) -implicitDefEqProofs +contextual [k20, kk20, k21, kk21]
        refine ⟨(), ?_⟩
        try dsimp only
        refine Sub.cutF 0 (by simp) ?_ ?_ <;> simp [List.range_succ, toIdx_range, passed, k20, kk20, k21, kk21]
      ·as_aux_lemma =>
       have kk20 := k20
       try simp at kk20
       refine EV.regionG tabOK ?_ -- region 12
       simp (maxSteps := 2000000) -implicitDefEqProofs +contextual [k20, kk20]
       refine ⟨(), ?_⟩
       try dsimp only
       refine Sub.cutF 0 (by simp) ?_ ?_ <;> simp [List.range_succ, toIdx_range, passed, k20, kk20]
     ·skip
      rintro _
      simp only [thenK_normal, blockK_normal, scopeK_normal, bodyK_normal]
      refine EV.ret ?_
      simp only [thenK_ret, blockK_ret, scopeK_ret, bodyK_ret]
      subst e
      refine Fin.pure0 ?_
      first | (simp; done) | (simp <;> grind)
    ·as_aux_lemma =>
     try simp at k18
     obtain ⟨f18, e⟩ := neg_on2 e (by first | simpa using k18 | grind)
     try simp at f18
     refine EV.seq ?_
     refine EV.regionG tabOK ?_ -- region 13
     simp (maxSteps := 2000000) -implicitDefEqProofs
     refine EV.condT ?_
     simp -implicitDefEqProofs
     refine condT_intro (fun k23 => ?_) (fun k23 => ?_)
     ·as_aux_lemma =>
      try simp at k23
      obtain ⟨f23, e⟩ := pos_on2 e (by first | simpa using k23 | grind)
      try simp at f23
      refine EV.seq ?_
      refine EV.nrm (fun _ : Unit => (⟨[J, J, J, J, J, J, .b (((rNoSpot p2.s) && (rNoValue p2.v)) && (rNum p0 p1 p2.u)), J, J, J, J, J, J, J, J, J, J, J, J, J, J, J, J, J, J, J, J, J, J, J, J, J, J, J, J, J, J, J, J, J, J, J, J, J, J, J, J, J, J, J, J, J, J, J, J, J, J, J, J, J, J, J, J, J, J, J, J, J, J, J, J, J, J, J, J, J, J, J, J, J, J, J, J, J, J, J, J, J, J, J, J, J, J, J, J, J, J, J, J, J, J, J, J, J, J, J, J, J, J, J, J, J, J, J, J, J, J, J, J, J, J, J, J, J, J, J, J, J, J, J, J, J, J, J, J, J, J, J, J, J, J, J, J, J, J, J, J, J, J, J, J, J, J, J, J, J, J, J, J, J, J, J, J, J, J, J, J, J, J, J, J, J, J, J, J, J, J, J, J, J, J, J, J, J, J, J, J, J, J, J, J, J, J, J, J, J, J, J, J, J, J, J, J, J, J, J, J, J, J, J, J, J, J, J, J, J, J, J, J, J, J, J, J, J, J, J, J, J, J, J, J, J, J, J, J, J, J, J, J, J, J, J, J, J, J, J, J, J, J, J, J, J, J, J, J], []⟩ : St)) ?_ ?_
      ·skip
       cases k25 : (rNoSpot p2.s)
       ·as_aux_lemma =>
        have kk25 := k25
        try simp at kk25
        refine EV.regionG tabOK ?_ -- region 14
        simp (maxSteps := 2000000) -implicitDefEqProofs +contextual [k25, kk25]
        refine callG_fun (w_rNoSpot p2.s) ?_ ?_
        ·first | (simp; done) | (simp [k25, kk25]; done)
        simp (maxSteps := 2000000) -implicitDefEqProofs +contextual [k25, kk25]
        refine ⟨(), ?_⟩
        try dsimp only
        refine Sub.cutF 0 (by simp) ?_ ?_ <;> simp [List.range_succ, toIdx_range, passed, k25, kk25]
       ·as_aux_lemma =>
        have kk25 := k25
        try simp at kk25
        cases k26 : (rNoValue p2.v)
        ·as_aux_lemma =>
         have kk26 := k26
         try simp at kk26
         refine EV.regionG tabOK ?_ -- region 14
         simp (maxSteps := 2000000) -implicitDefEqProofs +contextual [k25, kk25, k26, kk26]
         refine callG_fun (w_rNoSpot p2.s) ?_ ?_
         ·first | (simp; done) | (simp [k25, kk25, k26, kk26]; done)
         simp (maxSteps := 2000000) -implicitDefEqProofs +contextual [k25, kk25, k26, kk26]
         refine callG_fun (w_rNoValue p2.v) ?_ ?_
         ·first | (simp; done) | (simp [k25, kk25, k26, kk26]; done)
         simp (maxSteps := 2000000) -implicitDefEqProofs +contextual [k25, kk25, k26, kk26]
         refine ⟨(), ?_⟩
         try dsimp only
         refine Sub.cutF 0 (by simp) ?_ ?_ <;> simp [List.range_succ, toIdx_range, passed, k25, kk25, k26, kk26]
        ·as_aux_lemma =>
         have kk26 := k26
         try simp at kk26
         refine EV.regionG tabOK ?_ -- region 14
         simp (maxSteps := 2000000) -implicitDefEqProofs +contextual [k25, kk25, k26, kk26]
         refine callG_fun (w_rNoSpot p2.s) ?_ ?_
         ·first | (simp; done) | (simp [k25, kk25, k26, kk26]; done)
         simp (maxSteps := 2000000) -implicitDefEqProofs +contextual [k25, kk25, k26, kk26]
         refine callG_fun (w_rNoValue p2.v) ?_ ?_
         ·first | (simp; done) | (simp [k25, kk25, k26, kk26]; done)
         simp (maxSteps := 2000000) -implicitDefEqProofs +contextual [k25, kk25, k26, kk26]
         refine callG_fun (w_rNum p0 p1 p2.u) ?_ ?_
         ·first | (simp; done) | (simp [k25, kk25, k26, kk26]; done)
         simp (maxSteps := 2000000) -implicitDefEqProofs +contextual [k25, kk25, k26, kk26]
         refine ⟨(), ?_⟩
         try dsimp only
         refine Sub.cutF 0 (by simp) ?_ ?_ <;> simp [List.range_succ, toIdx_range, passed, k25, kk25, k26, kk26]
      ·skip
       rintro _
       simp only [thenK_normal, blockK_normal, scopeK_normal, bodyK_normal]
       refine EV.ret ?_
       simp only [thenK_ret, blockK_ret, scopeK_ret, bodyK_ret]
       subst e
       refine Fin.pure0 ?_
       first | (simp; done) | (simp <;> grind)
     ·as_aux_lemma =>
      try simp at k23
      obtain ⟨f23, e⟩ := neg_on2 e (by first | simpa using k23 | grind)
      try simp at f23
      refine EV.seq ?_
      refine EV.regionG tabOK ?_ -- region 15
      simp (maxSteps := 2000000) -implicitDefEqProofs
      refine EV.condT ?_
      simp -implicitDefEqProofs
      refine condT_intro (fun k27 => ?_) (fun k27 => ?_)
      ·as_aux_lemma =>
       try simp at k27
       obtain ⟨f27, e⟩ := pos_on2 e (by first | simpa using k27 | grind)
       try simp at f27
       refine EV.seq ?_
       have := rEnum_lt p0 p1 p2.s
       refine EV.regionG tabOK ?_ -- region 16
       simp (maxSteps := 2000000) -implicitDefEqProofs
       refine callG_fun (w_rEnum p0 p1 p2.s) ?_ ?_
       ·simp
       simp (maxSteps := 2000000) -implicitDefEqProofs
       refine EV.seq ?_
       refine EV.regionG tabOK ?_ -- region 17
       simp (maxSteps := 2000000) -implicitDefEqProofs
       refine EV.seq ?_
       refine EV.seq ?_
       obtain ⟨y18_42, gy18_42⟩ : ∃ z, (p0.enums.getD (((rEnum p0 p1 p2.s)).toNat) default) = z := ⟨_, rfl⟩
       replace e := bnd_on e gy18_42
       try dsimp only at e
       refine EV.nrm (fun _ : Unit => (⟨[J, J, J, .ptr 0 0 0 0, .ptr 1 0 0 0, J, J, J, J, J, J, J, J, J, .i .i64 (rEnum p0 p1 p2.s), .ptr 3 0 0 0, J, J, J, J, J, J, J, J, J, J, J, J, J, J, J, J, J, J, J, J, J, J, J, J, J, J, J, J, J, J, J, J, J, J, J, J, J, J, J, J, J, J, J, J, J, J, J, J, J, J, J, J, J, J, J, J, J, J, J, J, J, J, J, J, J, J, J, J, J, J, J, J, J, J, J, J, J, J, J, J, J, J, J, J, J, J, J, J, J, J, J, J, J, J, J, J, J, J, J, J, J, J, J, J, J, J, J, J, J, J, J, J, J, J, J, J, J, J, J, J, J, J, J, J, J, J, J, J, J, J, J, J, J, J, J, J, J, J, J, J, J, J, J, J, J, J, J, J, J, J, J, J, J, J, J, J, J, J, J, J, J, J, J, J, J, J, J, J, J, J, J, J, J, J, J, J, J, J, J, J, J, J, J, J, J, J, J, J, J, J, J, J, J, .b ((((((((decide ((rEnum p0 p1 p2.s) < 0)) || (!(rNoUse p2.u))) || (!(decide (p2.v.k = 0)))) || (!(decide ((p2.v.uses.length : Int) = 0)))) || (!(decide (p2.v.which = 0)))) || (!(decide ((p2.v.s.path.length : Int) = 0)))) || (decide (p2.v.tag < 0))) || (decide ((y18_42.variants.length : Int) ≤ p2.v.tag))), J, J, J, J, J, J, J, J, J, J, J, J, J, J, J, J, J, J, J, J, J, J, J, J, J, J, J, J, J, J, J, J, J, J, J, J, J, J, J, J, J, J, J, J, J], [.arr 0 3 [[.ro 4 (p0.structs.map structC), .ro 3 (p0.enums.map enumC), .ro 4 (p0.fns.map fnC)]], .arr 0 4 [[.s p1.name, .i .i64 p1.params, .ro 4 (p1.locals.map localC), .ro 17 (p1.blocks.map blockC)]], .arr 0 15 [[.i .i64 p2.k, .i .i64 p2.at_, .i .i64 p2.s.local_, .ro 1 (p2.s.path.map (fun z => [.i .i64 z])), .i .i64 p2.v.k, .ro 5 (p2.v.uses.map useC), .i .i64 p2.v.s.local_, .ro 1 (p2.v.s.path.map (fun z => [.i .i64 z])), .i .i64 p2.v.which, .i .i64 p2.v.tag, .b p2.u.num, .i .i64 p2.u.n, .b p2.u.move, .i .i64 p2.u.s.local_, .ro 1 (p2.u.s.path.map (fun z => [.i .i64 z]))]], .arr 0 6 [[.i .i64 p2.v.k, .ro 5 (p2.v.uses.map useC), .i .i64 p2.v.s.local_, .ro 1 (p2.v.s.path.map (fun z => [.i .i64 z])), .i .i64 p2.v.which, .i .i64 p2.v.tag]]]⟩ : St)) ?_ ?_
       ·skip
        by_cases k29 : (rEnum p0 p1 p2.s) < 0
        ·as_aux_lemma =>
         have kk29 := k29
         try simp at kk29
         refine EV.drawG tabOK mixedOK ?_ -- region 18
         simp (maxSteps := 2000000) -implicitDefEqProofs +contextual [k29, kk29]
         refine And.intro ?_ ?_
         ·first | decide +kernel | (simp -implicitDefEqProofs; decide +kernel) | (split <;> decide +kernel)
         try simp -implicitDefEqProofs
         refine ⟨(), ?_⟩
         try dsimp only
         refine Sub.cutF 4 (by simp) ?_ ?_ <;> simp [List.range_succ, toIdx_range, passed, k29, kk29]
        ·as_aux_lemma =>
         have kk29 := k29
         try simp at kk29
         cases k30 : (rNoUse p2.u)
         ·as_aux_lemma =>
          have kk30 := k30
          try simp at kk30
          refine EV.drawG tabOK mixedOK ?_ -- region 18
          simp (maxSteps := 2000000) -implicitDefEqProofs +contextual [k29, kk29, k30, kk30]
          refine callG_fun (w_rNoUse p2.u) ?_ ?_
          ·first | (simp; done) | (simp [k29, kk29, k30, kk30]; done)
          simp (maxSteps := 2000000) -implicitDefEqProofs +contextual [k29, kk29, k30, kk30]
          refine And.intro ?_ ?_
          ·first | decide +kernel | (simp -implicitDefEqProofs; decide +kernel) | (split <;> decide +kernel)
          try simp -implicitDefEqProofs
          refine ⟨(), ?_⟩
          try dsimp only
          refine Sub.cutF 4 (by simp) ?_ ?_ <;> simp [List.range_succ, toIdx_range, passed, k29, kk29, k30, kk30]
         ·as_aux_lemma =>
          have kk30 := k30
          try simp at kk30
          by_cases k31 : p2.v.k = 0
          ·as_aux_lemma =>
           have kk31 := k31
           try simp at kk31
           by_cases k32 : (p2.v.uses.length : Int) = 0
           ·as_aux_lemma =>
            have kk32 := k32
            try simp at kk32
            by_cases k33 : p2.v.which = 0
            ·as_aux_lemma =>
             have kk33 := k33
             try simp at kk33
             by_cases k34 : (p2.v.s.path.length : Int) = 0
             ·as_aux_lemma =>
              have kk34 := k34
              try simp at kk34
              by_cases k35 : p2.v.tag < 0
              ·as_aux_lemma =>
               have kk35 := k35
               try simp at kk35
               refine EV.drawG tabOK mixedOK ?_ -- region 18
               simp (maxSteps := 2000000) -implicitDefEqProofs +contextual [k29, kk29, k30, kk30, k31, kk31, k32, kk32, k33, kk33, k34, kk34, k35, kk35]
               refine callG_fun (w_rNoUse p2.u) ?_ ?_
               ·first | (simp; done) | (simp [k29, kk29, k30, kk30, k31, kk31, k32, kk32, k33, kk33, k34, kk34, k35, kk35]; done)
               simp (maxSteps := 2000000) -implicitDefEqProofs +contextual [k29, kk29, k30, kk30, k31, kk31, k32, kk32, k33, kk33, k34, kk34, k35, kk35]
               refine And.intro ?_ ?_
               ·first | decide +kernel | (simp -implicitDefEqProofs; decide +kernel) | (split <;> decide +kernel)
               try simp -implicitDefEqProofs
               refine ⟨(), ?_⟩
               try dsimp only
               refine Sub.cutF 4 (by simp) ?_ ?_ <;> simp [List.range_succ, toIdx_range, passed, k29, kk29, k30, kk30, k31, kk31, k32, kk32, k33, kk33, k34, kk34, k35, kk35]
              ·as_aux_lemma =>
               have kk35 := k35
               try simp at kk35
               have b36 : 0 ≤ (rEnum p0 p1 p2.s) ∧ (rEnum p0 p1 p2.s) < (p0.enums.length : Int) := by omega
               have c36 : ((rEnum p0 p1 p2.s)).toNat < p0.enums.length := by omega
               have hy18_42 : p0.enums[((rEnum p0 p1 p2.s)).toNat] = y18_42 := by rw [← gy18_42, List.getD_eq_getElem?_getD, List.getElem?_eq_getElem c36]; rfl
               have my18_42 : y18_42 ∈ p0.enums := by rw [← hy18_42]; exact List.getElem_mem _
               refine EV.drawG tabOK mixedOK ?_ -- region 18
               simp (maxSteps := 2000000) -implicitDefEqProofs +contextual [k29, kk29, k30, kk30, k31, kk31, k32, kk32, k33, kk33, k34, kk34, k35, kk35, b36, c36, hy18_42]
               refine callG_fun (w_rNoUse p2.u) ?_ ?_
               ·first | (simp; done) | (simp [k29, kk29, k30, kk30, k31, kk31, k32, kk32, k33, kk33, k34, kk34, k35, kk35, b36, c36, hy18_42]; done)
               simp (maxSteps := 2000000) -implicitDefEqProofs +contextual [k29, kk29, k30, kk30, k31, kk31, k32, kk32, k33, kk33, k34, kk34, k35, kk35, b36, c36, hy18_42]
               refine And.intro ?_ ?_
               ·first | decide +kernel | (simp -implicitDefEqProofs; decide +kernel) | (split <;> decide +kernel)
               try simp -implicitDefEqProofs
               refine ⟨(), ?_⟩
               try dsimp only
               refine Sub.cutF 4 (by simp) ?_ ?_ <;> simp [List.range_succ, toIdx_range, passed, k29, kk29, k30, kk30, k31, kk31, k32, kk32, k33, kk33, k34, kk34, k35, kk35, b36, c36, hy18_42]
             ·as_aux_lemma =>
              have kk34 := k34
              try simp at kk34
              refine EV.drawG tabOK mixedOK ?_ -- region 18
              simp (maxSteps := 2000000) -implicitDefEqProofs +contextual [k29, kk29, k30, kk30, k31, kk31, k32, kk32, k33, kk33, k34, kk34]
              refine callG_fun (w_rNoUse p2.u) ?_ ?_
              ·first | (simp; done) | (simp [k29, kk29, k30, kk30, k31, kk31, k32, kk32, k33, kk33, k34, kk34]; done)
              simp (maxSteps := 2000000) -implicitDefEqProofs +contextual [k29, kk29, k30, kk30, k31, kk31, k32, kk32, k33, kk33, k34, kk34]
              refine And.intro ?_ ?_
              ·first | decide +kernel | (simp -implicitDefEqProofs; decide +kernel) | (split <;> decide +kernel)
              try simp -implicitDefEqProofs
              refine ⟨(), ?_⟩
              try dsimp only
              refine Sub.cutF 4 (by simp) ?_ ?_ <;> simp [List.range_succ, toIdx_range, passed, k29, kk29, k30, kk30, k31, kk31, k32, kk32, k33, kk33, k34, kk34]
            ·as_aux_lemma =>
             have kk33 := k33
             try simp at kk33
             refine EV.drawG tabOK mixedOK ?_ -- region 18
             simp (maxSteps := 2000000) -implicitDefEqProofs +contextual [k29, kk29, k30, kk30, k31, kk31, k32, kk32, k33, kk33]
             refine callG_fun (w_rNoUse p2.u) ?_ ?_
             ·first | (simp; done) | (simp [k29, kk29, k30, kk30, k31, kk31, k32, kk32, k33, kk33]; done)
             simp (maxSteps := 2000000) -implicitDefEqProofs +contextual [k29, kk29, k30, kk30, k31, kk31, k32, kk32, k33, kk33]
             refine And.intro ?_ ?_
             ·first | decide +kernel | (simp -implicitDefEqProofs; decide +kernel) | (split <;> decide +kernel)
             try simp -implicitDefEqProofs
             refine ⟨(), ?_⟩
             try dsimp only
             refine Sub.cutF 4 (by simp) ?_ ?_ <;> simp [List.range_succ, toIdx_range, passed, k29, kk29, k30, kk30, k31, kk31, k32, kk32, k33, kk33]
           ·as_aux_lemma =>
            have kk32 := k32
            try simp at kk32
            refine EV.drawG tabOK mixedOK ?_ -- region 18
            simp (maxSteps := 2000000) -implicitDefEqProofs +contextual [k29, kk29, k30, kk30, k31, kk31, k32, kk32]
            refine callG_fun (w_rNoUse p2.u) ?_ ?_
            ·first | (simp; done) | (simp [k29, kk29, k30, kk30, k31, kk31, k32, kk32]; done)
            simp (maxSteps := 2000000) -implicitDefEqProofs +contextual [k29, kk29, k30, kk30, k31, kk31, k32, kk32]
            refine And.intro ?_ ?_
            ·first | decide +kernel | (simp -implicitDefEqProofs; decide +kernel) | (split <;> decide +kernel)
            try simp -implicitDefEqProofs
            refine ⟨(), ?_⟩
            try dsimp only
            refine Sub.cutF 4 (by simp) ?_ ?_ <;> simp [List.range_succ, toIdx_range, passed, k29, kk29, k30, kk30, k31, kk31, k32, kk32]
          ·as_aux_lemma =>
           have kk31 := k31
           try simp at kk31
           refine EV.drawG tabOK mixedOK ?_ -- region 18
           simp (maxSteps := 2000000) -implicitDefEqProofs +contextual [k29, kk29, k30, kk30, k31, kk31]
           refine callG_fun (w_rNoUse p2.u) ?_ ?_
           ·first | (simp; done) | (simp [k29, kk29, k30, kk30, k31, kk31]; done)
           simp (maxSteps := 2000000) -implicitDefEqProofs +contextual [k29, kk29, k30, kk30, k31, kk31]
           refine And.intro ?_ ?_
           ·first | decide +kernel | (simp -implicitDefEqProofs; decide +kernel) | (split <;> decide +kernel)
           try simp -implicitDefEqProofs
           refine ⟨(), ?_⟩
           try dsimp only
           refine Sub.cutF 4 (by simp) ?_ ?_ <;> simp [List.range_succ, toIdx_range, passed, k29, kk29, k30, kk30, k31, kk31]
       ·skip
        rintro _
        simp only [thenK_normal, blockK_normal, scopeK_normal, bodyK_normal]
        refine EV.condT ?_
        simp -implicitDefEqProofs
        refine condT_intro (fun k37 => ?_) (fun k37 => ?_)
        ·as_aux_lemma =>
         try simp at k37
         obtain ⟨f37, e⟩ := pos_on2 e (by first | simpa using k37 | grind)
         try simp at f37
         refine EV.seq ?_
         refine EV.regionG tabOK ?_ -- region 19
         simp (maxSteps := 2000000) -implicitDefEqProofs
         refine EV.ret ?_
         simp only [thenK_ret, blockK_ret, scopeK_ret, bodyK_ret]
         subst e
         refine Fin.pure0 ?_
         first | (simp; done) | (simp <;> grind)
        ·as_aux_lemma =>
         try simp at k37
         obtain ⟨f37, e⟩ := neg_on2 e (by first | simpa using k37 | grind)
         try simp at f37
         refine EV.skip ?_
         simp only [thenK_normal, blockK_normal, scopeK_normal]
         refine EV.seq ?_
         obtain ⟨y20_8, gy20_8⟩ : ∃ z, (y18_42.variants.getD ((p2.v.tag).toNat) default) = z := ⟨_, rfl⟩
         replace e := bnd_on e gy20_8
         try dsimp only at e
         have b38 : 0 ≤ (rEnum p0 p1 p2.s) ∧ (rEnum p0 p1 p2.s) < (p0.enums.length : Int) := by omega
         have c38 : ((rEnum p0 p1 p2.s)).toNat < p0.enums.length := by omega
         have hy18_42 : p0.enums[((rEnum p0 p1 p2.s)).toNat] = y18_42 := by rw [← gy18_42, List.getD_eq_getElem?_getD, List.getElem?_eq_getElem c38]; rfl
         have my18_42 : y18_42 ∈ p0.enums := by rw [← hy18_42]; exact List.getElem_mem _
         have b39 : 0 ≤ p2.v.tag ∧ p2.v.tag < (y18_42.variants.length : Int) := by omega
         have c39 : (p2.v.tag).toNat < y18_42.variants.length := by omega
         have hy20_8 : y18_42.variants[(p2.v.tag).toNat] = y20_8 := by rw [← gy20_8, List.getD_eq_getElem?_getD, List.getElem?_eq_getElem c39]; rfl
         have my20_8 : y20_8 ∈ y18_42.variants := by rw [← hy20_8]; exact List.getElem_mem _
         refine EV.drawG tabOK mixedOK ?_ -- region 20
         simp (maxSteps := 2000000) -implicitDefEqProofs [b38, c38, hy18_42, b39, c39, hy20_8]
         refine And.intro ?_ ?_
         ·first | decide +kernel | (simp -implicitDefEqProofs; decide +kernel) | (split <;> decide +kernel)
         try simp -implicitDefEqProofs
         refine EV.seq ?_
         refine EV.seq ?_
         refine EV.regionG tabOK ?_ -- region 21
         simp (maxSteps := 2000000) -implicitDefEqProofs [b38, c38, hy18_42, b39, c39, hy20_8]
         refine EV.condT ?_
         simp -implicitDefEqProofs [b38, c38, hy18_42, b39, c39, hy20_8]
         refine condT_intro (fun k40 => ?_) (fun k40 => ?_)
         ·as_aux_lemma =>
          try simp at k40
          obtain ⟨f40, e⟩ := pos_on2 e (by first | simpa using k40 | grind)
          try simp at f40
          refine EV.seq ?_
          refine EV.regionG tabOK ?_ -- region 22
          simp (maxSteps := 2000000) -implicitDefEqProofs [b38, c38, hy18_42, b39, c39, hy20_8]
          refine EV.ret ?_
          simp only [thenK_ret, blockK_ret, scopeK_ret, bodyK_ret]
          subst e
          refine Fin.pure0 ?_
          first | (simp; done) | (simp <;> grind)
         ·as_aux_lemma =>
          try simp at k40
          obtain ⟨f40, e⟩ := neg_on2 e (by first | simpa using k40 | grind)
          try simp at f40
          refine EV.skip ?_
          simp only [thenK_normal, blockK_normal, scopeK_normal]
          refine EV.seq ?_
          refine EV.regionG tabOK ?_ -- region 23
          simp (maxSteps := 2000000) -implicitDefEqProofs [b38, c38, hy18_42, b39, c39, hy20_8]
          refine callG_fun (w_rResolve p0 y20_8.ty) ?_ ?_
          ·first | (simp; done) | (simp [b38, c38, hy18_42, b39, c39, hy20_8]; done)
          simp (maxSteps := 2000000) -implicitDefEqProofs [b38, c38, hy18_42, b39, c39, hy20_8]
          refine EV.seq ?_
          refine EV.regionG tabOK ?_ -- region 24
          simp (maxSteps := 2000000) -implicitDefEqProofs [b38, c38, hy18_42, b39, c39, hy20_8]
          refine callG_fun (w_rType p0 p1 p2.v.s) ?_ ?_
          ·first | (simp; done) | (simp [b38, c38, hy18_42, b39, c39, hy20_8]; done)
          simp (maxSteps := 2000000) -implicitDefEqProofs [b38, c38, hy18_42, b39, c39, hy20_8]
          refine EV.seq ?_
          refine EV.regionG tabOK ?_ -- region 25
          simp (maxSteps := 2000000) -implicitDefEqProofs [b38, c38, hy18_42, b39, c39, hy20_8]
          refine callG_fun (w_rSameTy ((rResolve p0 y20_8.ty).1) ((rType p0 p1 p2.v.s).1)) ?_ ?_
          ·first | (simp; done) | (simp [b38, c38, hy18_42, b39, c39, hy20_8]; done)
          simp (maxSteps := 2000000) -implicitDefEqProofs [b38, c38, hy18_42, b39, c39, hy20_8]
          refine EV.seq ?_
          refine EV.regionG tabOK ?_ -- region 26
          simp (maxSteps := 2000000) -implicitDefEqProofs +contextual [b38, c38, hy18_42, b39, c39, hy20_8]
          refine EV.ret ?_
          simp only [thenK_ret, blockK_ret, scopeK_ret, bodyK_ret]
          subst e
          refine Fin.pure0 ?_
          first | (simp; done) | (simp <;> grind)
      ·as_aux_lemma =>
       try simp at k27
       obtain ⟨f27, e⟩ := neg_on2 e (by first | simpa using k27 | grind)
       try simp at f27
       refine EV.skip ?_
       simp only [thenK_normal, blockK_normal, scopeK_normal]
       refine EV.seq ?_
       refine EV.regionG tabOK ?_ -- region 27
       simp (maxSteps := 2000000) -implicitDefEqProofs
       refine EV.ret ?_
       simp only [thenK_ret, blockK_ret, scopeK_ret, bodyK_ret]
       subst e
       refine Fin.pure0 ?_
       first | (simp; done) | (simp <;> grind)
end
end Go.Proofs.Tryz
end
