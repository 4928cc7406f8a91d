/- The contract of the document's answer for a value. -/
import Derived.Test.YtakfpmogpnoibaaGreatDoorRefA
import Derived.Test.YtakfpmogpnoibaaGreatDoorMachD
set_option linter.unusedVariables false
set_option linter.unusedSimpArgs false
set_option linter.constructorNameAsVariable false
section
namespace Go.Proofs.Tryz
open Go Go.AM
attribute [local simp] wpG_op wpG_nil contG_some wpG_guard guardG_v guardG_o guardG_tup gval pureOp stepG_if isPick pickG_pick pickB_b pickOK isCall step_move step_assign step_alloc step_box boxV_some step_load step_store step_binOp step_unOp step_fieldAddr faV step_indexAddr ixA_slc ixA_arr step_extract extV_tup step_nilCheck ncV_ptr ncV_rp ncV_fn ncV_mp step_build buildV step_buildSlice bsV step_index ixV_arr ixV_str step_append apB step_makeSlice msV_i step_makeFunc over step_len step_makeMap mmV step_mapUpdate step_insert muA_map muB_mp step_lookup lkA_map lkB_mp step_slice slcV_s slcV_sl slcV_ro cutB_some slObV_arr bound_none bound_some bndV_i lenB_str lenB_ro lenB_sl lenB_nil lenB_z ld_ptr ld_rp offV_ptr offV_rp idxV_ro idxV_sl unV_not unV_neg binV_int binV_str binV_eqlb binV_neqb intOp strOp St.put updL setOb St.ev toV St.lk cellsOf AM.valOf TK.agg stv fillV places TI.zero condT_true condT_false finS resL resSlot packV ren ren1 ren0 Value.cells builtinV appendV elemsOf keepT room_of wrap_in toIdx passed Function.comp_def take_len_map lenV touchOf hid tab1 tab2 tab3 tab4 tab5 tab6 tab7 tab8 tab9 tab10 tab11 tab12 tab13 tab14 tab15 tab16 tab17 tab18 tab19 tab20 tab21 tab22 tab23 tab24 tab25 tab26 tab27 tab28 tab29 tab30 tab31 tab32 tab33 tab34 tab35 tab36 tab37 tab38 tab39 tab40 tab41 tab42 tab43 tab44 tab45 tab46 tab47 tab48 tab49 tab50 tab51 tab52 tab53 tab54 tab55 tab56 tab57 tab58 tab59 tab60 tab61 tab62 tab63 tab64 tab65 tab66 tab67 tab68 tab69 tab70 tab71 tab73 tab74 tab76 tab77 tab78 tab79 tab80 tab81 tab82 tab83 tab84 tab85 tab86 tab87 tab88 tab89 tab90 tab91 tab92 tab93 tab94 tab95 tab96 tab97 tab98 tab99 tab100 tab101 tab102 tab103 tab104 tab105 tab106 tab107 tab108 tab109 tab110 tab111 tab112 tab113 tab114 tab115 tab116 tab117 tab118 tab119 tab120 tab121 tab122 tab123 tab124 tab125 tab126 tab127 tab128 tab129 tab130 tab131 tab132 tab133 tab134 tab135 tab136 tab137 tab138 tab139 tab140 tab141 tab142 tab143 tab144 tab145 tab146 tab147 tab148 tab149 tab150 tab151 tab152 tab153 tab154 tab155 tab156 tab157 tab158 tab159 tab160 tab161 tab162 tab163 tab164 tab165 tab166 tab167 tab168 tab169 tab170 tab171 tab172 tab173 tab174 tab175 tab176 tab177 tab178 tab179 tab180 tab181 tab182 tab184 tab185 tab186 tab187 tab188 tab189 tab190 tab191 tab192 tab193 tab194 tab195 tab196 tab197 tab199 tab200 tab201 tab202 tab203 tab205 tab206 tab208 tab209 tab210 tab211 tab212 tab213 tab214 tab215 tab216 tab217 tab218 tab219 tab220 tab221 tab222 tab223 tab224 tab225 tab227 tab228 tab229 tab230 tab231 tab232 tab233 tab234 tab235 tab236 tab237 tab238 tab239 tab240 tab241 tab243 tab244 tab246 tab247 tab249 tab250 tab251 tab252 tab253 tab254 tab255 tab257 tab258 tab259 tab260 tab261 tab262 tab263 tab264 tab265 tab266 tab267 tab268 tab272 tab273 tab274 tab275 tab276 tab277 tab278 armC_eq blockC_eq bodyC_eq enumC_eq fieldC_eq fnC_eq inC_eq localC_eq mirBodyC_eq operC_eq placeC_eq rvC_eq sourceC_eq spotC_eq stepC_eq stmtC_eq structC_eq tmC_eq tyC_eq useC_eq valueC_eq variantC_eq cutL_nil cutL_junk cutL_cons ren_arr ren_gone ren_unborn ren_var ren_row step_convert cvV_i cvV_sl cvV_s cvK_slc cvE_u8 bytesOf bor1 bor2 bor3 bor4
set_option linter.unusedSimpArgs false
set_option linter.unusedVariables false
set_option maxRecDepth 10000
set_option maxHeartbeats 4000000
noncomputable section

def rValue (p0 : SourceD) (p1 : BodyD) (p2 : ValueD) : TyD × Int :=
 (bnd (if p2.k = 10 then (p0.structs.length : Int) else (if p2.k = 11 then (p0.enums.length : Int) else (if p2.k = 12 then (p0.fns.length : Int) else (-1)))) fun (v3 : Int) => (if (0 ≤ v3) ∧ ((p2.which < 0) ∨ (v3 ≤ p2.which)) then (((rNone 71).1), (rNone 71).2) else (if (v3 < 0) ∧ (¬ (p2.which = 0)) then (((rNone 80).1), (rNone 80).2) else (bnd (p0.enums.getD ((p2.which).toNat) default) fun (y13_14 : EnumD) => (if (p2.k = 11) ∧ ((p2.tag < 0) ∨ ((y13_14.variants.length : Int) ≤ p2.tag)) then (((rNone 83).1), (rNone 83).2) else (if (¬ (p2.k = 11)) ∧ (¬ (p2.tag = 0)) then (((rNone 80).1), (rNone 80).2) else (Ctl.run ((bnd (if p2.k = 0 then true else (decide (p2.k = 8))) fun (v23 : Bool) => (if v23 = true then (if ¬ ((rNoSpot p2.s) = true) then .ret (((rNone 84).1), (rNone 84).2) else (if ¬ ((p2.uses.length : Int) = 1) then .ret (((rNone 81).1), (rNone 81).2) else (bnd (p2.uses.getD 0 default) fun (y28_4 : UseD) => (if ¬ ((rUse p0 p1 y28_4).2 = 0) then .ret (((rNone ((rUse p0 p1 y28_4).2)).1), (rNone ((rUse p0 p1 y28_4).2)).2) else (if p2.k = 0 then .ret (((rUse p0 p1 y28_4).1), 0) else (if (rHolds ((rUse p0 p1 y28_4).1)) = true then .ret (((rNone 73).1), (rNone 73).2) else .ret ((TyD.mk 4 ([] : List UInt8) ([((rUse p0 p1 y28_4).1)] : List TyD)), 0))))))) else (bnd (if p2.k = 1 then true else (if p2.k = 2 then true else (if p2.k = 3 then true else (if p2.k = 4 then true else (decide (p2.k = 5)))))) fun (v37 : Bool) => (if v37 = true then .go (([(TyD.mk 1 ([] : List UInt8) ([])), (TyD.mk 1 ([] : List UInt8) ([]))] : List TyD), (TyD.mk 1 ([] : List UInt8) ([]))) else (bnd (if p2.k = 6 then true else (decide (p2.k = 7))) fun (v43 : Bool) => (if v43 = true then (if ¬ ((rType p0 p1 p2.s).2.2 = 0) then .ret (((rNone ((rType p0 p1 p2.s).2.2)).1), (rNone ((rType p0 p1 p2.s).2.2)).2) else (if (rHolds ((rType p0 p1 p2.s).1)) = true then .ret (((rNone 73).1), (rNone 73).2) else (Ctl.bind ((if p2.k = 7 then (if (rType p0 p1 p2.s).2.1 = true then .ret (((rNone 84).1), (rNone 84).2) else .go 6) else .go 5) : Ctl (TyD × Int) (Int)) fun (v51 : Int) => (if ¬ ((p2.uses.length : Int) = 0) then .ret (((rNone 81).1), (rNone 81).2) else .ret ((TyD.mk v51 ([] : List UInt8) ([((rType p0 p1 p2.s).1)] : List TyD)), 0))))) else (if p2.k = 9 then (if (¬ ((rType p0 p1 p2.s).2.2 = 0)) ∨ (0 < (p2.s.path.length : Int)) then .ret (((rNone 84).1), (rNone 84).2) else (if (¬ (((rType p0 p1 p2.s).1).k = 4)) ∨ (¬ (((((rType p0 p1 p2.s).1).l).length : Int) = 1)) then .ret (((rNone 80).1), (rNone 80).2) else (if ¬ ((p2.uses.length : Int) = 0) then .ret (((rNone 81).1), (rNone 81).2) else (bnd ((((rType p0 p1 p2.s).1).l).getD 0 default) fun (y65_2 : TyD) => .ret (y65_2, 0))))) else (if p2.k = 10 then (bnd (p0.structs.getD ((p2.which).toNat) default) fun (y67_4 : StructD) => .go ((rTys y67_4.fields), (TyD.mk 2 y67_4.name ([])))) else (if p2.k = 11 then (bnd (y13_14.variants.getD ((p2.tag).toNat) default) fun (y71_9 : VariantD) => (if ¬ (y71_9.ty.k = 0) then .go (([y71_9.ty] : List TyD), (TyD.mk 3 y13_14.name ([]))) else .go ([], (TyD.mk 3 y13_14.name ([]))))) else (if p2.k = 12 then (bnd (p0.fns.getD ((p2.which).toNat) default) fun (y75_4 : FnD) => .go ((rTys y75_4.params), (TyD.mk 7 y75_4.name ([])))) else .ret (((rNone 80).1), (rNone 80).2))))))))))) : Ctl (TyD × Int) ((List TyD) × TyD)) fun (v22 : (List TyD) × TyD) => (if ¬ ((rNoSpot p2.s) = true) then (((rNone 84).1), (rNone 84).2) else (if ¬ ((rUses p0 p1 p2.uses v22.1) = 0) then (((rNone (rUses p0 p1 p2.uses v22.1)).1), (rNone (rUses p0 p1 p2.uses v22.1)).2) else (v22.2, 0))))))))))
set_option maxHeartbeats 40000000 in
theorem w_rValue (p0 : SourceD) (p1 : BodyD) (p2 : ValueD) (hs : SrcOK p0) : QC prog 28 [.agg [.ro 4 (p0.structs.map structC), .ro 3 (p0.enums.map enumC), .ro 4 (p0.fns.map fnC)], .agg [.s p1.name, .i .i64 p1.params, .ro 4 (p1.locals.map localC), .ro 17 (p1.blocks.map blockC)], .agg [.i .i64 p2.k, .ro 5 (p2.uses.map useC), .i .i64 p2.s.local_, .ro 1 (p2.s.path.map (fun z => [.i .i64 z])), .i .i64 p2.which, .i .i64 p2.tag]] [] (.tup [.agg [.i .i64 (((rValue p0 p1 p2).1).k), .s (((rValue p0 p1 p2).1).name), .ro 3 ((((rValue p0 p1 p2).1).l).map tyC)], .i .i64 ((rValue p0 p1 p2).2)]) [] := by
 refine QC.of_body tabOK func28 rfl (by kernel_rfl) ?_
 simp only [f28]
 generalize e : rValue p0 p1 p2 = R
 unfold rValue at e
 refine EV.seq ?_
 refine EV.regionG tabOK ?_ -- region 0
 simp (maxSteps := 2000000) -implicitDefEqProofs
 refine EV.seq ?_
 refine EV.regionG tabOK ?_ -- region 1
 simp (maxSteps := 2000000) -implicitDefEqProofs
 refine EV.seq ?_
 refine EV.seq ?_
 refine EV.regionG tabOK ?_ -- region 2
 simp (maxSteps := 2000000) -implicitDefEqProofs
 obtain ⟨z3, e3, e⟩ := bnd_split e
 refine EV.nrm (fun v : { v : (Int) × (Unit) // z3 = v.1 } => (fun (v3 : Int) (g3 : Unit) => (⟨[J, J, J, .ptr 0 0 0 0, .ptr 1 0 0 0, .ptr 2 0 0 0, .ptr 3 0 0 0, J, .i .i64 v3, J, J, J, J, J, J, J, J, J, J, J, J, J, J, J, J, J, J, J, J, J, J, J, J, J, J, J, J, J, J, J, J, J, J, J, J, J, J, J, J, J, J, J, J, J, J, J, J, J, J, J, J, J, J, J, J, J, J, J, J, J, J, J, J, J, J, J, J, J, J, J, J, J, J, J, J, J, J, J, J, J, J, J, J, J, J, J, J, J, J, J, J, J, J, J, J, J, J, J, J, J, J, J, J, J, J, J, J, J, J, J, J, J, J, J, J, J, J, J, J, J, J, J, J, J, J, J, J, J, J, J, J, J, J, J, J, J, J, J, J, J, J, J, J, J, J, J, J, J, J, J, J, J, J, J, J, J, J, J, J, J, J, J, J, J, J, J, J, J, J, J, J, J, J, J, J, J, J, J, J, J, J, J, J, J, J, J, J, J, J, J, J, J, J, J, J, J, J, J, J, J, J, J, J, J, J, J, J, J, J, J, J, J, J, J, J, J, J, J, J, J, J, J, J, J, J, J, J, J, J, J, J, J, J, J, J, J, J, J, J, J, J, J, J, J, J, J, J, J, J, J, J, J, J, J, J, J, J, J, J, J, J, J, J, J, J, J, J, J, J, J, J, J, J, J, J, J, J, J, J, J, J, J, J, J, J, J, J, J, J, J, J, J, J, J, J, J, J, J, J, J, J, J, J, J, J, J, J, J, J, J, J, J, J, J, J, J, J, J, J, J, J, J], [.arr 0 3 [[.ro 4 (p0.structs.map structC), .ro 3 (p0.enums.map enumC), .ro 4 (p0.fns.map fnC)]], .arr 0 4 [[.s p1.name, .i .i64 p1.params, .ro 4 (p1.locals.map localC), .ro 17 (p1.blocks.map blockC)]], .arr 0 6 [[.i .i64 p2.k, .ro 5 (p2.uses.map useC), .i .i64 p2.s.local_, .ro 1 (p2.s.path.map (fun z => [.i .i64 z])), .i .i64 p2.which, .i .i64 p2.tag]], .arr 0 3 [[.i .i64 0, .s ([] : List UInt8), .c (.slice none 0 0)]]]⟩ : St)) v.1.1 v.1.2) ?_ ?_
 ·skip
  refine EV.block ?_
  refine EV.seq ?_
  refine EV.regionG tabOK ?_ -- region 3
  simp (maxSteps := 2000000) -implicitDefEqProofs
  refine EV.condT ?_
  simp -implicitDefEqProofs
  refine condT_intro (fun k1 => ?_) (fun k1 => ?_)
  ·try simp at k1
   obtain ⟨f1, e3⟩ := pos_on2 e3 (by first | simpa using k1 | grind)
   try simp at f1
   refine EV.regionG tabOK ?_ -- region 4
   simp (maxSteps := 2000000) -implicitDefEqProofs
   refine ⟨⟨((p0.structs.length : Int), ()), e3.symm⟩, ?_⟩
   try dsimp only
   refine Sub.cutF 4 (by simp) ?_ ?_ <;> simp [List.range_succ, toIdx_range, passed]
  ·try simp at k1
   obtain ⟨f1, e3⟩ := neg_on2 e3 (by first | simpa using k1 | grind)
   try simp at f1
   refine EV.seq ?_
   refine EV.regionG tabOK ?_ -- region 5
   simp (maxSteps := 2000000) -implicitDefEqProofs
   refine EV.condT ?_
   simp -implicitDefEqProofs
   refine condT_intro (fun k2 => ?_) (fun k2 => ?_)
   ·try simp at k2
    obtain ⟨f2, e3⟩ := pos_on2 e3 (by first | simpa using k2 | grind)
    try simp at f2
    refine EV.regionG tabOK ?_ -- region 6
    simp (maxSteps := 2000000) -implicitDefEqProofs
    refine ⟨⟨((p0.enums.length : Int), ()), e3.symm⟩, ?_⟩
    try dsimp only
    refine Sub.cutF 4 (by simp) ?_ ?_ <;> simp [List.range_succ, toIdx_range, passed]
   ·try simp at k2
    obtain ⟨f2, e3⟩ := neg_on2 e3 (by first | simpa using k2 | grind)
    try simp at f2
    refine EV.seq ?_
    refine EV.regionG tabOK ?_ -- region 7
    simp (maxSteps := 2000000) -implicitDefEqProofs
    refine EV.condT ?_
    simp -implicitDefEqProofs
    refine condT_intro (fun k3 => ?_) (fun k3 => ?_)
    ·try simp at k3
     obtain ⟨f3, e3⟩ := pos_on2 e3 (by first | simpa using k3 | grind)
     try simp at f3
     refine EV.regionG tabOK ?_ -- region 8
     simp (maxSteps := 2000000) -implicitDefEqProofs
     refine ⟨⟨((p0.fns.length : Int), ()), e3.symm⟩, ?_⟩
     try dsimp only
     refine Sub.cutF 4 (by simp) ?_ ?_ <;> simp [List.range_succ, toIdx_range, passed]
    ·try simp at k3
     obtain ⟨f3, e3⟩ := neg_on2 e3 (by first | simpa using k3 | grind)
     try simp at f3
     refine EV.skip ?_
     simp only [thenK_normal, blockK_normal, scopeK_normal]
     refine ⟨⟨((-1), ()), e3.symm⟩, ?_⟩
     try dsimp only
     refine Sub.cutF 4 (by simp) ?_ ?_ <;> simp [List.range_succ, toIdx_range, passed]
 ·skip
  rintro ⟨⟨v3, g3⟩, e3⟩
  simp only [thenK_normal, blockK_normal, scopeK_normal, bodyK_normal]
  replace e := bnd_on e e3
  try dsimp only at e
  refine EV.seq ?_
  refine EV.seq ?_
  refine EV.regionG tabOK ?_ -- region 9
  simp (maxSteps := 2000000) -implicitDefEqProofs +contextual
  refine EV.condT ?_
  simp -implicitDefEqProofs
  refine condT_intro (fun k4 => ?_) (fun k4 => ?_)
  ·try simp at k4
   obtain ⟨f4, e⟩ := pos_on2 e (by first | simpa using k4 | grind)
   try simp at f4
   refine EV.seq ?_
   refine EV.regionG tabOK ?_ -- region 10
   simp (maxSteps := 2000000) -implicitDefEqProofs
   refine callG_fun (w_rNone 71) ?_ ?_
   ·simp
   simp (maxSteps := 2000000) -implicitDefEqProofs
   refine EV.ret ?_
   simp only [thenK_ret, blockK_ret, scopeK_ret, bodyK_ret]
   subst e
   refine Fin.pure0 ?_
   first | (simp; done) | (simp <;> grind)
  ·try simp at k4
   obtain ⟨f4, e⟩ := neg_on2 e (by first | simpa using k4 | grind)
   try simp at f4
   refine EV.skip ?_
   simp only [thenK_normal, blockK_normal, scopeK_normal]
   refine EV.seq ?_
   refine EV.seq ?_
   refine EV.regionG tabOK ?_ -- region 11
   simp (maxSteps := 2000000) -implicitDefEqProofs +contextual
   refine EV.condT ?_
   simp -implicitDefEqProofs
   refine condT_intro (fun k5 => ?_) (fun k5 => ?_)
   ·try simp at k5
    obtain ⟨f5, e⟩ := pos_on2 e (by first | simpa using k5 | grind)
    try simp at f5
    refine EV.seq ?_
    refine EV.regionG tabOK ?_ -- region 12
    simp (maxSteps := 2000000) -implicitDefEqProofs
    refine callG_fun (w_rNone 80) ?_ ?_
    ·simp
    simp (maxSteps := 2000000) -implicitDefEqProofs
    refine EV.ret ?_
    simp only [thenK_ret, blockK_ret, scopeK_ret, bodyK_ret]
    subst e
    refine Fin.pure0 ?_
    first | (simp; done) | (simp <;> grind)
   ·try simp at k5
    obtain ⟨f5, e⟩ := neg_on2 e (by first | simpa using k5 | grind)
    try simp at f5
    refine EV.skip ?_
    simp only [thenK_normal, blockK_normal, scopeK_normal]
    refine EV.seq ?_
    refine EV.seq ?_
    obtain ⟨y13_14, gy13_14⟩ : ∃ z, (p0.enums.getD ((p2.which).toNat) default) = z := ⟨_, rfl⟩
    replace e := bnd_on e gy13_14
    try dsimp only at e
    refine EV.nrm (fun _ : Unit => (⟨[J, J, J, .ptr 0 0 0 0, .ptr 1 0 0 0, .ptr 2 0 0 0, .ptr 3 0 0 0, J, J, J, J, J, J, J, J, J, J, J, J, J, J, J, J, J, J, J, J, J, J, J, J, J, J, J, J, J, J, J, J, J, J, J, J, J, J, J, J, J, J, J, J, J, J, J, J, J, J, J, J, J, J, J, J, J, J, J, J, J, J, J, J, J, J, J, J, J, J, J, J, J, J, J, J, J, J, J, .b ((decide (p2.k = 11)) && ((decide (p2.tag < 0)) || (decide ((y13_14.variants.length : Int) ≤ p2.tag)))), J, J, J, J, J, J, J, J, J, J, J, J, J, J, J, J, J, J, J, J, J, J, J, J, J, J, J, J, J, J, J, J, J, J, J, J, J, J, J, J, J, J, J, J, J, J, J, J, J, J, J, J, J, J, J, J, J, J, J, J, J, J, J, J, J, J, J, J, J, J, J, J, J, J, J, J, J, J, J, J, J, J, J, J, J, J, J, J, J, J, J, J, J, J, J, J, J, J, J, J, J, J, J, J, J, J, J, J, J, J, J, J, J, J, J, J, J, J, J, J, J, J, J, J, J, J, J, J, J, J, J, J, J, J, J, J, J, J, J, J, J, J, J, J, J, J, J, J, J, J, J, J, J, J, J, J, J, J, J, J, J, J, J, J, J, J, J, J, J, J, J, J, J, J, J, J, J, J, J, J, J, J, J, J, J, J, J, J, J, J, J, J, J, J, J, J, J, J, J, J, J, J, J, J, J, J, J, J, J, J, J, J, J, J, J, J, J, J, J, J, J, J, J, J, J, J, J, J, J, J, J, J, J, J, J, J, J, J, J, J, J, J, J, J, J], [.arr 0 3 [[.ro 4 (p0.structs.map structC), .ro 3 (p0.enums.map enumC), .ro 4 (p0.fns.map fnC)]], .arr 0 4 [[.s p1.name, .i .i64 p1.params, .ro 4 (p1.locals.map localC), .ro 17 (p1.blocks.map blockC)]], .arr 0 6 [[.i .i64 p2.k, .ro 5 (p2.uses.map useC), .i .i64 p2.s.local_, .ro 1 (p2.s.path.map (fun z => [.i .i64 z])), .i .i64 p2.which, .i .i64 p2.tag]], .arr 0 3 [[.i .i64 0, .s ([] : List UInt8), .c (.slice none 0 0)]]]⟩ : St)) ?_ ?_
    ·skip
     by_cases k7 : p2.k = 11
     ·skip
      have kk7 := k7
      try simp at kk7
      by_cases k8 : p2.tag < 0
      ·skip
       have kk8 := k8
       try simp at kk8
       refine EV.drawG tabOK mixedOK ?_ -- region 13
       simp (maxSteps := 2000000) -implicitDefEqProofs +contextual [k7, kk7, k8, kk8]
       refine And.intro ?_ ?_
       ·first | decide +kernel | (simp -implicitDefEqProofs; decide +kernel) | (split <;> decide +kernel)
       try simp -implicitDefEqProofs
       refine ⟨(), ?_⟩
       try dsimp only
       refine Sub.cutF 4 (by simp) ?_ ?_ <;> simp [List.range_succ, toIdx_range, passed, k7, kk7, k8, kk8]
      ·skip
       have kk8 := k8
       try simp at kk8
       have b9 : 0 ≤ p2.which ∧ p2.which < (p0.enums.length : Int) := by omega
       have c9 : (p2.which).toNat < p0.enums.length := by omega
       have hy13_14 : p0.enums[(p2.which).toNat] = y13_14 := by rw [← gy13_14, List.getD_eq_getElem?_getD, List.getElem?_eq_getElem c9]; rfl
       have my13_14 : y13_14 ∈ p0.enums := by rw [← hy13_14]; exact List.getElem_mem _
       refine EV.drawG tabOK mixedOK ?_ -- region 13
       simp (maxSteps := 2000000) -implicitDefEqProofs +contextual [k7, kk7, k8, kk8, b9, c9, hy13_14]
       refine And.intro ?_ ?_
       ·first | decide +kernel | (simp -implicitDefEqProofs; decide +kernel) | (split <;> decide +kernel)
       try simp -implicitDefEqProofs
       refine ⟨(), ?_⟩
       try dsimp only
       refine Sub.cutF 4 (by simp) ?_ ?_ <;> simp [List.range_succ, toIdx_range, passed, k7, kk7, k8, kk8, b9, c9, hy13_14]
     ·skip
      have kk7 := k7
      try simp at kk7
      refine EV.drawG tabOK mixedOK ?_ -- region 13
      simp (maxSteps := 2000000) -implicitDefEqProofs +contextual [k7, kk7]
      refine And.intro ?_ ?_
      ·first | decide +kernel | (simp -implicitDefEqProofs; decide +kernel) | (split <;> decide +kernel)
      try simp -implicitDefEqProofs
      refine ⟨(), ?_⟩
      try dsimp only
      refine Sub.cutF 4 (by simp) ?_ ?_ <;> simp [List.range_succ, toIdx_range, passed, k7, kk7]
    ·skip
     rintro _
     simp only [thenK_normal, blockK_normal, scopeK_normal, bodyK_normal]
     refine EV.condT ?_
     simp -implicitDefEqProofs
     refine condT_intro (fun k10 => ?_) (fun k10 => ?_)
     ·try simp at k10
      obtain ⟨f10, e⟩ := pos_on2 e (by first | simpa using k10 | grind)
      try simp at f10
      refine EV.seq ?_
      refine EV.regionG tabOK ?_ -- region 14
      simp (maxSteps := 2000000) -implicitDefEqProofs
      refine callG_fun (w_rNone 83) ?_ ?_
      ·simp
      simp (maxSteps := 2000000) -implicitDefEqProofs
      refine EV.ret ?_
      simp only [thenK_ret, blockK_ret, scopeK_ret, bodyK_ret]
      subst e
      refine Fin.pure0 ?_
      first | (simp; done) | (simp <;> grind)
     ·try simp at k10
      obtain ⟨f10, e⟩ := neg_on2 e (by first | simpa using k10 | grind)
      try simp at f10
      refine EV.skip ?_
      simp only [thenK_normal, blockK_normal, scopeK_normal]
      refine EV.seq ?_
      refine EV.seq ?_
      refine EV.regionG tabOK ?_ -- region 15
      simp (maxSteps := 2000000) -implicitDefEqProofs +contextual
      refine EV.condT ?_
      simp -implicitDefEqProofs
      refine condT_intro (fun k11 => ?_) (fun k11 => ?_)
      ·try simp at k11
       obtain ⟨f11, e⟩ := pos_on2 e (by first | simpa using k11 | grind)
       try simp at f11
       refine EV.seq ?_
       refine EV.regionG tabOK ?_ -- region 16
       simp (maxSteps := 2000000) -implicitDefEqProofs
       refine callG_fun (w_rNone 80) ?_ ?_
       ·simp
       simp (maxSteps := 2000000) -implicitDefEqProofs
       refine EV.ret ?_
       simp only [thenK_ret, blockK_ret, scopeK_ret, bodyK_ret]
       subst e
       refine Fin.pure0 ?_
       first | (simp; done) | (simp <;> grind)
      ·try simp at k11
       obtain ⟨f11, e⟩ := neg_on2 e (by first | simpa using k11 | grind)
       try simp at f11
       refine EV.skip ?_
       simp only [thenK_normal, blockK_normal, scopeK_normal]
       refine EV.seq ?_
       refine EV.regionG tabOK ?_ -- region 17
       simp (maxSteps := 2000000) -implicitDefEqProofs
       refine EV.seq ?_
       refine EV.regionG tabOK ?_ -- region 18
       simp (maxSteps := 2000000) -implicitDefEqProofs
       refine EV.seq ?_
       refine EV.regionG tabOK ?_ -- region 19
       simp (maxSteps := 2000000) -implicitDefEqProofs
       refine EV.seq ?_
       refine EV.seq ?_
       refine EV.regionG tabOK ?_ -- region 20
       simp (maxSteps := 2000000) -implicitDefEqProofs
       obtain ⟨z22, e22, e⟩ := run_split e
       refine EV.nrm (fun v : { v : ((List TyD) × TyD) × (Unit) // z22 = .go v.1 } => (fun (v22 : (List TyD) × TyD) (g22 : Unit) => (⟨[J, J, J, .ptr 0 0 0 0, .ptr 1 0 0 0, .ptr 2 0 0 0, .ptr 3 0 0 0, J, J, J, .ptr 5 0 0 0, .ro 3 (v22.1.map tyC), J, J, J, J, J, J, J, J, J, J, J, J, J, J, J, J, J, J, J, J, J, J, J, J, J, J, J, J, J, J, J, J, J, J, J, J, J, J, J, J, J, J, J, J, J, J, J, J, J, J, J, J, J, J, J, J, J, J, J, J, J, J, J, J, J, J, J, J, J, J, J, J, J, J, J, J, J, J, J, J, J, J, J, J, J, J, J, J, J, J, J, J, J, J, J, J, J, J, J, J, J, J, J, J, J, J, J, J, J, J, J, J, J, J, J, J, J, J, J, J, J, J, J, J, J, J, J, J, J, J, J, J, J, J, J, J, J, J, J, J, J, J, J, J, J, J, J, J, J, J, J, J, J, J, J, J, J, J, J, J, J, J, J, J, J, J, J, J, J, J, J, J, J, J, J, J, J, J, J, J, J, J, J, J, J, J, J, J, J, J, J, J, J, J, J, J, J, J, J, J, J, J, J, J, J, J, J, J, J, J, J, J, J, J, J, J, J, J, J, J, J, J, J, J, J, J, J, J, J, J, J, J, J, J, J, J, J, J, J, J, J, J, J, J, J, J, J, J, J, J, J, J, J, J, J, J, J, J, J, J, J, J, J, J, J, J, J, J, J, J, J, J, J, J, J, J, J, J, J, J, J, J, J, J, J, J, J, J, J, J, J, J, J, J, J, J, J, J, J, J, J, J, J, J, J, J, J, J, J, J, J, J, J, J, J, J, J, J, J, J], [.arr 0 3 [[.ro 4 (p0.structs.map structC), .ro 3 (p0.enums.map enumC), .ro 4 (p0.fns.map fnC)]], .arr 0 4 [[.s p1.name, .i .i64 p1.params, .ro 4 (p1.locals.map localC), .ro 17 (p1.blocks.map blockC)]], .arr 0 6 [[.i .i64 p2.k, .ro 5 (p2.uses.map useC), .i .i64 p2.s.local_, .ro 1 (p2.s.path.map (fun z => [.i .i64 z])), .i .i64 p2.which, .i .i64 p2.tag]], .arr 0 3 [[.i .i64 0, .s ([] : List UInt8), .c (.slice none 0 0)]], .arr 0 3 [[.i .i64 1, .s ([] : List UInt8), .c (.slice none 0 0)]], .arr 0 3 [[.i .i64 v22.2.k, .s v22.2.name, .ro 3 (v22.2.l.map tyC)]]]⟩ : St)) v.1.1 v.1.2) ?_ ?_
       ·skip
        refine EV.block ?_
        refine EV.seq ?_
        refine EV.seq ?_
        refine EV.regionG tabOK ?_ -- region 22
        simp (maxSteps := 2000000) -implicitDefEqProofs
        obtain ⟨z23, e23, e22⟩ := bnd_split e22
        refine EV.nrm (fun v : { v : (Bool) × (Unit) // z23 = v.1 } => (fun (v23 : Bool) (g23 : Unit) => (⟨[J, J, J, .ptr 0 0 0 0, .ptr 1 0 0 0, .ptr 2 0 0 0, .ptr 3 0 0 0, J, J, .ptr 4 0 0 0, .ptr 5 0 0 0, .c (.slice none 0 0), J, J, J, J, J, J, J, J, J, J, J, J, J, J, J, J, J, J, J, J, J, J, J, J, J, J, J, J, J, J, J, J, J, J, J, J, J, J, J, J, J, J, J, J, J, J, J, J, J, J, J, J, J, J, J, J, J, J, J, J, J, J, J, J, J, J, J, J, J, J, J, J, J, J, J, J, J, J, J, J, J, J, J, J, J, J, J, J, J, J, J, J, .i .i64 p2.k, J, J, J, .b v23, J, J, J, J, J, J, J, J, J, J, J, J, J, J, J, J, J, J, J, J, J, J, J, J, J, J, J, J, J, J, J, J, J, J, J, J, J, J, J, J, J, J, J, J, J, J, J, J, J, J, J, J, J, J, J, J, J, J, J, J, J, J, J, J, J, J, J, J, J, J, J, J, J, J, J, J, J, J, J, J, J, J, J, J, J, J, J, J, J, J, J, J, J, J, J, J, J, J, J, J, J, J, J, J, J, J, J, J, J, J, J, J, J, J, J, J, J, J, J, J, J, J, J, J, J, J, J, J, J, J, J, J, J, J, J, J, J, J, J, J, J, J, J, J, J, J, J, J, J, J, J, J, J, J, J, J, J, J, J, J, J, J, J, J, J, J, J, J, J, J, J, J, J, J, J, J, J, J, J, J, J, J, J, J, J, J, J, J, J, J, J, J, J, J, J, J, J, J, J, J, J, J, J, J, J, J, J, J, J, J, J, J, J, J, J, J, J, J, J, J, J, J, J], [.arr 0 3 [[.ro 4 (p0.structs.map structC), .ro 3 (p0.enums.map enumC), .ro 4 (p0.fns.map fnC)]], .arr 0 4 [[.s p1.name, .i .i64 p1.params, .ro 4 (p1.locals.map localC), .ro 17 (p1.blocks.map blockC)]], .arr 0 6 [[.i .i64 p2.k, .ro 5 (p2.uses.map useC), .i .i64 p2.s.local_, .ro 1 (p2.s.path.map (fun z => [.i .i64 z])), .i .i64 p2.which, .i .i64 p2.tag]], .arr 0 3 [[.i .i64 0, .s ([] : List UInt8), .c (.slice none 0 0)]], .arr 0 3 [[.i .i64 1, .s ([] : List UInt8), .c (.slice none 0 0)]], .arr 0 3 [[.i .i64 1, .s ([] : List UInt8), .c (.slice none 0 0)]]]⟩ : St)) v.1.1 v.1.2) ?_ ?_
        ·skip
         refine EV.condT ?_
         simp -implicitDefEqProofs
         refine condT_intro (fun k12 => ?_) (fun k12 => ?_)
         ·try simp at k12
          obtain ⟨f12, e23⟩ := pos_on2 e23 (by first | simpa using k12 | grind)
          try simp at f12
          refine EV.skip ?_
          simp only [thenK_normal, blockK_normal, scopeK_normal]
          refine ⟨⟨(true, ()), e23.symm⟩, ?_⟩
          try dsimp only
          refine Sub.cutF 6 (by simp) ?_ ?_ <;> simp [List.range_succ, toIdx_range, passed]
         ·try simp at k12
          obtain ⟨f12, e23⟩ := neg_on2 e23 (by first | simpa using k12 | grind)
          try simp at f12
          refine EV.regionG tabOK ?_ -- region 23
          simp (maxSteps := 2000000) -implicitDefEqProofs
          refine ⟨⟨((decide (p2.k = 8)), ()), e23.symm⟩, ?_⟩
          try dsimp only
          refine Sub.cutF 6 (by simp) ?_ ?_ <;> simp [List.range_succ, toIdx_range, passed]
        ·skip
         rintro ⟨⟨v23, g23⟩, e23⟩
         simp only [thenK_normal, blockK_normal, scopeK_normal, bodyK_normal]
         replace e22 := bnd_on e22 e23
         try dsimp only at e22
         refine EV.condT ?_
         simp -implicitDefEqProofs
         refine condT_intro (fun k13 => ?_) (fun k13 => ?_)
         ·try simp at k13
          obtain ⟨f13, e22⟩ := pos_on2 e22 (by first | simpa using k13 | grind)
          try simp at f13
          refine EV.seq ?_
          refine EV.seq ?_
          refine EV.regionG tabOK ?_ -- region 24
          simp (maxSteps := 2000000) -implicitDefEqProofs
          refine callG_fun (w_rNoSpot p2.s) ?_ ?_
          ·simp
          simp (maxSteps := 2000000) -implicitDefEqProofs
          refine EV.condT ?_
          simp -implicitDefEqProofs
          refine condT_intro (fun k14 => ?_) (fun k14 => ?_)
          ·try simp at k14
           obtain ⟨f14, e22⟩ := pos_on2 e22 (by first | simpa using k14 | grind)
           try simp at f14
           refine EV.seq ?_
           refine EV.regionG tabOK ?_ -- region 25
           simp (maxSteps := 2000000) -implicitDefEqProofs
           refine callG_fun (w_rNone 84) ?_ ?_
           ·simp
           simp (maxSteps := 2000000) -implicitDefEqProofs
           refine EV.ret ?_
           simp only [thenK_ret, blockK_ret, scopeK_ret, bodyK_ret]
           replace e := run_back e e22
           subst e
           refine Fin.pure0 ?_
           first | (simp; done) | (simp <;> grind)
          ·try simp at k14
           obtain ⟨f14, e22⟩ := neg_on2 e22 (by first | simpa using k14 | grind)
           try simp at f14
           refine EV.skip ?_
           simp only [thenK_normal, blockK_normal, scopeK_normal]
           refine EV.seq ?_
           refine EV.seq ?_
           refine EV.regionG tabOK ?_ -- region 26
           simp (maxSteps := 2000000) -implicitDefEqProofs
           refine EV.condT ?_
           simp -implicitDefEqProofs
           refine condT_intro (fun k15 => ?_) (fun k15 => ?_)
           ·try simp at k15
            obtain ⟨f15, e22⟩ := pos_on2 e22 (by first | simpa using k15 | grind)
            try simp at f15
            refine EV.seq ?_
            refine EV.regionG tabOK ?_ -- region 27
            simp (maxSteps := 2000000) -implicitDefEqProofs
            refine callG_fun (w_rNone 81) ?_ ?_
            ·simp
            simp (maxSteps := 2000000) -implicitDefEqProofs
            refine EV.ret ?_
            simp only [thenK_ret, blockK_ret, scopeK_ret, bodyK_ret]
            replace e := run_back e e22
            subst e
            refine Fin.pure0 ?_
            first | (simp; done) | (simp <;> grind)
           ·try simp at k15
            obtain ⟨f15, e22⟩ := neg_on2 e22 (by first | simpa using k15 | grind)
            try simp at f15
            refine EV.skip ?_
            simp only [thenK_normal, blockK_normal, scopeK_normal]
            refine EV.seq ?_
            obtain ⟨y28_4, gy28_4⟩ : ∃ z, (p2.uses.getD 0 default) = z := ⟨_, rfl⟩
            replace e22 := bnd_on e22 gy28_4
            try dsimp only at e22
            have b16 : 0 ≤ 0 ∧ 0 < (p2.uses.length : Int) := by omega
            have c16 : 0 < p2.uses.length := by omega
            have hy28_4 : p2.uses[0] = y28_4 := by rw [← gy28_4, List.getD_eq_getElem?_getD, List.getElem?_eq_getElem c16]; rfl
            have my28_4 : y28_4 ∈ p2.uses := by rw [← hy28_4]; exact List.getElem_mem _
            refine EV.drawG tabOK mixedOK ?_ -- region 28
            simp (maxSteps := 2000000) -implicitDefEqProofs [b16, c16, hy28_4]
            refine callG_fun (w_rUse p0 p1 y28_4) ?_ ?_
            ·first | (simp; done) | (simp [b16, c16, hy28_4]; done)
            simp (maxSteps := 2000000) -implicitDefEqProofs [b16, c16, hy28_4]
            refine And.intro ?_ ?_
            ·first | decide +kernel | (simp -implicitDefEqProofs; decide +kernel) | (split <;> decide +kernel)
            try simp -implicitDefEqProofs
            refine EV.seq ?_
            refine EV.seq ?_
            refine EV.regionG tabOK ?_ -- region 29
            simp (maxSteps := 2000000) -implicitDefEqProofs [b16, c16, hy28_4]
            refine EV.condT ?_
            simp -implicitDefEqProofs [b16, c16, hy28_4]
            refine condT_intro (fun k17 => ?_) (fun k17 => ?_)
            ·try simp at k17
             obtain ⟨f17, e22⟩ := pos_on2 e22 (by first | simpa using k17 | grind)
             try simp at f17
             refine EV.seq ?_
             refine EV.regionG tabOK ?_ -- region 30
             simp (maxSteps := 2000000) -implicitDefEqProofs [b16, c16, hy28_4]
             refine callG_fun (w_rNone ((rUse p0 p1 y28_4).2)) ?_ ?_
             ·first | (simp; done) | (simp [b16, c16, hy28_4]; done)
             simp (maxSteps := 2000000) -implicitDefEqProofs [b16, c16, hy28_4]
             refine EV.ret ?_
             simp only [thenK_ret, blockK_ret, scopeK_ret, bodyK_ret]
             replace e := run_back e e22
             subst e
             refine Fin.pure0 ?_
             first | (simp; done) | (simp <;> grind)
            ·try simp at k17
             obtain ⟨f17, e22⟩ := neg_on2 e22 (by first | simpa using k17 | grind)
             try simp at f17
             refine EV.skip ?_
             simp only [thenK_normal, blockK_normal, scopeK_normal]
             refine EV.seq ?_
             refine EV.seq ?_
             refine EV.regionG tabOK ?_ -- region 31
             simp (maxSteps := 2000000) -implicitDefEqProofs [b16, c16, hy28_4]
             refine EV.condT ?_
             simp -implicitDefEqProofs [b16, c16, hy28_4]
             refine condT_intro (fun k18 => ?_) (fun k18 => ?_)
             ·try simp at k18
              obtain ⟨f18, e22⟩ := pos_on2 e22 (by first | simpa using k18 | grind)
              try simp at f18
              refine EV.seq ?_
              refine EV.regionG tabOK ?_ -- region 32
              simp (maxSteps := 2000000) -implicitDefEqProofs [b16, c16, hy28_4]
              refine EV.ret ?_
              simp only [thenK_ret, blockK_ret, scopeK_ret, bodyK_ret]
              replace e := run_back e e22
              subst e
              refine Fin.pure0 ?_
              first | (simp; done) | (simp <;> grind)
             ·try simp at k18
              obtain ⟨f18, e22⟩ := neg_on2 e22 (by first | simpa using k18 | grind)
              try simp at f18
              refine EV.skip ?_
              simp only [thenK_normal, blockK_normal, scopeK_normal]
              refine EV.seq ?_
              refine EV.seq ?_
              refine EV.regionG tabOK ?_ -- region 33
              simp (maxSteps := 2000000) -implicitDefEqProofs [b16, c16, hy28_4]
              refine callG_fun (w_rHolds ((rUse p0 p1 y28_4).1)) ?_ ?_
              ·first | (simp; done) | (simp [b16, c16, hy28_4]; done)
              simp (maxSteps := 2000000) -implicitDefEqProofs [b16, c16, hy28_4]
              refine EV.condT ?_
              simp -implicitDefEqProofs [b16, c16, hy28_4]
              refine condT_intro (fun k19 => ?_) (fun k19 => ?_)
              ·try simp at k19
               obtain ⟨f19, e22⟩ := pos_on2 e22 (by first | simpa using k19 | grind)
               try simp at f19
               refine EV.seq ?_
               refine EV.regionG tabOK ?_ -- region 34
               simp (maxSteps := 2000000) -implicitDefEqProofs [b16, c16, hy28_4]
               refine callG_fun (w_rNone 73) ?_ ?_
               ·first | (simp; done) | (simp [b16, c16, hy28_4]; done)
               simp (maxSteps := 2000000) -implicitDefEqProofs [b16, c16, hy28_4]
               refine EV.ret ?_
               simp only [thenK_ret, blockK_ret, scopeK_ret, bodyK_ret]
               replace e := run_back e e22
               subst e
               refine Fin.pure0 ?_
               first | (simp; done) | (simp <;> grind)
              ·try simp at k19
               obtain ⟨f19, e22⟩ := neg_on2 e22 (by first | simpa using k19 | grind)
               try simp at f19
               refine EV.skip ?_
               simp only [thenK_normal, blockK_normal, scopeK_normal]
               refine EV.seq ?_
               refine EV.regionG tabOK ?_ -- region 35
               simp (maxSteps := 2000000) -implicitDefEqProofs [b16, c16, hy28_4]
               refine EV.ret ?_
               simp only [thenK_ret, blockK_ret, scopeK_ret, bodyK_ret]
               replace e := run_back e e22
               subst e
               refine Fin.data ?_ ?_
               ·simp [convV, conv1, conv0, cvOb, allP, allR, c0, Pu, take_len_map, List.getD, List.range_succ]
               ·simp [List.range_succ]
         ·try simp at k13
          obtain ⟨f13, e22⟩ := neg_on2 e22 (by first | simpa using k13 | grind)
          try simp at f13
          refine EV.seq ?_
          refine EV.seq ?_
          refine EV.regionG tabOK ?_ -- region 36
          simp (maxSteps := 2000000) -implicitDefEqProofs
          obtain ⟨z37, e37, e22⟩ := bnd_split e22
          refine EV.nrm (fun v : { v : (Bool) × (Unit) // z37 = v.1 } => (fun (v37 : Bool) (g37 : Unit) => (⟨[J, J, J, .ptr 0 0 0 0, .ptr 1 0 0 0, .ptr 2 0 0 0, .ptr 3 0 0 0, J, J, .ptr 4 0 0 0, .ptr 5 0 0 0, .c (.slice none 0 0), J, J, J, J, J, J, J, J, J, J, J, J, J, J, J, J, J, J, J, J, J, J, J, J, J, J, J, J, J, J, J, J, J, J, J, J, J, J, J, J, J, J, J, J, J, J, J, J, J, J, J, J, J, J, J, J, J, J, J, J, J, J, J, J, J, J, J, J, J, J, J, J, J, J, J, J, J, J, J, J, J, J, J, J, J, J, J, J, J, J, J, J, .i .i64 p2.k, J, J, J, J, J, J, J, J, J, J, J, J, J, J, J, J, J, J, J, J, J, J, J, J, J, J, J, J, J, J, J, J, J, J, J, J, J, J, J, J, J, J, J, J, J, J, J, J, .b v37, J, J, J, J, J, J, J, J, J, J, J, J, J, J, J, J, J, J, J, J, J, J, J, J, J, J, J, J, J, J, J, J, J, J, J, J, J, J, J, J, J, J, J, J, J, J, J, J, J, J, J, J, J, J, J, J, J, J, J, J, J, J, J, J, J, J, J, J, J, J, J, J, J, J, J, J, J, J, J, J, J, J, J, J, J, J, J, J, J, J, J, J, J, J, J, J, J, J, J, J, J, J, J, J, J, J, J, J, J, J, J, J, J, J, J, J, J, J, J, J, J, J, J, J, J, J, J, J, J, J, J, J, J, J, J, J, J, J, J, J, J, J, J, J, J, J, J, J, J, J, J, J, J, J, J, J, J, J, J, J, J, J, J, J, J, J, J, J, J, J, J, J, J, J, J, J, J, J], [.arr 0 3 [[.ro 4 (p0.structs.map structC), .ro 3 (p0.enums.map enumC), .ro 4 (p0.fns.map fnC)]], .arr 0 4 [[.s p1.name, .i .i64 p1.params, .ro 4 (p1.locals.map localC), .ro 17 (p1.blocks.map blockC)]], .arr 0 6 [[.i .i64 p2.k, .ro 5 (p2.uses.map useC), .i .i64 p2.s.local_, .ro 1 (p2.s.path.map (fun z => [.i .i64 z])), .i .i64 p2.which, .i .i64 p2.tag]], .arr 0 3 [[.i .i64 0, .s ([] : List UInt8), .c (.slice none 0 0)]], .arr 0 3 [[.i .i64 1, .s ([] : List UInt8), .c (.slice none 0 0)]], .arr 0 3 [[.i .i64 1, .s ([] : List UInt8), .c (.slice none 0 0)]]]⟩ : St)) v.1.1 v.1.2) ?_ ?_
          ·skip
           refine EV.condT ?_
           simp -implicitDefEqProofs
           refine condT_intro (fun k20 => ?_) (fun k20 => ?_)
           ·try simp at k20
            obtain ⟨f20, e37⟩ := pos_on2 e37 (by first | simpa using k20 | grind)
            try simp at f20
            refine EV.skip ?_
            simp only [thenK_normal, blockK_normal, scopeK_normal]
            refine ⟨⟨(true, ()), e37.symm⟩, ?_⟩
            try dsimp only
            refine Sub.cutF 6 (by simp) ?_ ?_ <;> simp [List.range_succ, toIdx_range, passed]
           ·try simp at k20
            obtain ⟨f20, e37⟩ := neg_on2 e37 (by first | simpa using k20 | grind)
            try simp at f20
            refine EV.seq ?_
            refine EV.regionG tabOK ?_ -- region 37
            simp (maxSteps := 2000000) -implicitDefEqProofs
            refine EV.condT ?_
            simp -implicitDefEqProofs
            refine condT_intro (fun k21 => ?_) (fun k21 => ?_)
            ·try simp at k21
             obtain ⟨f21, e37⟩ := pos_on2 e37 (by first | simpa using k21 | grind)
             try simp at f21
             refine EV.skip ?_
             simp only [thenK_normal, blockK_normal, scopeK_normal]
             refine ⟨⟨(true, ()), e37.symm⟩, ?_⟩
             try dsimp only
             refine Sub.cutF 6 (by simp) ?_ ?_ <;> simp [List.range_succ, toIdx_range, passed]
            ·try simp at k21
             obtain ⟨f21, e37⟩ := neg_on2 e37 (by first | simpa using k21 | grind)
             try simp at f21
             refine EV.seq ?_
             refine EV.regionG tabOK ?_ -- region 38
             simp (maxSteps := 2000000) -implicitDefEqProofs
             refine EV.condT ?_
             simp -implicitDefEqProofs
             refine condT_intro (fun k22 => ?_) (fun k22 => ?_)
             ·try simp at k22
              obtain ⟨f22, e37⟩ := pos_on2 e37 (by first | simpa using k22 | grind)
              try simp at f22
              refine EV.skip ?_
              simp only [thenK_normal, blockK_normal, scopeK_normal]
              refine ⟨⟨(true, ()), e37.symm⟩, ?_⟩
              try dsimp only
              refine Sub.cutF 6 (by simp) ?_ ?_ <;> simp [List.range_succ, toIdx_range, passed]
             ·try simp at k22
              obtain ⟨f22, e37⟩ := neg_on2 e37 (by first | simpa using k22 | grind)
              try simp at f22
              refine EV.seq ?_
              refine EV.regionG tabOK ?_ -- region 39
              simp (maxSteps := 2000000) -implicitDefEqProofs
              refine EV.condT ?_
              simp -implicitDefEqProofs
              refine condT_intro (fun k23 => ?_) (fun k23 => ?_)
              ·try simp at k23
               obtain ⟨f23, e37⟩ := pos_on2 e37 (by first | simpa using k23 | grind)
               try simp at f23
               refine EV.skip ?_
               simp only [thenK_normal, blockK_normal, scopeK_normal]
               refine ⟨⟨(true, ()), e37.symm⟩, ?_⟩
               try dsimp only
               refine Sub.cutF 6 (by simp) ?_ ?_ <;> simp [List.range_succ, toIdx_range, passed]
              ·try simp at k23
               obtain ⟨f23, e37⟩ := neg_on2 e37 (by first | simpa using k23 | grind)
               try simp at f23
               refine EV.regionG tabOK ?_ -- region 40
               simp (maxSteps := 2000000) -implicitDefEqProofs
               refine ⟨⟨((decide (p2.k = 5)), ()), e37.symm⟩, ?_⟩
               try dsimp only
               refine Sub.cutF 6 (by simp) ?_ ?_ <;> simp [List.range_succ, toIdx_range, passed]
          ·skip
           rintro ⟨⟨v37, g37⟩, e37⟩
           simp only [thenK_normal, blockK_normal, scopeK_normal, bodyK_normal]
           replace e22 := bnd_on e22 e37
           try dsimp only at e22
           refine EV.condT ?_
           simp -implicitDefEqProofs
           refine condT_intro (fun k24 => ?_) (fun k24 => ?_)
           ·try simp at k24
            obtain ⟨f24, e22⟩ := pos_on2 e22 (by first | simpa using k24 | grind)
            try simp at f24
            refine EV.regionG tabOK ?_ -- region 41
            simp (maxSteps := 2000000) -implicitDefEqProofs
            refine ⟨⟨((([(TyD.mk 1 ([] : List UInt8) ([])), (TyD.mk 1 ([] : List UInt8) ([]))] : List TyD), (TyD.mk 1 ([] : List UInt8) ([]))), ()), e22.symm⟩, ?_⟩
            try dsimp only
            refine Sub.trans (Sub.nilRo 5 2 3 rfl rfl rfl) ?_
            simp -implicitDefEqProofs [setOb]
            refine Sub.cutG 6 (by simp) ?_ ?_ <;> simp [allP, allR, c0, slotR, conv1, conv0, cvOb, Pu, take_len_map, List.getD, List.range_succ, toIdx_range, passed]
           ·try simp at k24
            obtain ⟨f24, e22⟩ := neg_on2 e22 (by first | simpa using k24 | grind)
            try simp at f24
            refine EV.seq ?_
            refine EV.seq ?_
            refine EV.regionG tabOK ?_ -- region 42
            simp (maxSteps := 2000000) -implicitDefEqProofs
            obtain ⟨z43, e43, e22⟩ := bnd_split e22
            refine EV.nrm (fun v : { v : (Bool) × (Unit) // z43 = v.1 } => (fun (v43 : Bool) (g43 : Unit) => (⟨[J, J, J, .ptr 0 0 0 0, .ptr 1 0 0 0, .ptr 2 0 0 0, .ptr 3 0 0 0, J, J, J, .ptr 5 0 0 0, .c (.slice none 0 0), J, J, J, J, J, J, J, J, J, J, J, J, J, J, J, J, J, J, J, J, J, J, J, J, J, J, J, J, J, J, J, J, J, J, J, J, J, J, J, J, J, J, J, J, J, J, J, J, J, J, J, J, J, J, J, J, J, J, J, J, J, J, J, J, J, J, J, J, J, J, J, J, J, J, J, J, J, J, J, J, J, J, J, J, J, J, J, J, J, J, J, J, .i .i64 p2.k, J, J, J, J, J, J, J, J, J, J, J, J, J, J, J, J, J, J, J, J, J, J, J, J, J, J, J, J, J, J, J, J, J, J, J, J, J, J, J, J, J, J, J, J, J, J, J, J, J, J, J, J, J, J, J, J, J, .b v43, J, J, J, J, J, J, J, J, J, J, J, J, J, J, J, J, J, J, J, J, J, J, J, J, J, J, J, J, J, J, J, J, J, J, J, J, J, J, J, J, J, J, J, J, J, J, J, J, J, J, J, J, J, J, J, J, J, J, J, J, J, J, J, J, J, J, J, J, J, J, J, J, J, J, J, J, J, J, J, J, J, J, J, J, J, J, J, J, J, J, J, J, J, J, J, J, J, J, J, J, J, J, J, J, J, J, J, J, J, J, J, J, J, J, J, J, J, J, J, J, J, J, J, J, J, J, J, J, J, J, J, J, J, J, J, J, J, J, J, J, J, J, J, J, J, J, J, J, J, J, J, J, J, J, J, J, J, J, J, J, J, J, J, J, J, J, J, J, J], [.arr 0 3 [[.ro 4 (p0.structs.map structC), .ro 3 (p0.enums.map enumC), .ro 4 (p0.fns.map fnC)]], .arr 0 4 [[.s p1.name, .i .i64 p1.params, .ro 4 (p1.locals.map localC), .ro 17 (p1.blocks.map blockC)]], .arr 0 6 [[.i .i64 p2.k, .ro 5 (p2.uses.map useC), .i .i64 p2.s.local_, .ro 1 (p2.s.path.map (fun z => [.i .i64 z])), .i .i64 p2.which, .i .i64 p2.tag]], .arr 0 3 [[.i .i64 0, .s ([] : List UInt8), .c (.slice none 0 0)]], .arr 0 3 [[.i .i64 1, .s ([] : List UInt8), .c (.slice none 0 0)]], .arr 0 3 [[.i .i64 1, .s ([] : List UInt8), .c (.slice none 0 0)]]]⟩ : St)) v.1.1 v.1.2) ?_ ?_
            ·skip
             refine EV.condT ?_
             simp -implicitDefEqProofs
             refine condT_intro (fun k25 => ?_) (fun k25 => ?_)
             ·try simp at k25
              obtain ⟨f25, e43⟩ := pos_on2 e43 (by first | simpa using k25 | grind)
              try simp at f25
              refine EV.skip ?_
              simp only [thenK_normal, blockK_normal, scopeK_normal]
              refine ⟨⟨(true, ()), e43.symm⟩, ?_⟩
              try dsimp only
              refine Sub.cutF 6 (by simp) ?_ ?_ <;> simp [List.range_succ, toIdx_range, passed]
             ·try simp at k25
              obtain ⟨f25, e43⟩ := neg_on2 e43 (by first | simpa using k25 | grind)
              try simp at f25
              refine EV.regionG tabOK ?_ -- region 43
              simp (maxSteps := 2000000) -implicitDefEqProofs
              refine ⟨⟨((decide (p2.k = 7)), ()), e43.symm⟩, ?_⟩
              try dsimp only
              refine Sub.cutF 6 (by simp) ?_ ?_ <;> simp [List.range_succ, toIdx_range, passed]
            ·skip
             rintro ⟨⟨v43, g43⟩, e43⟩
             simp only [thenK_normal, blockK_normal, scopeK_normal, bodyK_normal]
             replace e22 := bnd_on e22 e43
             try dsimp only at e22
             refine EV.condT ?_
             simp -implicitDefEqProofs
             refine condT_intro (fun k26 => ?_) (fun k26 => ?_)
             ·try simp at k26
              obtain ⟨f26, e22⟩ := pos_on2 e22 (by first | simpa using k26 | grind)
              try simp at f26
              refine EV.seq ?_
              refine EV.regionG tabOK ?_ -- region 44
              simp (maxSteps := 2000000) -implicitDefEqProofs
              refine callG_fun (w_rType p0 p1 p2.s) ?_ ?_
              ·simp
              simp (maxSteps := 2000000) -implicitDefEqProofs
              refine EV.seq ?_
              refine EV.seq ?_
              refine EV.regionG tabOK ?_ -- region 45
              simp (maxSteps := 2000000) -implicitDefEqProofs
              refine EV.condT ?_
              simp -implicitDefEqProofs
              refine condT_intro (fun k27 => ?_) (fun k27 => ?_)
              ·try simp at k27
               obtain ⟨f27, e22⟩ := pos_on2 e22 (by first | simpa using k27 | grind)
               try simp at f27
               refine EV.seq ?_
               refine EV.regionG tabOK ?_ -- region 46
               simp (maxSteps := 2000000) -implicitDefEqProofs
               refine callG_fun (w_rNone ((rType p0 p1 p2.s).2.2)) ?_ ?_
               ·simp
               simp (maxSteps := 2000000) -implicitDefEqProofs
               refine EV.ret ?_
               simp only [thenK_ret, blockK_ret, scopeK_ret, bodyK_ret]
               replace e := run_back e e22
               subst e
               refine Fin.pure0 ?_
               first | (simp; done) | (simp <;> grind)
              ·try simp at k27
               obtain ⟨f27, e22⟩ := neg_on2 e22 (by first | simpa using k27 | grind)
               try simp at f27
               refine EV.skip ?_
               simp only [thenK_normal, blockK_normal, scopeK_normal]
               refine EV.seq ?_
               refine EV.seq ?_
               refine EV.regionG tabOK ?_ -- region 47
               simp (maxSteps := 2000000) -implicitDefEqProofs
               refine callG_fun (w_rHolds ((rType p0 p1 p2.s).1)) ?_ ?_
               ·simp
               simp (maxSteps := 2000000) -implicitDefEqProofs
               refine EV.condT ?_
               simp -implicitDefEqProofs
               refine condT_intro (fun k28 => ?_) (fun k28 => ?_)
               ·try simp at k28
                obtain ⟨f28, e22⟩ := pos_on2 e22 (by first | simpa using k28 | grind)
                try simp at f28
                refine EV.seq ?_
                refine EV.regionG tabOK ?_ -- region 48
                simp (maxSteps := 2000000) -implicitDefEqProofs
                refine callG_fun (w_rNone 73) ?_ ?_
                ·simp
                simp (maxSteps := 2000000) -implicitDefEqProofs
                refine EV.ret ?_
                simp only [thenK_ret, blockK_ret, scopeK_ret, bodyK_ret]
                replace e := run_back e e22
                subst e
                refine Fin.pure0 ?_
                first | (simp; done) | (simp <;> grind)
               ·try simp at k28
                obtain ⟨f28, e22⟩ := neg_on2 e22 (by first | simpa using k28 | grind)
                try simp at f28
                refine EV.skip ?_
                simp only [thenK_normal, blockK_normal, scopeK_normal]
                refine EV.seq ?_
                refine EV.regionG tabOK ?_ -- region 49
                simp (maxSteps := 2000000) -implicitDefEqProofs
                refine EV.seq ?_
                refine EV.seq ?_
                refine EV.regionG tabOK ?_ -- region 50
                simp (maxSteps := 2000000) -implicitDefEqProofs
                obtain ⟨z51, e51, e22⟩ := bind_split e22
                refine EV.nrm (fun v : { v : (Int) × (Unit) // z51 = .go v.1 } => (fun (v51 : Int) (g51 : Unit) => (⟨[J, J, J, J, J, .ptr 2 0 0 0, .ptr 3 0 0 0, J, J, J, J, J, J, J, .ptr 6 0 0 0, J, J, .i .i64 v51, J, J, J, J, J, J, J, J, J, J, J, J, J, J, J, J, J, J, J, J, J, J, J, J, J, J, J, J, J, J, J, J, J, J, J, J, J, J, J, J, J, J, J, J, J, J, J, J, J, J, J, J, J, J, J, J, J, J, J, J, J, J, J, J, J, J, J, J, J, J, J, J, J, J, J, J, J, J, J, J, J, J, J, J, J, J, J, J, J, J, J, J, J, J, J, J, J, J, J, J, J, J, J, J, J, J, J, J, J, J, J, J, J, J, J, J, J, J, J, J, J, J, J, J, J, J, J, J, J, J, J, J, J, J, J, J, J, J, J, J, J, J, J, J, J, J, J, J, J, J, J, J, J, J, J, J, J, J, J, J, J, J, J, J, J, J, J, J, J, J, J, J, J, J, J, J, J, J, J, J, J, J, J, J, J, J, J, J, J, J, J, J, J, J, J, J, J, J, J, J, J, J, J, J, J, J, J, J, J, J, J, J, J, J, J, J, J, J, J, J, J, J, J, J, J, J, J, J, J, J, J, J, J, J, J, J, J, J, J, J, J, J, J, J, J, J, J, J, J, J, J, J, J, J, J, J, J, J, J, J, J, J, J, J, J, J, J, J, J, J, J, J, J, J, J, J, J, J, J, J, J, J, J, J, J, J, J, J, J, J, J, J, J, J, J, J, J, J, J, J, J, J, J, J, J, J, J, J, J, J, J, J, J, J], [.arr 0 3 [[.ro 4 (p0.structs.map structC), .ro 3 (p0.enums.map enumC), .ro 4 (p0.fns.map fnC)]], .arr 0 4 [[.s p1.name, .i .i64 p1.params, .ro 4 (p1.locals.map localC), .ro 17 (p1.blocks.map blockC)]], .arr 0 6 [[.i .i64 p2.k, .ro 5 (p2.uses.map useC), .i .i64 p2.s.local_, .ro 1 (p2.s.path.map (fun z => [.i .i64 z])), .i .i64 p2.which, .i .i64 p2.tag]], .arr 0 3 [[.i .i64 0, .s ([] : List UInt8), .c (.slice none 0 0)]], .arr 0 3 [[.i .i64 1, .s ([] : List UInt8), .c (.slice none 0 0)]], .arr 0 3 [[.i .i64 1, .s ([] : List UInt8), .c (.slice none 0 0)]], .arr 0 3 [[.i .i64 (((rType p0 p1 p2.s).1).k), .s (((rType p0 p1 p2.s).1).name), .ro 3 ((((rType p0 p1 p2.s).1).l).map tyC)]]]⟩ : St)) v.1.1 v.1.2) ?_ ?_
                ·skip
                 refine EV.condT ?_
                 simp -implicitDefEqProofs
                 refine condT_intro (fun k29 => ?_) (fun k29 => ?_)
                 ·try simp at k29
                  obtain ⟨f29, e51⟩ := pos_on2 e51 (by first | simpa using k29 | grind)
                  try simp at f29
                  refine EV.seq ?_
                  refine EV.regionG tabOK ?_ -- region 51
                  simp (maxSteps := 2000000) -implicitDefEqProofs
                  refine EV.seq ?_
                  refine EV.regionG tabOK ?_ -- region 52
                  simp (maxSteps := 2000000) -implicitDefEqProofs
                  refine EV.condT ?_
                  simp -implicitDefEqProofs
                  refine condT_intro (fun k30 => ?_) (fun k30 => ?_)
                  ·try simp at k30
                   obtain ⟨f30, e51⟩ := pos_on2 e51 (by first | simpa using k30 | grind)
                   try simp at f30
                   refine EV.seq ?_
                   refine EV.regionG tabOK ?_ -- region 53
                   simp (maxSteps := 2000000) -implicitDefEqProofs
                   refine callG_fun (w_rNone 84) ?_ ?_
                   ·simp
                   simp (maxSteps := 2000000) -implicitDefEqProofs
                   refine EV.ret ?_
                   simp only [thenK_ret, blockK_ret, scopeK_ret, bodyK_ret]
                   replace e22 := bind_back e22 e51
                   replace e := run_back e e22
                   subst e
                   refine Fin.pure0 ?_
                   first | (simp; done) | (simp <;> grind)
                  ·try simp at k30
                   obtain ⟨f30, e51⟩ := neg_on2 e51 (by first | simpa using k30 | grind)
                   try simp at f30
                   refine EV.skip ?_
                   simp only [thenK_normal, blockK_normal, scopeK_normal]
                   refine ⟨⟨(6, ()), e51.symm⟩, ?_⟩
                   try dsimp only
                   refine Sub.cutF 7 (by simp) ?_ ?_ <;> simp [List.range_succ, toIdx_range, passed]
                 ·try simp at k29
                  obtain ⟨f29, e51⟩ := neg_on2 e51 (by first | simpa using k29 | grind)
                  try simp at f29
                  refine EV.skip ?_
                  simp only [thenK_normal, blockK_normal, scopeK_normal]
                  refine ⟨⟨(5, ()), e51.symm⟩, ?_⟩
                  try dsimp only
                  refine Sub.cutF 7 (by simp) ?_ ?_ <;> simp [List.range_succ, toIdx_range, passed]
                ·skip
                 rintro ⟨⟨v51, g51⟩, e51⟩
                 simp only [thenK_normal, blockK_normal, scopeK_normal, bodyK_normal]
                 replace e22 := bind_on e22 e51
                 try dsimp only at e22
                 refine EV.seq ?_
                 refine EV.seq ?_
                 refine EV.regionG tabOK ?_ -- region 54
                 simp (maxSteps := 2000000) -implicitDefEqProofs
                 refine EV.condT ?_
                 simp -implicitDefEqProofs
                 refine condT_intro (fun k31 => ?_) (fun k31 => ?_)
                 ·try simp at k31
                  obtain ⟨f31, e22⟩ := pos_on2 e22 (by first | simpa using k31 | grind)
                  try simp at f31
                  refine EV.seq ?_
                  refine EV.regionG tabOK ?_ -- region 55
                  simp (maxSteps := 2000000) -implicitDefEqProofs
                  refine callG_fun (w_rNone 81) ?_ ?_
                  ·simp
                  simp (maxSteps := 2000000) -implicitDefEqProofs
                  refine EV.ret ?_
                  simp only [thenK_ret, blockK_ret, scopeK_ret, bodyK_ret]
                  replace e := run_back e e22
                  subst e
                  refine Fin.pure0 ?_
                  first | (simp; done) | (simp <;> grind)
                 ·try simp at k31
                  obtain ⟨f31, e22⟩ := neg_on2 e22 (by first | simpa using k31 | grind)
                  try simp at f31
                  refine EV.skip ?_
                  simp only [thenK_normal, blockK_normal, scopeK_normal]
                  refine EV.seq ?_
                  refine EV.regionG tabOK ?_ -- region 56
                  simp (maxSteps := 2000000) -implicitDefEqProofs
                  refine EV.ret ?_
                  simp only [thenK_ret, blockK_ret, scopeK_ret, bodyK_ret]
                  replace e := run_back e e22
                  subst e
                  refine Fin.data ?_ ?_
                  ·simp [convV, conv1, conv0, cvOb, allP, allR, c0, Pu, take_len_map, List.getD, List.range_succ]
                  ·simp [List.range_succ]
             ·try simp at k26
              obtain ⟨f26, e22⟩ := neg_on2 e22 (by first | simpa using k26 | grind)
              try simp at f26
              refine EV.seq ?_
              refine EV.regionG tabOK ?_ -- region 57
              simp (maxSteps := 2000000) -implicitDefEqProofs
              refine EV.condT ?_
              simp -implicitDefEqProofs
              refine condT_intro (fun k32 => ?_) (fun k32 => ?_)
              ·try simp at k32
               obtain ⟨f32, e22⟩ := pos_on2 e22 (by first | simpa using k32 | grind)
               try simp at f32
               refine EV.seq ?_
               refine EV.regionG tabOK ?_ -- region 58
               simp (maxSteps := 2000000) -implicitDefEqProofs
               refine callG_fun (w_rType p0 p1 p2.s) ?_ ?_
               ·simp
               simp (maxSteps := 2000000) -implicitDefEqProofs
               refine EV.seq ?_
               refine EV.seq ?_
               refine EV.regionG tabOK ?_ -- region 59
               simp (maxSteps := 2000000) -implicitDefEqProofs +contextual
               refine EV.condT ?_
               simp -implicitDefEqProofs
               refine condT_intro (fun k33 => ?_) (fun k33 => ?_)
               ·try simp at k33
                obtain ⟨f33, e22⟩ := pos_on2 e22 (by first | simpa using k33 | grind)
                try simp at f33
                refine EV.seq ?_
                refine EV.regionG tabOK ?_ -- region 60
                simp (maxSteps := 2000000) -implicitDefEqProofs
                refine callG_fun (w_rNone 84) ?_ ?_
                ·simp
                simp (maxSteps := 2000000) -implicitDefEqProofs
                refine EV.ret ?_
                simp only [thenK_ret, blockK_ret, scopeK_ret, bodyK_ret]
                replace e := run_back e e22
                subst e
                refine Fin.pure0 ?_
                first | (simp; done) | (simp <;> grind)
               ·try simp at k33
                obtain ⟨f33, e22⟩ := neg_on2 e22 (by first | simpa using k33 | grind)
                try simp at f33
                refine EV.skip ?_
                simp only [thenK_normal, blockK_normal, scopeK_normal]
                refine EV.seq ?_
                refine EV.seq ?_
                refine EV.regionG tabOK ?_ -- region 61
                simp (maxSteps := 2000000) -implicitDefEqProofs +contextual
                refine EV.condT ?_
                simp -implicitDefEqProofs
                refine condT_intro (fun k34 => ?_) (fun k34 => ?_)
                ·try simp at k34
                 obtain ⟨f34, e22⟩ := pos_on2 e22 (by first | simpa using k34 | grind)
                 try simp at f34
                 refine EV.seq ?_
                 refine EV.regionG tabOK ?_ -- region 62
                 simp (maxSteps := 2000000) -implicitDefEqProofs
                 refine callG_fun (w_rNone 80) ?_ ?_
                 ·simp
                 simp (maxSteps := 2000000) -implicitDefEqProofs
                 refine EV.ret ?_
                 simp only [thenK_ret, blockK_ret, scopeK_ret, bodyK_ret]
                 replace e := run_back e e22
                 subst e
                 refine Fin.pure0 ?_
                 first | (simp; done) | (simp <;> grind)
                ·try simp at k34
                 obtain ⟨f34, e22⟩ := neg_on2 e22 (by first | simpa using k34 | grind)
                 try simp at f34
                 refine EV.skip ?_
                 simp only [thenK_normal, blockK_normal, scopeK_normal]
                 refine EV.seq ?_
                 refine EV.seq ?_
                 refine EV.regionG tabOK ?_ -- region 63
                 simp (maxSteps := 2000000) -implicitDefEqProofs
                 refine EV.condT ?_
                 simp -implicitDefEqProofs
                 refine condT_intro (fun k35 => ?_) (fun k35 => ?_)
                 ·try simp at k35
                  obtain ⟨f35, e22⟩ := pos_on2 e22 (by first | simpa using k35 | grind)
                  try simp at f35
                  refine EV.seq ?_
                  refine EV.regionG tabOK ?_ -- region 64
                  simp (maxSteps := 2000000) -implicitDefEqProofs
                  refine callG_fun (w_rNone 81) ?_ ?_
                  ·simp
                  simp (maxSteps := 2000000) -implicitDefEqProofs
                  refine EV.ret ?_
                  simp only [thenK_ret, blockK_ret, scopeK_ret, bodyK_ret]
                  replace e := run_back e e22
                  subst e
                  refine Fin.pure0 ?_
                  first | (simp; done) | (simp <;> grind)
                 ·try simp at k35
                  obtain ⟨f35, e22⟩ := neg_on2 e22 (by first | simpa using k35 | grind)
                  try simp at f35
                  refine EV.skip ?_
                  simp only [thenK_normal, blockK_normal, scopeK_normal]
                  refine EV.seq ?_
                  obtain ⟨y65_2, gy65_2⟩ : ∃ z, ((((rType p0 p1 p2.s).1).l).getD 0 default) = z := ⟨_, rfl⟩
                  replace e22 := bnd_on e22 gy65_2
                  try dsimp only at e22
                  have b36 : 0 ≤ 0 ∧ 0 < ((((rType p0 p1 p2.s).1).l).length : Int) := by omega
                  have c36 : 0 < (((rType p0 p1 p2.s).1).l).length := by omega
                  have hy65_2 : (((rType p0 p1 p2.s).1).l)[0] = y65_2 := by rw [← gy65_2, List.getD_eq_getElem?_getD, List.getElem?_eq_getElem c36]; rfl
                  have my65_2 : y65_2 ∈ (((rType p0 p1 p2.s).1).l) := by rw [← hy65_2]; exact List.getElem_mem _
                  refine EV.regionG tabOK ?_ -- region 65
                  simp (maxSteps := 2000000) -implicitDefEqProofs [b36, c36, hy65_2]
                  refine EV.ret ?_
                  simp only [thenK_ret, blockK_ret, scopeK_ret, bodyK_ret]
                  replace e := run_back e e22
                  subst e
                  refine Fin.pure0 ?_
                  first | (simp; done) | (simp <;> grind)
              ·try simp at k32
               obtain ⟨f32, e22⟩ := neg_on2 e22 (by first | simpa using k32 | grind)
               try simp at f32
               refine EV.seq ?_
               refine EV.regionG tabOK ?_ -- region 66
               simp (maxSteps := 2000000) -implicitDefEqProofs
               refine EV.condT ?_
               simp -implicitDefEqProofs
               refine condT_intro (fun k37 => ?_) (fun k37 => ?_)
               ·try simp at k37
                obtain ⟨f37, e22⟩ := pos_on2 e22 (by first | simpa using k37 | grind)
                try simp at f37
                refine EV.seq ?_
                obtain ⟨y67_4, gy67_4⟩ : ∃ z, (p0.structs.getD ((p2.which).toNat) default) = z := ⟨_, rfl⟩
                replace e22 := bnd_on e22 gy67_4
                try dsimp only at e22
                have b38 : 0 ≤ p2.which ∧ p2.which < (p0.structs.length : Int) := by omega
                have c38 : (p2.which).toNat < p0.structs.length := by omega
                have hy67_4 : p0.structs[(p2.which).toNat] = y67_4 := by rw [← gy67_4, List.getD_eq_getElem?_getD, List.getElem?_eq_getElem c38]; rfl
                have my67_4 : y67_4 ∈ p0.structs := by rw [← hy67_4]; exact List.getElem_mem _
                refine EV.regionG tabOK ?_ -- region 67
                simp (maxSteps := 2000000) -implicitDefEqProofs [b38, c38, hy67_4]
                refine EV.regionG tabOK ?_ -- region 68
                simp (maxSteps := 2000000) -implicitDefEqProofs [b38, c38, hy67_4]
                refine callG_fun (w_rTys y67_4.fields (by first | assumption | exact hs.sf _ (by assumption) | exact hs.fp _ (by assumption))) ?_ ?_
                ·first | (simp; done) | (simp [b38, c38, hy67_4]; done)
                simp (maxSteps := 2000000) -implicitDefEqProofs [b38, c38, hy67_4]
                refine ⟨⟨(((rTys y67_4.fields), (TyD.mk 2 y67_4.name ([]))), ()), e22.symm⟩, ?_⟩
                try dsimp only
                refine Sub.trans (Sub.nilRo 5 2 3 rfl rfl rfl) ?_
                simp -implicitDefEqProofs [setOb]
                refine Sub.cutG 6 (by simp) ?_ ?_ <;> simp [allP, allR, c0, slotR, conv1, conv0, cvOb, Pu, take_len_map, List.getD, List.range_succ, toIdx_range, passed, b38, c38, hy67_4]
               ·try simp at k37
                obtain ⟨f37, e22⟩ := neg_on2 e22 (by first | simpa using k37 | grind)
                try simp at f37
                refine EV.seq ?_
                refine EV.regionG tabOK ?_ -- region 69
                simp (maxSteps := 2000000) -implicitDefEqProofs
                refine EV.condT ?_
                simp -implicitDefEqProofs
                refine condT_intro (fun k39 => ?_) (fun k39 => ?_)
                ·try simp at k39
                 obtain ⟨f39, e22⟩ := pos_on2 e22 (by first | simpa using k39 | grind)
                 try simp at f39
                 refine EV.seq ?_
                 have b40 : 0 ≤ p2.which ∧ p2.which < (p0.enums.length : Int) := by omega
                 have c40 : (p2.which).toNat < p0.enums.length := by omega
                 have hy13_14 : p0.enums[(p2.which).toNat] = y13_14 := by rw [← gy13_14, List.getD_eq_getElem?_getD, List.getElem?_eq_getElem c40]; rfl
                 have my13_14 : y13_14 ∈ p0.enums := by rw [← hy13_14]; exact List.getElem_mem _
                 refine EV.regionG tabOK ?_ -- region 70
                 simp (maxSteps := 2000000) -implicitDefEqProofs [b40, c40, hy13_14]
                 refine EV.seq ?_
                 obtain ⟨y71_9, gy71_9⟩ : ∃ z, (y13_14.variants.getD ((p2.tag).toNat) default) = z := ⟨_, rfl⟩
                 replace e22 := bnd_on e22 gy71_9
                 try dsimp only at e22
                 have b41 : 0 ≤ p2.tag ∧ p2.tag < (y13_14.variants.length : Int) := by omega
                 have c41 : (p2.tag).toNat < y13_14.variants.length := by omega
                 have hy71_9 : y13_14.variants[(p2.tag).toNat] = y71_9 := by rw [← gy71_9, List.getD_eq_getElem?_getD, List.getElem?_eq_getElem c41]; rfl
                 have my71_9 : y71_9 ∈ y13_14.variants := by rw [← hy71_9]; exact List.getElem_mem _
                 refine EV.drawG tabOK mixedOK ?_ -- region 71
                 simp (maxSteps := 2000000) -implicitDefEqProofs [b40, c40, hy13_14, b41, c41, hy71_9]
                 refine And.intro ?_ ?_
                 ·first | decide +kernel | (simp -implicitDefEqProofs; decide +kernel) | (split <;> decide +kernel)
                 try simp -implicitDefEqProofs
                 refine EV.seq ?_
                 refine EV.regionG tabOK ?_ -- region 72
                 simp (maxSteps := 2000000) -implicitDefEqProofs [b40, c40, hy13_14, b41, c41, hy71_9]
                 refine EV.condT ?_
                 simp -implicitDefEqProofs [b40, c40, hy13_14, b41, c41, hy71_9]
                 refine condT_intro (fun k42 => ?_) (fun k42 => ?_)
                 ·try simp at k42
                  obtain ⟨f42, e22⟩ := pos_on2 e22 (by first | simpa using k42 | grind)
                  try simp at f42
                  refine EV.regionG tabOK ?_ -- region 73
                  simp (maxSteps := 2000000) -implicitDefEqProofs [b40, c40, hy13_14, b41, c41, hy71_9]
                  refine ⟨⟨((([y71_9.ty] : List TyD), (TyD.mk 3 y13_14.name ([]))), ()), e22.symm⟩, ?_⟩
                  try dsimp only
                  refine Sub.trans (Sub.nilRo 5 2 3 rfl rfl rfl) ?_
                  simp -implicitDefEqProofs [setOb]
                  refine Sub.cutG 6 (by simp) ?_ ?_ <;> simp [allP, allR, c0, slotR, conv1, conv0, cvOb, Pu, take_len_map, List.getD, List.range_succ, toIdx_range, passed, b40, c40, hy13_14, b41, c41, hy71_9]
                 ·try simp at k42
                  obtain ⟨f42, e22⟩ := neg_on2 e22 (by first | simpa using k42 | grind)
                  try simp at f42
                  refine EV.skip ?_
                  simp only [thenK_normal, blockK_normal, scopeK_normal]
                  refine ⟨⟨(([], (TyD.mk 3 y13_14.name ([]))), ()), e22.symm⟩, ?_⟩
                  try dsimp only
                  refine Sub.trans (Sub.nilRo 5 2 3 rfl rfl rfl) ?_
                  simp -implicitDefEqProofs [setOb]
                  refine Sub.cutG 6 (by simp) ?_ ?_ <;> simp [allP, allR, c0, slotR, conv1, conv0, cvOb, Pu, take_len_map, List.getD, List.range_succ, toIdx_range, passed, b40, c40, hy13_14, b41, c41, hy71_9]
                ·try simp at k39
                 obtain ⟨f39, e22⟩ := neg_on2 e22 (by first | simpa using k39 | grind)
                 try simp at f39
                 refine EV.seq ?_
                 refine EV.regionG tabOK ?_ -- region 74
                 simp (maxSteps := 2000000) -implicitDefEqProofs
                 refine EV.condT ?_
                 simp -implicitDefEqProofs
                 refine condT_intro (fun k43 => ?_) (fun k43 => ?_)
                 ·try simp at k43
                  obtain ⟨f43, e22⟩ := pos_on2 e22 (by first | simpa using k43 | grind)
                  try simp at f43
                  refine EV.seq ?_
                  obtain ⟨y75_4, gy75_4⟩ : ∃ z, (p0.fns.getD ((p2.which).toNat) default) = z := ⟨_, rfl⟩
                  replace e22 := bnd_on e22 gy75_4
                  try dsimp only at e22
                  have b44 : 0 ≤ p2.which ∧ p2.which < (p0.fns.length : Int) := by omega
                  have c44 : (p2.which).toNat < p0.fns.length := by omega
                  have hy75_4 : p0.fns[(p2.which).toNat] = y75_4 := by rw [← gy75_4, List.getD_eq_getElem?_getD, List.getElem?_eq_getElem c44]; rfl
                  have my75_4 : y75_4 ∈ p0.fns := by rw [← hy75_4]; exact List.getElem_mem _
                  refine EV.regionG tabOK ?_ -- region 75
                  simp (maxSteps := 2000000) -implicitDefEqProofs [b44, c44, hy75_4]
                  refine EV.regionG tabOK ?_ -- region 76
                  simp (maxSteps := 2000000) -implicitDefEqProofs [b44, c44, hy75_4]
                  refine callG_fun (w_rTys y75_4.params (by first | assumption | exact hs.sf _ (by assumption) | exact hs.fp _ (by assumption))) ?_ ?_
                  ·first | (simp; done) | (simp [b44, c44, hy75_4]; done)
                  simp (maxSteps := 2000000) -implicitDefEqProofs [b44, c44, hy75_4]
                  refine ⟨⟨(((rTys y75_4.params), (TyD.mk 7 y75_4.name ([]))), ()), e22.symm⟩, ?_⟩
                  try dsimp only
                  refine Sub.trans (Sub.nilRo 5 2 3 rfl rfl rfl) ?_
                  simp -implicitDefEqProofs [setOb]
                  refine Sub.cutG 6 (by simp) ?_ ?_ <;> simp [allP, allR, c0, slotR, conv1, conv0, cvOb, Pu, take_len_map, List.getD, List.range_succ, toIdx_range, passed, b44, c44, hy75_4]
                 ·try simp at k43
                  obtain ⟨f43, e22⟩ := neg_on2 e22 (by first | simpa using k43 | grind)
                  try simp at f43
                  refine EV.seq ?_
                  refine EV.regionG tabOK ?_ -- region 21
                  simp (maxSteps := 2000000) -implicitDefEqProofs
                  refine callG_fun (w_rNone 80) ?_ ?_
                  ·simp
                  simp (maxSteps := 2000000) -implicitDefEqProofs
                  refine EV.ret ?_
                  simp only [thenK_ret, blockK_ret, scopeK_ret, bodyK_ret]
                  replace e := run_back e e22
                  subst e
                  refine Fin.pure0 ?_
                  first | (simp; done) | (simp <;> grind)
       ·skip
        rintro ⟨⟨v22, g22⟩, e22⟩
        simp only [thenK_normal, blockK_normal, scopeK_normal, bodyK_normal]
        replace e := run_on e e22
        try dsimp only at e
        refine EV.seq ?_
        refine EV.seq ?_
        refine EV.regionG tabOK ?_ -- region 77
        simp (maxSteps := 2000000) -implicitDefEqProofs
        refine callG_fun (w_rNoSpot p2.s) ?_ ?_
        ·simp
        simp (maxSteps := 2000000) -implicitDefEqProofs
        refine EV.condT ?_
        simp -implicitDefEqProofs
        refine condT_intro (fun k45 => ?_) (fun k45 => ?_)
        ·try simp at k45
         obtain ⟨f45, e⟩ := pos_on2 e (by first | simpa using k45 | grind)
         try simp at f45
         refine EV.seq ?_
         refine EV.regionG tabOK ?_ -- region 78
         simp (maxSteps := 2000000) -implicitDefEqProofs
         refine callG_fun (w_rNone 84) ?_ ?_
         ·simp
         simp (maxSteps := 2000000) -implicitDefEqProofs
         refine EV.ret ?_
         simp only [thenK_ret, blockK_ret, scopeK_ret, bodyK_ret]
         subst e
         refine Fin.pure0 ?_
         first | (simp; done) | (simp <;> grind)
        ·try simp at k45
         obtain ⟨f45, e⟩ := neg_on2 e (by first | simpa using k45 | grind)
         try simp at f45
         refine EV.skip ?_
         simp only [thenK_normal, blockK_normal, scopeK_normal]
         refine EV.seq ?_
         refine EV.regionG tabOK ?_ -- region 79
         simp (maxSteps := 2000000) -implicitDefEqProofs
         refine callG_fun (w_rUses p0 p1 p2.uses v22.1) ?_ ?_
         ·simp
         simp (maxSteps := 2000000) -implicitDefEqProofs
         refine EV.seq ?_
         refine EV.seq ?_
         refine EV.regionG tabOK ?_ -- region 80
         simp (maxSteps := 2000000) -implicitDefEqProofs
         refine EV.condT ?_
         simp -implicitDefEqProofs
         refine condT_intro (fun k46 => ?_) (fun k46 => ?_)
         ·try simp at k46
          obtain ⟨f46, e⟩ := pos_on2 e (by first | simpa using k46 | grind)
          try simp at f46
          refine EV.seq ?_
          refine EV.regionG tabOK ?_ -- region 81
          simp (maxSteps := 2000000) -implicitDefEqProofs
          refine callG_fun (w_rNone (rUses p0 p1 p2.uses v22.1)) ?_ ?_
          ·simp
          simp (maxSteps := 2000000) -implicitDefEqProofs
          refine EV.ret ?_
          simp only [thenK_ret, blockK_ret, scopeK_ret, bodyK_ret]
          subst e
          refine Fin.pure0 ?_
          first | (simp; done) | (simp <;> grind)
         ·try simp at k46
          obtain ⟨f46, e⟩ := neg_on2 e (by first | simpa using k46 | grind)
          try simp at f46
          refine EV.skip ?_
          simp only [thenK_normal, blockK_normal, scopeK_normal]
          refine EV.seq ?_
          refine EV.regionG tabOK ?_ -- region 82
          simp (maxSteps := 2000000) -implicitDefEqProofs
          refine EV.ret ?_
          simp only [thenK_ret, blockK_ret, scopeK_ret, bodyK_ret]
          subst e
          refine Fin.pure0 ?_
          first | (simp; done) | (simp <;> grind)
end
end Go.Proofs.Tryz
end
