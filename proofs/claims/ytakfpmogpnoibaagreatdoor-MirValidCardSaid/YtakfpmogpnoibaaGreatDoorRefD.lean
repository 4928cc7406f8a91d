/- The contract of the document's answer for an end. -/
import Derived.Test.YtakfpmogpnoibaaGreatDoorRefB
set_option linter.unusedVariables false
set_option linter.unusedSimpArgs false
set_option linter.constructorNameAsVariable false
section
namespace Go.Proofs.Tryz
open Go Go.AM
attribute [local simp] wpG_op wpG_nil contG_some wpG_guard guardG_v guardG_o guardG_tup gval pureOp stepG_if isPick pickG_pick pickB_b pickOK isCall step_move step_assign step_alloc step_box boxV_some step_load step_store step_binOp step_unOp step_fieldAddr faV step_indexAddr ixA_slc ixA_arr step_extract extV_tup step_nilCheck ncV_ptr ncV_rp ncV_fn ncV_mp step_build buildV step_buildSlice bsV step_index ixV_arr ixV_str step_append apB step_makeSlice msV_i step_makeFunc over step_len step_makeMap mmV step_mapUpdate step_insert muA_map muB_mp step_lookup lkA_map lkB_mp step_slice slcV_s slcV_sl slcV_ro cutB_some slObV_arr bound_none bound_some bndV_i lenB_str lenB_ro lenB_sl lenB_nil lenB_z ld_ptr ld_rp offV_ptr offV_rp idxV_ro idxV_sl unV_not unV_neg binV_int binV_str binV_eqlb binV_neqb intOp strOp St.put updL setOb St.ev toV St.lk cellsOf AM.valOf TK.agg stv fillV places TI.zero condT_true condT_false finS resL resSlot packV ren ren1 ren0 Value.cells builtinV appendV elemsOf keepT room_of wrap_in toIdx passed Function.comp_def take_len_map lenV touchOf hid tab1 tab2 tab3 tab4 tab5 tab6 tab7 tab8 tab9 tab10 tab11 tab12 tab13 tab14 tab15 tab16 tab17 tab18 tab19 tab20 tab21 tab22 tab23 tab24 tab25 tab26 tab27 tab28 tab29 tab30 tab31 tab32 tab33 tab34 tab35 tab36 tab37 tab38 tab39 tab40 tab41 tab42 tab43 tab44 tab45 tab46 tab47 tab48 tab49 tab50 tab51 tab52 tab53 tab54 tab55 tab56 tab57 tab58 tab59 tab60 tab61 tab62 tab63 tab64 tab65 tab66 tab67 tab68 tab69 tab70 tab71 tab73 tab74 tab76 tab77 tab78 tab79 tab80 tab81 tab82 tab83 tab84 tab85 tab86 tab87 tab88 tab89 tab90 tab91 tab92 tab93 tab94 tab95 tab96 tab97 tab98 tab99 tab100 tab101 tab102 tab103 tab104 tab105 tab106 tab107 tab108 tab109 tab110 tab111 tab112 tab113 tab114 tab115 tab116 tab117 tab118 tab119 tab120 tab121 tab122 tab123 tab124 tab125 tab126 tab127 tab128 tab129 tab130 tab131 tab132 tab133 tab134 tab135 tab136 tab137 tab138 tab139 tab140 tab141 tab142 tab143 tab144 tab145 tab146 tab147 tab148 tab149 tab150 tab151 tab152 tab153 tab154 tab155 tab156 tab157 tab158 tab159 tab160 tab161 tab162 tab163 tab164 tab165 tab166 tab167 tab168 tab169 tab170 tab171 tab172 tab173 tab174 tab175 tab176 tab177 tab178 tab179 tab180 tab181 tab182 tab184 tab185 tab186 tab187 tab188 tab189 tab190 tab191 tab192 tab193 tab194 tab195 tab196 tab197 tab199 tab200 tab201 tab202 tab203 tab205 tab206 tab208 tab209 tab210 tab211 tab212 tab213 tab214 tab215 tab216 tab217 tab218 tab219 tab220 tab221 tab222 tab223 tab224 tab225 tab227 tab228 tab229 tab230 tab231 tab232 tab233 tab234 tab235 tab236 tab237 tab238 tab239 tab240 tab241 tab243 tab244 tab246 tab247 tab249 tab250 tab251 tab252 tab253 tab254 tab255 tab257 tab258 tab259 tab260 tab261 tab262 tab263 tab264 tab265 tab266 tab267 tab268 tab272 tab273 tab274 tab275 tab276 tab277 tab278 armC_eq blockC_eq bodyC_eq enumC_eq fieldC_eq fnC_eq inC_eq localC_eq mirBodyC_eq operC_eq placeC_eq rvC_eq sourceC_eq spotC_eq stepC_eq stmtC_eq structC_eq tmC_eq tyC_eq useC_eq valueC_eq variantC_eq cutL_nil cutL_junk cutL_cons ren_arr ren_gone ren_unborn ren_var ren_row step_convert cvV_i cvV_sl cvV_s cvK_slc cvE_u8 bytesOf bor1 bor2 bor3 bor4
set_option linter.unusedSimpArgs false
set_option linter.unusedVariables false
set_option maxRecDepth 10000
set_option maxHeartbeats 4000000
noncomputable section
def rValidTm_l2 (p1 : BodyD) : List Int → Ctl (Bool) (Unit)
 | [] => .go ()
 | x2 :: xs2 => (if (x2 < 0) ∨ ((p1.blocks.length : Int) ≤ x2) then .ret false else rValidTm_l2 p1 xs2)
def rValidTm (p0 : SourceD) (p1 : BodyD) (p2 : TmD) : Bool :=
 (Ctl.run (rValidTm_l2 p1 p2.to_) fun (v2 : Unit) => (if p2.k = 0 then ((((decide ((p2.to_.length : Int) = 1)) && (rNoSpot p2.s)) && (rNoValue p2.v)) && (rNoUse p2.u)) else (if p2.k = 1 then ((((decide ((p2.to_.length : Int) = 2)) && (rNoSpot p2.s)) && (rNoValue p2.v)) && (rNum p0 p1 p2.u)) else (if p2.k = 3 then ((((decide ((p2.to_.length : Int) = 0)) && (rNoSpot p2.s)) && (rNoValue p2.v)) && (rNum p0 p1 p2.u)) else (if p2.k = 4 then ((((decide ((p2.to_.length : Int) = 1)) && (rNoSpot p2.s)) && (rNoValue p2.v)) && (rNum p0 p1 p2.u)) else (if p2.k = 2 then (bnd (p0.enums.getD (((rEnum p0 p1 p2.s)).toNat) default) fun (y18_7 : EnumD) => ((((decide (0 ≤ (rEnum p0 p1 p2.s))) && (decide ((p2.to_.length : Int) = (y18_7.variants.length : Int)))) && (rNoValue p2.v)) && (rNoUse p2.u))) else (bnd (if p2.k = 5 then true else (if p2.k = 6 then true else (decide (p2.k = 7)))) fun (v20 : Bool) => (if v20 = true then (if (((¬ ((p2.to_.length : Int) = 1)) ∨ (¬ ((rType p0 p1 p2.s).2.2 = 0))) ∨ (¬ (((rType p0 p1 p2.s).1).k = 1))) ∨ ((rType p0 p1 p2.s).2.1 = true) then false else (if p2.k = 7 then ((rNoValue p2.v) && (rNum p0 p1 p2.u)) else (((((decide ((rType p0 p1 p2.v.s).2.2 = 0)) && (decide ((p2.v.s.path.length : Int) = 0))) && (decide (((rType p0 p1 p2.v.s).1).k = 7))) && (rNoValue (ValueD.mk p2.v.k p2.v.uses (SpotD.mk 0 ([])) p2.v.which p2.v.tag))) && (rNoUse p2.u)))) else false))))))))
set_option maxHeartbeats 40000000 in
theorem w_rValidTm (p0 : SourceD) (p1 : BodyD) (p2 : TmD) (hs : SrcOK p0) : QC prog 88 [.agg [.ro 4 (p0.structs.map structC), .ro 3 (p0.enums.map enumC), .ro 4 (p0.fns.map fnC)], .agg [.s p1.name, .i .i64 p1.params, .ro 4 (p1.locals.map localC), .ro 17 (p1.blocks.map blockC)], .agg [.i .i64 p2.k, .i .i64 p2.at_, .i .i64 p2.s.local_, .ro 1 (p2.s.path.map (fun z => [.i .i64 z])), .i .i64 p2.v.k, .ro 5 (p2.v.uses.map useC), .i .i64 p2.v.s.local_, .ro 1 (p2.v.s.path.map (fun z => [.i .i64 z])), .i .i64 p2.v.which, .i .i64 p2.v.tag, .b p2.u.num, .i .i64 p2.u.n, .b p2.u.move, .i .i64 p2.u.s.local_, .ro 1 (p2.u.s.path.map (fun z => [.i .i64 z])), .ro 1 (p2.to_.map (fun z => [.i .i64 z]))]] [] (.b (rValidTm p0 p1 p2)) [] := by
 refine QC.of_body tabOK func88 rfl (by kernel_rfl) ?_
 simp only [f88]
 generalize e : rValidTm p0 p1 p2 = R
 unfold rValidTm at e
 refine EV.seq ?_
 refine EV.regionG tabOK ?_ -- region 0
 simp (maxSteps := 2000000) -implicitDefEqProofs
 refine EV.seq ?_
 refine EV.seq ?_
 refine EV.regionG tabOK ?_ -- region 1
 simp (maxSteps := 2000000) -implicitDefEqProofs
 obtain ⟨z2, e2, e⟩ := run_split e
 refine EV.nrm (fun v : { v : (Unit) × (Unit) // z2 = .go v.1 } => (fun (v2 : Unit) (g2 : Unit) => (⟨[J, J, J, .ptr 0 0 0 0, .ptr 1 0 0 0, .ptr 2 0 0 0, J, J, J, J, J, J, J, J, J, J, J, J, J, J, J, J, J, J, J, J, J, J, J, J, J, J, J, J, J, J, J, J, J, J, J, J, J, J, J, J, J, J, J, J, J, J, J, J, J, J, J, J, J, J, J, J, J, J, J, J, J, J, J, J, J, J, J, J, J, J, J, J, J, J, J, J, J, J, J, J, J, J, J, J, J, J, J, J, J, J, J, J, J, J, J, J, J, J, J, J, J, J, J, J, J, J, J, J, J, J, J, J, J, J, J, J, J, J, J, J, J, J, J, J, J, J, J, J, J, J, J, J, J, J, J, J, J, J, J, J, J, J, J, J, J, J, J, J, J, J, J, J, J, J, J, J, J, J, J, J, J, J, J, J, J, J, J, J, J, J, J, J, J, J, J, J, J, J, J, J, J, J, J, J, J, J, J, J, J, J, J, J, J, J, J, J, J, J, J, J, J, J, J, J, J, J, J, J, J, J, J, J, J, J, J, J, J, J, J, J, J, J, J, J, J, J, J, J, J, J], [.arr 0 3 [[.ro 4 (p0.structs.map structC), .ro 3 (p0.enums.map enumC), .ro 4 (p0.fns.map fnC)]], .arr 0 4 [[.s p1.name, .i .i64 p1.params, .ro 4 (p1.locals.map localC), .ro 17 (p1.blocks.map blockC)]], .arr 0 16 [[.i .i64 p2.k, .i .i64 p2.at_, .i .i64 p2.s.local_, .ro 1 (p2.s.path.map (fun z => [.i .i64 z])), .i .i64 p2.v.k, .ro 5 (p2.v.uses.map useC), .i .i64 p2.v.s.local_, .ro 1 (p2.v.s.path.map (fun z => [.i .i64 z])), .i .i64 p2.v.which, .i .i64 p2.v.tag, .b p2.u.num, .i .i64 p2.u.n, .b p2.u.move, .i .i64 p2.u.s.local_, .ro 1 (p2.u.s.path.map (fun z => [.i .i64 z])), .ro 1 (p2.to_.map (fun z => [.i .i64 z]))]]]⟩ : St)) v.1.1 v.1.2) ?_ ?_
 ·skip
  refine EV.block ?_
  refine EV.loopB (fun x : { x : Nat // x ≤ p2.to_.length ∧ rValidTm_l2 p1 (p2.to_.drop x) = z2 } => (fun (j2 : Nat) => (⟨[J, J, J, .ptr 0 0 0 0, .ptr 1 0 0 0, .ptr 2 0 0 0, J, .i .i64 (j2 : Int), J, J, J, J, J, J, J, J, J, J, J, J, J, J, J, J, J, J, J, J, J, J, J, J, J, J, J, J, J, J, J, J, J, J, J, J, J, J, J, J, J, J, J, J, J, J, J, J, J, J, J, J, J, J, J, J, J, J, J, J, J, J, J, J, J, J, J, J, J, J, J, J, J, J, J, J, J, J, J, J, J, J, J, J, J, J, J, J, J, J, J, J, J, J, J, J, J, J, J, J, J, J, J, J, J, J, J, J, J, J, J, J, J, J, J, J, J, J, J, J, J, J, J, J, J, J, J, J, J, J, J, J, J, J, J, J, J, J, J, J, J, J, J, J, J, J, J, J, J, J, J, J, J, J, J, J, J, J, J, J, J, J, J, J, J, J, J, J, J, J, J, J, J, J, J, J, J, J, J, J, J, J, J, J, J, J, J, J, J, J, J, J, J, J, J, J, J, J, J, J, J, J, J, J, J, J, J, J, J, J, J, J, J, J, J, J, J, J, J, J, J, J, J, J, J, J, J, J], [.arr 0 3 [[.ro 4 (p0.structs.map structC), .ro 3 (p0.enums.map enumC), .ro 4 (p0.fns.map fnC)]], .arr 0 4 [[.s p1.name, .i .i64 p1.params, .ro 4 (p1.locals.map localC), .ro 17 (p1.blocks.map blockC)]], .arr 0 16 [[.i .i64 p2.k, .i .i64 p2.at_, .i .i64 p2.s.local_, .ro 1 (p2.s.path.map (fun z => [.i .i64 z])), .i .i64 p2.v.k, .ro 5 (p2.v.uses.map useC), .i .i64 p2.v.s.local_, .ro 1 (p2.v.s.path.map (fun z => [.i .i64 z])), .i .i64 p2.v.which, .i .i64 p2.v.tag, .b p2.u.num, .i .i64 p2.u.n, .b p2.u.move, .i .i64 p2.u.s.local_, .ro 1 (p2.u.s.path.map (fun z => [.i .i64 z])), .ro 1 (p2.to_.map (fun z => [.i .i64 z]))]]]⟩ : St)) x.1) (fun x => p2.to_.length - x.1) ⟨0, Nat.zero_le _, e2⟩ ?_ ?_
  ·skip
   try dsimp only
   try dsimp only
   refine Sub.cutF 3 (by simp) ?_ ?_ <;> simp [List.range_succ, toIdx_range, passed]
  ·skip
   rintro ⟨j2, hi2, e2⟩
   simp only at hi2 e2 ⊢
   refine EV.seq ?_
   refine EV.seq ?_
   refine EV.regionG tabOK ?_ -- region 2
   simp (maxSteps := 2000000) -implicitDefEqProofs
   refine EV.room 19 (by rfl) (fun mj2 => ?_)
   simp at mj2
   refine EV.condT ?_
   simp -implicitDefEqProofs
   refine condT_intro (fun k1 => ?_) (fun k1 => ?_)
   ·try simp at k1
    have u1 : j2 < p2.to_.length := by omega
    obtain ⟨x2, hx2⟩ : ∃ z, p2.to_[j2] = z := ⟨_, rfl⟩
    have mx2 : x2 ∈ p2.to_ := by rw [← hx2]; exact List.getElem_mem _
    rw [List.drop_eq_getElem_cons u1, hx2, rValidTm_l2] at e2
    refine EV.skip ?_
    simp only [thenK_normal, blockK_normal, scopeK_normal]
    refine EV.seq ?_
    refine EV.block ?_
    refine EV.seq ?_
    by_cases k2 : x2 < 0
    ·as_aux_lemma =>
     have kk2 := k2
     try simp at kk2
     refine EV.drawG tabOK mixedOK ?_ -- region 4
     simp (maxSteps := 2000000) -implicitDefEqProofs +contextual [k1, u1, hx2, k2, kk2]
     refine And.intro ?_ ?_
     ·first | decide +kernel | (simp -implicitDefEqProofs; decide +kernel) | (split <;> decide +kernel)
     try simp -implicitDefEqProofs
     refine EV.condT ?_
     simp -implicitDefEqProofs [k1, u1, hx2, k2, kk2]
     replace e2 := pos_on e2 (by simp [k1, u1, hx2, k2, kk2])
     refine EV.seq ?_
     refine EV.regionG tabOK ?_ -- region 5
     simp (maxSteps := 2000000) -implicitDefEqProofs [k1, u1, hx2, k2, kk2]
     refine EV.ret ?_
     simp only [thenK_ret, blockK_ret, scopeK_ret, bodyK_ret]
     replace e := run_back e e2
     subst e
     refine Fin.pure0 ?_
     first | (simp; done) | (simp <;> grind)
    ·as_aux_lemma =>
     have kk2 := k2
     try simp at kk2
     refine EV.drawG tabOK mixedOK ?_ -- region 4
     simp (maxSteps := 2000000) -implicitDefEqProofs +contextual [k1, u1, hx2, k2, kk2]
     refine And.intro ?_ ?_
     ·first | decide +kernel | (simp -implicitDefEqProofs; decide +kernel) | (split <;> decide +kernel)
     try simp -implicitDefEqProofs
     refine EV.condT ?_
     simp -implicitDefEqProofs [k1, u1, hx2, k2, kk2]
     refine condT_intro (fun k3 => ?_) (fun k3 => ?_)
     ·as_aux_lemma =>
      try simp at k3
      obtain ⟨f3, e2⟩ := pos_on2 e2 (by first | simpa [k2, kk2] using k3 | grind)
      try simp at f3
      refine EV.seq ?_
      refine EV.regionG tabOK ?_ -- region 5
      simp (maxSteps := 2000000) -implicitDefEqProofs [k1, u1, hx2, k2, kk2]
      refine EV.ret ?_
      simp only [thenK_ret, blockK_ret, scopeK_ret, bodyK_ret]
      replace e := run_back e e2
      subst e
      refine Fin.pure0 ?_
      first | (simp; done) | (simp <;> grind)
     ·as_aux_lemma =>
      try simp at k3
      obtain ⟨f3, e2⟩ := neg_on2 e2 (by first | simpa [k2, kk2] using k3 | grind)
      try simp at f3
      refine EV.skip ?_
      simp only [thenK_normal, blockK_normal, scopeK_normal]
      refine EV.regionG tabOK ?_ -- region 3
      simp (maxSteps := 2000000) -implicitDefEqProofs [k1, u1, hx2, k2, kk2]
      have w2 : IntKind.i64.wrap ((j2 : Int) + 1) = (j2 : Int) + 1 := wrap_in _ (by omega) (by omega)
      refine ⟨⟨j2 + 1, by omega, e2⟩, by dsimp only; omega, ?_⟩
      try dsimp only
      refine Sub.cutF 3 (by simp) ?_ ?_ <;> simp [List.range_succ, toIdx_range, passed, k1, u1, hx2, k2, kk2, w2]
   ·try simp at k1
    have d1 : p2.to_.drop j2 = [] := List.drop_eq_nil_of_le (by omega)
    rw [d1, rValidTm_l2] at e2
    refine EV.exit ?_
    simp -implicitDefEqProofs
    refine ⟨⟨((), ()), e2.symm⟩, ?_⟩
    try dsimp only
    refine Sub.cutF 3 (by simp) ?_ ?_ <;> simp [List.range_succ, toIdx_range, passed]
 ·skip
  rintro ⟨⟨v2, g2⟩, e2⟩
  simp only [thenK_normal, blockK_normal, scopeK_normal, bodyK_normal]
  replace e := run_on e e2
  try dsimp only at e
  refine EV.seq ?_
  refine EV.regionG tabOK ?_ -- region 6
  simp (maxSteps := 2000000) -implicitDefEqProofs
  refine EV.seq ?_
  refine EV.seq ?_
  refine EV.regionG tabOK ?_ -- region 7
  simp (maxSteps := 2000000) -implicitDefEqProofs
  refine EV.block ?_
  refine EV.seq ?_
  refine EV.regionG tabOK ?_ -- region 8
  simp (maxSteps := 2000000) -implicitDefEqProofs
  refine EV.condT ?_
  simp -implicitDefEqProofs
  refine condT_intro (fun k4 => ?_) (fun k4 => ?_)
  ·as_aux_lemma =>
   try simp at k4
   obtain ⟨f4, e⟩ := pos_on2 e (by first | simpa using k4 | grind)
   try simp at f4
   refine EV.seq ?_
   refine EV.nrm (fun _ : Unit => (⟨[J, J, J, J, J, J, .b ((((decide ((p2.to_.length : Int) = 1)) && (rNoSpot p2.s)) && (rNoValue p2.v)) && (rNoUse p2.u)), J, J, J, J, J, J, J, J, J, J, J, J, J, J, J, J, J, J, J, J, J, J, J, J, J, J, J, J, J, J, J, J, J, J, J, J, J, J, J, J, J, J, J, J, J, J, J, J, J, J, J, J, J, J, J, J, J, J, J, J, J, J, J, J, J, J, J, J, J, J, J, J, J, J, J, J, J, J, J, J, J, J, J, J, J, J, J, J, J, J, J, J, J, J, J, J, J, J, J, J, J, J, J, J, J, J, J, J, J, J, J, J, J, J, J, J, J, J, J, J, J, J, J, J, J, J, J, J, J, J, J, J, J, J, J, J, J, J, J, J, J, J, J, J, J, J, J, J, J, J, J, J, J, J, J, J, J, J, J, J, J, J, J, J, J, J, J, J, J, J, J, J, J, J, J, J, J, J, J, J, J, J, J, J, J, J, J, J, J, J, J, J, J, J, J, J, J, J, J, J, J, J, J, J, J, J, J, J, J, J, J, J, J, J, J, J, J, J, J, J, J, J, J, J, J, J, J, J, J], []⟩ : St)) ?_ ?_
   ·skip
    by_cases k6 : (p2.to_.length : Int) = 1
    ·as_aux_lemma =>
     have kk6 := k6
     try simp at kk6
     cases k7 : (rNoSpot p2.s)
     ·as_aux_lemma =>
      have kk7 := k7
      try simp at kk7
      refine EV.regionG tabOK ?_ -- region 9
      simp (maxSteps := 2000000) -implicitDefEqProofs +contextual [k6, kk6, k7, kk7]
      refine callG_fun (w_rNoSpot p2.s) ?_ ?_
      ·first | (simp; done) | (simp [k6, kk6, k7, kk7]; done)
      simp (maxSteps := 2000000) -implicitDefEqProofs +contextual [k6, kk6, k7, kk7]
      refine ⟨(), ?_⟩
      try dsimp only
      refine Sub.cutF 0 (by simp) ?_ ?_ <;> simp [List.range_succ, toIdx_range, passed, k6, kk6, k7, kk7]
     ·as_aux_lemma =>
      have kk7 := k7
      try simp at kk7
      cases k8 : (rNoValue p2.v)
      ·as_aux_lemma =>
       have kk8 := k8
       try simp at kk8
       refine EV.regionG tabOK ?_ -- region 9
       simp (maxSteps := 2000000) -implicitDefEqProofs +contextual [k6, kk6, k7, kk7, k8, kk8]
       refine callG_fun (w_rNoSpot p2.s) ?_ ?_
       ·first | (simp; done) | (simp [k6, kk6, k7, kk7, k8, kk8]; done)
       simp (maxSteps := 2000000) -implicitDefEqProofs +contextual [k6, kk6, k7, kk7, k8, kk8]
       refine callG_fun (w_rNoValue p2.v) ?_ ?_
       ·first | (simp; done) | (simp [k6, kk6, k7, kk7, k8, kk8]; done)
       simp (maxSteps := 2000000) -implicitDefEqProofs +contextual [k6, kk6, k7, kk7, k8, kk8]
       refine ⟨(), ?_⟩
       try dsimp only
       refine Sub.cutF 0 (by simp) ?_ ?_ <;> simp [List.range_succ, toIdx_range, passed, k6, kk6, k7, kk7, k8, kk8]
      ·as_aux_lemma =>
       have kk8 := k8
       try simp at kk8
       refine EV.regionG tabOK ?_ -- region 9
       simp (maxSteps := 2000000) -implicitDefEqProofs +contextual [k6, kk6, k7, kk7, k8, kk8]
       refine callG_fun (w_rNoSpot p2.s) ?_ ?_
       ·first | (simp; done) | (simp [k6, kk6, k7, kk7, k8, kk8]; done)
       simp (maxSteps := 2000000) -implicitDefEqProofs +contextual [k6, kk6, k7, kk7, k8, kk8]
       refine callG_fun (w_rNoValue p2.v) ?_ ?_
       ·first | (simp; done) | (simp [k6, kk6, k7, kk7, k8, kk8]; done)
       simp (maxSteps := 2000000) -implicitDefEqProofs +contextual [k6, kk6, k7, kk7, k8, kk8]
       refine callG_fun (w_rNoUse p2.u) ?_ ?_
       ·first | (simp; done) | (simp [k6, kk6, k7, kk7, k8, kk8]; done)
       simp (maxSteps := 2000000) -implicitDefEqProofs +contextual [k6, kk6, k7, kk7, k8, kk8]
       refine ⟨(), ?_⟩
       try dsimp only
       refine Sub.cutF 0 (by simp) ?_ ?_ <;> simp [List.range_succ, toIdx_range, passed, k6, kk6, k7, kk7, k8, kk8]
    ·as_aux_lemma =>
     have kk6 := k6
     try simp at kk6
     refine EV.regionG tabOK ?_ -- region 9
     simp (maxSteps := 2000000) -implicitDefEqProofs +contextual [k6, kk6]
     refine ⟨(), ?_⟩
     try dsimp only
     refine Sub.cutF 0 (by simp) ?_ ?_ <;> simp [List.range_succ, toIdx_range, passed, k6, kk6]
   ·skip
    rintro _
    simp only [thenK_normal, blockK_normal, scopeK_normal, bodyK_normal]
    refine EV.ret ?_
    simp only [thenK_ret, blockK_ret, scopeK_ret, bodyK_ret]
    subst e
    refine Fin.pure0 ?_
    first | (simp; done) | (simp <;> grind)
  ·as_aux_lemma =>
   try simp at k4
   obtain ⟨f4, e⟩ := neg_on2 e (by first | simpa using k4 | grind)
   try simp at f4
   refine EV.seq ?_
   refine EV.regionG tabOK ?_ -- region 10
   simp (maxSteps := 2000000) -implicitDefEqProofs
   refine EV.condT ?_
   simp -implicitDefEqProofs
   refine condT_intro (fun k9 => ?_) (fun k9 => ?_)
   ·as_aux_lemma =>
    try simp at k9
    obtain ⟨f9, e⟩ := pos_on2 e (by first | simpa using k9 | grind)
    try simp at f9
    refine EV.seq ?_
    refine EV.nrm (fun _ : Unit => (⟨[J, J, J, J, J, J, .b ((((decide ((p2.to_.length : Int) = 2)) && (rNoSpot p2.s)) && (rNoValue p2.v)) && (rNum p0 p1 p2.u)), J, J, J, J, J, J, J, J, J, J, J, J, J, J, J, J, J, J, J, J, J, J, J, J, J, J, J, J, J, J, J, J, J, J, J, J, J, J, J, J, J, J, J, J, J, J, J, J, J, J, J, J, J, J, J, J, J, J, J, J, J, J, J, J, J, J, J, J, J, J, J, J, J, J, J, J, J, J, J, J, J, J, J, J, J, J, J, J, J, J, J, J, J, J, J, J, J, J, J, J, J, J, J, J, J, J, J, J, J, J, J, J, J, J, J, J, J, J, J, J, J, J, J, J, J, J, J, J, J, J, J, J, J, J, J, J, J, J, J, J, J, J, J, J, J, J, J, J, J, J, J, J, J, J, J, J, J, J, J, J, J, J, J, J, J, J, J, J, J, J, J, J, J, J, J, J, J, J, J, J, J, J, J, J, J, J, J, J, J, J, J, J, J, J, J, J, J, J, J, J, J, J, J, J, J, J, J, J, J, J, J, J, J, J, J, J, J, J, J, J, J, J, J, J, J, J, J, J, J], []⟩ : St)) ?_ ?_
    ·skip
     by_cases k11 : (p2.to_.length : Int) = 2
     ·as_aux_lemma =>
      have kk11 := k11
      try simp at kk11
      cases k12 : (rNoSpot p2.s)
      ·as_aux_lemma =>
       have kk12 := k12
       try simp at kk12
       refine EV.regionG tabOK ?_ -- region 11
       simp (maxSteps := 2000000) -implicitDefEqProofs +contextual [k11, kk11, k12, kk12]
       refine callG_fun (w_rNoSpot p2.s) ?_ ?_
       ·first | (simp; done) | (simp [k11, kk11, k12, kk12]; done)
       simp (maxSteps := 2000000) -implicitDefEqProofs +contextual [k11, kk11, k12, kk12]
       refine ⟨(), ?_⟩
       try dsimp only
       refine Sub.cutF 0 (by simp) ?_ ?_ <;> simp [List.range_succ, toIdx_range, passed, k11, kk11, k12, kk12]
      ·as_aux_lemma =>
       have kk12 := k12
       try simp at kk12
       cases k13 : (rNoValue p2.v)
       ·as_aux_lemma =>
        have kk13 := k13
        try simp at kk13
        refine EV.regionG tabOK ?_ -- region 11
        simp (maxSteps := 2000000) -implicitDefEqProofs +contextual [k11, kk11, k12, kk12, k13, kk13]
        refine callG_fun (w_rNoSpot p2.s) ?_ ?_
        ·first | (simp; done) | (simp [k11, kk11, k12, kk12, k13, kk13]; done)
        simp (maxSteps := 2000000) -implicitDefEqProofs +contextual [k11, kk11, k12, kk12, k13, kk13]
        refine callG_fun (w_rNoValue p2.v) ?_ ?_
        ·first | (simp; done) | (simp [k11, kk11, k12, kk12, k13, kk13]; done)
        simp (maxSteps := 2000000) -implicitDefEqProofs +contextual [k11, kk11, k12, kk12, k13, kk13]
        refine ⟨(), ?_⟩
        try dsimp only
        refine Sub.cutF 0 (by simp) ?_ ?_ <;> simp [List.range_succ, toIdx_range, passed, k11, kk11, k12, kk12, k13, kk13]
       ·as_aux_lemma =>
        have kk13 := k13
        try simp at kk13
        refine EV.regionG tabOK ?_ -- region 11
        simp (maxSteps := 2000000) -implicitDefEqProofs +contextual [k11, kk11, k12, kk12, k13, kk13]
        refine callG_fun (w_rNoSpot p2.s) ?_ ?_
        ·first | (simp; done) | (simp [k11, kk11, k12, kk12, k13, kk13]; done)
        simp (maxSteps := 2000000) -implicitDefEqProofs +contextual [k11, kk11, k12, kk12, k13, kk13]
        refine callG_fun (w_rNoValue p2.v) ?_ ?_
        ·first | (simp; done) | (simp [k11, kk11, k12, kk12, k13, kk13]; done)
        simp (maxSteps := 2000000) -implicitDefEqProofs +contextual [k11, kk11, k12, kk12, k13, kk13]
        refine callG_fun (w_rNum p0 p1 p2.u) ?_ ?_
        ·first | (simp; done) | (simp [k11, kk11, k12, kk12, k13, kk13]; done)
        simp (maxSteps := 2000000) -implicitDefEqProofs +contextual [k11, kk11, k12, kk12, k13, kk13]
        refine ⟨(), ?_⟩
        try dsimp only
        refine Sub.cutF 0 (by simp) ?_ ?_ <;> simp [List.range_succ, toIdx_range, passed, k11, kk11, k12, kk12, k13, kk13]
     ·as_aux_lemma =>
      have kk11 := k11
      try simp at kk11
      refine EV.regionG tabOK ?_ -- region 11
      simp (maxSteps := 2000000) -implicitDefEqProofs +contextual [k11, kk11]
      refine ⟨(), ?_⟩
      try dsimp only
      refine Sub.cutF 0 (by simp) ?_ ?_ <;> simp [List.range_succ, toIdx_range, passed, k11, kk11]
    ·skip
     rintro _
     simp only [thenK_normal, blockK_normal, scopeK_normal, bodyK_normal]
     refine EV.ret ?_
     simp only [thenK_ret, blockK_ret, scopeK_ret, bodyK_ret]
     subst e
     refine Fin.pure0 ?_
     first | (simp; done) | (simp <;> grind)
   ·as_aux_lemma =>
    try simp at k9
    obtain ⟨f9, e⟩ := neg_on2 e (by first | simpa using k9 | grind)
    try simp at f9
    refine EV.seq ?_
    refine EV.regionG tabOK ?_ -- region 12
    simp (maxSteps := 2000000) -implicitDefEqProofs
    refine EV.condT ?_
    simp -implicitDefEqProofs
    refine condT_intro (fun k14 => ?_) (fun k14 => ?_)
    ·as_aux_lemma =>
     try simp at k14
     obtain ⟨f14, e⟩ := pos_on2 e (by first | simpa using k14 | grind)
     try simp at f14
     refine EV.seq ?_
     refine EV.nrm (fun _ : Unit => (⟨[J, J, J, J, J, J, .b ((((decide ((p2.to_.length : Int) = 0)) && (rNoSpot p2.s)) && (rNoValue p2.v)) && (rNum p0 p1 p2.u)), J, J, J, J, J, J, J, J, J, J, J, J, J, J, J, J, J, J, J, J, J, J, J, J, J, J, J, J, J, J, J, J, J, J, J, J, J, J, J, J, J, J, J, J, J, J, J, J, J, J, J, J, J, J, J, J, J, J, J, J, J, J, J, J, J, J, J, J, J, J, J, J, J, J, J, J, J, J, J, J, J, J, J, J, J, J, J, J, J, J, J, J, J, J, J, J, J, J, J, J, J, J, J, J, J, J, J, J, J, J, J, J, J, J, J, J, J, J, J, J, J, J, J, J, J, J, J, J, J, J, J, J, J, J, J, J, J, J, J, J, J, J, J, J, J, J, J, J, J, J, J, J, J, J, J, J, J, J, J, J, J, J, J, J, J, J, J, J, J, J, J, J, J, J, J, J, J, J, J, J, J, J, J, J, J, J, J, J, J, J, J, J, J, J, J, J, J, J, J, J, J, J, J, J, J, J, J, J, J, J, J, J, J, J, J, J, J, J, J, J, J, J, J, J, J, J, J, J, J], []⟩ : St)) ?_ ?_
     ·skip
      by_cases k16 : (p2.to_.length : Int) = 0
      ·as_aux_lemma =>
       have kk16 := k16
       try simp at kk16
       cases k17 : (rNoSpot p2.s)
       ·as_aux_lemma =>
        have kk17 := k17
        try simp at kk17
        refine EV.regionG tabOK ?_ -- region 13
        simp (maxSteps := 2000000) -implicitDefEqProofs +contextual [k16, kk16, k17, kk17]
        refine callG_fun (w_rNoSpot p2.s) ?_ ?_
        ·first | (simp; done) | (simp [k16, kk16, k17, kk17]; done)
        simp (maxSteps := 2000000) -implicitDefEqProofs +contextual [k16, kk16, k17, kk17]
        refine ⟨(), ?_⟩
        try dsimp only
        refine Sub.cutF 0 (by simp) ?_ ?_ <;> simp [List.range_succ, toIdx_range, passed, k16, kk16, k17, kk17]
       ·as_aux_lemma =>
        have kk17 := k17
        try simp at kk17
        cases k18 : (rNoValue p2.v)
        ·as_aux_lemma =>
         have kk18 := k18
         try simp at kk18
         refine EV.regionG tabOK ?_ -- region 13
         simp (maxSteps := 2000000) -implicitDefEqProofs +contextual [k16, kk16, k17, kk17, k18, kk18]
         refine callG_fun (w_rNoSpot p2.s) ?_ ?_
         ·first | (simp; done) | (simp [k16, kk16, k17, kk17, k18, kk18]; done)
         simp (maxSteps := 2000000) -implicitDefEqProofs +contextual [k16, kk16, k17, kk17, k18, kk18]
         refine callG_fun (w_rNoValue p2.v) ?_ ?_
         ·first | (simp; done) | (simp [k16, kk16, k17, kk17, k18, kk18]; done)
         simp (maxSteps := 2000000) -implicitDefEqProofs +contextual [k16, kk16, k17, kk17, k18, kk18]
         refine ⟨(), ?_⟩
         try dsimp only
         refine Sub.cutF 0 (by simp) ?_ ?_ <;> simp [List.range_succ, toIdx_range, passed, k16, kk16, k17, kk17, k18, kk18]
        ·as_aux_lemma =>
         have kk18 := k18
         try simp at kk18
         refine EV.regionG tabOK ?_ -- region 13
         simp (maxSteps := 2000000) -implicitDefEqProofs +contextual [k16, kk16, k17, kk17, k18, kk18]
         refine callG_fun (w_rNoSpot p2.s) ?_ ?_
         ·first | (simp; done) | (simp [k16, kk16, k17, kk17, k18, kk18]; done)
         simp (maxSteps := 2000000) -implicitDefEqProofs +contextual [k16, kk16, k17, kk17, k18, kk18]
         refine callG_fun (w_rNoValue p2.v) ?_ ?_
         ·first | (simp; done) | (simp [k16, kk16, k17, kk17, k18, kk18]; done)
         simp (maxSteps := 2000000) -implicitDefEqProofs +contextual [k16, kk16, k17, kk17, k18, kk18]
         refine callG_fun (w_rNum p0 p1 p2.u) ?_ ?_
         ·first | (simp; done) | (simp [k16, kk16, k17, kk17, k18, kk18]; done)
         simp (maxSteps := 2000000) -implicitDefEqProofs +contextual [k16, kk16, k17, kk17, k18, kk18]
         refine ⟨(), ?_⟩
         try dsimp only
         refine Sub.cutF 0 (by simp) ?_ ?_ <;> simp [List.range_succ, toIdx_range, passed, k16, kk16, k17, kk17, k18, kk18]
      ·as_aux_lemma =>
       have kk16 := k16
       try simp at kk16
       refine EV.regionG tabOK ?_ -- region 13
       simp (maxSteps := 2000000) -implicitDefEqProofs +contextual [k16, kk16]
       refine ⟨(), ?_⟩
       try dsimp only
       refine Sub.cutF 0 (by simp) ?_ ?_ <;> simp [List.range_succ, toIdx_range, passed, k16, kk16]
     ·skip
      rintro _
      simp only [thenK_normal, blockK_normal, scopeK_normal, bodyK_normal]
      refine EV.ret ?_
      simp only [thenK_ret, blockK_ret, scopeK_ret, bodyK_ret]
      subst e
      refine Fin.pure0 ?_
      first | (simp; done) | (simp <;> grind)
    ·as_aux_lemma =>
     try simp at k14
     obtain ⟨f14, e⟩ := neg_on2 e (by first | simpa using k14 | grind)
     try simp at f14
     refine EV.seq ?_
     refine EV.regionG tabOK ?_ -- region 14
     simp (maxSteps := 2000000) -implicitDefEqProofs
     refine EV.condT ?_
     simp -implicitDefEqProofs
     refine condT_intro (fun k19 => ?_) (fun k19 => ?_)
     ·as_aux_lemma =>
      try simp at k19
      obtain ⟨f19, e⟩ := pos_on2 e (by first | simpa using k19 | grind)
      try simp at f19
      refine EV.seq ?_
      refine EV.nrm (fun _ : Unit => (⟨[J, J, J, J, J, J, .b ((((decide ((p2.to_.length : Int) = 1)) && (rNoSpot p2.s)) && (rNoValue p2.v)) && (rNum p0 p1 p2.u)), J, J, J, J, J, J, J, J, J, J, J, J, J, J, J, J, J, J, J, J, J, J, J, J, J, J, J, J, J, J, J, J, J, J, J, J, J, J, J, J, J, J, J, J, J, J, J, J, J, J, J, J, J, J, J, J, J, J, J, J, J, J, J, J, J, J, J, J, J, J, J, J, J, J, J, J, J, J, J, J, J, J, J, J, J, J, J, J, J, J, J, J, J, J, J, J, J, J, J, J, J, J, J, J, J, J, J, J, J, J, J, J, J, J, J, J, J, J, J, J, J, J, J, J, J, J, J, J, J, J, J, J, J, J, J, J, J, J, J, J, J, J, J, J, J, J, J, J, J, J, J, J, J, J, J, J, J, J, J, J, J, J, J, J, J, J, J, J, J, J, J, J, J, J, J, J, J, J, J, J, J, J, J, J, J, J, J, J, J, J, J, J, J, J, J, J, J, J, J, J, J, J, J, J, J, J, J, J, J, J, J, J, J, J, J, J, J, J, J, J, J, J, J, J, J, J, J, J, J], []⟩ : St)) ?_ ?_
      ·skip
       by_cases k21 : (p2.to_.length : Int) = 1
       ·as_aux_lemma =>
        have kk21 := k21
        try simp at kk21
        cases k22 : (rNoSpot p2.s)
        ·as_aux_lemma =>
         have kk22 := k22
         try simp at kk22
         refine EV.regionG tabOK ?_ -- region 15
         simp (maxSteps := 2000000) -implicitDefEqProofs +contextual [k21, kk21, k22, kk22]
         refine callG_fun (w_rNoSpot p2.s) ?_ ?_
         ·first | (simp; done) | (simp [k21, kk21, k22, kk22]; done)
         simp (maxSteps := 2000000) -implicitDefEqProofs +contextual [k21, kk21, k22, kk22]
         refine ⟨(), ?_⟩
         try dsimp only
         refine Sub.cutF 0 (by simp) ?_ ?_ <;> simp [List.range_succ, toIdx_range, passed, k21, kk21, k22, kk22]
        ·as_aux_lemma =>
         have kk22 := k22
         try simp at kk22
         cases k23 : (rNoValue p2.v)
         ·as_aux_lemma =>
          have kk23 := k23
          try simp at kk23
          refine EV.regionG tabOK ?_ -- region 15
          simp (maxSteps := 2000000) -implicitDefEqProofs +contextual [k21, kk21, k22, kk22, k23, kk23]
          refine callG_fun (w_rNoSpot p2.s) ?_ ?_
          ·first | (simp; done) | (simp [k21, kk21, k22, kk22, k23, kk23]; done)
          simp (maxSteps := 2000000) -implicitDefEqProofs +contextual [k21, kk21, k22, kk22, k23, kk23]
          refine callG_fun (w_rNoValue p2.v) ?_ ?_
          ·first | (simp; done) | (simp [k21, kk21, k22, kk22, k23, kk23]; done)
          simp (maxSteps := 2000000) -implicitDefEqProofs +contextual [k21, kk21, k22, kk22, k23, kk23]
          refine ⟨(), ?_⟩
          try dsimp only
          refine Sub.cutF 0 (by simp) ?_ ?_ <;> simp [List.range_succ, toIdx_range, passed, k21, kk21, k22, kk22, k23, kk23]
         ·as_aux_lemma =>
          have kk23 := k23
          try simp at kk23
          refine EV.regionG tabOK ?_ -- region 15
          simp (maxSteps := 2000000) -implicitDefEqProofs +contextual [k21, kk21, k22, kk22, k23, kk23]
          refine callG_fun (w_rNoSpot p2.s) ?_ ?_
          ·first | (simp; done) | (simp [k21, kk21, k22, kk22, k23, kk23]; done)
          simp (maxSteps := 2000000) -implicitDefEqProofs +contextual [k21, kk21, k22, kk22, k23, kk23]
          refine callG_fun (w_rNoValue p2.v) ?_ ?_
          ·first | (simp; done) | (simp [k21, kk21, k22, kk22, k23, kk23]; done)
          simp (maxSteps := 2000000) -implicitDefEqProofs +contextual [k21, kk21, k22, kk22, k23, kk23]
          refine callG_fun (w_rNum p0 p1 p2.u) ?_ ?_
          ·first | (simp; done) | (simp [k21, kk21, k22, kk22, k23, kk23]; done)
          simp (maxSteps := 2000000) -implicitDefEqProofs +contextual [k21, kk21, k22, kk22, k23, kk23]
          refine ⟨(), ?_⟩
          try dsimp only
          refine Sub.cutF 0 (by simp) ?_ ?_ <;> simp [List.range_succ, toIdx_range, passed, k21, kk21, k22, kk22, k23, kk23]
       ·as_aux_lemma =>
        have kk21 := k21
        try simp at kk21
        refine EV.regionG tabOK ?_ -- region 15
        simp (maxSteps := 2000000) -implicitDefEqProofs +contextual [k21, kk21]
        refine ⟨(), ?_⟩
        try dsimp only
        refine Sub.cutF 0 (by simp) ?_ ?_ <;> simp [List.range_succ, toIdx_range, passed, k21, kk21]
      ·skip
       rintro _
       simp only [thenK_normal, blockK_normal, scopeK_normal, bodyK_normal]
       refine EV.ret ?_
       simp only [thenK_ret, blockK_ret, scopeK_ret, bodyK_ret]
       subst e
       refine Fin.pure0 ?_
       first | (simp; done) | (simp <;> grind)
     ·as_aux_lemma =>
      try simp at k19
      obtain ⟨f19, e⟩ := neg_on2 e (by first | simpa using k19 | grind)
      try simp at f19
      refine EV.seq ?_
      refine EV.regionG tabOK ?_ -- region 16
      simp (maxSteps := 2000000) -implicitDefEqProofs
      refine EV.condT ?_
      simp -implicitDefEqProofs
      refine condT_intro (fun k24 => ?_) (fun k24 => ?_)
      ·as_aux_lemma =>
       try simp at k24
       obtain ⟨f24, e⟩ := pos_on2 e (by first | simpa using k24 | grind)
       try simp at f24
       refine EV.seq ?_
       have := rEnum_lt p0 p1 p2.s
       refine EV.regionG tabOK ?_ -- region 17
       simp (maxSteps := 2000000) -implicitDefEqProofs
       refine callG_fun (w_rEnum p0 p1 p2.s) ?_ ?_
       ·simp
       simp (maxSteps := 2000000) -implicitDefEqProofs
       refine EV.seq ?_
       obtain ⟨y18_7, gy18_7⟩ : ∃ z, (p0.enums.getD (((rEnum p0 p1 p2.s)).toNat) default) = z := ⟨_, rfl⟩
       replace e := bnd_on e gy18_7
       try dsimp only at e
       refine EV.nrm (fun _ : Unit => (⟨[J, J, J, J, J, J, .b ((((decide (0 ≤ (rEnum p0 p1 p2.s))) && (decide ((p2.to_.length : Int) = (y18_7.variants.length : Int)))) && (rNoValue p2.v)) && (rNoUse p2.u)), J, J, J, J, J, J, J, J, J, J, J, J, J, J, J, J, J, J, J, J, J, J, J, J, J, J, J, J, J, J, J, J, J, J, J, J, J, J, J, J, J, J, J, J, J, J, J, J, J, J, J, J, J, J, J, J, J, J, J, J, J, J, J, J, J, J, J, J, J, J, J, J, J, J, J, J, J, J, J, J, J, J, J, J, J, J, J, J, J, J, J, J, J, J, J, J, J, J, J, J, J, J, J, J, J, J, J, J, J, J, J, J, J, J, J, J, J, J, J, J, J, J, J, J, J, J, J, J, J, J, J, J, J, J, J, J, J, J, J, J, J, J, J, J, J, J, J, J, J, J, J, J, J, J, J, J, J, J, J, J, J, J, J, J, J, J, J, J, J, J, J, J, J, J, J, J, J, J, J, J, J, J, J, J, J, J, J, J, J, J, J, J, J, J, J, J, J, J, J, J, J, J, J, J, J, J, J, J, J, J, J, J, J, J, J, J, J, J, J, J, J, J, J, J, J, J, J, J, J], []⟩ : St)) ?_ ?_
       ·skip
        by_cases k26 : 0 ≤ (rEnum p0 p1 p2.s)
        ·as_aux_lemma =>
         have kk26 := k26
         try simp at kk26
         by_cases k27 : (p2.to_.length : Int) = (y18_7.variants.length : Int)
         ·as_aux_lemma =>
          have kk27 := k27
          try simp at kk27
          cases k28 : (rNoValue p2.v)
          ·as_aux_lemma =>
           have kk28 := k28
           try simp at kk28
           have b29 : 0 ≤ (rEnum p0 p1 p2.s) ∧ (rEnum p0 p1 p2.s) < (p0.enums.length : Int) := by omega
           have c29 : ((rEnum p0 p1 p2.s)).toNat < p0.enums.length := by omega
           have hy18_7 : p0.enums[((rEnum p0 p1 p2.s)).toNat] = y18_7 := by rw [← gy18_7, List.getD_eq_getElem?_getD, List.getElem?_eq_getElem c29]; rfl
           have my18_7 : y18_7 ∈ p0.enums := by rw [← hy18_7]; exact List.getElem_mem _
           refine EV.regionG tabOK ?_ -- region 18
           simp (maxSteps := 2000000) -implicitDefEqProofs +contextual [k26, kk26, k27, kk27, k28, kk28, b29, c29, hy18_7]
           refine callG_fun (w_rNoValue p2.v) ?_ ?_
           ·first | (simp; done) | (simp [k26, kk26, k27, kk27, k28, kk28, b29, c29, hy18_7]; done)
           simp (maxSteps := 2000000) -implicitDefEqProofs +contextual [k26, kk26, k27, kk27, k28, kk28, b29, c29, hy18_7]
           refine ⟨(), ?_⟩
           try dsimp only
           refine Sub.cutF 0 (by simp) ?_ ?_ <;> simp [List.range_succ, toIdx_range, passed, k26, kk26, k27, kk27, k28, kk28, b29, c29, hy18_7]
          ·as_aux_lemma =>
           have kk28 := k28
           try simp at kk28
           have b30 : 0 ≤ (rEnum p0 p1 p2.s) ∧ (rEnum p0 p1 p2.s) < (p0.enums.length : Int) := by omega
           have c30 : ((rEnum p0 p1 p2.s)).toNat < p0.enums.length := by omega
           have hy18_7 : p0.enums[((rEnum p0 p1 p2.s)).toNat] = y18_7 := by rw [← gy18_7, List.getD_eq_getElem?_getD, List.getElem?_eq_getElem c30]; rfl
           have my18_7 : y18_7 ∈ p0.enums := by rw [← hy18_7]; exact List.getElem_mem _
           refine EV.regionG tabOK ?_ -- region 18
           simp (maxSteps := 2000000) -implicitDefEqProofs +contextual [k26, kk26, k27, kk27, k28, kk28, b30, c30, hy18_7]
           refine callG_fun (w_rNoValue p2.v) ?_ ?_
           ·first | (simp; done) | (simp [k26, kk26, k27, kk27, k28, kk28, b30, c30, hy18_7]; done)
           simp (maxSteps := 2000000) -implicitDefEqProofs +contextual [k26, kk26, k27, kk27, k28, kk28, b30, c30, hy18_7]
           refine callG_fun (w_rNoUse p2.u) ?_ ?_
           ·first | (simp; done) | (simp [k26, kk26, k27, kk27, k28, kk28, b30, c30, hy18_7]; done)
           simp (maxSteps := 2000000) -implicitDefEqProofs +contextual [k26, kk26, k27, kk27, k28, kk28, b30, c30, hy18_7]
           refine ⟨(), ?_⟩
           try dsimp only
           refine Sub.cutF 0 (by simp) ?_ ?_ <;> simp [List.range_succ, toIdx_range, passed, k26, kk26, k27, kk27, k28, kk28, b30, c30, hy18_7]
         ·as_aux_lemma =>
          have kk27 := k27
          try simp at kk27
          have b31 : 0 ≤ (rEnum p0 p1 p2.s) ∧ (rEnum p0 p1 p2.s) < (p0.enums.length : Int) := by omega
          have c31 : ((rEnum p0 p1 p2.s)).toNat < p0.enums.length := by omega
          have hy18_7 : p0.enums[((rEnum p0 p1 p2.s)).toNat] = y18_7 := by rw [← gy18_7, List.getD_eq_getElem?_getD, List.getElem?_eq_getElem c31]; rfl
          have my18_7 : y18_7 ∈ p0.enums := by rw [← hy18_7]; exact List.getElem_mem _
          refine EV.regionG tabOK ?_ -- region 18
          simp (maxSteps := 2000000) -implicitDefEqProofs +contextual [k26, kk26, k27, kk27, b31, c31, hy18_7]
          refine ⟨(), ?_⟩
          try dsimp only
          refine Sub.cutF 0 (by simp) ?_ ?_ <;> simp [List.range_succ, toIdx_range, passed, k26, kk26, k27, kk27, b31, c31, hy18_7]
        ·as_aux_lemma =>
         have kk26 := k26
         try simp at kk26
         refine EV.regionG tabOK ?_ -- region 18
         simp (maxSteps := 2000000) -implicitDefEqProofs +contextual [k26, kk26]
         refine ⟨(), ?_⟩
         try dsimp only
         refine Sub.cutF 0 (by simp) ?_ ?_ <;> simp [List.range_succ, toIdx_range, passed, k26, kk26]
       ·skip
        rintro _
        simp only [thenK_normal, blockK_normal, scopeK_normal, bodyK_normal]
        refine EV.ret ?_
        simp only [thenK_ret, blockK_ret, scopeK_ret, bodyK_ret]
        subst e
        refine Fin.pure0 ?_
        first | (simp; done) | (simp <;> grind)
      ·as_aux_lemma =>
       try simp at k24
       obtain ⟨f24, e⟩ := neg_on2 e (by first | simpa using k24 | grind)
       try simp at f24
       refine EV.seq ?_
       refine EV.seq ?_
       refine EV.regionG tabOK ?_ -- region 19
       simp (maxSteps := 2000000) -implicitDefEqProofs
       obtain ⟨z20, e20, e⟩ := bnd_split e
       refine EV.nrm (fun v : { v : (Bool) × (Unit) // z20 = v.1 } => (fun (v20 : Bool) (g20 : Unit) => (⟨[J, J, J, .ptr 0 0 0 0, .ptr 1 0 0 0, .ptr 2 0 0 0, J, J, .i .i64 (p2.to_.length : Int), J, J, J, J, J, J, J, J, J, J, J, J, J, J, J, J, J, J, J, J, J, J, J, J, J, J, J, J, J, J, J, J, J, J, J, J, J, J, J, J, J, J, J, J, J, J, J, J, J, J, J, J, J, J, J, J, J, J, J, J, J, J, J, J, J, J, J, J, J, J, J, J, J, J, J, J, J, J, J, J, J, J, J, J, J, J, J, J, J, J, J, J, J, J, J, J, J, J, J, J, J, J, J, J, J, J, J, J, J, J, J, J, J, J, J, J, J, J, J, J, J, J, J, J, J, J, J, J, J, J, J, J, J, J, J, J, J, J, J, J, J, J, J, J, J, J, J, J, J, .b v20, J, J, J, J, J, J, J, J, J, J, J, J, J, J, J, J, J, J, J, J, J, J, J, J, J, J, J, J, J, J, J, J, J, J, J, J, J, J, J, J, J, J, J, J, J, J, J, J, J, J, J, J, J, J, J, J, J, J, J, J, J, J, J, J, J, J, J, J, J, J, J, J, J, J, J, J, J], [.arr 0 3 [[.ro 4 (p0.structs.map structC), .ro 3 (p0.enums.map enumC), .ro 4 (p0.fns.map fnC)]], .arr 0 4 [[.s p1.name, .i .i64 p1.params, .ro 4 (p1.locals.map localC), .ro 17 (p1.blocks.map blockC)]], .arr 0 16 [[.i .i64 p2.k, .i .i64 p2.at_, .i .i64 p2.s.local_, .ro 1 (p2.s.path.map (fun z => [.i .i64 z])), .i .i64 p2.v.k, .ro 5 (p2.v.uses.map useC), .i .i64 p2.v.s.local_, .ro 1 (p2.v.s.path.map (fun z => [.i .i64 z])), .i .i64 p2.v.which, .i .i64 p2.v.tag, .b p2.u.num, .i .i64 p2.u.n, .b p2.u.move, .i .i64 p2.u.s.local_, .ro 1 (p2.u.s.path.map (fun z => [.i .i64 z])), .ro 1 (p2.to_.map (fun z => [.i .i64 z]))]]]⟩ : St)) v.1.1 v.1.2) ?_ ?_
       ·skip
        refine EV.condT ?_
        simp -implicitDefEqProofs
        refine condT_intro (fun k32 => ?_) (fun k32 => ?_)
        ·as_aux_lemma =>
         try simp at k32
         obtain ⟨f32, e20⟩ := pos_on2 e20 (by first | simpa using k32 | grind)
         try simp at f32
         refine EV.skip ?_
         simp only [thenK_normal, blockK_normal, scopeK_normal]
         refine ⟨⟨(true, ()), e20.symm⟩, ?_⟩
         try dsimp only
         refine Sub.cutF 3 (by simp) ?_ ?_ <;> simp [List.range_succ, toIdx_range, passed]
        ·as_aux_lemma =>
         try simp at k32
         obtain ⟨f32, e20⟩ := neg_on2 e20 (by first | simpa using k32 | grind)
         try simp at f32
         refine EV.seq ?_
         refine EV.regionG tabOK ?_ -- region 20
         simp (maxSteps := 2000000) -implicitDefEqProofs
         refine EV.condT ?_
         simp -implicitDefEqProofs
         refine condT_intro (fun k33 => ?_) (fun k33 => ?_)
         ·as_aux_lemma =>
          try simp at k33
          obtain ⟨f33, e20⟩ := pos_on2 e20 (by first | simpa using k33 | grind)
          try simp at f33
          refine EV.skip ?_
          simp only [thenK_normal, blockK_normal, scopeK_normal]
          refine ⟨⟨(true, ()), e20.symm⟩, ?_⟩
          try dsimp only
          refine Sub.cutF 3 (by simp) ?_ ?_ <;> simp [List.range_succ, toIdx_range, passed]
         ·as_aux_lemma =>
          try simp at k33
          obtain ⟨f33, e20⟩ := neg_on2 e20 (by first | simpa using k33 | grind)
          try simp at f33
          refine EV.regionG tabOK ?_ -- region 21
          simp (maxSteps := 2000000) -implicitDefEqProofs
          refine ⟨⟨((decide (p2.k = 7)), ()), e20.symm⟩, ?_⟩
          try dsimp only
          refine Sub.cutF 3 (by simp) ?_ ?_ <;> simp [List.range_succ, toIdx_range, passed]
       ·skip
        rintro ⟨⟨v20, g20⟩, e20⟩
        simp only [thenK_normal, blockK_normal, scopeK_normal, bodyK_normal]
        replace e := bnd_on e e20
        try dsimp only at e
        refine EV.condT ?_
        simp -implicitDefEqProofs
        refine condT_intro (fun k34 => ?_) (fun k34 => ?_)
        ·as_aux_lemma =>
         try simp at k34
         obtain ⟨f34, e⟩ := pos_on2 e (by first | simpa using k34 | grind)
         try simp at f34
         refine EV.seq ?_
         refine EV.regionG tabOK ?_ -- region 22
         simp (maxSteps := 2000000) -implicitDefEqProofs
         refine callG_fun (w_rType p0 p1 p2.s) ?_ ?_
         ·simp
         simp (maxSteps := 2000000) -implicitDefEqProofs
         refine EV.seq ?_
         refine EV.seq ?_
         refine EV.regionG tabOK ?_ -- region 23
         simp (maxSteps := 2000000) -implicitDefEqProofs +contextual
         refine EV.condT ?_
         simp -implicitDefEqProofs
         refine condT_intro (fun k35 => ?_) (fun k35 => ?_)
         ·as_aux_lemma =>
          try simp at k35
          obtain ⟨f35, e⟩ := pos_on2 e (by first | simpa using k35 | grind)
          try simp at f35
          refine EV.seq ?_
          refine EV.regionG tabOK ?_ -- region 24
          simp (maxSteps := 2000000) -implicitDefEqProofs
          refine EV.ret ?_
          simp only [thenK_ret, blockK_ret, scopeK_ret, bodyK_ret]
          subst e
          refine Fin.pure0 ?_
          first | (simp; done) | (simp <;> grind)
         ·as_aux_lemma =>
          try simp at k35
          obtain ⟨f35, e⟩ := neg_on2 e (by first | simpa using k35 | grind)
          try simp at f35
          refine EV.skip ?_
          simp only [thenK_normal, blockK_normal, scopeK_normal]
          refine EV.seq ?_
          refine EV.seq ?_
          refine EV.regionG tabOK ?_ -- region 25
          simp (maxSteps := 2000000) -implicitDefEqProofs
          refine EV.condT ?_
          simp -implicitDefEqProofs
          refine condT_intro (fun k36 => ?_) (fun k36 => ?_)
          ·as_aux_lemma =>
           try simp at k36
           obtain ⟨f36, e⟩ := pos_on2 e (by first | simpa using k36 | grind)
           try simp at f36
           refine EV.seq ?_
           refine EV.nrm (fun _ : Unit => (⟨[J, J, J, J, J, J, .b ((rNoValue p2.v) && (rNum p0 p1 p2.u)), J, J, J, J, J, J, J, J, J, J, J, J, J, J, J, J, J, J, J, J, J, J, J, J, J, J, J, J, J, J, J, J, J, J, J, J, J, J, J, J, J, J, J, J, J, J, J, J, J, J, J, J, J, J, J, J, J, J, J, J, J, J, J, J, J, J, J, J, J, J, J, J, J, J, J, J, J, J, J, J, J, J, J, J, J, J, J, J, J, J, J, J, J, J, J, J, J, J, J, J, J, J, J, J, J, J, J, J, J, J, J, J, J, J, J, J, J, J, J, J, J, J, J, J, J, J, J, J, J, J, J, J, J, J, J, J, J, J, J, J, J, J, J, J, J, J, J, J, J, J, J, J, J, J, J, J, J, J, J, J, J, J, J, J, J, J, J, J, J, J, J, J, J, J, J, J, J, J, J, J, J, J, J, J, J, J, J, J, J, J, J, J, J, J, J, J, J, J, J, J, J, J, J, J, J, J, J, J, J, J, J, J, J, J, J, J, J, J, J, J, J, J, J, J, J, J, J, J, J], []⟩ : St)) ?_ ?_
           ·skip
            cases k38 : (rNoValue p2.v)
            ·as_aux_lemma =>
             have kk38 := k38
             try simp at kk38
             refine EV.regionG tabOK ?_ -- region 26
             simp (maxSteps := 2000000) -implicitDefEqProofs +contextual [k38, kk38]
             refine callG_fun (w_rNoValue p2.v) ?_ ?_
             ·first | (simp; done) | (simp [k38, kk38]; done)
             simp (maxSteps := 2000000) -implicitDefEqProofs +contextual [k38, kk38]
             refine ⟨(), ?_⟩
             try dsimp only
             refine Sub.cutF 0 (by simp) ?_ ?_ <;> simp [List.range_succ, toIdx_range, passed, k38, kk38]
            ·as_aux_lemma =>
             have kk38 := k38
             try simp at kk38
             refine EV.regionG tabOK ?_ -- region 26
             simp (maxSteps := 2000000) -implicitDefEqProofs +contextual [k38, kk38]
             refine callG_fun (w_rNoValue p2.v) ?_ ?_
             ·first | (simp; done) | (simp [k38, kk38]; done)
             simp (maxSteps := 2000000) -implicitDefEqProofs +contextual [k38, kk38]
             refine callG_fun (w_rNum p0 p1 p2.u) ?_ ?_
             ·first | (simp; done) | (simp [k38, kk38]; done)
             simp (maxSteps := 2000000) -implicitDefEqProofs +contextual [k38, kk38]
             refine ⟨(), ?_⟩
             try dsimp only
             refine Sub.cutF 0 (by simp) ?_ ?_ <;> simp [List.range_succ, toIdx_range, passed, k38, kk38]
           ·skip
            rintro _
            simp only [thenK_normal, blockK_normal, scopeK_normal, bodyK_normal]
            refine EV.ret ?_
            simp only [thenK_ret, blockK_ret, scopeK_ret, bodyK_ret]
            subst e
            refine Fin.pure0 ?_
            first | (simp; done) | (simp <;> grind)
          ·as_aux_lemma =>
           try simp at k36
           obtain ⟨f36, e⟩ := neg_on2 e (by first | simpa using k36 | grind)
           try simp at f36
           refine EV.skip ?_
           simp only [thenK_normal, blockK_normal, scopeK_normal]
           refine EV.seq ?_
           refine EV.regionG tabOK ?_ -- region 27
           simp (maxSteps := 2000000) -implicitDefEqProofs
           refine callG_fun (w_rType p0 p1 p2.v.s) ?_ ?_
           ·simp
           simp (maxSteps := 2000000) -implicitDefEqProofs
           refine EV.seq ?_
           refine EV.regionG tabOK ?_ -- region 28
           simp (maxSteps := 2000000) -implicitDefEqProofs
           refine EV.seq ?_
           refine EV.regionG tabOK ?_ -- region 29
           simp (maxSteps := 2000000) -implicitDefEqProofs
           refine EV.seq ?_
           refine EV.nrm (fun _ : Unit => (⟨[J, J, J, J, J, J, .b (((((decide ((rType p0 p1 p2.v.s).2.2 = 0)) && (decide ((p2.v.s.path.length : Int) = 0))) && (decide (((rType p0 p1 p2.v.s).1).k = 7))) && (rNoValue (ValueD.mk p2.v.k p2.v.uses (SpotD.mk 0 ([])) p2.v.which p2.v.tag))) && (rNoUse p2.u)), J, J, J, J, J, J, J, J, J, J, J, J, J, J, J, J, J, J, J, J, J, J, J, J, J, J, J, J, J, J, J, J, J, J, J, J, J, J, J, J, J, J, J, J, J, J, J, J, J, J, J, J, J, J, J, J, J, J, J, J, J, J, J, J, J, J, J, J, J, J, J, J, J, J, J, J, J, J, J, J, J, J, J, J, J, J, J, J, J, J, J, J, J, J, J, J, J, J, J, J, J, J, J, J, J, J, J, J, J, J, J, J, J, J, J, J, J, J, J, J, J, J, J, J, J, J, J, J, J, J, J, J, J, J, J, J, J, J, J, J, J, J, J, J, J, J, J, J, J, J, J, J, J, J, J, J, J, J, J, J, J, J, J, J, J, J, J, J, J, J, J, J, J, J, J, J, J, J, J, J, J, J, J, J, J, J, J, J, J, J, J, J, J, J, J, J, J, J, J, J, J, J, J, J, J, J, J, J, J, J, J, J, J, J, J, J, J, J, J, J, J, J, J, J, J, J, J, J, J], []⟩ : St)) ?_ ?_
           ·skip
            by_cases k40 : (rType p0 p1 p2.v.s).2.2 = 0
            ·as_aux_lemma =>
             have kk40 := k40
             try simp at kk40
             by_cases k41 : (p2.v.s.path.length : Int) = 0
             ·as_aux_lemma =>
              have kk41 := k41
              try simp at kk41
              by_cases k42 : ((rType p0 p1 p2.v.s).1).k = 7
              ·as_aux_lemma =>
               have kk42 := k42
               try simp at kk42
               cases k43 : (rNoValue (ValueD.mk p2.v.k p2.v.uses (SpotD.mk 0 ([])) p2.v.which p2.v.tag))
               ·as_aux_lemma =>
                have kk43 := k43
                try simp at kk43
                refine EV.regionG tabOK ?_ -- region 30
                simp (maxSteps := 2000000) -implicitDefEqProofs +contextual [k40, kk40, k41, kk41, k42, kk42, k43, kk43]
                refine callG_data [] (w_rNoValue (ValueD.mk p2.v.k p2.v.uses (SpotD.mk 0 ([])) p2.v.which p2.v.tag)) ?_ ?_ ?_
                ·simp [allP, allR, c0, ld1, ld0, cvOb, Pu, take_len_map, List.getD, List.range_succ]
                ·first | trivial | simp [nr, nr1, nr0]
                simp (maxSteps := 2000000) -implicitDefEqProofs +contextual [k40, kk40, k41, kk41, k42, kk42, k43, kk43]
                refine ⟨(), ?_⟩
                try dsimp only
                refine Sub.cutF 0 (by simp) ?_ ?_ <;> simp [List.range_succ, toIdx_range, passed, k40, kk40, k41, kk41, k42, kk42, k43, kk43]
               ·as_aux_lemma =>
                have kk43 := k43
                try simp at kk43
                refine EV.regionG tabOK ?_ -- region 30
                simp (maxSteps := 2000000) -implicitDefEqProofs +contextual [k40, kk40, k41, kk41, k42, kk42, k43, kk43]
                refine callG_data [] (w_rNoValue (ValueD.mk p2.v.k p2.v.uses (SpotD.mk 0 ([])) p2.v.which p2.v.tag)) ?_ ?_ ?_
                ·simp [allP, allR, c0, ld1, ld0, cvOb, Pu, take_len_map, List.getD, List.range_succ]
                ·first | trivial | simp [nr, nr1, nr0]
                simp (maxSteps := 2000000) -implicitDefEqProofs +contextual [k40, kk40, k41, kk41, k42, kk42, k43, kk43]
                refine callG_fun (w_rNoUse p2.u) ?_ ?_
                ·first | (simp; done) | (simp [k40, kk40, k41, kk41, k42, kk42, k43, kk43]; done)
                simp (maxSteps := 2000000) -implicitDefEqProofs +contextual [k40, kk40, k41, kk41, k42, kk42, k43, kk43]
                refine ⟨(), ?_⟩
                try dsimp only
                refine Sub.cutF 0 (by simp) ?_ ?_ <;> simp [List.range_succ, toIdx_range, passed, k40, kk40, k41, kk41, k42, kk42, k43, kk43]
              ·as_aux_lemma =>
               have kk42 := k42
               try simp at kk42
               refine EV.regionG tabOK ?_ -- region 30
               simp (maxSteps := 2000000) -implicitDefEqProofs +contextual [k40, kk40, k41, kk41, k42, kk42]
               refine ⟨(), ?_⟩
               try dsimp only
               refine Sub.cutF 0 (by simp) ?_ ?_ <;> simp [List.range_succ, toIdx_range, passed, k40, kk40, k41, kk41, k42, kk42]
             ·as_aux_lemma =>
              have kk41 := k41
              try simp at kk41
              refine EV.regionG tabOK ?_ -- region 30
              simp (maxSteps := 2000000) -implicitDefEqProofs +contextual [k40, kk40, k41, kk41]
              refine ⟨(), ?_⟩
              try dsimp only
              refine Sub.cutF 0 (by simp) ?_ ?_ <;> simp [List.range_succ, toIdx_range, passed, k40, kk40, k41, kk41]
            ·as_aux_lemma =>
             have kk40 := k40
             try simp at kk40
             refine EV.regionG tabOK ?_ -- region 30
             simp (maxSteps := 2000000) -implicitDefEqProofs +contextual [k40, kk40]
             refine ⟨(), ?_⟩
             try dsimp only
             refine Sub.cutF 0 (by simp) ?_ ?_ <;> simp [List.range_succ, toIdx_range, passed, k40, kk40]
           ·skip
            rintro _
            simp only [thenK_normal, blockK_normal, scopeK_normal, bodyK_normal]
            refine EV.ret ?_
            simp only [thenK_ret, blockK_ret, scopeK_ret, bodyK_ret]
            subst e
            refine Fin.pure0 ?_
            first | (simp; done) | (simp <;> grind)
        ·as_aux_lemma =>
         try simp at k34
         obtain ⟨f34, e⟩ := neg_on2 e (by first | simpa using k34 | grind)
         try simp at f34
         refine EV.skip ?_
         simp only [thenK_normal, blockK_normal, scopeK_normal]
         refine EV.seq ?_
         refine EV.regionG tabOK ?_ -- region 31
         simp (maxSteps := 2000000) -implicitDefEqProofs
         refine EV.ret ?_
         simp only [thenK_ret, blockK_ret, scopeK_ret, bodyK_ret]
         subst e
         refine Fin.pure0 ?_
         first | (simp; done) | (simp <;> grind)
end
end Go.Proofs.Tryz
end
