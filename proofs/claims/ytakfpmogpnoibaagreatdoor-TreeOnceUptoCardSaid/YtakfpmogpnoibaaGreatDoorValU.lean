/- Contracts of the program's functions over statements, and sources, that could have been read. -/
import Derived.Test.YtakfpmogpnoibaaGreatDoorValT
set_option linter.unusedVariables false
set_option linter.unusedSimpArgs false
set_option linter.constructorNameAsVariable false
section
namespace Go.Proofs.Tryz
open Go Go.AM
attribute [local simp] wpG_op wpG_nil contG_some wpG_guard guardG_v guardG_o guardG_tup gval pureOp stepG_if isPick pickG_pick pickB_b pickOK isCall step_move step_assign step_alloc step_box boxV_some step_load step_store step_binOp step_unOp step_fieldAddr faV step_indexAddr ixA_slc ixA_arr step_extract extV_tup step_nilCheck ncV_ptr ncV_rp ncV_fn ncV_mp step_build buildV step_buildSlice bsV step_index ixV_arr ixV_str step_append apB step_makeSlice msV_i step_makeFunc over step_len step_makeMap mmV step_mapUpdate step_insert muA_map muB_mp step_lookup lkA_map lkB_mp step_slice slcV_s slcV_sl slcV_ro cutB_some slObV_arr bound_none bound_some bndV_i lenB_str lenB_ro lenB_sl lenB_nil lenB_z ld_ptr ld_rp offV_ptr offV_rp idxV_ro idxV_sl unV_not unV_neg binV_int binV_str binV_eqlb binV_neqb intOp strOp St.put updL setOb St.ev toV St.lk cellsOf AM.valOf TK.agg stv fillV places TI.zero condT_true condT_false finS resL resSlot packV ren ren1 ren0 Value.cells builtinV appendV elemsOf keepT room_of wrap_in toIdx passed Function.comp_def take_len_map lenV touchOf hid tab1 tab2 tab3 tab4 tab5 tab6 tab7 tab8 tab9 tab20 tab22 tab23 tab24 tab26 tab32 tab33 tab35 tab36 tab37 tab39 tab41 tab42 tab43 tab45 tab46 tab47 tab49 tab50 tab52 tab74 tab79 tab83 tab86 tab87 tab89 tab92 tab100 tab101 tab102 tab103 tab105 tab107 tab108 tab113 tab114 tab116 tab117 tab118 tab122 tab123 tab125 tab127 tab130 tab132 tab136 tab173 tab175 tab178 tab179 tab180 tab182 tab189 tab215 tab219 tab220 tab224 tab225 tab241 tab244 tab247 tab253 tab261 tab262 tab265 tab266 armC_eq blockC_eq bodyC_eq enumC_eq fieldC_eq fnC_eq inC_eq localC_eq mirBodyC_eq operC_eq placeC_eq rvC_eq sourceC_eq spotC_eq stepC_eq stmtC_eq structC_eq tmC_eq tyC_eq useC_eq valueC_eq variantC_eq binV_eqls binV_neqs cutL_nil cutL_junk cutL_cons ren_arr ren_gone ren_unborn ren_var ren_row step_convert cvV_i cvV_sl cvV_s cvK_slc cvE_u8 bytesOf bor1 bor2 bor3 bor4
set_option linter.unusedSimpArgs false
set_option linter.unusedVariables false
set_option maxRecDepth 10000
set_option maxHeartbeats 40000000
noncomputable section

def tShown (p0 : StmtD) : StmtD :=
 (if p0.k = 0 then (StmtD.mk p0.k p0.at_ p0.name p0.ty (PlaceD.mk ([] : List UInt8) ([])) p0.rv (OperD.mk false 0 (PlaceD.mk ([] : List UInt8) ([]))) ([]) ([]) ([])) else (if p0.k = 1 then (StmtD.mk p0.k p0.at_ ([] : List UInt8) (TyD.mk 0 ([] : List UInt8) ([])) p0.p p0.rv (OperD.mk false 0 (PlaceD.mk ([] : List UInt8) ([]))) ([]) ([]) ([])) else (if p0.k = 2 then (StmtD.mk p0.k p0.at_ ([] : List UInt8) (TyD.mk 0 ([] : List UInt8) ([])) (PlaceD.mk ([] : List UInt8) ([])) (RvD.mk 0 ([]) (PlaceD.mk ([] : List UInt8) ([])) ([] : List UInt8) ([] : List UInt8)) p0.op p0.then_ p0.else_ ([])) else (if p0.k = 3 then (StmtD.mk p0.k p0.at_ ([] : List UInt8) (TyD.mk 0 ([] : List UInt8) ([])) (PlaceD.mk ([] : List UInt8) ([])) (RvD.mk 0 ([]) (PlaceD.mk ([] : List UInt8) ([])) ([] : List UInt8) ([] : List UInt8)) p0.op p0.then_ ([]) ([])) else (if p0.k = 4 then (StmtD.mk p0.k p0.at_ ([] : List UInt8) (TyD.mk 0 ([] : List UInt8) ([])) p0.p (RvD.mk 0 ([]) (PlaceD.mk ([] : List UInt8) ([])) ([] : List UInt8) ([] : List UInt8)) (OperD.mk false 0 (PlaceD.mk ([] : List UInt8) ([]))) ([]) ([]) p0.arms) else (if p0.k = 8 then (StmtD.mk p0.k p0.at_ ([] : List UInt8) (TyD.mk 0 ([] : List UInt8) ([])) p0.p (RvD.mk 0 ([]) (PlaceD.mk ([] : List UInt8) ([])) ([] : List UInt8) ([] : List UInt8)) (OperD.mk false 0 (PlaceD.mk ([] : List UInt8) ([]))) ([]) ([]) ([])) else (StmtD.mk p0.k p0.at_ ([] : List UInt8) (TyD.mk 0 ([] : List UInt8) ([])) (PlaceD.mk ([] : List UInt8) ([])) (RvD.mk 0 ([]) (PlaceD.mk ([] : List UInt8) ([])) ([] : List UInt8) ([] : List UInt8)) p0.op ([]) ([]) ([]))))))))
theorem w_tShown (p0 : StmtD)  : QC prog 118 [.agg [.i .i64 p0.k, .i .i64 p0.at_, .s p0.name, .i .i64 p0.ty.k, .s p0.ty.name, .ro 3 (p0.ty.l.map tyC), .s p0.p.name, .ro 1 (p0.p.path.map stepC), .i .i64 p0.rv.k, .ro 4 (p0.rv.ops.map operC), .s p0.rv.p.name, .ro 1 (p0.rv.p.path.map stepC), .s p0.rv.name, .s p0.rv.variant, .b p0.op.num, .i .i64 p0.op.n, .s p0.op.p.name, .ro 1 (p0.op.p.path.map stepC), .ro 21 (p0.then_.map stmtC), .ro 21 (p0.else_.map stmtC), .ro 3 (p0.arms.map armC)]] [] (.agg [.i .i64 ((tShown p0).k), .i .i64 ((tShown p0).at_), .s ((tShown p0).name), .i .i64 (((tShown p0).ty).k), .s (((tShown p0).ty).name), .ro 3 ((((tShown p0).ty).l).map tyC), .s (((tShown p0).p).name), .ro 1 ((((tShown p0).p).path).map stepC), .i .i64 (((tShown p0).rv).k), .ro 4 ((((tShown p0).rv).ops).map operC), .s ((((tShown p0).rv).p).name), .ro 1 (((((tShown p0).rv).p).path).map stepC), .s (((tShown p0).rv).name), .s (((tShown p0).rv).variant), .b (((tShown p0).op).num), .i .i64 (((tShown p0).op).n), .s ((((tShown p0).op).p).name), .ro 1 (((((tShown p0).op).p).path).map stepC), .ro 21 (((tShown p0).then_).map stmtC), .ro 21 (((tShown p0).else_).map stmtC), .ro 3 (((tShown p0).arms).map armC)]) [] := by
 refine QC.of_body tabOK func118 rfl (by kernel_rfl) ?_
 simp only [f118]
 generalize e : tShown p0 = R
 unfold tShown at e
 refine SR ?_
 simp (maxSteps := 2000000) -implicitDefEqProofs
 refine SR ?_
 simp (maxSteps := 2000000) -implicitDefEqProofs
 refine EV.seq (SR ?_)
 simp (maxSteps := 2000000) -implicitDefEqProofs
 refine EV.block (SR ?_)
 simp (maxSteps := 2000000) -implicitDefEqProofs
 refine EV.condT ?_
 simp -implicitDefEqProofs
 refine condT_intro (fun k1 => ?_) (fun k1 => ?_)
 ·try simp at k1
  obtain ⟨f1, e⟩ := PO e k1
  try simp at f1
  refine EV.drawG tabOK mixedOK ?_
  simp (maxSteps := 2000000) -implicitDefEqProofs
  refine And.intro ?_ ?_
  ·first | decide +kernel | (simp -implicitDefEqProofs; decide +kernel) | (split <;> decide +kernel)
  try simp -implicitDefEqProofs
  refine SR ?_
  simp (maxSteps := 2000000) -implicitDefEqProofs
  refine EV.ret ?_
  simp only [KR1, KR2, KR3, KR4]
  subst e
  refine Fin.data ?_ ?_
  ·simp [convV, conv1, conv0, cvOb, allP, allR, c0, Pu, take_len_map, List.getD, List.range_succ]
  simp [List.range_succ]
 ·try simp at k1
  obtain ⟨f1, e⟩ := NO e k1
  try simp at f1
  refine SR ?_
  simp (maxSteps := 2000000) -implicitDefEqProofs
  refine EV.condT ?_
  simp -implicitDefEqProofs
  refine condT_intro (fun k2 => ?_) (fun k2 => ?_)
  ·try simp at k2
   obtain ⟨f2, e⟩ := PO e k2
   try simp at f2
   refine EV.drawG tabOK mixedOK ?_
   simp (maxSteps := 2000000) -implicitDefEqProofs
   refine And.intro ?_ ?_
   ·first | decide +kernel | (simp -implicitDefEqProofs; decide +kernel) | (split <;> decide +kernel)
   try simp -implicitDefEqProofs
   refine SR ?_
   simp (maxSteps := 2000000) -implicitDefEqProofs
   refine EV.ret ?_
   simp only [KR1, KR2, KR3, KR4]
   subst e
   refine Fin.data ?_ ?_
   ·simp [convV, conv1, conv0, cvOb, allP, allR, c0, Pu, take_len_map, List.getD, List.range_succ]
   simp [List.range_succ]
  ·try simp at k2
   obtain ⟨f2, e⟩ := NO e k2
   try simp at f2
   refine SR ?_
   simp (maxSteps := 2000000) -implicitDefEqProofs
   refine EV.condT ?_
   simp -implicitDefEqProofs
   refine condT_intro (fun k3 => ?_) (fun k3 => ?_)
   ·try simp at k3
    obtain ⟨f3, e⟩ := PO e k3
    try simp at f3
    refine EV.drawG tabOK mixedOK ?_
    simp (maxSteps := 2000000) -implicitDefEqProofs
    refine And.intro ?_ ?_
    ·first | decide +kernel | (simp -implicitDefEqProofs; decide +kernel) | (split <;> decide +kernel)
    try simp -implicitDefEqProofs
    refine SR ?_
    simp (maxSteps := 2000000) -implicitDefEqProofs
    refine EV.ret ?_
    simp only [KR1, KR2, KR3, KR4]
    subst e
    refine Fin.data ?_ ?_
    ·simp [convV, conv1, conv0, cvOb, allP, allR, c0, Pu, take_len_map, List.getD, List.range_succ]
    simp [List.range_succ]
   ·try simp at k3
    obtain ⟨f3, e⟩ := NO e k3
    try simp at f3
    refine SR ?_
    simp (maxSteps := 2000000) -implicitDefEqProofs
    refine EV.condT ?_
    simp -implicitDefEqProofs
    refine condT_intro (fun k4 => ?_) (fun k4 => ?_)
    ·try simp at k4
     obtain ⟨f4, e⟩ := PO e k4
     try simp at f4
     refine EV.drawG tabOK mixedOK ?_
     simp (maxSteps := 2000000) -implicitDefEqProofs
     refine And.intro ?_ ?_
     ·first | decide +kernel | (simp -implicitDefEqProofs; decide +kernel) | (split <;> decide +kernel)
     try simp -implicitDefEqProofs
     refine SR ?_
     simp (maxSteps := 2000000) -implicitDefEqProofs
     refine EV.ret ?_
     simp only [KR1, KR2, KR3, KR4]
     subst e
     refine Fin.data ?_ ?_
     ·simp [convV, conv1, conv0, cvOb, allP, allR, c0, Pu, take_len_map, List.getD, List.range_succ]
     simp [List.range_succ]
    ·try simp at k4
     obtain ⟨f4, e⟩ := NO e k4
     try simp at f4
     refine SR ?_
     simp (maxSteps := 2000000) -implicitDefEqProofs
     refine EV.condT ?_
     simp -implicitDefEqProofs
     refine condT_intro (fun k5 => ?_) (fun k5 => ?_)
     ·try simp at k5
      obtain ⟨f5, e⟩ := PO e k5
      try simp at f5
      refine EV.drawG tabOK mixedOK ?_
      simp (maxSteps := 2000000) -implicitDefEqProofs
      refine And.intro ?_ ?_
      ·first | decide +kernel | (simp -implicitDefEqProofs; decide +kernel) | (split <;> decide +kernel)
      try simp -implicitDefEqProofs
      refine SR ?_
      simp (maxSteps := 2000000) -implicitDefEqProofs
      refine EV.ret ?_
      simp only [KR1, KR2, KR3, KR4]
      subst e
      refine Fin.data ?_ ?_
      ·simp [convV, conv1, conv0, cvOb, allP, allR, c0, Pu, take_len_map, List.getD, List.range_succ]
      simp [List.range_succ]
     ·try simp at k5
      obtain ⟨f5, e⟩ := NO e k5
      try simp at f5
      refine SR ?_
      simp (maxSteps := 2000000) -implicitDefEqProofs
      refine EV.condT ?_
      simp -implicitDefEqProofs
      refine condT_intro (fun k6 => ?_) (fun k6 => ?_)
      ·try simp at k6
       obtain ⟨f6, e⟩ := PO e k6
       try simp at f6
       refine RG ?_
       simp (maxSteps := 2000000) -implicitDefEqProofs
       refine SR ?_
       simp (maxSteps := 2000000) -implicitDefEqProofs
       refine EV.ret ?_
       simp only [KR1, KR2, KR3, KR4]
       subst e
       refine Fin.data ?_ ?_
       ·simp [convV, conv1, conv0, cvOb, allP, allR, c0, Pu, take_len_map, List.getD, List.range_succ]
       simp [List.range_succ]
      ·try simp at k6
       obtain ⟨f6, e⟩ := NO e k6
       try simp at f6
       refine RG ?_
       simp (maxSteps := 2000000) -implicitDefEqProofs
       refine SR ?_
       simp (maxSteps := 2000000) -implicitDefEqProofs
       refine EV.ret ?_
       simp only [KR1, KR2, KR3, KR4]
       subst e
       refine Fin.data ?_ ?_
       ·simp [convV, conv1, conv0, cvOb, allP, allR, c0, Pu, take_len_map, List.getD, List.range_succ]
       ·simp [List.range_succ]
def allStmt_l2 (p1 : StmtD → Bool) : List StmtD → Ctl (Bool) (Unit)
 | [] => .go ()
 | x2 :: xs2 => (if ¬ ((p1 x2) = true) then .ret false else allStmt_l2 p1 xs2)
def allStmt (p0 : List StmtD) (p1 : StmtD → Bool) : Bool :=
 (Ctl.run (allStmt_l2 p1 p0) fun (v2 : Unit) => true)
theorem w_allStmt1 (p0 : List StmtD) (p1 : StmtD → Bool)  (csz : Nat) (cc : List V) (hcc : ∀ x ∈ cc, Pu x) (fid1 : FuncId) (H1 : ∀ (u0 : StmtD), u0 ∈ p0 → QC prog fid1 [.agg [.i .i64 u0.k, .i .i64 u0.at_, .s u0.name, .i .i64 u0.ty.k, .s u0.ty.name, .ro 3 (u0.ty.l.map tyC), .s u0.p.name, .ro 1 (u0.p.path.map stepC), .i .i64 u0.rv.k, .ro 4 (u0.rv.ops.map operC), .s u0.rv.p.name, .ro 1 (u0.rv.p.path.map stepC), .s u0.rv.name, .s u0.rv.variant, .b u0.op.num, .i .i64 u0.op.n, .s u0.op.p.name, .ro 1 (u0.op.p.path.map stepC), .ro 21 (u0.then_.map stmtC), .ro 21 (u0.else_.map stmtC), .ro 3 (u0.arms.map armC)], .ptr 0 0 0 0] [.arr 0 csz [cc]] (.b (p1 u0)) [.arr 0 csz [cc]]) : QC prog 116 [.ro 21 (p0.map stmtC), .fn fid1 [.ptr 0 0 0 0]] [.arr 0 csz [cc]] (.b (allStmt p0 p1)) [.arr 0 csz [cc]] := by
 refine QC.of_body tabOK func116 rfl (by kernel_rfl) ?_
 simp only [f116]
 generalize e : allStmt p0 p1 = R
 unfold allStmt at e
 have hren : ∀ μ, cc.map (ren0 μ) = cc := fun μ => pu_map hcc
 refine SR ?_
 simp (maxSteps := 2000000) -implicitDefEqProofs [hren]
 refine EV.seq (SR ?_)
 simp (maxSteps := 2000000) -implicitDefEqProofs [hren]
 obtain ⟨z2, e2, e⟩ := run_split e
 refine EV.nrm (fun v : { v : (Unit) × (Unit) // z2 = .go v.1 } => (fun (v2 : Unit) (g2 : Unit) => (⟨[J, J, J, J, J, J, J, J, J, J, J, J, J, J, J, J, J, J], [.arr 0 csz [cc]]⟩ : St)) v.1.1 v.1.2) ?_ ?_
 ·skip
  refine EV.block ?_
  refine EV.loopB (fun x : { x : Nat // x ≤ p0.length ∧ allStmt_l2 p1 (p0.drop x) = z2 } => (fun (j2 : Nat) => (⟨[J, .fn fid1 [.ptr 0 0 0 0], J, J, J, J, J, .ro 21 (p0.map stmtC), .i .i64 (p0.length : Int), .i .i64 (j2 : Int), J, J, J, J, J, J, J, J], [.arr 0 csz [cc]]⟩ : St)) x.1) (fun x => p0.length - x.1) ⟨0, Nat.zero_le _, e2⟩ ?_ ?_
  ·skip
   try dsimp only
   try dsimp only
   refine Sub.cutF 1 (by simp) ?_ ?_ <;> simp [List.range_succ, toIdx_range, passed, hren]
  rintro ⟨j2, hi2, e2⟩
  simp only at hi2 e2 ⊢
  refine SR ?_
  simp (maxSteps := 2000000) -implicitDefEqProofs [hren]
  refine EV.seq ?_
  refine EV.room 7 (by rfl) (fun mj2 => ?_)
  simp at mj2
  refine EV.condT ?_
  simp -implicitDefEqProofs [hren]
  refine condT_intro (fun k1 => ?_) (fun k1 => ?_)
  ·try simp at k1
   have u1 : j2 < p0.length := by omega
   obtain ⟨x2, hx2⟩ : ∃ z, p0[j2] = z := ⟨_, rfl⟩
   have mx2 : x2 ∈ p0 := by rw [← hx2]; exact List.getElem_mem _
   rw [List.drop_eq_getElem_cons u1, hx2, allStmt_l2] at e2
   refine EV.skip ?_
   simp only [KN1, KN2, KN3]
   refine EV.seq (EV.block (SR ?_))
   simp (maxSteps := 2000000) -implicitDefEqProofs [hren, k1, u1, hx2]
   refine SR ?_
   simp (maxSteps := 2000000) -implicitDefEqProofs [hren, k1, u1, hx2]
   refine callG_own [0] rfl (H1 x2 (by assumption)) ?_ ?_ ?_ ?_ ?_ ?_
   ·simp [hren]
   ·simp [hren]
   ·simp
   ·simp
   ·simp
   simp (maxSteps := 2000000) -implicitDefEqProofs [hren, k1, u1, hx2, keys, callUpd, List.range_succ]
   refine EV.condT ?_
   simp -implicitDefEqProofs [hren, k1, u1, hx2]
   refine condT_intro (fun k2 => ?_) (fun k2 => ?_)
   ·try simp at k2
    obtain ⟨f2, e2⟩ := PO e2 k2
    try simp at f2
    refine SR ?_
    simp (maxSteps := 2000000) -implicitDefEqProofs [hren, k1, u1, hx2]
    refine EV.ret ?_
    simp only [KR1, KR2, KR3, KR4]
    replace e := run_back e e2
    subst e
    refine Fin.plain ?_ ?_
    ·simp
    simp [List.range_succ, hren]
   try simp at k2
   obtain ⟨f2, e2⟩ := NO e2 k2
   try simp at f2
   refine EV.skip ?_
   simp only [KN1, KN2, KN3]
   refine RG ?_
   simp (maxSteps := 2000000) -implicitDefEqProofs [hren, k1, u1, hx2]
   have w2 : IntKind.i64.wrap ((j2 : Int) + 1) = (j2 : Int) + 1 := wrap_in _ (by omega) (by omega)
   refine ⟨⟨j2 + 1, by omega, e2⟩, by dsimp only; omega, ?_⟩
   try dsimp only
   refine Sub.cutF 1 (by simp) ?_ ?_ <;> simp [List.range_succ, toIdx_range, passed, hren, k1, u1, hx2, w2]
  try simp at k1
  have d1 : p0.drop j2 = [] := List.drop_eq_nil_of_le (by omega)
  rw [d1, allStmt_l2] at e2
  refine EV.exit ?_
  simp -implicitDefEqProofs
  refine ⟨⟨((), ()), e2.symm⟩, ?_⟩
  try dsimp only
  refine Sub.cutF 1 (by simp) ?_ ?_ <;> simp [List.range_succ, toIdx_range, passed, hren]
 rintro ⟨⟨v2, g2⟩, e2⟩
 simp only [KN1, KN2, KN3, KN4]
 replace e := run_on e e2
 try dsimp only at e
 refine SR ?_
 simp (maxSteps := 2000000) -implicitDefEqProofs [hren]
 refine EV.ret ?_
 simp only [KR1, KR2, KR3, KR4]
 subst e
 refine Fin.plain ?_ ?_
 ·simp
 simp [List.range_succ, hren]

def allArm_l2 (p1 : ArmD → Bool) : List ArmD → Ctl (Bool) (Unit)
 | [] => .go ()
 | x2 :: xs2 => (if ¬ ((p1 x2) = true) then .ret false else allArm_l2 p1 xs2)
def allArm (p0 : List ArmD) (p1 : ArmD → Bool) : Bool :=
 (Ctl.run (allArm_l2 p1 p0) fun (v2 : Unit) => true)
theorem w_allArm1 (p0 : List ArmD) (p1 : ArmD → Bool)  (csz : Nat) (cc : List V) (hcc : ∀ x ∈ cc, Pu x) (fid1 : FuncId) (H1 : ∀ (u0 : ArmD), u0 ∈ p0 → QC prog fid1 [.agg [.s u0.variant, .s u0.bind, .ro 21 (u0.body.map stmtC)], .ptr 0 0 0 0] [.arr 0 csz [cc]] (.b (p1 u0)) [.arr 0 csz [cc]]) : QC prog 185 [.ro 3 (p0.map armC), .fn fid1 [.ptr 0 0 0 0]] [.arr 0 csz [cc]] (.b (allArm p0 p1)) [.arr 0 csz [cc]] := by
 refine QC.of_body tabOK func185 rfl (by kernel_rfl) ?_
 simp only [f185]
 generalize e : allArm p0 p1 = R
 unfold allArm at e
 have hren : ∀ μ, cc.map (ren0 μ) = cc := fun μ => pu_map hcc
 refine SR ?_
 simp (maxSteps := 2000000) -implicitDefEqProofs [hren]
 refine EV.seq (SR ?_)
 simp (maxSteps := 2000000) -implicitDefEqProofs [hren]
 obtain ⟨z2, e2, e⟩ := run_split e
 refine EV.nrm (fun v : { v : (Unit) × (Unit) // z2 = .go v.1 } => (fun (v2 : Unit) (g2 : Unit) => (⟨[J, J, J, J, J, J, J, J, J, J, J, J, J, J, J, J, J, J], [.arr 0 csz [cc]]⟩ : St)) v.1.1 v.1.2) ?_ ?_
 ·skip
  refine EV.block ?_
  refine EV.loopB (fun x : { x : Nat // x ≤ p0.length ∧ allArm_l2 p1 (p0.drop x) = z2 } => (fun (j2 : Nat) => (⟨[J, .fn fid1 [.ptr 0 0 0 0], J, J, J, J, J, .ro 3 (p0.map armC), .i .i64 (p0.length : Int), .i .i64 (j2 : Int), J, J, J, J, J, J, J, J], [.arr 0 csz [cc]]⟩ : St)) x.1) (fun x => p0.length - x.1) ⟨0, Nat.zero_le _, e2⟩ ?_ ?_
  ·skip
   try dsimp only
   try dsimp only
   refine Sub.cutF 1 (by simp) ?_ ?_ <;> simp [List.range_succ, toIdx_range, passed, hren]
  rintro ⟨j2, hi2, e2⟩
  simp only at hi2 e2 ⊢
  refine SR ?_
  simp (maxSteps := 2000000) -implicitDefEqProofs [hren]
  refine EV.seq ?_
  refine EV.room 7 (by rfl) (fun mj2 => ?_)
  simp at mj2
  refine EV.condT ?_
  simp -implicitDefEqProofs [hren]
  refine condT_intro (fun k1 => ?_) (fun k1 => ?_)
  ·try simp at k1
   have u1 : j2 < p0.length := by omega
   obtain ⟨x2, hx2⟩ : ∃ z, p0[j2] = z := ⟨_, rfl⟩
   have mx2 : x2 ∈ p0 := by rw [← hx2]; exact List.getElem_mem _
   rw [List.drop_eq_getElem_cons u1, hx2, allArm_l2] at e2
   refine EV.skip ?_
   simp only [KN1, KN2, KN3]
   refine EV.seq (EV.block (SR ?_))
   simp (maxSteps := 2000000) -implicitDefEqProofs [hren, k1, u1, hx2]
   refine SR ?_
   simp (maxSteps := 2000000) -implicitDefEqProofs [hren, k1, u1, hx2]
   refine callG_own [0] rfl (H1 x2 (by assumption)) ?_ ?_ ?_ ?_ ?_ ?_
   ·simp [hren]
   ·simp [hren]
   ·simp
   ·simp
   ·simp
   simp (maxSteps := 2000000) -implicitDefEqProofs [hren, k1, u1, hx2, keys, callUpd, List.range_succ]
   refine EV.condT ?_
   simp -implicitDefEqProofs [hren, k1, u1, hx2]
   refine condT_intro (fun k2 => ?_) (fun k2 => ?_)
   ·try simp at k2
    obtain ⟨f2, e2⟩ := PO e2 k2
    try simp at f2
    refine SR ?_
    simp (maxSteps := 2000000) -implicitDefEqProofs [hren, k1, u1, hx2]
    refine EV.ret ?_
    simp only [KR1, KR2, KR3, KR4]
    replace e := run_back e e2
    subst e
    refine Fin.plain ?_ ?_
    ·simp
    simp [List.range_succ, hren]
   try simp at k2
   obtain ⟨f2, e2⟩ := NO e2 k2
   try simp at f2
   refine EV.skip ?_
   simp only [KN1, KN2, KN3]
   refine RG ?_
   simp (maxSteps := 2000000) -implicitDefEqProofs [hren, k1, u1, hx2]
   have w2 : IntKind.i64.wrap ((j2 : Int) + 1) = (j2 : Int) + 1 := wrap_in _ (by omega) (by omega)
   refine ⟨⟨j2 + 1, by omega, e2⟩, by dsimp only; omega, ?_⟩
   try dsimp only
   refine Sub.cutF 1 (by simp) ?_ ?_ <;> simp [List.range_succ, toIdx_range, passed, hren, k1, u1, hx2, w2]
  try simp at k1
  have d1 : p0.drop j2 = [] := List.drop_eq_nil_of_le (by omega)
  rw [d1, allArm_l2] at e2
  refine EV.exit ?_
  simp -implicitDefEqProofs
  refine ⟨⟨((), ()), e2.symm⟩, ?_⟩
  try dsimp only
  refine Sub.cutF 1 (by simp) ?_ ?_ <;> simp [List.range_succ, toIdx_range, passed, hren]
 rintro ⟨⟨v2, g2⟩, e2⟩
 simp only [KN1, KN2, KN3, KN4]
 replace e := run_on e e2
 try dsimp only at e
 refine SR ?_
 simp (maxSteps := 2000000) -implicitDefEqProofs [hren]
 refine EV.ret ?_
 simp only [KR1, KR2, KR3, KR4]
 subst e
 refine Fin.plain ?_ ?_
 ·simp
 simp [List.range_succ, hren]

def tValidBlock_1 (r_tValidStmt : StmtD → Int → Bool) (c0 : Int) (p0 : StmtD) : Bool :=
 ((tSameStmt p0 (StmtD.mk ((tShown p0).k) ((tShown p0).at_) ((tShown p0).name) ((tShown p0).ty) ((tShown p0).p) (RvD.mk (((tShown p0).rv).k) (((tShown p0).rv).ops) (((tShown p0).rv).p) (((tShown p0).rv).name) (((tShown p0).rv).variant)) (OperD.mk (((tShown p0).op).num) (((tShown p0).op).n) (((tShown p0).op).p)) ((tShown p0).then_) ((tShown p0).else_) ((tShown p0).arms))) && (r_tValidStmt p0 (IntKind.i64.wrap (c0 + 1))))
theorem w_tValidBlock_1 (r_tValidStmt : StmtD → Int → Bool) (c0 : Int) (p0 : StmtD)  (D : Nat) (H_tValidStmt : ∀ (u0 : StmtD) (u1 : Int), SizeOf.sizeOf u0 < D → QC prog 119 [.agg [.i .i64 u0.k, .i .i64 u0.at_, .s u0.name, .i .i64 u0.ty.k, .s u0.ty.name, .ro 3 (u0.ty.l.map tyC), .s u0.p.name, .ro 1 (u0.p.path.map stepC), .i .i64 u0.rv.k, .ro 4 (u0.rv.ops.map operC), .s u0.rv.p.name, .ro 1 (u0.rv.p.path.map stepC), .s u0.rv.name, .s u0.rv.variant, .b u0.op.num, .i .i64 u0.op.n, .s u0.op.p.name, .ro 1 (u0.op.p.path.map stepC), .ro 21 (u0.then_.map stmtC), .ro 21 (u0.else_.map stmtC), .ro 3 (u0.arms.map armC)], .i .i64 u1] [] (.b (r_tValidStmt u0 u1)) []) (hD : SizeOf.sizeOf p0 < D) : QC prog 117 [.agg [.i .i64 p0.k, .i .i64 p0.at_, .s p0.name, .i .i64 p0.ty.k, .s p0.ty.name, .ro 3 (p0.ty.l.map tyC), .s p0.p.name, .ro 1 (p0.p.path.map stepC), .i .i64 p0.rv.k, .ro 4 (p0.rv.ops.map operC), .s p0.rv.p.name, .ro 1 (p0.rv.p.path.map stepC), .s p0.rv.name, .s p0.rv.variant, .b p0.op.num, .i .i64 p0.op.n, .s p0.op.p.name, .ro 1 (p0.op.p.path.map stepC), .ro 21 (p0.then_.map stmtC), .ro 21 (p0.else_.map stmtC), .ro 3 (p0.arms.map armC)], .ptr 0 0 0 0] [.arr 0 1 [[.i .i64 c0]]] (.b (tValidBlock_1 r_tValidStmt c0 p0)) [.arr 0 1 [[.i .i64 c0]]] := by
 refine QC.of_body tabOK func117 rfl (by kernel_rfl) ?_
 simp only [f117]
 generalize e : tValidBlock_1 r_tValidStmt c0 p0 = R
 unfold tValidBlock_1 at e
 refine SR ?_
 simp (maxSteps := 2000000) -implicitDefEqProofs
 refine EV.seq ?_
 refine EV.nrm (fun _ : Unit => (⟨[J, J, J, .b ((tSameStmt p0 (StmtD.mk ((tShown p0).k) ((tShown p0).at_) ((tShown p0).name) ((tShown p0).ty) ((tShown p0).p) (RvD.mk (((tShown p0).rv).k) (((tShown p0).rv).ops) (((tShown p0).rv).p) (((tShown p0).rv).name) (((tShown p0).rv).variant)) (OperD.mk (((tShown p0).op).num) (((tShown p0).op).n) (((tShown p0).op).p)) ((tShown p0).then_) ((tShown p0).else_) ((tShown p0).arms))) && (r_tValidStmt p0 (IntKind.i64.wrap (c0 + 1)))), J, J, J, J, J, J, J, J, J, J], [.arr 0 1 [[.i .i64 c0]]]⟩ : St)) ?_ ?_
 ·skip
  cases k2 : (tSameStmt p0 (StmtD.mk ((tShown p0).k) ((tShown p0).at_) ((tShown p0).name) ((tShown p0).ty) ((tShown p0).p) (RvD.mk (((tShown p0).rv).k) (((tShown p0).rv).ops) (((tShown p0).rv).p) (((tShown p0).rv).name) (((tShown p0).rv).variant)) (OperD.mk (((tShown p0).op).num) (((tShown p0).op).n) (((tShown p0).op).p)) ((tShown p0).then_) ((tShown p0).else_) ((tShown p0).arms)))
  ·skip
   have kk2 := k2
   try simp at kk2
   refine EV.drawG tabOK mixedOK ?_
   simp (maxSteps := 2000000) -implicitDefEqProofs +contextual [k2, kk2]
   refine callG_fun (w_tShown p0) ?_ ?_
   ·first | (simp; done) | (simp [k2, kk2]; done)
   simp (maxSteps := 2000000) -implicitDefEqProofs +contextual [k2, kk2]
   refine callG_fun (w_tSameStmt p0 (StmtD.mk ((tShown p0).k) ((tShown p0).at_) ((tShown p0).name) ((tShown p0).ty) ((tShown p0).p) (RvD.mk (((tShown p0).rv).k) (((tShown p0).rv).ops) (((tShown p0).rv).p) (((tShown p0).rv).name) (((tShown p0).rv).variant)) (OperD.mk (((tShown p0).op).num) (((tShown p0).op).n) (((tShown p0).op).p)) ((tShown p0).then_) ((tShown p0).else_) ((tShown p0).arms))) ?_ ?_
   ·first | (simp; done) | (simp [k2, kk2]; done)
   simp (maxSteps := 2000000) -implicitDefEqProofs +contextual [k2, kk2]
   refine And.intro ?_ ?_
   ·first | decide +kernel | (simp -implicitDefEqProofs; decide +kernel) | (split <;> decide +kernel)
   try simp -implicitDefEqProofs
   refine ⟨(), ?_⟩
   try dsimp only
   refine Sub.cutF 1 (by simp) ?_ ?_ <;> simp [List.range_succ, toIdx_range, passed, k2, kk2]
  have kk2 := k2
  try simp at kk2
  refine EV.drawG tabOK mixedOK ?_
  simp (maxSteps := 2000000) -implicitDefEqProofs +contextual [k2, kk2]
  refine callG_fun (w_tShown p0) ?_ ?_
  ·first | (simp; done) | (simp [k2, kk2]; done)
  simp (maxSteps := 2000000) -implicitDefEqProofs +contextual [k2, kk2]
  refine callG_fun (w_tSameStmt p0 (StmtD.mk ((tShown p0).k) ((tShown p0).at_) ((tShown p0).name) ((tShown p0).ty) ((tShown p0).p) (RvD.mk (((tShown p0).rv).k) (((tShown p0).rv).ops) (((tShown p0).rv).p) (((tShown p0).rv).name) (((tShown p0).rv).variant)) (OperD.mk (((tShown p0).op).num) (((tShown p0).op).n) (((tShown p0).op).p)) ((tShown p0).then_) ((tShown p0).else_) ((tShown p0).arms))) ?_ ?_
  ·first | (simp; done) | (simp [k2, kk2]; done)
  simp (maxSteps := 2000000) -implicitDefEqProofs +contextual [k2, kk2]
  refine callG_fun (H_tValidStmt p0 (IntKind.i64.wrap (c0 + 1)) (by first | omega | (simp at *; omega))) ?_ ?_
  ·first | (simp; done) | (simp [k2, kk2]; done)
  simp (maxSteps := 2000000) -implicitDefEqProofs +contextual [k2, kk2]
  refine And.intro ?_ ?_
  ·first | decide +kernel | (simp -implicitDefEqProofs; decide +kernel) | (split <;> decide +kernel)
  try simp -implicitDefEqProofs
  refine ⟨(), ?_⟩
  try dsimp only
  refine Sub.cutF 1 (by simp) ?_ ?_ <;> simp [List.range_succ, toIdx_range, passed, k2, kk2]
 rintro _
 simp only [KN1, KN2, KN3, KN4]
 refine EV.ret ?_
 simp only [KR1, KR2, KR3, KR4]
 subst e
 refine Fin.plain ?_ ?_
 ·simp
 simp [List.range_succ]

def tValidStmt_1 (r_tValidArm : ArmD → Int → Bool) (c0 : Int) (p0 : ArmD) : Bool :=
 (r_tValidArm p0 c0)
theorem w_tValidStmt_1 (r_tValidArm : ArmD → Int → Bool) (c0 : Int) (p0 : ArmD)  (D : Nat) (H_tValidArm : ∀ (u0 : ArmD) (u1 : Int), SizeOf.sizeOf u0 < D → QC prog 187 [.agg [.s u0.variant, .s u0.bind, .ro 21 (u0.body.map stmtC)], .i .i64 u1] [] (.b (r_tValidArm u0 u1)) []) (hD : SizeOf.sizeOf p0 < D) : QC prog 186 [.agg [.s p0.variant, .s p0.bind, .ro 21 (p0.body.map stmtC)], .ptr 0 0 0 0] [.arr 0 1 [[.i .i64 c0]]] (.b (tValidStmt_1 r_tValidArm c0 p0)) [.arr 0 1 [[.i .i64 c0]]] := by
 refine QC.of_body tabOK func186 rfl (by kernel_rfl) ?_
 simp only [f186]
 generalize e : tValidStmt_1 r_tValidArm c0 p0 = R
 unfold tValidStmt_1 at e
 refine SR ?_
 simp (maxSteps := 2000000) -implicitDefEqProofs
 refine SR ?_
 simp (maxSteps := 2000000) -implicitDefEqProofs
 refine callG_fun (H_tValidArm p0 c0 (by first | omega | (simp at *; omega))) ?_ ?_
 ·simp
 simp (maxSteps := 2000000) -implicitDefEqProofs
 refine EV.ret ?_
 simp only [KR1, KR2, KR3, KR4]
 subst e
 refine Fin.plain ?_ ?_
 ·simp
 simp [List.range_succ]

def tValidBlock_b (r_tValidBlock : (List StmtD) → Int → Bool) (r_tValidStmt : StmtD → Int → Bool) (r_tValidArm : ArmD → Int → Bool) (p0 : List StmtD) (p1 : Int) : Bool :=
 ((decide (p1 ≤ 60)) && (allStmt p0 (tValidBlock_1 r_tValidStmt p1)))
theorem w_tValidBlock_b (r_tValidBlock : (List StmtD) → Int → Bool) (r_tValidStmt : StmtD → Int → Bool) (r_tValidArm : ArmD → Int → Bool) (p0 : List StmtD) (p1 : Int)  (D : Nat) (H_tValidBlock : ∀ (u0 : List StmtD) (u1 : Int), SizeOf.sizeOf u0 < D → QC prog 66 [.ro 21 (u0.map stmtC), .i .i64 u1] [] (.b (r_tValidBlock u0 u1)) []) (H_tValidStmt : ∀ (u0 : StmtD) (u1 : Int), SizeOf.sizeOf u0 < D → QC prog 119 [.agg [.i .i64 u0.k, .i .i64 u0.at_, .s u0.name, .i .i64 u0.ty.k, .s u0.ty.name, .ro 3 (u0.ty.l.map tyC), .s u0.p.name, .ro 1 (u0.p.path.map stepC), .i .i64 u0.rv.k, .ro 4 (u0.rv.ops.map operC), .s u0.rv.p.name, .ro 1 (u0.rv.p.path.map stepC), .s u0.rv.name, .s u0.rv.variant, .b u0.op.num, .i .i64 u0.op.n, .s u0.op.p.name, .ro 1 (u0.op.p.path.map stepC), .ro 21 (u0.then_.map stmtC), .ro 21 (u0.else_.map stmtC), .ro 3 (u0.arms.map armC)], .i .i64 u1] [] (.b (r_tValidStmt u0 u1)) []) (H_tValidArm : ∀ (u0 : ArmD) (u1 : Int), SizeOf.sizeOf u0 < D → QC prog 187 [.agg [.s u0.variant, .s u0.bind, .ro 21 (u0.body.map stmtC)], .i .i64 u1] [] (.b (r_tValidArm u0 u1)) []) (hD : SizeOf.sizeOf p0 ≤ D) : QC prog 66 [.ro 21 (p0.map stmtC), .i .i64 p1] [] (.b (tValidBlock_b r_tValidBlock r_tValidStmt r_tValidArm p0 p1)) [] := by
 refine QC.of_body tabOK func66 rfl (by kernel_rfl) ?_
 simp only [f66]
 generalize e : tValidBlock_b r_tValidBlock r_tValidStmt r_tValidArm p0 p1 = R
 unfold tValidBlock_b at e
 refine SR ?_
 simp (maxSteps := 2000000) -implicitDefEqProofs
 refine EV.seq ?_
 refine EV.nrm (fun _ : Unit => (⟨[J, J, J, J, .b ((decide (p1 ≤ 60)) && (allStmt p0 (tValidBlock_1 r_tValidStmt p1))), J, J, J, J, J, J, J], []⟩ : St)) ?_ ?_
 ·skip
  by_cases k2 : p1 ≤ 60
  ·skip
   have kk2 := k2
   try simp at kk2
   refine RG ?_
   simp (maxSteps := 2000000) -implicitDefEqProofs +contextual [k2, kk2]
   refine callG_own [0] rfl (w_allStmt1 p0 (tValidBlock_1 r_tValidStmt p1) 1 [.i .i64 p1] (by simp [Pu]) 117 (fun u0 h0 => w_tValidBlock_1 r_tValidStmt p1 u0 D H_tValidStmt (by have := List.sizeOf_lt_of_mem h0; first | omega | (simp at *; omega)))) ?_ ?_ ?_ ?_ ?_ ?_
   ·simp
   ·simp
   ·simp
   ·simp
   ·simp
   simp (maxSteps := 2000000) -implicitDefEqProofs +contextual [k2, kk2, keys, callUpd, List.range_succ]
   refine ⟨(), ?_⟩
   try dsimp only
   refine Sub.cutF 0 (by simp) ?_ ?_ <;> simp [List.range_succ, toIdx_range, passed, k2, kk2]
  have kk2 := k2
  try simp at kk2
  refine RG ?_
  simp (maxSteps := 2000000) -implicitDefEqProofs +contextual [k2, kk2]
  refine ⟨(), ?_⟩
  try dsimp only
  refine Sub.cutF 0 (by simp) ?_ ?_ <;> simp [List.range_succ, toIdx_range, passed, k2, kk2]
 rintro _
 simp only [KN1, KN2, KN3, KN4]
 refine EV.ret ?_
 simp only [KR1, KR2, KR3, KR4]
 subst e
 refine Fin.pure0 ?_
 first | (simp; done) | (simp <;> grind)

def tValidStmt_b (r_tValidBlock : (List StmtD) → Int → Bool) (r_tValidStmt : StmtD → Int → Bool) (r_tValidArm : ArmD → Int → Bool) (p0 : StmtD) (p1 : Int) : Bool :=
 (if p0.k = 0 then (((tSmall p0.name) && (tValidTy p0.ty 0)) && (tValidRv p0.rv)) else (if p0.k = 1 then ((tValidPlace p0.p) && (tValidRv p0.rv)) else (bnd (if p0.k = 2 then true else (decide (p0.k = 3))) fun (v7 : Bool) => (if v7 = true then (((tValidOper p0.op) && (r_tValidBlock p0.then_ p1)) && (r_tValidBlock p0.else_ p1)) else (if p0.k = 4 then ((tValidName p0.p) && (allArm p0.arms (tValidStmt_1 r_tValidArm p1))) else (bnd (if p0.k = 5 then true else (if p0.k = 6 then true else (decide (p0.k = 7)))) fun (v12 : Bool) => (if v12 = true then (tValidOper p0.op) else (if p0.k = 8 then (tValidName p0.p) else false))))))))
theorem w_tValidStmt_b (r_tValidBlock : (List StmtD) → Int → Bool) (r_tValidStmt : StmtD → Int → Bool) (r_tValidArm : ArmD → Int → Bool) (p0 : StmtD) (p1 : Int)  (D : Nat) (H_tValidBlock : ∀ (u0 : List StmtD) (u1 : Int), SizeOf.sizeOf u0 < D → QC prog 66 [.ro 21 (u0.map stmtC), .i .i64 u1] [] (.b (r_tValidBlock u0 u1)) []) (H_tValidStmt : ∀ (u0 : StmtD) (u1 : Int), SizeOf.sizeOf u0 < D → QC prog 119 [.agg [.i .i64 u0.k, .i .i64 u0.at_, .s u0.name, .i .i64 u0.ty.k, .s u0.ty.name, .ro 3 (u0.ty.l.map tyC), .s u0.p.name, .ro 1 (u0.p.path.map stepC), .i .i64 u0.rv.k, .ro 4 (u0.rv.ops.map operC), .s u0.rv.p.name, .ro 1 (u0.rv.p.path.map stepC), .s u0.rv.name, .s u0.rv.variant, .b u0.op.num, .i .i64 u0.op.n, .s u0.op.p.name, .ro 1 (u0.op.p.path.map stepC), .ro 21 (u0.then_.map stmtC), .ro 21 (u0.else_.map stmtC), .ro 3 (u0.arms.map armC)], .i .i64 u1] [] (.b (r_tValidStmt u0 u1)) []) (H_tValidArm : ∀ (u0 : ArmD) (u1 : Int), SizeOf.sizeOf u0 < D → QC prog 187 [.agg [.s u0.variant, .s u0.bind, .ro 21 (u0.body.map stmtC)], .i .i64 u1] [] (.b (r_tValidArm u0 u1)) []) (hD : SizeOf.sizeOf p0 ≤ D) : QC prog 119 [.agg [.i .i64 p0.k, .i .i64 p0.at_, .s p0.name, .i .i64 p0.ty.k, .s p0.ty.name, .ro 3 (p0.ty.l.map tyC), .s p0.p.name, .ro 1 (p0.p.path.map stepC), .i .i64 p0.rv.k, .ro 4 (p0.rv.ops.map operC), .s p0.rv.p.name, .ro 1 (p0.rv.p.path.map stepC), .s p0.rv.name, .s p0.rv.variant, .b p0.op.num, .i .i64 p0.op.n, .s p0.op.p.name, .ro 1 (p0.op.p.path.map stepC), .ro 21 (p0.then_.map stmtC), .ro 21 (p0.else_.map stmtC), .ro 3 (p0.arms.map armC)], .i .i64 p1] [] (.b (tValidStmt_b r_tValidBlock r_tValidStmt r_tValidArm p0 p1)) [] := by
 refine QC.of_body tabOK func119 rfl (by kernel_rfl) ?_
 simp only [f119]
 generalize e : tValidStmt_b r_tValidBlock r_tValidStmt r_tValidArm p0 p1 = R
 unfold tValidStmt_b at e
 refine SR ?_
 simp (maxSteps := 2000000) -implicitDefEqProofs
 refine EV.seq (SR ?_)
 simp (maxSteps := 2000000) -implicitDefEqProofs
 refine EV.block (SR ?_)
 simp (maxSteps := 2000000) -implicitDefEqProofs
 refine EV.condT ?_
 simp -implicitDefEqProofs
 refine condT_intro (fun k1 => ?_) (fun k1 => ?_)
 ·try simp at k1
  obtain ⟨f1, e⟩ := PO e k1
  try simp at f1
  refine EV.seq ?_
  refine EV.nrm (fun _ : Unit => (⟨[J, J, J, J, .b (((tSmall p0.name) && (tValidTy p0.ty 0)) && (tValidRv p0.rv)), J, J, J, J, J, J, J, J, J, J, J, J, J, J, J, J, J, J, J, J, J, J, J, J, J, J, J, J, J, J, J, J, J, J, J, J, J, J, J, J, J, J, J, J, J, J, J, J, J, J, J, J, J, J, J, J, J, J, J, J, J, J, J, J, J, J, J, J], []⟩ : St)) ?_ ?_
  ·skip
   cases k3 : (tSmall p0.name)
   ·skip
    have kk3 := k3
    try simp at kk3
    refine RG ?_
    simp (maxSteps := 2000000) -implicitDefEqProofs +contextual [k3, kk3]
    refine callG_fun (w_tSmall p0.name) ?_ ?_
    ·first | (simp; done) | (simp [k3, kk3]; done)
    simp (maxSteps := 2000000) -implicitDefEqProofs +contextual [k3, kk3]
    refine ⟨(), ?_⟩
    try dsimp only
    refine Sub.cutF 0 (by simp) ?_ ?_ <;> simp [List.range_succ, toIdx_range, passed, k3, kk3]
   have kk3 := k3
   try simp at kk3
   cases k4 : (tValidTy p0.ty 0)
   ·skip
    have kk4 := k4
    try simp at kk4
    refine RG ?_
    simp (maxSteps := 2000000) -implicitDefEqProofs +contextual [k3, kk3, k4, kk4]
    refine callG_fun (w_tSmall p0.name) ?_ ?_
    ·first | (simp; done) | (simp [k3, kk3, k4, kk4]; done)
    simp (maxSteps := 2000000) -implicitDefEqProofs +contextual [k3, kk3, k4, kk4]
    refine callG_fun (w_tValidTy p0.ty 0) ?_ ?_
    ·first | (simp; done) | (simp [k3, kk3, k4, kk4]; done)
    simp (maxSteps := 2000000) -implicitDefEqProofs +contextual [k3, kk3, k4, kk4]
    refine ⟨(), ?_⟩
    try dsimp only
    refine Sub.cutF 0 (by simp) ?_ ?_ <;> simp [List.range_succ, toIdx_range, passed, k3, kk3, k4, kk4]
   have kk4 := k4
   try simp at kk4
   refine RG ?_
   simp (maxSteps := 2000000) -implicitDefEqProofs +contextual [k3, kk3, k4, kk4]
   refine callG_fun (w_tSmall p0.name) ?_ ?_
   ·first | (simp; done) | (simp [k3, kk3, k4, kk4]; done)
   simp (maxSteps := 2000000) -implicitDefEqProofs +contextual [k3, kk3, k4, kk4]
   refine callG_fun (w_tValidTy p0.ty 0) ?_ ?_
   ·first | (simp; done) | (simp [k3, kk3, k4, kk4]; done)
   simp (maxSteps := 2000000) -implicitDefEqProofs +contextual [k3, kk3, k4, kk4]
   refine callG_fun (w_tValidRv p0.rv) ?_ ?_
   ·first | (simp; done) | (simp [k3, kk3, k4, kk4]; done)
   simp (maxSteps := 2000000) -implicitDefEqProofs +contextual [k3, kk3, k4, kk4]
   refine ⟨(), ?_⟩
   try dsimp only
   refine Sub.cutF 0 (by simp) ?_ ?_ <;> simp [List.range_succ, toIdx_range, passed, k3, kk3, k4, kk4]
  rintro _
  simp only [KN1, KN2, KN3, KN4]
  refine EV.ret ?_
  simp only [KR1, KR2, KR3, KR4]
  subst e
  refine Fin.pure0 ?_
  first | (simp; done) | (simp <;> grind)
 try simp at k1
 obtain ⟨f1, e⟩ := NO e k1
 try simp at f1
 refine SR ?_
 simp (maxSteps := 2000000) -implicitDefEqProofs
 refine EV.condT ?_
 simp -implicitDefEqProofs
 refine condT_intro (fun k5 => ?_) (fun k5 => ?_)
 ·try simp at k5
  obtain ⟨f5, e⟩ := PO e k5
  try simp at f5
  refine EV.seq ?_
  refine EV.nrm (fun _ : Unit => (⟨[J, J, J, J, .b ((tValidPlace p0.p) && (tValidRv p0.rv)), J, J, J, J, J, J, J, J, J, J, J, J, J, J, J, J, J, J, J, J, J, J, J, J, J, J, J, J, J, J, J, J, J, J, J, J, J, J, J, J, J, J, J, J, J, J, J, J, J, J, J, J, J, J, J, J, J, J, J, J, J, J, J, J, J, J, J, J], []⟩ : St)) ?_ ?_
  ·skip
   cases k7 : (tValidPlace p0.p)
   ·skip
    have kk7 := k7
    try simp at kk7
    refine RG ?_
    simp (maxSteps := 2000000) -implicitDefEqProofs +contextual [k7, kk7]
    refine callG_fun (w_tValidPlace p0.p) ?_ ?_
    ·first | (simp; done) | (simp [k7, kk7]; done)
    simp (maxSteps := 2000000) -implicitDefEqProofs +contextual [k7, kk7]
    refine ⟨(), ?_⟩
    try dsimp only
    refine Sub.cutF 0 (by simp) ?_ ?_ <;> simp [List.range_succ, toIdx_range, passed, k7, kk7]
   have kk7 := k7
   try simp at kk7
   refine RG ?_
   simp (maxSteps := 2000000) -implicitDefEqProofs +contextual [k7, kk7]
   refine callG_fun (w_tValidPlace p0.p) ?_ ?_
   ·first | (simp; done) | (simp [k7, kk7]; done)
   simp (maxSteps := 2000000) -implicitDefEqProofs +contextual [k7, kk7]
   refine callG_fun (w_tValidRv p0.rv) ?_ ?_
   ·first | (simp; done) | (simp [k7, kk7]; done)
   simp (maxSteps := 2000000) -implicitDefEqProofs +contextual [k7, kk7]
   refine ⟨(), ?_⟩
   try dsimp only
   refine Sub.cutF 0 (by simp) ?_ ?_ <;> simp [List.range_succ, toIdx_range, passed, k7, kk7]
  rintro _
  simp only [KN1, KN2, KN3, KN4]
  refine EV.ret ?_
  simp only [KR1, KR2, KR3, KR4]
  subst e
  refine Fin.pure0 ?_
  first | (simp; done) | (simp <;> grind)
 try simp at k5
 obtain ⟨f5, e⟩ := NO e k5
 try simp at f5
 refine EV.seq (SR ?_)
 simp (maxSteps := 2000000) -implicitDefEqProofs
 obtain ⟨z7, e7, e⟩ := bnd_split e
 refine EV.nrm (fun v : { v : (Bool) × (Unit) // z7 = v.1 } => (fun (v7 : Bool) (g7 : Unit) => (⟨[J, J, .ptr 0 0 0 0, .ptr 1 0 0 0, J, J, .i .i64 p0.k, J, J, J, J, J, J, J, J, J, J, J, J, J, J, J, J, J, J, J, J, J, J, J, J, J, .b v7, J, J, J, J, J, J, J, J, J, J, J, J, J, J, J, J, J, J, J, J, J, J, J, J, J, J, J, J, J, J, J, J, J, J, J, J, J, J, J, J], [.arr 0 21 [[.i .i64 p0.k, .i .i64 p0.at_, .s p0.name, .i .i64 p0.ty.k, .s p0.ty.name, .ro 3 (p0.ty.l.map tyC), .s p0.p.name, .ro 1 (p0.p.path.map stepC), .i .i64 p0.rv.k, .ro 4 (p0.rv.ops.map operC), .s p0.rv.p.name, .ro 1 (p0.rv.p.path.map stepC), .s p0.rv.name, .s p0.rv.variant, .b p0.op.num, .i .i64 p0.op.n, .s p0.op.p.name, .ro 1 (p0.op.p.path.map stepC), .ro 21 (p0.then_.map stmtC), .ro 21 (p0.else_.map stmtC), .ro 3 (p0.arms.map armC)]], .arr 0 1 [[.i .i64 p1]]]⟩ : St)) v.1.1 v.1.2) ?_ ?_
 ·skip
  refine EV.condT ?_
  simp -implicitDefEqProofs
  refine condT_intro (fun k8 => ?_) (fun k8 => ?_)
  ·try simp at k8
   obtain ⟨f8, e7⟩ := PO e7 k8
   try simp at f8
   refine EV.skip ?_
   simp only [KN1, KN2, KN3]
   refine ⟨⟨(true, ()), e7.symm⟩, ?_⟩
   try dsimp only
   refine Sub.cutF 2 (by simp) ?_ ?_ <;> simp [List.range_succ, toIdx_range, passed]
  try simp at k8
  obtain ⟨f8, e7⟩ := NO e7 k8
  try simp at f8
  refine RG ?_
  simp (maxSteps := 2000000) -implicitDefEqProofs
  refine ⟨⟨((decide (p0.k = 3)), ()), e7.symm⟩, ?_⟩
  try dsimp only
  refine Sub.cutF 2 (by simp) ?_ ?_ <;> simp [List.range_succ, toIdx_range, passed]
 rintro ⟨⟨v7, g7⟩, e7⟩
 simp only [KN1, KN2, KN3, KN4]
 replace e := bnd_on e e7
 try dsimp only at e
 refine EV.condT ?_
 simp -implicitDefEqProofs
 refine condT_intro (fun k9 => ?_) (fun k9 => ?_)
 ·try simp at k9
  obtain ⟨f9, e⟩ := PO e k9
  try simp at f9
  refine EV.seq ?_
  refine EV.nrm (fun _ : Unit => (⟨[J, J, J, J, .b (((tValidOper p0.op) && (r_tValidBlock p0.then_ p1)) && (r_tValidBlock p0.else_ p1)), J, J, J, J, J, J, J, J, J, J, J, J, J, J, J, J, J, J, J, J, J, J, J, J, J, J, J, J, J, J, J, J, J, J, J, J, J, J, J, J, J, J, J, J, J, J, J, J, J, J, J, J, J, J, J, J, J, J, J, J, J, J, J, J, J, J, J, J], []⟩ : St)) ?_ ?_
  ·skip
   cases k11 : (tValidOper p0.op)
   ·skip
    have kk11 := k11
    try simp at kk11
    refine RG ?_
    simp (maxSteps := 2000000) -implicitDefEqProofs +contextual [k11, kk11]
    refine callG_fun (w_tValidOper p0.op) ?_ ?_
    ·first | (simp; done) | (simp [k11, kk11]; done)
    simp (maxSteps := 2000000) -implicitDefEqProofs +contextual [k11, kk11]
    refine ⟨(), ?_⟩
    try dsimp only
    refine Sub.cutF 0 (by simp) ?_ ?_ <;> simp [List.range_succ, toIdx_range, passed, k11, kk11]
   have kk11 := k11
   try simp at kk11
   cases k12 : (r_tValidBlock p0.then_ p1)
   ·skip
    have kk12 := k12
    try simp at kk12
    have := sz_StmtD_then_ p0
    refine RG ?_
    simp (maxSteps := 2000000) -implicitDefEqProofs +contextual [k11, kk11, k12, kk12]
    refine callG_fun (w_tValidOper p0.op) ?_ ?_
    ·first | (simp; done) | (simp [k11, kk11, k12, kk12]; done)
    simp (maxSteps := 2000000) -implicitDefEqProofs +contextual [k11, kk11, k12, kk12]
    refine callG_fun (H_tValidBlock p0.then_ p1 (by first | omega | (simp at *; omega))) ?_ ?_
    ·first | (simp; done) | (simp [k11, kk11, k12, kk12]; done)
    simp (maxSteps := 2000000) -implicitDefEqProofs +contextual [k11, kk11, k12, kk12]
    refine ⟨(), ?_⟩
    try dsimp only
    refine Sub.cutF 0 (by simp) ?_ ?_ <;> simp [List.range_succ, toIdx_range, passed, k11, kk11, k12, kk12]
   have kk12 := k12
   try simp at kk12
   have := sz_StmtD_then_ p0
   have := sz_StmtD_else_ p0
   refine RG ?_
   simp (maxSteps := 2000000) -implicitDefEqProofs +contextual [k11, kk11, k12, kk12]
   refine callG_fun (w_tValidOper p0.op) ?_ ?_
   ·first | (simp; done) | (simp [k11, kk11, k12, kk12]; done)
   simp (maxSteps := 2000000) -implicitDefEqProofs +contextual [k11, kk11, k12, kk12]
   refine callG_fun (H_tValidBlock p0.then_ p1 (by first | omega | (simp at *; omega))) ?_ ?_
   ·first | (simp; done) | (simp [k11, kk11, k12, kk12]; done)
   simp (maxSteps := 2000000) -implicitDefEqProofs +contextual [k11, kk11, k12, kk12]
   refine callG_fun (H_tValidBlock p0.else_ p1 (by first | omega | (simp at *; omega))) ?_ ?_
   ·first | (simp; done) | (simp [k11, kk11, k12, kk12]; done)
   simp (maxSteps := 2000000) -implicitDefEqProofs +contextual [k11, kk11, k12, kk12]
   refine ⟨(), ?_⟩
   try dsimp only
   refine Sub.cutF 0 (by simp) ?_ ?_ <;> simp [List.range_succ, toIdx_range, passed, k11, kk11, k12, kk12]
  rintro _
  simp only [KN1, KN2, KN3, KN4]
  refine EV.ret ?_
  simp only [KR1, KR2, KR3, KR4]
  subst e
  refine Fin.pure0 ?_
  first | (simp; done) | (simp <;> grind)
 try simp at k9
 obtain ⟨f9, e⟩ := NO e k9
 try simp at f9
 refine SR ?_
 simp (maxSteps := 2000000) -implicitDefEqProofs
 refine EV.condT ?_
 simp -implicitDefEqProofs
 refine condT_intro (fun k13 => ?_) (fun k13 => ?_)
 ·try simp at k13
  obtain ⟨f13, e⟩ := PO e k13
  try simp at f13
  refine EV.seq ?_
  refine EV.nrm (fun _ : Unit => (⟨[J, J, J, J, .b ((tValidName p0.p) && (allArm p0.arms (tValidStmt_1 r_tValidArm p1))), J, J, J, J, J, J, J, J, J, J, J, J, J, J, J, J, J, J, J, J, J, J, J, J, J, J, J, J, J, J, J, J, J, J, J, J, J, J, J, J, J, J, J, J, J, J, J, J, J, J, J, J, J, J, J, J, J, J, J, J, J, J, J, J, J, J, J, J], []⟩ : St)) ?_ ?_
  ·skip
   cases k15 : (tValidName p0.p)
   ·skip
    have kk15 := k15
    try simp at kk15
    refine RG ?_
    simp (maxSteps := 2000000) -implicitDefEqProofs +contextual [k15, kk15]
    refine callG_fun (w_tValidName p0.p) ?_ ?_
    ·first | (simp; done) | (simp [k15, kk15]; done)
    simp (maxSteps := 2000000) -implicitDefEqProofs +contextual [k15, kk15]
    refine ⟨(), ?_⟩
    try dsimp only
    refine Sub.cutF 0 (by simp) ?_ ?_ <;> simp [List.range_succ, toIdx_range, passed, k15, kk15]
   have kk15 := k15
   try simp at kk15
   have := sz_StmtD_arms p0
   refine RG ?_
   simp (maxSteps := 2000000) -implicitDefEqProofs +contextual [k15, kk15]
   refine callG_fun (w_tValidName p0.p) ?_ ?_
   ·first | (simp; done) | (simp [k15, kk15]; done)
   simp (maxSteps := 2000000) -implicitDefEqProofs +contextual [k15, kk15]
   refine callG_own [1] rfl (w_allArm1 p0.arms (tValidStmt_1 r_tValidArm p1) 1 [.i .i64 p1] (by simp [Pu]) 186 (fun u0 h0 => w_tValidStmt_1 r_tValidArm p1 u0 D H_tValidArm (by have := List.sizeOf_lt_of_mem h0; first | omega | (simp at *; omega)))) ?_ ?_ ?_ ?_ ?_ ?_
   ·simp
   ·simp
   ·simp
   ·simp
   ·simp
   simp (maxSteps := 2000000) -implicitDefEqProofs +contextual [k15, kk15, keys, callUpd, List.range_succ]
   refine ⟨(), ?_⟩
   try dsimp only
   refine Sub.cutF 0 (by simp) ?_ ?_ <;> simp [List.range_succ, toIdx_range, passed, k15, kk15]
  rintro _
  simp only [KN1, KN2, KN3, KN4]
  refine EV.ret ?_
  simp only [KR1, KR2, KR3, KR4]
  subst e
  refine Fin.pure0 ?_
  first | (simp; done) | (simp <;> grind)
 try simp at k13
 obtain ⟨f13, e⟩ := NO e k13
 try simp at f13
 refine EV.seq (SR ?_)
 simp (maxSteps := 2000000) -implicitDefEqProofs
 obtain ⟨z12, e12, e⟩ := bnd_split e
 refine EV.nrm (fun v : { v : (Bool) × (Unit) // z12 = v.1 } => (fun (v12 : Bool) (g12 : Unit) => (⟨[J, J, .ptr 0 0 0 0, J, J, J, .i .i64 p0.k, J, J, J, J, J, J, J, J, J, J, J, J, J, J, J, J, J, J, J, J, J, J, J, J, J, J, J, J, J, J, J, J, J, J, J, J, J, J, J, J, J, J, J, J, J, J, J, J, J, J, J, J, J, J, .b v12, J, J, J, J, J, J, J, J, J, J, J], [.arr 0 21 [[.i .i64 p0.k, .i .i64 p0.at_, .s p0.name, .i .i64 p0.ty.k, .s p0.ty.name, .ro 3 (p0.ty.l.map tyC), .s p0.p.name, .ro 1 (p0.p.path.map stepC), .i .i64 p0.rv.k, .ro 4 (p0.rv.ops.map operC), .s p0.rv.p.name, .ro 1 (p0.rv.p.path.map stepC), .s p0.rv.name, .s p0.rv.variant, .b p0.op.num, .i .i64 p0.op.n, .s p0.op.p.name, .ro 1 (p0.op.p.path.map stepC), .ro 21 (p0.then_.map stmtC), .ro 21 (p0.else_.map stmtC), .ro 3 (p0.arms.map armC)]]]⟩ : St)) v.1.1 v.1.2) ?_ ?_
 ·skip
  refine EV.condT ?_
  simp -implicitDefEqProofs
  refine condT_intro (fun k16 => ?_) (fun k16 => ?_)
  ·try simp at k16
   obtain ⟨f16, e12⟩ := PO e12 k16
   try simp at f16
   refine EV.skip ?_
   simp only [KN1, KN2, KN3]
   refine ⟨⟨(true, ()), e12.symm⟩, ?_⟩
   try dsimp only
   refine Sub.cutF 1 (by simp) ?_ ?_ <;> simp [List.range_succ, toIdx_range, passed]
  try simp at k16
  obtain ⟨f16, e12⟩ := NO e12 k16
  try simp at f16
  refine SR ?_
  simp (maxSteps := 2000000) -implicitDefEqProofs
  refine EV.condT ?_
  simp -implicitDefEqProofs
  refine condT_intro (fun k17 => ?_) (fun k17 => ?_)
  ·try simp at k17
   obtain ⟨f17, e12⟩ := PO e12 k17
   try simp at f17
   refine EV.skip ?_
   simp only [KN1, KN2, KN3]
   refine ⟨⟨(true, ()), e12.symm⟩, ?_⟩
   try dsimp only
   refine Sub.cutF 1 (by simp) ?_ ?_ <;> simp [List.range_succ, toIdx_range, passed]
  try simp at k17
  obtain ⟨f17, e12⟩ := NO e12 k17
  try simp at f17
  refine RG ?_
  simp (maxSteps := 2000000) -implicitDefEqProofs
  refine ⟨⟨((decide (p0.k = 7)), ()), e12.symm⟩, ?_⟩
  try dsimp only
  refine Sub.cutF 1 (by simp) ?_ ?_ <;> simp [List.range_succ, toIdx_range, passed]
 rintro ⟨⟨v12, g12⟩, e12⟩
 simp only [KN1, KN2, KN3, KN4]
 replace e := bnd_on e e12
 try dsimp only at e
 refine EV.condT ?_
 simp -implicitDefEqProofs
 refine condT_intro (fun k18 => ?_) (fun k18 => ?_)
 ·try simp at k18
  obtain ⟨f18, e⟩ := PO e k18
  try simp at f18
  refine SR ?_
  simp (maxSteps := 2000000) -implicitDefEqProofs
  refine callG_fun (w_tValidOper p0.op) ?_ ?_
  ·simp
  simp (maxSteps := 2000000) -implicitDefEqProofs
  refine EV.ret ?_
  simp only [KR1, KR2, KR3, KR4]
  subst e
  refine Fin.pure0 ?_
  first | (simp; done) | (simp <;> grind)
 try simp at k18
 obtain ⟨f18, e⟩ := NO e k18
 try simp at f18
 refine SR ?_
 simp (maxSteps := 2000000) -implicitDefEqProofs
 refine EV.condT ?_
 simp -implicitDefEqProofs
 refine condT_intro (fun k19 => ?_) (fun k19 => ?_)
 ·try simp at k19
  obtain ⟨f19, e⟩ := PO e k19
  try simp at f19
  refine SR ?_
  simp (maxSteps := 2000000) -implicitDefEqProofs
  refine callG_fun (w_tValidName p0.p) ?_ ?_
  ·simp
  simp (maxSteps := 2000000) -implicitDefEqProofs
  refine EV.ret ?_
  simp only [KR1, KR2, KR3, KR4]
  subst e
  refine Fin.pure0 ?_
  first | (simp; done) | (simp <;> grind)
 try simp at k19
 obtain ⟨f19, e⟩ := NO e k19
 try simp at f19
 refine EV.skip ?_
 simp only [KN1, KN2, KN3]
 refine SR ?_
 simp (maxSteps := 2000000) -implicitDefEqProofs
 refine EV.ret ?_
 simp only [KR1, KR2, KR3, KR4]
 subst e
 refine Fin.pure0 ?_
 first | (simp; done) | (simp <;> grind)

def tValidArm_b (r_tValidBlock : (List StmtD) → Int → Bool) (r_tValidStmt : StmtD → Int → Bool) (r_tValidArm : ArmD → Int → Bool) (p0 : ArmD) (p1 : Int) : Bool :=
 (((tGreat p0.variant) && ((decide (p0.bind = ([] : List UInt8))) || (tSmall p0.bind))) && (r_tValidBlock p0.body p1))
theorem w_tValidArm_b (r_tValidBlock : (List StmtD) → Int → Bool) (r_tValidStmt : StmtD → Int → Bool) (r_tValidArm : ArmD → Int → Bool) (p0 : ArmD) (p1 : Int)  (D : Nat) (H_tValidBlock : ∀ (u0 : List StmtD) (u1 : Int), SizeOf.sizeOf u0 < D → QC prog 66 [.ro 21 (u0.map stmtC), .i .i64 u1] [] (.b (r_tValidBlock u0 u1)) []) (H_tValidStmt : ∀ (u0 : StmtD) (u1 : Int), SizeOf.sizeOf u0 < D → QC prog 119 [.agg [.i .i64 u0.k, .i .i64 u0.at_, .s u0.name, .i .i64 u0.ty.k, .s u0.ty.name, .ro 3 (u0.ty.l.map tyC), .s u0.p.name, .ro 1 (u0.p.path.map stepC), .i .i64 u0.rv.k, .ro 4 (u0.rv.ops.map operC), .s u0.rv.p.name, .ro 1 (u0.rv.p.path.map stepC), .s u0.rv.name, .s u0.rv.variant, .b u0.op.num, .i .i64 u0.op.n, .s u0.op.p.name, .ro 1 (u0.op.p.path.map stepC), .ro 21 (u0.then_.map stmtC), .ro 21 (u0.else_.map stmtC), .ro 3 (u0.arms.map armC)], .i .i64 u1] [] (.b (r_tValidStmt u0 u1)) []) (H_tValidArm : ∀ (u0 : ArmD) (u1 : Int), SizeOf.sizeOf u0 < D → QC prog 187 [.agg [.s u0.variant, .s u0.bind, .ro 21 (u0.body.map stmtC)], .i .i64 u1] [] (.b (r_tValidArm u0 u1)) []) (hD : SizeOf.sizeOf p0 ≤ D) : QC prog 187 [.agg [.s p0.variant, .s p0.bind, .ro 21 (p0.body.map stmtC)], .i .i64 p1] [] (.b (tValidArm_b r_tValidBlock r_tValidStmt r_tValidArm p0 p1)) [] := by
 refine QC.of_body tabOK func187 rfl (by kernel_rfl) ?_
 simp only [f187]
 generalize e : tValidArm_b r_tValidBlock r_tValidStmt r_tValidArm p0 p1 = R
 unfold tValidArm_b at e
 refine SR ?_
 simp (maxSteps := 2000000) -implicitDefEqProofs
 refine EV.seq ?_
 refine EV.nrm (fun _ : Unit => (⟨[J, J, J, J, .b (((tGreat p0.variant) && ((decide (p0.bind = ([] : List UInt8))) || (tSmall p0.bind))) && (r_tValidBlock p0.body p1)), J, J, J, J, J, J, J, J, J, J, J, J, J, J, J, J, J, J, J], []⟩ : St)) ?_ ?_
 ·skip
  cases k2 : (tGreat p0.variant)
  ·skip
   have kk2 := k2
   try simp at kk2
   refine RG ?_
   simp (maxSteps := 2000000) -implicitDefEqProofs +contextual [k2, kk2]
   refine callG_fun (w_tGreat p0.variant) ?_ ?_
   ·first | (simp; done) | (simp [k2, kk2]; done)
   simp (maxSteps := 2000000) -implicitDefEqProofs +contextual [k2, kk2]
   refine ⟨(), ?_⟩
   try dsimp only
   refine Sub.cutF 0 (by simp) ?_ ?_ <;> simp [List.range_succ, toIdx_range, passed, k2, kk2]
  have kk2 := k2
  try simp at kk2
  by_cases k3 : p0.bind = ([] : List UInt8)
  ·skip
   have kk3 := k3
   try simp at kk3
   have := sz_ArmD_body p0
   refine RG ?_
   simp (maxSteps := 2000000) -implicitDefEqProofs +contextual [k2, kk2, k3, kk3]
   refine callG_fun (w_tGreat p0.variant) ?_ ?_
   ·first | (simp; done) | (simp [k2, kk2, k3, kk3]; done)
   simp (maxSteps := 2000000) -implicitDefEqProofs +contextual [k2, kk2, k3, kk3]
   refine callG_fun (H_tValidBlock p0.body p1 (by first | omega | (simp at *; omega))) ?_ ?_
   ·first | (simp; done) | (simp [k2, kk2, k3, kk3]; done)
   simp (maxSteps := 2000000) -implicitDefEqProofs +contextual [k2, kk2, k3, kk3]
   refine ⟨(), ?_⟩
   try dsimp only
   refine Sub.cutF 0 (by simp) ?_ ?_ <;> simp [List.range_succ, toIdx_range, passed, k2, kk2, k3, kk3]
  have kk3 := k3
  try simp at kk3
  cases k4 : (tSmall p0.bind)
  ·skip
   have kk4 := k4
   try simp at kk4
   refine RG ?_
   simp (maxSteps := 2000000) -implicitDefEqProofs +contextual [k2, kk2, k3, kk3, k4, kk4]
   refine callG_fun (w_tGreat p0.variant) ?_ ?_
   ·first | (simp; done) | (simp [k2, kk2, k3, kk3, k4, kk4]; done)
   simp (maxSteps := 2000000) -implicitDefEqProofs +contextual [k2, kk2, k3, kk3, k4, kk4]
   refine callG_fun (w_tSmall p0.bind) ?_ ?_
   ·first | (simp; done) | (simp [k2, kk2, k3, kk3, k4, kk4]; done)
   simp (maxSteps := 2000000) -implicitDefEqProofs +contextual [k2, kk2, k3, kk3, k4, kk4]
   refine ⟨(), ?_⟩
   try dsimp only
   refine Sub.cutF 0 (by simp) ?_ ?_ <;> simp [List.range_succ, toIdx_range, passed, k2, kk2, k3, kk3, k4, kk4]
  have kk4 := k4
  try simp at kk4
  have := sz_ArmD_body p0
  refine RG ?_
  simp (maxSteps := 2000000) -implicitDefEqProofs +contextual [k2, kk2, k3, kk3, k4, kk4]
  refine callG_fun (w_tGreat p0.variant) ?_ ?_
  ·first | (simp; done) | (simp [k2, kk2, k3, kk3, k4, kk4]; done)
  simp (maxSteps := 2000000) -implicitDefEqProofs +contextual [k2, kk2, k3, kk3, k4, kk4]
  refine callG_fun (w_tSmall p0.bind) ?_ ?_
  ·first | (simp; done) | (simp [k2, kk2, k3, kk3, k4, kk4]; done)
  simp (maxSteps := 2000000) -implicitDefEqProofs +contextual [k2, kk2, k3, kk3, k4, kk4]
  refine callG_fun (H_tValidBlock p0.body p1 (by first | omega | (simp at *; omega))) ?_ ?_
  ·first | (simp; done) | (simp [k2, kk2, k3, kk3, k4, kk4]; done)
  simp (maxSteps := 2000000) -implicitDefEqProofs +contextual [k2, kk2, k3, kk3, k4, kk4]
  refine ⟨(), ?_⟩
  try dsimp only
  refine Sub.cutF 0 (by simp) ?_ ?_ <;> simp [List.range_succ, toIdx_range, passed, k2, kk2, k3, kk3, k4, kk4]
 rintro _
 simp only [KN1, KN2, KN3, KN4]
 refine EV.ret ?_
 simp only [KR1, KR2, KR3, KR4]
 subst e
 refine Fin.pure0 ?_
 first | (simp; done) | (simp <;> grind)

mutual
def tValidBlock_f : Nat → (List StmtD) → Int → Bool
 | 0, _, _ => default
 | k + 1, p0, p1 => tValidBlock_b (tValidBlock_f k) (tValidStmt_f k) (tValidArm_f k) p0 p1
def tValidStmt_f : Nat → StmtD → Int → Bool
 | 0, _, _ => default
 | k + 1, p0, p1 => tValidStmt_b (tValidBlock_f k) (tValidStmt_f k) (tValidArm_f k) p0 p1
def tValidArm_f : Nat → ArmD → Int → Bool
 | 0, _, _ => default
 | k + 1, p0, p1 => tValidArm_b (tValidBlock_f k) (tValidStmt_f k) (tValidArm_f k) p0 p1
end
def tValidBlock (p0 : List StmtD) (p1 : Int) : Bool := tValidBlock_f (SizeOf.sizeOf p0 + 1) p0 p1
theorem w_tValidBlock_tValidStmt_tValidArm_f : ∀ k : Nat, (∀ (p0 : List StmtD) (p1 : Int), SizeOf.sizeOf p0 < k → QC prog 66 [.ro 21 (p0.map stmtC), .i .i64 p1] [] (.b (tValidBlock_f k p0 p1)) []) ∧ (∀ (p0 : StmtD) (p1 : Int), SizeOf.sizeOf p0 < k → QC prog 119 [.agg [.i .i64 p0.k, .i .i64 p0.at_, .s p0.name, .i .i64 p0.ty.k, .s p0.ty.name, .ro 3 (p0.ty.l.map tyC), .s p0.p.name, .ro 1 (p0.p.path.map stepC), .i .i64 p0.rv.k, .ro 4 (p0.rv.ops.map operC), .s p0.rv.p.name, .ro 1 (p0.rv.p.path.map stepC), .s p0.rv.name, .s p0.rv.variant, .b p0.op.num, .i .i64 p0.op.n, .s p0.op.p.name, .ro 1 (p0.op.p.path.map stepC), .ro 21 (p0.then_.map stmtC), .ro 21 (p0.else_.map stmtC), .ro 3 (p0.arms.map armC)], .i .i64 p1] [] (.b (tValidStmt_f k p0 p1)) []) ∧ (∀ (p0 : ArmD) (p1 : Int), SizeOf.sizeOf p0 < k → QC prog 187 [.agg [.s p0.variant, .s p0.bind, .ro 21 (p0.body.map stmtC)], .i .i64 p1] [] (.b (tValidArm_f k p0 p1)) [])
 | 0 => by refine ⟨(fun _ _ h => absurd h (Nat.not_lt_zero _)), (fun _ _ h => absurd h (Nat.not_lt_zero _)), (fun _ _ h => absurd h (Nat.not_lt_zero _))⟩
 | k + 1 => by refine ⟨(fun p0 p1 h => by rw [tValidBlock_f]; exact w_tValidBlock_b (tValidBlock_f k) (tValidStmt_f k) (tValidArm_f k) p0 p1 k (w_tValidBlock_tValidStmt_tValidArm_f k).1 (w_tValidBlock_tValidStmt_tValidArm_f k).2.1 (w_tValidBlock_tValidStmt_tValidArm_f k).2.2 (by omega)), (fun p0 p1 h => by rw [tValidStmt_f]; exact w_tValidStmt_b (tValidBlock_f k) (tValidStmt_f k) (tValidArm_f k) p0 p1 k (w_tValidBlock_tValidStmt_tValidArm_f k).1 (w_tValidBlock_tValidStmt_tValidArm_f k).2.1 (w_tValidBlock_tValidStmt_tValidArm_f k).2.2 (by omega)), (fun p0 p1 h => by rw [tValidArm_f]; exact w_tValidArm_b (tValidBlock_f k) (tValidStmt_f k) (tValidArm_f k) p0 p1 k (w_tValidBlock_tValidStmt_tValidArm_f k).1 (w_tValidBlock_tValidStmt_tValidArm_f k).2.1 (w_tValidBlock_tValidStmt_tValidArm_f k).2.2 (by omega))⟩
theorem w_tValidBlock (p0 : List StmtD) (p1 : Int) : QC prog 66 [.ro 21 (p0.map stmtC), .i .i64 p1] [] (.b (tValidBlock p0 p1)) [] := (w_tValidBlock_tValidStmt_tValidArm_f (SizeOf.sizeOf p0 + 1)).1 p0 p1 (Nat.lt_succ_self _)
def tValidField (p0 : FieldD) : Bool :=
 ((tSmall p0.name) && (tValidTy p0.ty 0))
theorem w_tValidField (p0 : FieldD)  : QC prog 60 [.agg [.s p0.name, .i .i64 p0.ty.k, .s p0.ty.name, .ro 3 (p0.ty.l.map tyC)]] [] (.b (tValidField p0)) [] := by
 refine QC.of_body tabOK func60 rfl (by kernel_rfl) ?_
 simp only [f60]
 generalize e : tValidField p0 = R
 unfold tValidField at e
 refine SR ?_
 simp (maxSteps := 2000000) -implicitDefEqProofs
 refine EV.seq ?_
 refine EV.nrm (fun _ : Unit => (⟨[J, J, .b ((tSmall p0.name) && (tValidTy p0.ty 0)), J, J, J, J, J, J, J, J], []⟩ : St)) ?_ ?_
 ·skip
  cases k2 : (tSmall p0.name)
  ·skip
   have kk2 := k2
   try simp at kk2
   refine RG ?_
   simp (maxSteps := 2000000) -implicitDefEqProofs +contextual [k2, kk2]
   refine callG_fun (w_tSmall p0.name) ?_ ?_
   ·first | (simp; done) | (simp [k2, kk2]; done)
   simp (maxSteps := 2000000) -implicitDefEqProofs +contextual [k2, kk2]
   refine ⟨(), ?_⟩
   try dsimp only
   refine Sub.cutF 0 (by simp) ?_ ?_ <;> simp [List.range_succ, toIdx_range, passed, k2, kk2]
  have kk2 := k2
  try simp at kk2
  refine RG ?_
  simp (maxSteps := 2000000) -implicitDefEqProofs +contextual [k2, kk2]
  refine callG_fun (w_tSmall p0.name) ?_ ?_
  ·first | (simp; done) | (simp [k2, kk2]; done)
  simp (maxSteps := 2000000) -implicitDefEqProofs +contextual [k2, kk2]
  refine callG_fun (w_tValidTy p0.ty 0) ?_ ?_
  ·first | (simp; done) | (simp [k2, kk2]; done)
  simp (maxSteps := 2000000) -implicitDefEqProofs +contextual [k2, kk2]
  refine ⟨(), ?_⟩
  try dsimp only
  refine Sub.cutF 0 (by simp) ?_ ?_ <;> simp [List.range_succ, toIdx_range, passed, k2, kk2]
 rintro _
 simp only [KN1, KN2, KN3, KN4]
 refine EV.ret ?_
 simp only [KR1, KR2, KR3, KR4]
 subst e
 refine Fin.pure0 ?_
 first | (simp; done) | (simp <;> grind)

def tValidVariant (p0 : VariantD) : Bool :=
 ((tGreat p0.name) && ((tSameTy p0.ty (TyD.mk 0 ([] : List UInt8) ([]))) || (tValidTy p0.ty 0)))
theorem w_tValidVariant (p0 : VariantD)  : QC prog 63 [.agg [.s p0.name, .i .i64 p0.ty.k, .s p0.ty.name, .ro 3 (p0.ty.l.map tyC)]] [] (.b (tValidVariant p0)) [] := by
 refine QC.of_body tabOK func63 rfl (by kernel_rfl) ?_
 simp only [f63]
 generalize e : tValidVariant p0 = R
 unfold tValidVariant at e
 refine SR ?_
 simp (maxSteps := 2000000) -implicitDefEqProofs
 refine EV.seq ?_
 refine EV.nrm (fun _ : Unit => (⟨[J, J, .b ((tGreat p0.name) && ((tSameTy p0.ty (TyD.mk 0 ([] : List UInt8) ([]))) || (tValidTy p0.ty 0))), J, J, J, J, J, J, J, J, J, J, J, J, J, J], []⟩ : St)) ?_ ?_
 ·skip
  cases k2 : (tGreat p0.name)
  ·skip
   have kk2 := k2
   try simp at kk2
   refine RG ?_
   simp (maxSteps := 2000000) -implicitDefEqProofs +contextual [k2, kk2]
   refine callG_fun (w_tGreat p0.name) ?_ ?_
   ·first | (simp; done) | (simp [k2, kk2]; done)
   simp (maxSteps := 2000000) -implicitDefEqProofs +contextual [k2, kk2]
   refine ⟨(), ?_⟩
   try dsimp only
   refine Sub.cutF 0 (by simp) ?_ ?_ <;> simp [List.range_succ, toIdx_range, passed, k2, kk2]
  have kk2 := k2
  try simp at kk2
  cases k3 : (tSameTy p0.ty (TyD.mk 0 ([] : List UInt8) ([])))
  ·skip
   have kk3 := k3
   try simp at kk3
   refine RG ?_
   simp (maxSteps := 2000000) -implicitDefEqProofs +contextual [k2, kk2, k3, kk3]
   refine callG_fun (w_tGreat p0.name) ?_ ?_
   ·first | (simp; done) | (simp [k2, kk2, k3, kk3]; done)
   simp (maxSteps := 2000000) -implicitDefEqProofs +contextual [k2, kk2, k3, kk3]
   refine callG_data [] (w_tSameTy p0.ty (TyD.mk 0 ([] : List UInt8) ([]))) ?_ ?_ ?_
   ·simp [allP, allR, c0, ld1, ld0, cvOb, Pu, take_len_map, List.getD, List.range_succ]
   ·first | trivial | simp [nr, nr1, nr0]
   simp (maxSteps := 2000000) -implicitDefEqProofs +contextual [k2, kk2, k3, kk3]
   refine callG_fun (w_tValidTy p0.ty 0) ?_ ?_
   ·first | (simp; done) | (simp [k2, kk2, k3, kk3]; done)
   simp (maxSteps := 2000000) -implicitDefEqProofs +contextual [k2, kk2, k3, kk3]
   refine ⟨(), ?_⟩
   try dsimp only
   refine Sub.cutF 0 (by simp) ?_ ?_ <;> simp [List.range_succ, toIdx_range, passed, k2, kk2, k3, kk3]
  have kk3 := k3
  try simp at kk3
  refine RG ?_
  simp (maxSteps := 2000000) -implicitDefEqProofs +contextual [k2, kk2, k3, kk3]
  refine callG_fun (w_tGreat p0.name) ?_ ?_
  ·first | (simp; done) | (simp [k2, kk2, k3, kk3]; done)
  simp (maxSteps := 2000000) -implicitDefEqProofs +contextual [k2, kk2, k3, kk3]
  refine callG_data [] (w_tSameTy p0.ty (TyD.mk 0 ([] : List UInt8) ([]))) ?_ ?_ ?_
  ·simp [allP, allR, c0, ld1, ld0, cvOb, Pu, take_len_map, List.getD, List.range_succ]
  ·first | trivial | simp [nr, nr1, nr0]
  simp (maxSteps := 2000000) -implicitDefEqProofs +contextual [k2, kk2, k3, kk3]
  refine ⟨(), ?_⟩
  try dsimp only
  refine Sub.cutF 0 (by simp) ?_ ?_ <;> simp [List.range_succ, toIdx_range, passed, k2, kk2, k3, kk3]
 rintro _
 simp only [KN1, KN2, KN3, KN4]
 refine EV.ret ?_
 simp only [KR1, KR2, KR3, KR4]
 subst e
 refine Fin.pure0 ?_
 first | (simp; done) | (simp <;> grind)

def allField_l2 (p1 : FieldD → Bool) : List FieldD → Ctl (Bool) (Unit)
 | [] => .go ()
 | x2 :: xs2 => (if ¬ ((p1 x2) = true) then .ret false else allField_l2 p1 xs2)
def allField (p0 : List FieldD) (p1 : FieldD → Bool) : Bool :=
 (Ctl.run (allField_l2 p1 p0) fun (v2 : Unit) => true)
theorem w_allField0 (p0 : List FieldD) (p1 : FieldD → Bool)  (fid1 : FuncId) (H1 : ∀ (u0 : FieldD), u0 ∈ p0 → QC prog fid1 [.agg [.s u0.name, .i .i64 u0.ty.k, .s u0.ty.name, .ro 3 (u0.ty.l.map tyC)]] [] (.b (p1 u0)) []) : QC prog 59 [.ro 4 (p0.map fieldC), .fn fid1 []] [] (.b (allField p0 p1)) [] := by
 refine QC.of_body tabOK func59 rfl (by kernel_rfl) ?_
 simp only [f59]
 generalize e : allField p0 p1 = R
 unfold allField at e
 refine SR ?_
 simp (maxSteps := 2000000) -implicitDefEqProofs
 refine EV.seq (SR ?_)
 simp (maxSteps := 2000000) -implicitDefEqProofs
 obtain ⟨z2, e2, e⟩ := run_split e
 refine EV.nrm (fun v : { v : (Unit) × (Unit) // z2 = .go v.1 } => (fun (v2 : Unit) (g2 : Unit) => (⟨[J, J, J, J, J, J, J, J, J, J, J, J, J, J, J, J, J, J], []⟩ : St)) v.1.1 v.1.2) ?_ ?_
 ·skip
  refine EV.block ?_
  refine EV.loopB (fun x : { x : Nat // x ≤ p0.length ∧ allField_l2 p1 (p0.drop x) = z2 } => (fun (j2 : Nat) => (⟨[J, .fn fid1 [], J, J, J, J, J, .ro 4 (p0.map fieldC), .i .i64 (p0.length : Int), .i .i64 (j2 : Int), J, J, J, J, J, J, J, J], []⟩ : St)) x.1) (fun x => p0.length - x.1) ⟨0, Nat.zero_le _, e2⟩ ?_ ?_
  ·skip
   try dsimp only
   try dsimp only
   refine Sub.cutF 0 (by simp) ?_ ?_ <;> simp [List.range_succ, toIdx_range, passed]
  rintro ⟨j2, hi2, e2⟩
  simp only at hi2 e2 ⊢
  refine SR ?_
  simp (maxSteps := 2000000) -implicitDefEqProofs
  refine EV.seq ?_
  refine EV.room 7 (by rfl) (fun mj2 => ?_)
  simp at mj2
  refine EV.condT ?_
  simp -implicitDefEqProofs
  refine condT_intro (fun k1 => ?_) (fun k1 => ?_)
  ·try simp at k1
   have u1 : j2 < p0.length := by omega
   obtain ⟨x2, hx2⟩ : ∃ z, p0[j2] = z := ⟨_, rfl⟩
   have mx2 : x2 ∈ p0 := by rw [← hx2]; exact List.getElem_mem _
   rw [List.drop_eq_getElem_cons u1, hx2, allField_l2] at e2
   refine EV.skip ?_
   simp only [KN1, KN2, KN3]
   refine EV.seq (EV.block (SR ?_))
   simp (maxSteps := 2000000) -implicitDefEqProofs [k1, u1, hx2]
   refine SR ?_
   simp (maxSteps := 2000000) -implicitDefEqProofs [k1, u1, hx2]
   refine callG_own [] rfl (H1 x2 (by assumption)) ?_ ?_ ?_ ?_ ?_ ?_
   ·simp
   ·simp
   ·simp
   ·simp
   ·simp
   simp (maxSteps := 2000000) -implicitDefEqProofs [k1, u1, hx2, keys, callUpd, List.range_succ]
   refine EV.condT ?_
   simp -implicitDefEqProofs [k1, u1, hx2]
   refine condT_intro (fun k2 => ?_) (fun k2 => ?_)
   ·try simp at k2
    obtain ⟨f2, e2⟩ := PO e2 k2
    try simp at f2
    refine SR ?_
    simp (maxSteps := 2000000) -implicitDefEqProofs [k1, u1, hx2]
    refine EV.ret ?_
    simp only [KR1, KR2, KR3, KR4]
    replace e := run_back e e2
    subst e
    refine Fin.pure0 ?_
    first | (simp; done) | (simp <;> grind)
   try simp at k2
   obtain ⟨f2, e2⟩ := NO e2 k2
   try simp at f2
   refine EV.skip ?_
   simp only [KN1, KN2, KN3]
   refine RG ?_
   simp (maxSteps := 2000000) -implicitDefEqProofs [k1, u1, hx2]
   have w2 : IntKind.i64.wrap ((j2 : Int) + 1) = (j2 : Int) + 1 := wrap_in _ (by omega) (by omega)
   refine ⟨⟨j2 + 1, by omega, e2⟩, by dsimp only; omega, ?_⟩
   try dsimp only
   refine Sub.cutF 0 (by simp) ?_ ?_ <;> simp [List.range_succ, toIdx_range, passed, k1, u1, hx2, w2]
  try simp at k1
  have d1 : p0.drop j2 = [] := List.drop_eq_nil_of_le (by omega)
  rw [d1, allField_l2] at e2
  refine EV.exit ?_
  simp -implicitDefEqProofs
  refine ⟨⟨((), ()), e2.symm⟩, ?_⟩
  try dsimp only
  refine Sub.cutF 0 (by simp) ?_ ?_ <;> simp [List.range_succ, toIdx_range, passed]
 rintro ⟨⟨v2, g2⟩, e2⟩
 simp only [KN1, KN2, KN3, KN4]
 replace e := run_on e e2
 try dsimp only at e
 refine SR ?_
 simp (maxSteps := 2000000) -implicitDefEqProofs
 refine EV.ret ?_
 simp only [KR1, KR2, KR3, KR4]
 subst e
 refine Fin.pure0 ?_
 first | (simp; done) | (simp <;> grind)

def allVariant_l2 (p1 : VariantD → Bool) : List VariantD → Ctl (Bool) (Unit)
 | [] => .go ()
 | x2 :: xs2 => (if ¬ ((p1 x2) = true) then .ret false else allVariant_l2 p1 xs2)
def allVariant (p0 : List VariantD) (p1 : VariantD → Bool) : Bool :=
 (Ctl.run (allVariant_l2 p1 p0) fun (v2 : Unit) => true)
theorem w_allVariant0 (p0 : List VariantD) (p1 : VariantD → Bool)  (fid1 : FuncId) (H1 : ∀ (u0 : VariantD), u0 ∈ p0 → QC prog fid1 [.agg [.s u0.name, .i .i64 u0.ty.k, .s u0.ty.name, .ro 3 (u0.ty.l.map tyC)]] [] (.b (p1 u0)) []) : QC prog 62 [.ro 4 (p0.map variantC), .fn fid1 []] [] (.b (allVariant p0 p1)) [] := by
 refine QC.of_body tabOK func62 rfl (by kernel_rfl) ?_
 simp only [f62]
 generalize e : allVariant p0 p1 = R
 unfold allVariant at e
 refine SR ?_
 simp (maxSteps := 2000000) -implicitDefEqProofs
 refine EV.seq (SR ?_)
 simp (maxSteps := 2000000) -implicitDefEqProofs
 obtain ⟨z2, e2, e⟩ := run_split e
 refine EV.nrm (fun v : { v : (Unit) × (Unit) // z2 = .go v.1 } => (fun (v2 : Unit) (g2 : Unit) => (⟨[J, J, J, J, J, J, J, J, J, J, J, J, J, J, J, J, J, J], []⟩ : St)) v.1.1 v.1.2) ?_ ?_
 ·skip
  refine EV.block ?_
  refine EV.loopB (fun x : { x : Nat // x ≤ p0.length ∧ allVariant_l2 p1 (p0.drop x) = z2 } => (fun (j2 : Nat) => (⟨[J, .fn fid1 [], J, J, J, J, J, .ro 4 (p0.map variantC), .i .i64 (p0.length : Int), .i .i64 (j2 : Int), J, J, J, J, J, J, J, J], []⟩ : St)) x.1) (fun x => p0.length - x.1) ⟨0, Nat.zero_le _, e2⟩ ?_ ?_
  ·skip
   try dsimp only
   try dsimp only
   refine Sub.cutF 0 (by simp) ?_ ?_ <;> simp [List.range_succ, toIdx_range, passed]
  rintro ⟨j2, hi2, e2⟩
  simp only at hi2 e2 ⊢
  refine SR ?_
  simp (maxSteps := 2000000) -implicitDefEqProofs
  refine EV.seq ?_
  refine EV.room 7 (by rfl) (fun mj2 => ?_)
  simp at mj2
  refine EV.condT ?_
  simp -implicitDefEqProofs
  refine condT_intro (fun k1 => ?_) (fun k1 => ?_)
  ·try simp at k1
   have u1 : j2 < p0.length := by omega
   obtain ⟨x2, hx2⟩ : ∃ z, p0[j2] = z := ⟨_, rfl⟩
   have mx2 : x2 ∈ p0 := by rw [← hx2]; exact List.getElem_mem _
   rw [List.drop_eq_getElem_cons u1, hx2, allVariant_l2] at e2
   refine EV.skip ?_
   simp only [KN1, KN2, KN3]
   refine EV.seq (EV.block (SR ?_))
   simp (maxSteps := 2000000) -implicitDefEqProofs [k1, u1, hx2]
   refine SR ?_
   simp (maxSteps := 2000000) -implicitDefEqProofs [k1, u1, hx2]
   refine callG_own [] rfl (H1 x2 (by assumption)) ?_ ?_ ?_ ?_ ?_ ?_
   ·simp
   ·simp
   ·simp
   ·simp
   ·simp
   simp (maxSteps := 2000000) -implicitDefEqProofs [k1, u1, hx2, keys, callUpd, List.range_succ]
   refine EV.condT ?_
   simp -implicitDefEqProofs [k1, u1, hx2]
   refine condT_intro (fun k2 => ?_) (fun k2 => ?_)
   ·try simp at k2
    obtain ⟨f2, e2⟩ := PO e2 k2
    try simp at f2
    refine SR ?_
    simp (maxSteps := 2000000) -implicitDefEqProofs [k1, u1, hx2]
    refine EV.ret ?_
    simp only [KR1, KR2, KR3, KR4]
    replace e := run_back e e2
    subst e
    refine Fin.pure0 ?_
    first | (simp; done) | (simp <;> grind)
   try simp at k2
   obtain ⟨f2, e2⟩ := NO e2 k2
   try simp at f2
   refine EV.skip ?_
   simp only [KN1, KN2, KN3]
   refine RG ?_
   simp (maxSteps := 2000000) -implicitDefEqProofs [k1, u1, hx2]
   have w2 : IntKind.i64.wrap ((j2 : Int) + 1) = (j2 : Int) + 1 := wrap_in _ (by omega) (by omega)
   refine ⟨⟨j2 + 1, by omega, e2⟩, by dsimp only; omega, ?_⟩
   try dsimp only
   refine Sub.cutF 0 (by simp) ?_ ?_ <;> simp [List.range_succ, toIdx_range, passed, k1, u1, hx2, w2]
  try simp at k1
  have d1 : p0.drop j2 = [] := List.drop_eq_nil_of_le (by omega)
  rw [d1, allVariant_l2] at e2
  refine EV.exit ?_
  simp -implicitDefEqProofs
  refine ⟨⟨((), ()), e2.symm⟩, ?_⟩
  try dsimp only
  refine Sub.cutF 0 (by simp) ?_ ?_ <;> simp [List.range_succ, toIdx_range, passed]
 rintro ⟨⟨v2, g2⟩, e2⟩
 simp only [KN1, KN2, KN3, KN4]
 replace e := run_on e e2
 try dsimp only at e
 refine SR ?_
 simp (maxSteps := 2000000) -implicitDefEqProofs
 refine EV.ret ?_
 simp only [KR1, KR2, KR3, KR4]
 subst e
 refine Fin.pure0 ?_
 first | (simp; done) | (simp <;> grind)

def allStruct_l2 (p1 : StructD → Bool) : List StructD → Ctl (Bool) (Unit)
 | [] => .go ()
 | x2 :: xs2 => (if ¬ ((p1 x2) = true) then .ret false else allStruct_l2 p1 xs2)
def allStruct (p0 : List StructD) (p1 : StructD → Bool) : Bool :=
 (Ctl.run (allStruct_l2 p1 p0) fun (v2 : Unit) => true)
theorem w_allStruct0 (p0 : List StructD) (p1 : StructD → Bool)  (fid1 : FuncId) (H1 : ∀ (u0 : StructD), u0 ∈ p0 → QC prog fid1 [.agg [.s u0.name, .b u0.drop_, .ro 4 (u0.fields.map fieldC), .i .i64 u0.at_]] [] (.b (p1 u0)) []) : QC prog 67 [.ro 4 (p0.map structC), .fn fid1 []] [] (.b (allStruct p0 p1)) [] := by
 refine QC.of_body tabOK func67 rfl (by kernel_rfl) ?_
 simp only [f67]
 generalize e : allStruct p0 p1 = R
 unfold allStruct at e
 refine SR ?_
 simp (maxSteps := 2000000) -implicitDefEqProofs
 refine EV.seq (SR ?_)
 simp (maxSteps := 2000000) -implicitDefEqProofs
 obtain ⟨z2, e2, e⟩ := run_split e
 refine EV.nrm (fun v : { v : (Unit) × (Unit) // z2 = .go v.1 } => (fun (v2 : Unit) (g2 : Unit) => (⟨[J, J, J, J, J, J, J, J, J, J, J, J, J, J, J, J, J, J], []⟩ : St)) v.1.1 v.1.2) ?_ ?_
 ·skip
  refine EV.block ?_
  refine EV.loopB (fun x : { x : Nat // x ≤ p0.length ∧ allStruct_l2 p1 (p0.drop x) = z2 } => (fun (j2 : Nat) => (⟨[J, .fn fid1 [], J, J, J, J, J, .ro 4 (p0.map structC), .i .i64 (p0.length : Int), .i .i64 (j2 : Int), J, J, J, J, J, J, J, J], []⟩ : St)) x.1) (fun x => p0.length - x.1) ⟨0, Nat.zero_le _, e2⟩ ?_ ?_
  ·skip
   try dsimp only
   try dsimp only
   refine Sub.cutF 0 (by simp) ?_ ?_ <;> simp [List.range_succ, toIdx_range, passed]
  rintro ⟨j2, hi2, e2⟩
  simp only at hi2 e2 ⊢
  refine SR ?_
  simp (maxSteps := 2000000) -implicitDefEqProofs
  refine EV.seq ?_
  refine EV.room 7 (by rfl) (fun mj2 => ?_)
  simp at mj2
  refine EV.condT ?_
  simp -implicitDefEqProofs
  refine condT_intro (fun k1 => ?_) (fun k1 => ?_)
  ·try simp at k1
   have u1 : j2 < p0.length := by omega
   obtain ⟨x2, hx2⟩ : ∃ z, p0[j2] = z := ⟨_, rfl⟩
   have mx2 : x2 ∈ p0 := by rw [← hx2]; exact List.getElem_mem _
   rw [List.drop_eq_getElem_cons u1, hx2, allStruct_l2] at e2
   refine EV.skip ?_
   simp only [KN1, KN2, KN3]
   refine EV.seq (EV.block (SR ?_))
   simp (maxSteps := 2000000) -implicitDefEqProofs [k1, u1, hx2]
   refine SR ?_
   simp (maxSteps := 2000000) -implicitDefEqProofs [k1, u1, hx2]
   refine callG_own [] rfl (H1 x2 (by assumption)) ?_ ?_ ?_ ?_ ?_ ?_
   ·simp
   ·simp
   ·simp
   ·simp
   ·simp
   simp (maxSteps := 2000000) -implicitDefEqProofs [k1, u1, hx2, keys, callUpd, List.range_succ]
   refine EV.condT ?_
   simp -implicitDefEqProofs [k1, u1, hx2]
   refine condT_intro (fun k2 => ?_) (fun k2 => ?_)
   ·try simp at k2
    obtain ⟨f2, e2⟩ := PO e2 k2
    try simp at f2
    refine SR ?_
    simp (maxSteps := 2000000) -implicitDefEqProofs [k1, u1, hx2]
    refine EV.ret ?_
    simp only [KR1, KR2, KR3, KR4]
    replace e := run_back e e2
    subst e
    refine Fin.pure0 ?_
    first | (simp; done) | (simp <;> grind)
   try simp at k2
   obtain ⟨f2, e2⟩ := NO e2 k2
   try simp at f2
   refine EV.skip ?_
   simp only [KN1, KN2, KN3]
   refine RG ?_
   simp (maxSteps := 2000000) -implicitDefEqProofs [k1, u1, hx2]
   have w2 : IntKind.i64.wrap ((j2 : Int) + 1) = (j2 : Int) + 1 := wrap_in _ (by omega) (by omega)
   refine ⟨⟨j2 + 1, by omega, e2⟩, by dsimp only; omega, ?_⟩
   try dsimp only
   refine Sub.cutF 0 (by simp) ?_ ?_ <;> simp [List.range_succ, toIdx_range, passed, k1, u1, hx2, w2]
  try simp at k1
  have d1 : p0.drop j2 = [] := List.drop_eq_nil_of_le (by omega)
  rw [d1, allStruct_l2] at e2
  refine EV.exit ?_
  simp -implicitDefEqProofs
  refine ⟨⟨((), ()), e2.symm⟩, ?_⟩
  try dsimp only
  refine Sub.cutF 0 (by simp) ?_ ?_ <;> simp [List.range_succ, toIdx_range, passed]
 rintro ⟨⟨v2, g2⟩, e2⟩
 simp only [KN1, KN2, KN3, KN4]
 replace e := run_on e e2
 try dsimp only at e
 refine SR ?_
 simp (maxSteps := 2000000) -implicitDefEqProofs
 refine EV.ret ?_
 simp only [KR1, KR2, KR3, KR4]
 subst e
 refine Fin.pure0 ?_
 first | (simp; done) | (simp <;> grind)

def allEnum_l2 (p1 : EnumD → Bool) : List EnumD → Ctl (Bool) (Unit)
 | [] => .go ()
 | x2 :: xs2 => (if ¬ ((p1 x2) = true) then .ret false else allEnum_l2 p1 xs2)
def allEnum (p0 : List EnumD) (p1 : EnumD → Bool) : Bool :=
 (Ctl.run (allEnum_l2 p1 p0) fun (v2 : Unit) => true)
theorem w_allEnum0 (p0 : List EnumD) (p1 : EnumD → Bool)  (fid1 : FuncId) (H1 : ∀ (u0 : EnumD), u0 ∈ p0 → QC prog fid1 [.agg [.s u0.name, .ro 4 (u0.variants.map variantC), .i .i64 u0.at_]] [] (.b (p1 u0)) []) : QC prog 68 [.ro 3 (p0.map enumC), .fn fid1 []] [] (.b (allEnum p0 p1)) [] := by
 refine QC.of_body tabOK func68 rfl (by kernel_rfl) ?_
 simp only [f68]
 generalize e : allEnum p0 p1 = R
 unfold allEnum at e
 refine SR ?_
 simp (maxSteps := 2000000) -implicitDefEqProofs
 refine EV.seq (SR ?_)
 simp (maxSteps := 2000000) -implicitDefEqProofs
 obtain ⟨z2, e2, e⟩ := run_split e
 refine EV.nrm (fun v : { v : (Unit) × (Unit) // z2 = .go v.1 } => (fun (v2 : Unit) (g2 : Unit) => (⟨[J, J, J, J, J, J, J, J, J, J, J, J, J, J, J, J, J, J], []⟩ : St)) v.1.1 v.1.2) ?_ ?_
 ·skip
  refine EV.block ?_
  refine EV.loopB (fun x : { x : Nat // x ≤ p0.length ∧ allEnum_l2 p1 (p0.drop x) = z2 } => (fun (j2 : Nat) => (⟨[J, .fn fid1 [], J, J, J, J, J, .ro 3 (p0.map enumC), .i .i64 (p0.length : Int), .i .i64 (j2 : Int), J, J, J, J, J, J, J, J], []⟩ : St)) x.1) (fun x => p0.length - x.1) ⟨0, Nat.zero_le _, e2⟩ ?_ ?_
  ·skip
   try dsimp only
   try dsimp only
   refine Sub.cutF 0 (by simp) ?_ ?_ <;> simp [List.range_succ, toIdx_range, passed]
  rintro ⟨j2, hi2, e2⟩
  simp only at hi2 e2 ⊢
  refine SR ?_
  simp (maxSteps := 2000000) -implicitDefEqProofs
  refine EV.seq ?_
  refine EV.room 7 (by rfl) (fun mj2 => ?_)
  simp at mj2
  refine EV.condT ?_
  simp -implicitDefEqProofs
  refine condT_intro (fun k1 => ?_) (fun k1 => ?_)
  ·try simp at k1
   have u1 : j2 < p0.length := by omega
   obtain ⟨x2, hx2⟩ : ∃ z, p0[j2] = z := ⟨_, rfl⟩
   have mx2 : x2 ∈ p0 := by rw [← hx2]; exact List.getElem_mem _
   rw [List.drop_eq_getElem_cons u1, hx2, allEnum_l2] at e2
   refine EV.skip ?_
   simp only [KN1, KN2, KN3]
   refine EV.seq (EV.block (SR ?_))
   simp (maxSteps := 2000000) -implicitDefEqProofs [k1, u1, hx2]
   refine SR ?_
   simp (maxSteps := 2000000) -implicitDefEqProofs [k1, u1, hx2]
   refine callG_own [] rfl (H1 x2 (by assumption)) ?_ ?_ ?_ ?_ ?_ ?_
   ·simp
   ·simp
   ·simp
   ·simp
   ·simp
   simp (maxSteps := 2000000) -implicitDefEqProofs [k1, u1, hx2, keys, callUpd, List.range_succ]
   refine EV.condT ?_
   simp -implicitDefEqProofs [k1, u1, hx2]
   refine condT_intro (fun k2 => ?_) (fun k2 => ?_)
   ·try simp at k2
    obtain ⟨f2, e2⟩ := PO e2 k2
    try simp at f2
    refine SR ?_
    simp (maxSteps := 2000000) -implicitDefEqProofs [k1, u1, hx2]
    refine EV.ret ?_
    simp only [KR1, KR2, KR3, KR4]
    replace e := run_back e e2
    subst e
    refine Fin.pure0 ?_
    first | (simp; done) | (simp <;> grind)
   try simp at k2
   obtain ⟨f2, e2⟩ := NO e2 k2
   try simp at f2
   refine EV.skip ?_
   simp only [KN1, KN2, KN3]
   refine RG ?_
   simp (maxSteps := 2000000) -implicitDefEqProofs [k1, u1, hx2]
   have w2 : IntKind.i64.wrap ((j2 : Int) + 1) = (j2 : Int) + 1 := wrap_in _ (by omega) (by omega)
   refine ⟨⟨j2 + 1, by omega, e2⟩, by dsimp only; omega, ?_⟩
   try dsimp only
   refine Sub.cutF 0 (by simp) ?_ ?_ <;> simp [List.range_succ, toIdx_range, passed, k1, u1, hx2, w2]
  try simp at k1
  have d1 : p0.drop j2 = [] := List.drop_eq_nil_of_le (by omega)
  rw [d1, allEnum_l2] at e2
  refine EV.exit ?_
  simp -implicitDefEqProofs
  refine ⟨⟨((), ()), e2.symm⟩, ?_⟩
  try dsimp only
  refine Sub.cutF 0 (by simp) ?_ ?_ <;> simp [List.range_succ, toIdx_range, passed]
 rintro ⟨⟨v2, g2⟩, e2⟩
 simp only [KN1, KN2, KN3, KN4]
 replace e := run_on e e2
 try dsimp only at e
 refine SR ?_
 simp (maxSteps := 2000000) -implicitDefEqProofs
 refine EV.ret ?_
 simp only [KR1, KR2, KR3, KR4]
 subst e
 refine Fin.pure0 ?_
 first | (simp; done) | (simp <;> grind)

def allFn_l2 (p1 : FnD → Bool) : List FnD → Ctl (Bool) (Unit)
 | [] => .go ()
 | x2 :: xs2 => (if ¬ ((p1 x2) = true) then .ret false else allFn_l2 p1 xs2)
def allFn (p0 : List FnD) (p1 : FnD → Bool) : Bool :=
 (Ctl.run (allFn_l2 p1 p0) fun (v2 : Unit) => true)
theorem w_allFn0 (p0 : List FnD) (p1 : FnD → Bool)  (fid1 : FuncId) (H1 : ∀ (u0 : FnD), u0 ∈ p0 → QC prog fid1 [.agg [.s u0.name, .ro 4 (u0.params.map fieldC), .ro 21 (u0.body.map stmtC), .i .i64 u0.at_]] [] (.b (p1 u0)) []) : QC prog 69 [.ro 4 (p0.map fnC), .fn fid1 []] [] (.b (allFn p0 p1)) [] := by
 refine QC.of_body tabOK func69 rfl (by kernel_rfl) ?_
 simp only [f69]
 generalize e : allFn p0 p1 = R
 unfold allFn at e
 refine SR ?_
 simp (maxSteps := 2000000) -implicitDefEqProofs
 refine EV.seq (SR ?_)
 simp (maxSteps := 2000000) -implicitDefEqProofs
 obtain ⟨z2, e2, e⟩ := run_split e
 refine EV.nrm (fun v : { v : (Unit) × (Unit) // z2 = .go v.1 } => (fun (v2 : Unit) (g2 : Unit) => (⟨[J, J, J, J, J, J, J, J, J, J, J, J, J, J, J, J, J, J], []⟩ : St)) v.1.1 v.1.2) ?_ ?_
 ·skip
  refine EV.block ?_
  refine EV.loopB (fun x : { x : Nat // x ≤ p0.length ∧ allFn_l2 p1 (p0.drop x) = z2 } => (fun (j2 : Nat) => (⟨[J, .fn fid1 [], J, J, J, J, J, .ro 4 (p0.map fnC), .i .i64 (p0.length : Int), .i .i64 (j2 : Int), J, J, J, J, J, J, J, J], []⟩ : St)) x.1) (fun x => p0.length - x.1) ⟨0, Nat.zero_le _, e2⟩ ?_ ?_
  ·skip
   try dsimp only
   try dsimp only
   refine Sub.cutF 0 (by simp) ?_ ?_ <;> simp [List.range_succ, toIdx_range, passed]
  rintro ⟨j2, hi2, e2⟩
  simp only at hi2 e2 ⊢
  refine SR ?_
  simp (maxSteps := 2000000) -implicitDefEqProofs
  refine EV.seq ?_
  refine EV.room 7 (by rfl) (fun mj2 => ?_)
  simp at mj2
  refine EV.condT ?_
  simp -implicitDefEqProofs
  refine condT_intro (fun k1 => ?_) (fun k1 => ?_)
  ·try simp at k1
   have u1 : j2 < p0.length := by omega
   obtain ⟨x2, hx2⟩ : ∃ z, p0[j2] = z := ⟨_, rfl⟩
   have mx2 : x2 ∈ p0 := by rw [← hx2]; exact List.getElem_mem _
   rw [List.drop_eq_getElem_cons u1, hx2, allFn_l2] at e2
   refine EV.skip ?_
   simp only [KN1, KN2, KN3]
   refine EV.seq (EV.block (SR ?_))
   simp (maxSteps := 2000000) -implicitDefEqProofs [k1, u1, hx2]
   refine SR ?_
   simp (maxSteps := 2000000) -implicitDefEqProofs [k1, u1, hx2]
   refine callG_own [] rfl (H1 x2 (by assumption)) ?_ ?_ ?_ ?_ ?_ ?_
   ·simp
   ·simp
   ·simp
   ·simp
   ·simp
   simp (maxSteps := 2000000) -implicitDefEqProofs [k1, u1, hx2, keys, callUpd, List.range_succ]
   refine EV.condT ?_
   simp -implicitDefEqProofs [k1, u1, hx2]
   refine condT_intro (fun k2 => ?_) (fun k2 => ?_)
   ·try simp at k2
    obtain ⟨f2, e2⟩ := PO e2 k2
    try simp at f2
    refine SR ?_
    simp (maxSteps := 2000000) -implicitDefEqProofs [k1, u1, hx2]
    refine EV.ret ?_
    simp only [KR1, KR2, KR3, KR4]
    replace e := run_back e e2
    subst e
    refine Fin.pure0 ?_
    first | (simp; done) | (simp <;> grind)
   try simp at k2
   obtain ⟨f2, e2⟩ := NO e2 k2
   try simp at f2
   refine EV.skip ?_
   simp only [KN1, KN2, KN3]
   refine RG ?_
   simp (maxSteps := 2000000) -implicitDefEqProofs [k1, u1, hx2]
   have w2 : IntKind.i64.wrap ((j2 : Int) + 1) = (j2 : Int) + 1 := wrap_in _ (by omega) (by omega)
   refine ⟨⟨j2 + 1, by omega, e2⟩, by dsimp only; omega, ?_⟩
   try dsimp only
   refine Sub.cutF 0 (by simp) ?_ ?_ <;> simp [List.range_succ, toIdx_range, passed, k1, u1, hx2, w2]
  try simp at k1
  have d1 : p0.drop j2 = [] := List.drop_eq_nil_of_le (by omega)
  rw [d1, allFn_l2] at e2
  refine EV.exit ?_
  simp -implicitDefEqProofs
  refine ⟨⟨((), ()), e2.symm⟩, ?_⟩
  try dsimp only
  refine Sub.cutF 0 (by simp) ?_ ?_ <;> simp [List.range_succ, toIdx_range, passed]
 rintro ⟨⟨v2, g2⟩, e2⟩
 simp only [KN1, KN2, KN3, KN4]
 replace e := run_on e e2
 try dsimp only at e
 refine SR ?_
 simp (maxSteps := 2000000) -implicitDefEqProofs
 refine EV.ret ?_
 simp only [KR1, KR2, KR3, KR4]
 subst e
 refine Fin.pure0 ?_
 first | (simp; done) | (simp <;> grind)

def tValid_1 (p0 : StructD) : Bool :=
 ((tGreat p0.name) && (allField p0.fields tValidField))
theorem w_tValid_1 (p0 : StructD)  : QC prog 57 [.agg [.s p0.name, .b p0.drop_, .ro 4 (p0.fields.map fieldC), .i .i64 p0.at_]] [] (.b (tValid_1 p0)) [] := by
 refine QC.of_body tabOK func57 rfl (by kernel_rfl) ?_
 simp only [f57]
 generalize e : tValid_1 p0 = R
 unfold tValid_1 at e
 refine SR ?_
 simp (maxSteps := 2000000) -implicitDefEqProofs
 refine EV.seq ?_
 refine EV.nrm (fun _ : Unit => (⟨[J, J, .b ((tGreat p0.name) && (allField p0.fields tValidField)), J, J, J, J, J, J, J, J], []⟩ : St)) ?_ ?_
 ·skip
  cases k2 : (tGreat p0.name)
  ·skip
   have kk2 := k2
   try simp at kk2
   refine RG ?_
   simp (maxSteps := 2000000) -implicitDefEqProofs +contextual [k2, kk2]
   refine callG_fun (w_tGreat p0.name) ?_ ?_
   ·first | (simp; done) | (simp [k2, kk2]; done)
   simp (maxSteps := 2000000) -implicitDefEqProofs +contextual [k2, kk2]
   refine ⟨(), ?_⟩
   try dsimp only
   refine Sub.cutF 0 (by simp) ?_ ?_ <;> simp [List.range_succ, toIdx_range, passed, k2, kk2]
  have kk2 := k2
  try simp at kk2
  refine RG ?_
  simp (maxSteps := 2000000) -implicitDefEqProofs +contextual [k2, kk2]
  refine callG_fun (w_tGreat p0.name) ?_ ?_
  ·first | (simp; done) | (simp [k2, kk2]; done)
  simp (maxSteps := 2000000) -implicitDefEqProofs +contextual [k2, kk2]
  refine callG_own [] rfl (w_allField0 p0.fields tValidField 60 (fun u0 h0 => w_tValidField  u0)) ?_ ?_ ?_ ?_ ?_ ?_
  ·simp
  ·simp
  ·simp
  ·simp
  ·simp
  simp (maxSteps := 2000000) -implicitDefEqProofs +contextual [k2, kk2, keys, callUpd, List.range_succ]
  refine ⟨(), ?_⟩
  try dsimp only
  refine Sub.cutF 0 (by simp) ?_ ?_ <;> simp [List.range_succ, toIdx_range, passed, k2, kk2]
 rintro _
 simp only [KN1, KN2, KN3, KN4]
 refine EV.ret ?_
 simp only [KR1, KR2, KR3, KR4]
 subst e
 refine Fin.pure0 ?_
 first | (simp; done) | (simp <;> grind)

def tValid_2 (p0 : EnumD) : Bool :=
 ((tGreat p0.name) && (allVariant p0.variants tValidVariant))
theorem w_tValid_2 (p0 : EnumD)  : QC prog 61 [.agg [.s p0.name, .ro 4 (p0.variants.map variantC), .i .i64 p0.at_]] [] (.b (tValid_2 p0)) [] := by
 refine QC.of_body tabOK func61 rfl (by kernel_rfl) ?_
 simp only [f61]
 generalize e : tValid_2 p0 = R
 unfold tValid_2 at e
 refine SR ?_
 simp (maxSteps := 2000000) -implicitDefEqProofs
 refine EV.seq ?_
 refine EV.nrm (fun _ : Unit => (⟨[J, J, .b ((tGreat p0.name) && (allVariant p0.variants tValidVariant)), J, J, J, J, J, J, J, J], []⟩ : St)) ?_ ?_
 ·skip
  cases k2 : (tGreat p0.name)
  ·skip
   have kk2 := k2
   try simp at kk2
   refine RG ?_
   simp (maxSteps := 2000000) -implicitDefEqProofs +contextual [k2, kk2]
   refine callG_fun (w_tGreat p0.name) ?_ ?_
   ·first | (simp; done) | (simp [k2, kk2]; done)
   simp (maxSteps := 2000000) -implicitDefEqProofs +contextual [k2, kk2]
   refine ⟨(), ?_⟩
   try dsimp only
   refine Sub.cutF 0 (by simp) ?_ ?_ <;> simp [List.range_succ, toIdx_range, passed, k2, kk2]
  have kk2 := k2
  try simp at kk2
  refine RG ?_
  simp (maxSteps := 2000000) -implicitDefEqProofs +contextual [k2, kk2]
  refine callG_fun (w_tGreat p0.name) ?_ ?_
  ·first | (simp; done) | (simp [k2, kk2]; done)
  simp (maxSteps := 2000000) -implicitDefEqProofs +contextual [k2, kk2]
  refine callG_own [] rfl (w_allVariant0 p0.variants tValidVariant 63 (fun u0 h0 => w_tValidVariant  u0)) ?_ ?_ ?_ ?_ ?_ ?_
  ·simp
  ·simp
  ·simp
  ·simp
  ·simp
  simp (maxSteps := 2000000) -implicitDefEqProofs +contextual [k2, kk2, keys, callUpd, List.range_succ]
  refine ⟨(), ?_⟩
  try dsimp only
  refine Sub.cutF 0 (by simp) ?_ ?_ <;> simp [List.range_succ, toIdx_range, passed, k2, kk2]
 rintro _
 simp only [KN1, KN2, KN3, KN4]
 refine EV.ret ?_
 simp only [KR1, KR2, KR3, KR4]
 subst e
 refine Fin.pure0 ?_
 first | (simp; done) | (simp <;> grind)

def tValid_3 (p0 : FnD) : Bool :=
 (((tSmall p0.name) && (allField p0.params tValidField)) && (tValidBlock p0.body 1))
theorem w_tValid_3 (p0 : FnD)  : QC prog 64 [.agg [.s p0.name, .ro 4 (p0.params.map fieldC), .ro 21 (p0.body.map stmtC), .i .i64 p0.at_]] [] (.b (tValid_3 p0)) [] := by
 refine QC.of_body tabOK func64 rfl (by kernel_rfl) ?_
 simp only [f64]
 generalize e : tValid_3 p0 = R
 unfold tValid_3 at e
 refine SR ?_
 simp (maxSteps := 2000000) -implicitDefEqProofs
 refine EV.seq ?_
 refine EV.nrm (fun _ : Unit => (⟨[J, J, .b (((tSmall p0.name) && (allField p0.params tValidField)) && (tValidBlock p0.body 1)), J, J, J, J, J, J, J, J, J, J, J, J, J], []⟩ : St)) ?_ ?_
 ·skip
  cases k2 : (tSmall p0.name)
  ·skip
   have kk2 := k2
   try simp at kk2
   refine RG ?_
   simp (maxSteps := 2000000) -implicitDefEqProofs +contextual [k2, kk2]
   refine callG_fun (w_tSmall p0.name) ?_ ?_
   ·first | (simp; done) | (simp [k2, kk2]; done)
   simp (maxSteps := 2000000) -implicitDefEqProofs +contextual [k2, kk2]
   refine ⟨(), ?_⟩
   try dsimp only
   refine Sub.cutF 0 (by simp) ?_ ?_ <;> simp [List.range_succ, toIdx_range, passed, k2, kk2]
  have kk2 := k2
  try simp at kk2
  cases k3 : (allField p0.params tValidField)
  ·skip
   have kk3 := k3
   try simp at kk3
   refine RG ?_
   simp (maxSteps := 2000000) -implicitDefEqProofs +contextual [k2, kk2, k3, kk3]
   refine callG_fun (w_tSmall p0.name) ?_ ?_
   ·first | (simp; done) | (simp [k2, kk2, k3, kk3]; done)
   simp (maxSteps := 2000000) -implicitDefEqProofs +contextual [k2, kk2, k3, kk3]
   refine callG_own [] rfl (w_allField0 p0.params tValidField 60 (fun u0 h0 => w_tValidField  u0)) ?_ ?_ ?_ ?_ ?_ ?_
   ·simp
   ·simp
   ·simp
   ·simp
   ·simp
   simp (maxSteps := 2000000) -implicitDefEqProofs +contextual [k2, kk2, k3, kk3, keys, callUpd, List.range_succ]
   refine ⟨(), ?_⟩
   try dsimp only
   refine Sub.cutF 0 (by simp) ?_ ?_ <;> simp [List.range_succ, toIdx_range, passed, k2, kk2, k3, kk3]
  have kk3 := k3
  try simp at kk3
  refine RG ?_
  simp (maxSteps := 2000000) -implicitDefEqProofs +contextual [k2, kk2, k3, kk3]
  refine callG_fun (w_tSmall p0.name) ?_ ?_
  ·first | (simp; done) | (simp [k2, kk2, k3, kk3]; done)
  simp (maxSteps := 2000000) -implicitDefEqProofs +contextual [k2, kk2, k3, kk3]
  refine callG_own [] rfl (w_allField0 p0.params tValidField 60 (fun u0 h0 => w_tValidField  u0)) ?_ ?_ ?_ ?_ ?_ ?_
  ·simp
  ·simp
  ·simp
  ·simp
  ·simp
  simp (maxSteps := 2000000) -implicitDefEqProofs +contextual [k2, kk2, k3, kk3, keys, callUpd, List.range_succ]
  refine callG_fun (w_tValidBlock p0.body 1) ?_ ?_
  ·first | (simp; done) | (simp [k2, kk2, k3, kk3]; done)
  simp (maxSteps := 2000000) -implicitDefEqProofs +contextual [k2, kk2, k3, kk3]
  refine ⟨(), ?_⟩
  try dsimp only
  refine Sub.cutF 0 (by simp) ?_ ?_ <;> simp [List.range_succ, toIdx_range, passed, k2, kk2, k3, kk3]
 rintro _
 simp only [KN1, KN2, KN3, KN4]
 refine EV.ret ?_
 simp only [KR1, KR2, KR3, KR4]
 subst e
 refine Fin.pure0 ?_
 first | (simp; done) | (simp <;> grind)

def tValid05 (p0 : SourceD) : Bool :=
 (((allStruct p0.structs tValid_1) && (allEnum p0.enums tValid_2)) && (allFn p0.fns tValid_3))
theorem w_tValid05 (p0 : SourceD)  : QC prog 15 [.agg [.ro 4 (p0.structs.map structC), .ro 3 (p0.enums.map enumC), .ro 4 (p0.fns.map fnC)]] [] (.b (tValid05 p0)) [] := by
 refine QC.of_body tabOK func15 rfl (by kernel_rfl) ?_
 simp only [f15]
 generalize e : tValid05 p0 = R
 unfold tValid05 at e
 refine SR ?_
 simp (maxSteps := 2000000) -implicitDefEqProofs
 refine SR ?_
 simp (maxSteps := 2000000) -implicitDefEqProofs
 refine SR ?_
 simp (maxSteps := 2000000) -implicitDefEqProofs
 refine SR ?_
 simp (maxSteps := 2000000) -implicitDefEqProofs
 refine EV.seq ?_
 refine EV.nrm (fun _ : Unit => (⟨[J, J, .b (((allStruct p0.structs tValid_1) && (allEnum p0.enums tValid_2)) && (allFn p0.fns tValid_3)), J, J, J, J, J, J, J, J, J, J, J, J, J, J, J, J, J, J, J], []⟩ : St)) ?_ ?_
 ·skip
  cases k2 : (allStruct p0.structs tValid_1)
  ·skip
   have kk2 := k2
   try simp at kk2
   refine RG ?_
   simp (maxSteps := 2000000) -implicitDefEqProofs +contextual [k2, kk2]
   refine callG_own [] rfl (w_allStruct0 p0.structs tValid_1 57 (fun u0 h0 => w_tValid_1  u0)) ?_ ?_ ?_ ?_ ?_ ?_
   ·simp
   ·simp
   ·simp
   ·simp
   ·simp
   simp (maxSteps := 2000000) -implicitDefEqProofs +contextual [k2, kk2, keys, callUpd, List.range_succ]
   refine ⟨(), ?_⟩
   try dsimp only
   refine Sub.cutF 0 (by simp) ?_ ?_ <;> simp [List.range_succ, toIdx_range, passed, k2, kk2]
  have kk2 := k2
  try simp at kk2
  cases k3 : (allEnum p0.enums tValid_2)
  ·skip
   have kk3 := k3
   try simp at kk3
   refine RG ?_
   simp (maxSteps := 2000000) -implicitDefEqProofs +contextual [k2, kk2, k3, kk3]
   refine callG_own [] rfl (w_allStruct0 p0.structs tValid_1 57 (fun u0 h0 => w_tValid_1  u0)) ?_ ?_ ?_ ?_ ?_ ?_
   ·simp
   ·simp
   ·simp
   ·simp
   ·simp
   simp (maxSteps := 2000000) -implicitDefEqProofs +contextual [k2, kk2, k3, kk3, keys, callUpd, List.range_succ]
   refine callG_own [] rfl (w_allEnum0 p0.enums tValid_2 61 (fun u0 h0 => w_tValid_2  u0)) ?_ ?_ ?_ ?_ ?_ ?_
   ·simp
   ·simp
   ·simp
   ·simp
   ·simp
   simp (maxSteps := 2000000) -implicitDefEqProofs +contextual [k2, kk2, k3, kk3, keys, callUpd, List.range_succ]
   refine ⟨(), ?_⟩
   try dsimp only
   refine Sub.cutF 0 (by simp) ?_ ?_ <;> simp [List.range_succ, toIdx_range, passed, k2, kk2, k3, kk3]
  have kk3 := k3
  try simp at kk3
  refine RG ?_
  simp (maxSteps := 2000000) -implicitDefEqProofs +contextual [k2, kk2, k3, kk3]
  refine callG_own [] rfl (w_allStruct0 p0.structs tValid_1 57 (fun u0 h0 => w_tValid_1  u0)) ?_ ?_ ?_ ?_ ?_ ?_
  ·simp
  ·simp
  ·simp
  ·simp
  ·simp
  simp (maxSteps := 2000000) -implicitDefEqProofs +contextual [k2, kk2, k3, kk3, keys, callUpd, List.range_succ]
  refine callG_own [] rfl (w_allEnum0 p0.enums tValid_2 61 (fun u0 h0 => w_tValid_2  u0)) ?_ ?_ ?_ ?_ ?_ ?_
  ·simp
  ·simp
  ·simp
  ·simp
  ·simp
  simp (maxSteps := 2000000) -implicitDefEqProofs +contextual [k2, kk2, k3, kk3, keys, callUpd, List.range_succ]
  refine callG_own [] rfl (w_allFn0 p0.fns tValid_3 64 (fun u0 h0 => w_tValid_3  u0)) ?_ ?_ ?_ ?_ ?_ ?_
  ·simp
  ·simp
  ·simp
  ·simp
  ·simp
  simp (maxSteps := 2000000) -implicitDefEqProofs +contextual [k2, kk2, k3, kk3, keys, callUpd, List.range_succ]
  refine ⟨(), ?_⟩
  try dsimp only
  refine Sub.cutF 0 (by simp) ?_ ?_ <;> simp [List.range_succ, toIdx_range, passed, k2, kk2, k3, kk3]
 ·skip
  rintro _
  simp only [KN1, KN2, KN3, KN4]
  refine EV.ret ?_
  simp only [KR1, KR2, KR3, KR4]
  subst e
  refine Fin.pure0 ?_
  first | (simp; done) | (simp <;> grind)
end
end Go.Proofs.Tryz
end
