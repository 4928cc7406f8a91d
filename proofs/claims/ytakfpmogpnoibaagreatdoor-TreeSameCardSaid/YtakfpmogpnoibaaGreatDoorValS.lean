/- The contract of the document's answer for a source that could have been read. -/
import Derived.Test.YtakfpmogpnoibaaGreatDoorValR
set_option linter.unusedVariables false
set_option linter.unusedSimpArgs false
set_option linter.constructorNameAsVariable false
section
namespace Go.Proofs.Tryz
open Go Go.AM
attribute [local simp] wpG_op wpG_nil contG_some wpG_guard guardG_v guardG_o guardG_tup gval pureOp stepG_if isPick pickG_pick pickB_b pickOK isCall step_move step_assign step_alloc step_box boxV_some step_load step_store step_binOp step_unOp step_fieldAddr faV step_indexAddr ixA_slc ixA_arr step_extract extV_tup step_nilCheck ncV_ptr ncV_rp ncV_fn ncV_mp step_build buildV step_buildSlice bsV step_index ixV_arr ixV_str step_append apB step_makeSlice msV_i step_makeFunc over step_len step_makeMap mmV step_mapUpdate step_insert muA_map muB_mp step_lookup lkA_map lkB_mp step_slice slcV_s slcV_sl slcV_ro cutB_some slObV_arr bound_none bound_some bndV_i lenB_str lenB_ro lenB_sl lenB_nil lenB_z ld_ptr ld_rp offV_ptr offV_rp idxV_ro idxV_sl unV_not unV_neg binV_int binV_str binV_eqlb binV_neqb intOp strOp St.put updL setOb St.ev toV St.lk cellsOf AM.valOf TK.agg stv fillV places TI.zero condT_true condT_false finS resL resSlot packV ren ren1 ren0 Value.cells builtinV appendV elemsOf keepT room_of wrap_in toIdx passed Function.comp_def take_len_map lenV touchOf hid tab1 tab2 tab3 tab4 tab5 tab6 tab7 tab8 tab9 tab20 tab22 tab23 tab24 tab26 tab32 tab33 tab35 tab36 tab37 tab39 tab41 tab42 tab43 tab45 tab46 tab47 tab49 tab50 tab52 tab57 tab58 tab60 tab63 tab65 tab66 tab68 tab70 tab74 tab79 tab83 tab86 tab87 tab89 tab92 tab100 tab101 tab102 tab103 tab105 tab107 tab108 tab113 tab114 tab116 tab117 tab118 tab122 tab123 tab125 tab127 tab130 tab132 tab136 tab138 tab139 tab141 tab142 tab144 tab146 tab148 tab173 tab175 tab178 tab179 tab180 tab182 tab189 tab215 tab219 tab220 tab224 tab225 tab241 tab244 tab247 tab253 tab261 tab262 tab265 tab266 armC_eq blockC_eq bodyC_eq enumC_eq fieldC_eq fnC_eq inC_eq localC_eq mirBodyC_eq operC_eq placeC_eq rvC_eq sourceC_eq spotC_eq stepC_eq stmtC_eq structC_eq tmC_eq tyC_eq useC_eq valueC_eq variantC_eq binV_eqls binV_neqs cutL_nil cutL_junk cutL_cons ren_arr ren_gone ren_unborn ren_var ren_row step_convert cvV_i cvV_sl cvV_s cvK_slc cvE_u8 bytesOf bor1 bor2 bor3 bor4
set_option linter.unusedSimpArgs false
set_option linter.unusedVariables false
set_option maxRecDepth 10000
set_option maxHeartbeats 4000000
noncomputable section
def rValidFields_l2  : List FieldD → Ctl (Bool) (Unit)
 | [] => .go ()
 | x2 :: xs2 => (if (¬ ((rSmall x2.name) = true)) ∨ (¬ ((rValidTy x2.ty 0) = true)) then .ret false else rValidFields_l2 xs2)
def rValidFields (p0 : List FieldD) : Bool :=
 (Ctl.run (rValidFields_l2 p0) fun (v2 : Unit) => true)
set_option maxHeartbeats 40000000 in
theorem w_rValidFields (p0 : List FieldD)  : QC prog 39 [.ro 4 (p0.map fieldC)] [] (.b (rValidFields p0)) [] := by
 refine QC.of_body tabOK func39 rfl (by kernel_rfl) ?_
 simp only [f39]
 generalize e : rValidFields p0 = R
 unfold rValidFields at e
 refine EV.seq (EV.regionG tabOK ?_)
 simp (maxSteps := 2000000) -implicitDefEqProofs
 refine EV.seq (EV.seq (EV.regionG tabOK ?_))
 simp (maxSteps := 2000000) -implicitDefEqProofs
 obtain ⟨z2, e2, e⟩ := run_split e
 refine EV.nrm (fun v : { v : (Unit) × (Unit) // z2 = .go v.1 } => (fun (v2 : Unit) (g2 : Unit) => (⟨[J, J, J, J, J, J, J, J, J, J, J, J, J, J, J, J, J, J, J, J, J, J, J, J, J, J], []⟩ : St)) v.1.1 v.1.2) ?_ ?_
 ·skip
  refine EV.block ?_
  refine EV.loopB (fun x : { x : Nat // x ≤ p0.length ∧ rValidFields_l2 (p0.drop x) = z2 } => (fun (j2 : Nat) => (⟨[.ro 4 (p0.map fieldC), J, J, .i .i64 (j2 : Int), J, J, J, J, J, J, J, J, J, J, J, J, J, J, J, J, J, J, J, J, J, J], []⟩ : St)) x.1) (fun x => p0.length - x.1) ⟨0, Nat.zero_le _, e2⟩ ?_ ?_
  ·skip
   try dsimp only
   try dsimp only
   refine Sub.cutF 0 (by simp) ?_ ?_ <;> simp [List.range_succ, toIdx_range, passed]
  rintro ⟨j2, hi2, e2⟩
  simp only at hi2 e2 ⊢
  refine EV.seq (EV.seq (EV.regionG tabOK ?_))
  simp (maxSteps := 2000000) -implicitDefEqProofs
  refine EV.room 0 (by rfl) (fun mj2 => ?_)
  simp at mj2
  refine EV.condT ?_
  simp -implicitDefEqProofs
  refine condT_intro (fun k1 => ?_) (fun k1 => ?_)
  ·try simp at k1
   have u1 : j2 < p0.length := by omega
   obtain ⟨x2, hx2⟩ : ∃ z, p0[j2] = z := ⟨_, rfl⟩
   have mx2 : x2 ∈ p0 := by rw [← hx2]; exact List.getElem_mem _
   rw [List.drop_eq_getElem_cons u1, hx2, rValidFields_l2] at e2
   refine EV.skip ?_
   simp only [thenK_normal, blockK_normal, scopeK_normal]
   refine EV.seq (EV.block (EV.seq ?_))
   refine EV.nrm (fun _ : Unit => (⟨[.ro 4 (p0.map fieldC), J, J, .i .i64 (j2 : Int), J, J, J, J, J, J, J, J, J, J, J, J, J, J, J, J, J, J, J, J, J, .b ((!(rSmall x2.name)) || (!(rValidTy x2.ty 0)))], []⟩ : St)) ?_ ?_
   ·skip
    cases k3 : (rSmall x2.name)
    ·skip
     have kk3 := k3
     try simp at kk3
     refine EV.regionG tabOK ?_
     simp (maxSteps := 2000000) -implicitDefEqProofs +contextual [k1, u1, hx2, k3, kk3]
     refine callG_fun (w_rSmall x2.name) ?_ ?_
     ·first | (simp; done) | (simp [k1, u1, hx2, k3, kk3]; done)
     simp (maxSteps := 2000000) -implicitDefEqProofs +contextual [k1, u1, hx2, k3, kk3]
     refine ⟨(), ?_⟩
     try dsimp only
     refine Sub.cutF 0 (by simp) ?_ ?_ <;> simp [List.range_succ, toIdx_range, passed, k1, u1, hx2, k3, kk3]
    have kk3 := k3
    try simp at kk3
    refine EV.regionG tabOK ?_
    simp (maxSteps := 2000000) -implicitDefEqProofs +contextual [k1, u1, hx2, k3, kk3]
    refine callG_fun (w_rSmall x2.name) ?_ ?_
    ·first | (simp; done) | (simp [k1, u1, hx2, k3, kk3]; done)
    simp (maxSteps := 2000000) -implicitDefEqProofs +contextual [k1, u1, hx2, k3, kk3]
    refine callG_fun (w_rValidTy x2.ty 0) ?_ ?_
    ·first | (simp; done) | (simp [k1, u1, hx2, k3, kk3]; done)
    simp (maxSteps := 2000000) -implicitDefEqProofs +contextual [k1, u1, hx2, k3, kk3]
    refine ⟨(), ?_⟩
    try dsimp only
    refine Sub.cutF 0 (by simp) ?_ ?_ <;> simp [List.range_succ, toIdx_range, passed, k1, u1, hx2, k3, kk3]
   rintro _
   simp only [thenK_normal, blockK_normal, scopeK_normal, bodyK_normal]
   refine EV.condT ?_
   simp -implicitDefEqProofs [k1, u1, hx2]
   refine condT_intro (fun k4 => ?_) (fun k4 => ?_)
   ·try simp at k4
    obtain ⟨f4, e2⟩ := pos_on2 e2 (by first | simpa using k4 | grind)
    try simp at f4
    refine EV.seq (EV.regionG tabOK ?_)
    simp (maxSteps := 2000000) -implicitDefEqProofs [k1, u1, hx2]
    refine EV.ret ?_
    simp only [thenK_ret, blockK_ret, scopeK_ret, bodyK_ret]
    replace e := run_back e e2
    subst e
    refine Fin.pure0 ?_
    first | (simp; done) | (simp <;> grind)
   try simp at k4
   obtain ⟨f4, e2⟩ := neg_on2 e2 (by first | simpa using k4 | grind)
   try simp at f4
   refine EV.skip ?_
   simp only [thenK_normal, blockK_normal, scopeK_normal]
   refine EV.regionG tabOK ?_
   simp (maxSteps := 2000000) -implicitDefEqProofs [k1, u1, hx2]
   have w2 : IntKind.i64.wrap ((j2 : Int) + 1) = (j2 : Int) + 1 := wrap_in _ (by omega) (by omega)
   refine ⟨⟨j2 + 1, by omega, e2⟩, by dsimp only; omega, ?_⟩
   try dsimp only
   refine Sub.cutF 0 (by simp) ?_ ?_ <;> simp [List.range_succ, toIdx_range, passed, k1, u1, hx2, w2]
  try simp at k1
  have d1 : p0.drop j2 = [] := List.drop_eq_nil_of_le (by omega)
  rw [d1, rValidFields_l2] at e2
  refine EV.exit ?_
  simp -implicitDefEqProofs
  refine ⟨⟨((), ()), e2.symm⟩, ?_⟩
  try dsimp only
  refine Sub.cutF 0 (by simp) ?_ ?_ <;> simp [List.range_succ, toIdx_range, passed]
 rintro ⟨⟨v2, g2⟩, e2⟩
 simp only [thenK_normal, blockK_normal, scopeK_normal, bodyK_normal]
 replace e := run_on e e2
 try dsimp only at e
 refine EV.seq (EV.regionG tabOK ?_)
 simp (maxSteps := 2000000) -implicitDefEqProofs
 refine EV.ret ?_
 simp only [thenK_ret, blockK_ret, scopeK_ret, bodyK_ret]
 subst e
 refine Fin.pure0 ?_
 first | (simp; done) | (simp <;> grind)

def rValid05_l2  : List StructD → Ctl (Bool) (Unit)
 | [] => .go ()
 | x2 :: xs2 => (if (¬ ((rGreat x2.name) = true)) ∨ (¬ ((rValidFields x2.fields) = true)) then .ret false else rValid05_l2 xs2)
def rValid05_l12  : List VariantD → Ctl (Bool) (Unit)
 | [] => .go ()
 | x12 :: xs12 => (if (¬ ((rGreat x12.name) = true)) ∨ ((¬ ((rNoTy x12.ty) = true)) ∧ (¬ ((rValidTy x12.ty 0) = true))) then .ret false else rValid05_l12 xs12)
def rValid05_l7  : List EnumD → Ctl (Bool) (Unit)
 | [] => .go ()
 | x7 :: xs7 => (if ¬ ((rGreat x7.name) = true) then .ret false else (Ctl.bind (rValid05_l12 x7.variants) fun (v12 : Unit) => rValid05_l7 xs7))
def rValid05_l18  : List FnD → Ctl (Bool) (Unit)
 | [] => .go ()
 | x18 :: xs18 => (if ((¬ ((rSmall x18.name) = true)) ∨ (¬ ((rValidFields x18.params) = true))) ∨ (¬ ((rValidBlock x18.body 1) = true)) then .ret false else rValid05_l18 xs18)
def rValid05 (p0 : SourceD) : Bool :=
 (Ctl.run (rValid05_l2 p0.structs) fun (v2 : Unit) => (Ctl.run (rValid05_l7 p0.enums) fun (v7 : Unit) => (Ctl.run (rValid05_l18 p0.fns) fun (v18 : Unit) => true)))
set_option maxHeartbeats 40000000 in
theorem w_rValid05 (p0 : SourceD)  : QC prog 13 [.agg [.ro 4 (p0.structs.map structC), .ro 3 (p0.enums.map enumC), .ro 4 (p0.fns.map fnC)]] [] (.b (rValid05 p0)) [] := by
 refine QC.of_body tabOK func13 rfl (by kernel_rfl) ?_
 simp only [f13]
 generalize e : rValid05 p0 = R
 unfold rValid05 at e
 refine EV.seq (EV.regionG tabOK ?_)
 simp (maxSteps := 2000000) -implicitDefEqProofs
 refine EV.seq (EV.seq (EV.regionG tabOK ?_))
 simp (maxSteps := 2000000) -implicitDefEqProofs
 obtain ⟨z2, e2, e⟩ := run_split e
 refine EV.nrm (fun v : { v : (Unit) × (Unit) // z2 = .go v.1 } => (fun (v2 : Unit) (g2 : Unit) => (⟨[J, .ptr 0 0 0 0, J, J, J, J, J, J, J, J, J, J, J, J, J, J, J, J, J, J, J, J, J, J, J, J, J, J, J, J, J, J, J, J, J, J, J, J, J, J, J, J, J, J, J, J, J, J, J, J, J, J, J, J, J, J, J, J, J, J, J, J, J, J, J, J, J, J, J, J, J, J, J, J, J, J, J, J, J, J, J, J, J, J, J, J, J, J, J, J, J, J, J, J, J, J, J, J, J, J, J, J, J, J, J, J, J, J, J, J, J, J, J, J, J, J, J, J, J], [.arr 0 3 [[.ro 4 (p0.structs.map structC), .ro 3 (p0.enums.map enumC), .ro 4 (p0.fns.map fnC)]]]⟩ : St)) v.1.1 v.1.2) ?_ ?_
 ·skip
  refine EV.block ?_
  refine EV.loopB (fun x : { x : Nat // x ≤ p0.structs.length ∧ rValid05_l2 (p0.structs.drop x) = z2 } => (fun (j2 : Nat) => (⟨[J, .ptr 0 0 0 0, J, .i .i64 (j2 : Int), J, J, J, J, J, J, J, J, J, J, J, J, J, J, J, J, J, J, J, J, J, J, J, J, J, J, J, J, J, J, J, J, J, J, J, J, J, J, J, J, J, J, J, J, J, J, J, J, J, J, J, J, J, J, J, J, J, J, J, J, J, J, J, J, J, J, J, J, J, J, J, J, J, J, J, J, J, J, J, J, J, J, J, J, J, J, J, J, J, J, J, J, J, J, J, J, J, J, J, J, J, J, J, J, J, J, J, J, J, J, J, J, J, J, J], [.arr 0 3 [[.ro 4 (p0.structs.map structC), .ro 3 (p0.enums.map enumC), .ro 4 (p0.fns.map fnC)]]]⟩ : St)) x.1) (fun x => p0.structs.length - x.1) ⟨0, Nat.zero_le _, e2⟩ ?_ ?_
  ·skip
   try dsimp only
   try dsimp only
   refine Sub.cutF 1 (by simp) ?_ ?_ <;> simp [List.range_succ, toIdx_range, passed]
  rintro ⟨j2, hi2, e2⟩
  simp only at hi2 e2 ⊢
  refine EV.seq (EV.seq (EV.regionG tabOK ?_))
  simp (maxSteps := 2000000) -implicitDefEqProofs
  refine EV.room 10 (by rfl) (fun mj2 => ?_)
  simp at mj2
  refine EV.condT ?_
  simp -implicitDefEqProofs
  refine condT_intro (fun k1 => ?_) (fun k1 => ?_)
  ·try simp at k1
   have u1 : j2 < p0.structs.length := by omega
   obtain ⟨x2, hx2⟩ : ∃ z, p0.structs[j2] = z := ⟨_, rfl⟩
   have mx2 : x2 ∈ p0.structs := by rw [← hx2]; exact List.getElem_mem _
   rw [List.drop_eq_getElem_cons u1, hx2, rValid05_l2] at e2
   refine EV.skip ?_
   simp only [thenK_normal, blockK_normal, scopeK_normal]
   refine EV.seq (EV.block (EV.seq ?_))
   refine EV.nrm (fun _ : Unit => (⟨[J, .ptr 0 0 0 0, J, .i .i64 (j2 : Int), J, J, J, J, J, J, J, J, J, J, J, J, J, J, J, J, J, J, J, J, J, J, J, J, J, J, J, J, .b ((!(rGreat x2.name)) || (!(rValidFields x2.fields))), J, J, J, J, J, J, J, J, J, J, J, J, J, J, J, J, J, J, J, J, J, J, J, J, J, J, J, J, J, J, J, J, J, J, J, J, J, J, J, J, J, J, J, J, J, J, J, J, J, J, J, J, J, J, J, J, J, J, J, J, J, J, J, J, J, J, J, J, J, J, J, J, J, J, J, J, J, J, J, J, J, J, J, J, J, J], [.arr 0 3 [[.ro 4 (p0.structs.map structC), .ro 3 (p0.enums.map enumC), .ro 4 (p0.fns.map fnC)]]]⟩ : St)) ?_ ?_
   ·skip
    cases k3 : (rGreat x2.name)
    ·skip
     have kk3 := k3
     try simp at kk3
     refine EV.regionG tabOK ?_
     simp (maxSteps := 2000000) -implicitDefEqProofs +contextual [k1, u1, hx2, k3, kk3]
     refine callG_fun (w_rGreat x2.name) ?_ ?_
     ·first | (simp; done) | (simp [k1, u1, hx2, k3, kk3]; done)
     simp (maxSteps := 2000000) -implicitDefEqProofs +contextual [k1, u1, hx2, k3, kk3]
     refine ⟨(), ?_⟩
     try dsimp only
     refine Sub.cutF 1 (by simp) ?_ ?_ <;> simp [List.range_succ, toIdx_range, passed, k1, u1, hx2, k3, kk3]
    have kk3 := k3
    try simp at kk3
    refine EV.regionG tabOK ?_
    simp (maxSteps := 2000000) -implicitDefEqProofs +contextual [k1, u1, hx2, k3, kk3]
    refine callG_fun (w_rGreat x2.name) ?_ ?_
    ·first | (simp; done) | (simp [k1, u1, hx2, k3, kk3]; done)
    simp (maxSteps := 2000000) -implicitDefEqProofs +contextual [k1, u1, hx2, k3, kk3]
    refine callG_fun (w_rValidFields x2.fields) ?_ ?_
    ·first | (simp; done) | (simp [k1, u1, hx2, k3, kk3]; done)
    simp (maxSteps := 2000000) -implicitDefEqProofs +contextual [k1, u1, hx2, k3, kk3]
    refine ⟨(), ?_⟩
    try dsimp only
    refine Sub.cutF 1 (by simp) ?_ ?_ <;> simp [List.range_succ, toIdx_range, passed, k1, u1, hx2, k3, kk3]
   rintro _
   simp only [thenK_normal, blockK_normal, scopeK_normal, bodyK_normal]
   refine EV.condT ?_
   simp -implicitDefEqProofs [k1, u1, hx2]
   refine condT_intro (fun k4 => ?_) (fun k4 => ?_)
   ·try simp at k4
    obtain ⟨f4, e2⟩ := pos_on2 e2 (by first | simpa using k4 | grind)
    try simp at f4
    refine EV.seq (EV.regionG tabOK ?_)
    simp (maxSteps := 2000000) -implicitDefEqProofs [k1, u1, hx2]
    refine EV.ret ?_
    simp only [thenK_ret, blockK_ret, scopeK_ret, bodyK_ret]
    replace e := run_back e e2
    subst e
    refine Fin.pure0 ?_
    first | (simp; done) | (simp <;> grind)
   try simp at k4
   obtain ⟨f4, e2⟩ := neg_on2 e2 (by first | simpa using k4 | grind)
   try simp at f4
   refine EV.skip ?_
   simp only [thenK_normal, blockK_normal, scopeK_normal]
   refine EV.regionG tabOK ?_
   simp (maxSteps := 2000000) -implicitDefEqProofs [k1, u1, hx2]
   have w2 : IntKind.i64.wrap ((j2 : Int) + 1) = (j2 : Int) + 1 := wrap_in _ (by omega) (by omega)
   refine ⟨⟨j2 + 1, by omega, e2⟩, by dsimp only; omega, ?_⟩
   try dsimp only
   refine Sub.cutF 1 (by simp) ?_ ?_ <;> simp [List.range_succ, toIdx_range, passed, k1, u1, hx2, w2]
  try simp at k1
  have d1 : p0.structs.drop j2 = [] := List.drop_eq_nil_of_le (by omega)
  rw [d1, rValid05_l2] at e2
  refine EV.exit ?_
  simp -implicitDefEqProofs
  refine ⟨⟨((), ()), e2.symm⟩, ?_⟩
  try dsimp only
  refine Sub.cutF 1 (by simp) ?_ ?_ <;> simp [List.range_succ, toIdx_range, passed]
 ·skip
  rintro ⟨⟨v2, g2⟩, e2⟩
  simp only [thenK_normal, blockK_normal, scopeK_normal, bodyK_normal]
  replace e := run_on e e2
  try dsimp only at e
  refine EV.seq (EV.seq (EV.regionG tabOK ?_))
  simp (maxSteps := 2000000) -implicitDefEqProofs
  obtain ⟨z7, e7, e⟩ := run_split e
  refine EV.nrm (fun v : { v : (Unit) × (Unit) // z7 = .go v.1 } => (fun (v7 : Unit) (g7 : Unit) => (⟨[J, .ptr 0 0 0 0, J, J, J, J, J, J, J, J, J, J, J, J, J, J, J, J, J, J, J, J, J, J, J, J, J, J, J, J, J, J, J, J, J, J, J, J, J, J, J, J, J, J, J, J, J, J, J, J, J, J, J, J, J, J, J, J, J, J, J, J, J, J, J, J, J, J, J, J, J, J, J, J, J, J, J, J, J, J, J, J, J, J, J, J, J, J, J, J, J, J, J, J, J, J, J, J, J, J, J, J, J, J, J, J, J, J, J, J, J, J, J, J, J, J, J, J, J], [.arr 0 3 [[.ro 4 (p0.structs.map structC), .ro 3 (p0.enums.map enumC), .ro 4 (p0.fns.map fnC)]]]⟩ : St)) v.1.1 v.1.2) ?_ ?_
  ·skip
   refine EV.block ?_
   refine EV.loopB (fun x : { x : Nat // x ≤ p0.enums.length ∧ rValid05_l7 (p0.enums.drop x) = z7 } => (fun (j7 : Nat) => (⟨[J, .ptr 0 0 0 0, J, J, .i .i64 (j7 : Int), J, J, J, J, J, J, J, J, J, J, J, J, J, J, J, J, J, J, J, J, J, J, J, J, J, J, J, J, J, J, J, J, J, J, J, J, J, J, J, J, J, J, J, J, J, J, J, J, J, J, J, J, J, J, J, J, J, J, J, J, J, J, J, J, J, J, J, J, J, J, J, J, J, J, J, J, J, J, J, J, J, J, J, J, J, J, J, J, J, J, J, J, J, J, J, J, J, J, J, J, J, J, J, J, J, J, J, J, J, J, J, J, J, J], [.arr 0 3 [[.ro 4 (p0.structs.map structC), .ro 3 (p0.enums.map enumC), .ro 4 (p0.fns.map fnC)]]]⟩ : St)) x.1) (fun x => p0.enums.length - x.1) ⟨0, Nat.zero_le _, e7⟩ ?_ ?_
   ·skip
    try dsimp only
    try dsimp only
    refine Sub.cutF 1 (by simp) ?_ ?_ <;> simp [List.range_succ, toIdx_range, passed]
   rintro ⟨j7, hi7, e7⟩
   simp only at hi7 e7 ⊢
   refine EV.seq (EV.seq (EV.regionG tabOK ?_))
   simp (maxSteps := 2000000) -implicitDefEqProofs
   refine EV.room 35 (by rfl) (fun mj7 => ?_)
   simp at mj7
   refine EV.condT ?_
   simp -implicitDefEqProofs
   refine condT_intro (fun k5 => ?_) (fun k5 => ?_)
   ·try simp at k5
    have u5 : j7 < p0.enums.length := by omega
    obtain ⟨x7, hx7⟩ : ∃ z, p0.enums[j7] = z := ⟨_, rfl⟩
    have mx7 : x7 ∈ p0.enums := by rw [← hx7]; exact List.getElem_mem _
    rw [List.drop_eq_getElem_cons u5, hx7, rValid05_l7] at e7
    refine EV.skip ?_
    simp only [thenK_normal, blockK_normal, scopeK_normal]
    refine EV.seq (EV.block (EV.seq (EV.seq (EV.regionG tabOK ?_))))
    simp (maxSteps := 2000000) -implicitDefEqProofs [k5, u5, hx7]
    refine callG_fun (w_rGreat x7.name) ?_ ?_
    ·first | (simp; done) | (simp [k5, u5, hx7]; done)
    simp (maxSteps := 2000000) -implicitDefEqProofs [k5, u5, hx7]
    refine EV.condT ?_
    simp -implicitDefEqProofs [k5, u5, hx7]
    refine condT_intro (fun k6 => ?_) (fun k6 => ?_)
    ·try simp at k6
     obtain ⟨f6, e7⟩ := pos_on2 e7 (by first | simpa using k6 | grind)
     try simp at f6
     refine EV.seq (EV.regionG tabOK ?_)
     simp (maxSteps := 2000000) -implicitDefEqProofs [k5, u5, hx7]
     refine EV.ret ?_
     simp only [thenK_ret, blockK_ret, scopeK_ret, bodyK_ret]
     replace e := run_back e e7
     subst e
     refine Fin.pure0 ?_
     first | (simp; done) | (simp <;> grind)
    try simp at k6
    obtain ⟨f6, e7⟩ := neg_on2 e7 (by first | simpa using k6 | grind)
    try simp at f6
    refine EV.skip ?_
    simp only [thenK_normal, blockK_normal, scopeK_normal]
    refine EV.seq (EV.regionG tabOK ?_)
    simp (maxSteps := 2000000) -implicitDefEqProofs [k5, u5, hx7]
    obtain ⟨z12, e12, e7⟩ := bind_split e7
    refine EV.nrm (fun v : { v : (Unit) × (Unit) // z12 = .go v.1 } => (fun (v12 : Unit) (g12 : Unit) => (⟨[J, .ptr 0 0 0 0, J, J, .i .i64 (j7 : Int), J, J, J, J, J, J, J, J, J, J, J, J, J, J, J, J, J, J, J, J, J, J, J, J, J, J, J, J, J, J, J, J, J, J, J, J, J, J, J, J, J, J, J, J, J, J, J, J, J, J, J, J, J, J, J, J, J, J, J, J, J, J, J, J, J, J, J, J, J, J, J, J, J, J, J, J, J, J, J, J, J, J, J, J, J, J, J, J, J, J, J, J, J, J, J, J, J, J, J, J, J, J, J, J, J, J, J, J, J, J, J, J, J, J], [.arr 0 3 [[.ro 4 (p0.structs.map structC), .ro 3 (p0.enums.map enumC), .ro 4 (p0.fns.map fnC)]]]⟩ : St)) v.1.1 v.1.2) ?_ ?_
    ·skip
     refine EV.block ?_
     refine EV.loopB (fun x : { x : Nat // x ≤ x7.variants.length ∧ rValid05_l12 (x7.variants.drop x) = z12 } => (fun (j12 : Nat) => (⟨[J, .ptr 0 0 0 0, J, J, .i .i64 (j7 : Int), .i .i64 (j12 : Int), J, J, J, J, J, J, J, J, J, J, J, J, J, J, J, J, J, J, J, J, J, J, J, J, J, J, J, J, J, J, J, J, J, J, J, J, J, J, J, J, J, J, J, J, J, J, J, J, J, J, J, J, J, J, J, J, J, J, J, J, J, J, J, J, J, J, J, J, J, J, J, J, J, J, J, J, J, J, J, J, J, J, J, J, J, J, J, J, J, J, J, J, J, J, J, J, J, J, J, J, J, J, J, J, J, J, J, J, J, J, J, J, J], [.arr 0 3 [[.ro 4 (p0.structs.map structC), .ro 3 (p0.enums.map enumC), .ro 4 (p0.fns.map fnC)]]]⟩ : St)) x.1) (fun x => x7.variants.length - x.1) ⟨0, Nat.zero_le _, e12⟩ ?_ ?_
     ·skip
      try dsimp only
      try dsimp only
      refine Sub.cutF 1 (by simp) ?_ ?_ <;> simp [List.range_succ, toIdx_range, passed, k5, u5, hx7]
     rintro ⟨j12, hi12, e12⟩
     simp only at hi12 e12 ⊢
     refine EV.seq (EV.seq (EV.regionG tabOK ?_))
     simp (maxSteps := 2000000) -implicitDefEqProofs [k5, u5, hx7]
     refine EV.room 54 (by rfl) (fun mj12 => ?_)
     simp at mj12
     refine EV.condT ?_
     simp -implicitDefEqProofs [k5, u5, hx7]
     refine condT_intro (fun k7 => ?_) (fun k7 => ?_)
     ·try simp at k7
      have u7 : j12 < x7.variants.length := by omega
      obtain ⟨x12, hx12⟩ : ∃ z, x7.variants[j12] = z := ⟨_, rfl⟩
      have mx12 : x12 ∈ x7.variants := by rw [← hx12]; exact List.getElem_mem _
      rw [List.drop_eq_getElem_cons u7, hx12, rValid05_l12] at e12
      refine EV.skip ?_
      simp only [thenK_normal, blockK_normal, scopeK_normal]
      refine EV.seq (EV.block (EV.seq (EV.regionG tabOK ?_)))
      simp (maxSteps := 2000000) -implicitDefEqProofs [k5, u5, hx7, k7, u7, hx12]
      refine EV.seq ?_
      refine EV.nrm (fun _ : Unit => (⟨[J, .ptr 0 0 0 0, J, J, .i .i64 (j7 : Int), .i .i64 (j12 : Int), J, J, J, J, J, J, J, J, J, J, J, J, J, J, J, J, J, J, J, J, J, J, J, J, J, J, J, J, J, J, J, J, J, J, J, J, J, J, J, J, J, J, J, J, J, J, J, J, J, J, J, J, J, J, J, J, J, J, J, J, J, J, J, J, J, J, J, J, J, J, J, J, J, J, J, J, J, .b ((!(rGreat x12.name)) || ((!(rNoTy x12.ty)) && (!(rValidTy x12.ty 0)))), J, J, J, J, J, J, J, J, J, J, J, J, J, J, J, J, J, J, J, J, J, J, J, J, J, J, J, J, J, J, J, J, J, J, J], [.arr 0 3 [[.ro 4 (p0.structs.map structC), .ro 3 (p0.enums.map enumC), .ro 4 (p0.fns.map fnC)]]]⟩ : St)) ?_ ?_
      ·skip
       cases k9 : (rGreat x12.name)
       ·skip
        have kk9 := k9
        try simp at kk9
        refine EV.regionG tabOK ?_
        simp (maxSteps := 2000000) -implicitDefEqProofs +contextual [k5, u5, hx7, k7, u7, hx12, k9, kk9]
        refine callG_fun (w_rGreat x12.name) ?_ ?_
        ·first | (simp; done) | (simp [k5, u5, hx7, k7, u7, hx12, k9, kk9]; done)
        simp (maxSteps := 2000000) -implicitDefEqProofs +contextual [k5, u5, hx7, k7, u7, hx12, k9, kk9]
        refine ⟨(), ?_⟩
        try dsimp only
        refine Sub.cutF 1 (by simp) ?_ ?_ <;> simp [List.range_succ, toIdx_range, passed, k5, u5, hx7, k7, u7, hx12, k9, kk9]
       have kk9 := k9
       try simp at kk9
       cases k10 : (rNoTy x12.ty)
       ·skip
        have kk10 := k10
        try simp at kk10
        refine EV.regionG tabOK ?_
        simp (maxSteps := 2000000) -implicitDefEqProofs +contextual [k5, u5, hx7, k7, u7, hx12, k9, kk9, k10, kk10]
        refine callG_fun (w_rGreat x12.name) ?_ ?_
        ·first | (simp; done) | (simp [k5, u5, hx7, k7, u7, hx12, k9, kk9, k10, kk10]; done)
        simp (maxSteps := 2000000) -implicitDefEqProofs +contextual [k5, u5, hx7, k7, u7, hx12, k9, kk9, k10, kk10]
        refine callG_fun (w_rNoTy x12.ty) ?_ ?_
        ·first | (simp; done) | (simp [k5, u5, hx7, k7, u7, hx12, k9, kk9, k10, kk10]; done)
        simp (maxSteps := 2000000) -implicitDefEqProofs +contextual [k5, u5, hx7, k7, u7, hx12, k9, kk9, k10, kk10]
        refine callG_fun (w_rValidTy x12.ty 0) ?_ ?_
        ·first | (simp; done) | (simp [k5, u5, hx7, k7, u7, hx12, k9, kk9, k10, kk10]; done)
        simp (maxSteps := 2000000) -implicitDefEqProofs +contextual [k5, u5, hx7, k7, u7, hx12, k9, kk9, k10, kk10]
        refine ⟨(), ?_⟩
        try dsimp only
        refine Sub.cutF 1 (by simp) ?_ ?_ <;> simp [List.range_succ, toIdx_range, passed, k5, u5, hx7, k7, u7, hx12, k9, kk9, k10, kk10]
       have kk10 := k10
       try simp at kk10
       refine EV.regionG tabOK ?_
       simp (maxSteps := 2000000) -implicitDefEqProofs +contextual [k5, u5, hx7, k7, u7, hx12, k9, kk9, k10, kk10]
       refine callG_fun (w_rGreat x12.name) ?_ ?_
       ·first | (simp; done) | (simp [k5, u5, hx7, k7, u7, hx12, k9, kk9, k10, kk10]; done)
       simp (maxSteps := 2000000) -implicitDefEqProofs +contextual [k5, u5, hx7, k7, u7, hx12, k9, kk9, k10, kk10]
       refine callG_fun (w_rNoTy x12.ty) ?_ ?_
       ·first | (simp; done) | (simp [k5, u5, hx7, k7, u7, hx12, k9, kk9, k10, kk10]; done)
       simp (maxSteps := 2000000) -implicitDefEqProofs +contextual [k5, u5, hx7, k7, u7, hx12, k9, kk9, k10, kk10]
       refine ⟨(), ?_⟩
       try dsimp only
       refine Sub.cutF 1 (by simp) ?_ ?_ <;> simp [List.range_succ, toIdx_range, passed, k5, u5, hx7, k7, u7, hx12, k9, kk9, k10, kk10]
      rintro _
      simp only [thenK_normal, blockK_normal, scopeK_normal, bodyK_normal]
      refine EV.condT ?_
      simp -implicitDefEqProofs [k5, u5, hx7, k7, u7, hx12]
      refine condT_intro (fun k11 => ?_) (fun k11 => ?_)
      ·try simp at k11
       obtain ⟨f11, e12⟩ := pos_on2 e12 (by first | simpa using k11 | grind)
       try simp at f11
       refine EV.seq (EV.regionG tabOK ?_)
       simp (maxSteps := 2000000) -implicitDefEqProofs [k5, u5, hx7, k7, u7, hx12]
       refine EV.ret ?_
       simp only [thenK_ret, blockK_ret, scopeK_ret, bodyK_ret]
       replace e7 := bind_back e7 e12
       replace e := run_back e e7
       subst e
       refine Fin.pure0 ?_
       first | (simp; done) | (simp <;> grind)
      try simp at k11
      obtain ⟨f11, e12⟩ := neg_on2 e12 (by first | simpa using k11 | grind)
      try simp at f11
      refine EV.skip ?_
      simp only [thenK_normal, blockK_normal, scopeK_normal]
      refine EV.regionG tabOK ?_
      simp (maxSteps := 2000000) -implicitDefEqProofs [k5, u5, hx7, k7, u7, hx12]
      have w12 : IntKind.i64.wrap ((j12 : Int) + 1) = (j12 : Int) + 1 := wrap_in _ (by omega) (by omega)
      refine ⟨⟨j12 + 1, by omega, e12⟩, by dsimp only; omega, ?_⟩
      try dsimp only
      refine Sub.cutF 1 (by simp) ?_ ?_ <;> simp [List.range_succ, toIdx_range, passed, k5, u5, hx7, k7, u7, hx12, w12]
     try simp at k7
     have d7 : x7.variants.drop j12 = [] := List.drop_eq_nil_of_le (by omega)
     rw [d7, rValid05_l12] at e12
     refine EV.exit ?_
     simp -implicitDefEqProofs
     refine ⟨⟨((), ()), e12.symm⟩, ?_⟩
     try dsimp only
     refine Sub.cutF 1 (by simp) ?_ ?_ <;> simp [List.range_succ, toIdx_range, passed, k5, u5, hx7]
    rintro ⟨⟨v12, g12⟩, e12⟩
    simp only [thenK_normal, blockK_normal, scopeK_normal, bodyK_normal]
    replace e7 := bind_on e7 e12
    try dsimp only at e7
    refine EV.regionG tabOK ?_
    simp (maxSteps := 2000000) -implicitDefEqProofs [k5, u5, hx7]
    have w7 : IntKind.i64.wrap ((j7 : Int) + 1) = (j7 : Int) + 1 := wrap_in _ (by omega) (by omega)
    refine ⟨⟨j7 + 1, by omega, e7⟩, by dsimp only; omega, ?_⟩
    try dsimp only
    refine Sub.cutF 1 (by simp) ?_ ?_ <;> simp [List.range_succ, toIdx_range, passed, k5, u5, hx7, w7]
   try simp at k5
   have d5 : p0.enums.drop j7 = [] := List.drop_eq_nil_of_le (by omega)
   rw [d5, rValid05_l7] at e7
   refine EV.exit ?_
   simp -implicitDefEqProofs
   refine ⟨⟨((), ()), e7.symm⟩, ?_⟩
   try dsimp only
   refine Sub.cutF 1 (by simp) ?_ ?_ <;> simp [List.range_succ, toIdx_range, passed]
  ·skip
   rintro ⟨⟨v7, g7⟩, e7⟩
   simp only [thenK_normal, blockK_normal, scopeK_normal, bodyK_normal]
   replace e := run_on e e7
   try dsimp only at e
   refine EV.seq (EV.seq (EV.regionG tabOK ?_))
   simp (maxSteps := 2000000) -implicitDefEqProofs
   obtain ⟨z18, e18, e⟩ := run_split e
   refine EV.nrm (fun v : { v : (Unit) × (Unit) // z18 = .go v.1 } => (fun (v18 : Unit) (g18 : Unit) => (⟨[J, J, J, J, J, J, J, J, J, J, J, J, J, J, J, J, J, J, J, J, J, J, J, J, J, J, J, J, J, J, J, J, J, J, J, J, J, J, J, J, J, J, J, J, J, J, J, J, J, J, J, J, J, J, J, J, J, J, J, J, J, J, J, J, J, J, J, J, J, J, J, J, J, J, J, J, J, J, J, J, J, J, J, J, J, J, J, J, J, J, J, J, J, J, J, J, J, J, J, J, J, J, J, J, J, J, J, J, J, J, J, J, J, J, J, J, J, J, J], []⟩ : St)) v.1.1 v.1.2) ?_ ?_
   ·skip
    refine EV.block ?_
    refine EV.loopB (fun x : { x : Nat // x ≤ p0.fns.length ∧ rValid05_l18 (p0.fns.drop x) = z18 } => (fun (j18 : Nat) => (⟨[J, .ptr 0 0 0 0, J, J, J, J, J, .i .i64 (j18 : Int), J, J, J, J, J, J, J, J, J, J, J, J, J, J, J, J, J, J, J, J, J, J, J, J, J, J, J, J, J, J, J, J, J, J, J, J, J, J, J, J, J, J, J, J, J, J, J, J, J, J, J, J, J, J, J, J, J, J, J, J, J, J, J, J, J, J, J, J, J, J, J, J, J, J, J, J, J, J, J, J, J, J, J, J, J, J, J, J, J, J, J, J, J, J, J, J, J, J, J, J, J, J, J, J, J, J, J, J, J, J, J], [.arr 0 3 [[.ro 4 (p0.structs.map structC), .ro 3 (p0.enums.map enumC), .ro 4 (p0.fns.map fnC)]]]⟩ : St)) x.1) (fun x => p0.fns.length - x.1) ⟨0, Nat.zero_le _, e18⟩ ?_ ?_
    ·skip
     try dsimp only
     try dsimp only
     refine Sub.cutF 1 (by simp) ?_ ?_ <;> simp [List.range_succ, toIdx_range, passed]
    rintro ⟨j18, hi18, e18⟩
    simp only at hi18 e18 ⊢
    refine EV.seq (EV.seq (EV.regionG tabOK ?_))
    simp (maxSteps := 2000000) -implicitDefEqProofs
    refine EV.room 86 (by rfl) (fun mj18 => ?_)
    simp at mj18
    refine EV.condT ?_
    simp -implicitDefEqProofs
    refine condT_intro (fun k12 => ?_) (fun k12 => ?_)
    ·try simp at k12
     have u12 : j18 < p0.fns.length := by omega
     obtain ⟨x18, hx18⟩ : ∃ z, p0.fns[j18] = z := ⟨_, rfl⟩
     have mx18 : x18 ∈ p0.fns := by rw [← hx18]; exact List.getElem_mem _
     rw [List.drop_eq_getElem_cons u12, hx18, rValid05_l18] at e18
     refine EV.skip ?_
     simp only [thenK_normal, blockK_normal, scopeK_normal]
     refine EV.seq (EV.block (EV.seq ?_))
     refine EV.nrm (fun _ : Unit => (⟨[J, .ptr 0 0 0 0, J, J, J, J, J, .i .i64 (j18 : Int), J, J, J, J, J, J, J, J, J, J, J, J, J, J, J, J, J, J, J, J, J, J, J, J, J, J, J, J, J, J, J, J, J, J, J, J, J, J, J, J, J, J, J, J, J, J, J, J, J, J, J, J, J, J, J, J, J, J, J, J, J, J, J, J, J, J, J, J, J, J, J, J, J, J, J, J, J, J, J, J, J, J, J, J, J, J, J, J, J, J, J, J, J, J, J, J, J, J, J, J, J, J, J, J, J, J, J, J, J, J, .b (((!(rSmall x18.name)) || (!(rValidFields x18.params))) || (!(rValidBlock x18.body 1)))], [.arr 0 3 [[.ro 4 (p0.structs.map structC), .ro 3 (p0.enums.map enumC), .ro 4 (p0.fns.map fnC)]]]⟩ : St)) ?_ ?_
     ·skip
      cases k14 : (rSmall x18.name)
      ·skip
       have kk14 := k14
       try simp at kk14
       refine EV.regionG tabOK ?_
       simp (maxSteps := 2000000) -implicitDefEqProofs +contextual [k12, u12, hx18, k14, kk14]
       refine callG_fun (w_rSmall x18.name) ?_ ?_
       ·first | (simp; done) | (simp [k12, u12, hx18, k14, kk14]; done)
       simp (maxSteps := 2000000) -implicitDefEqProofs +contextual [k12, u12, hx18, k14, kk14]
       refine ⟨(), ?_⟩
       try dsimp only
       refine Sub.cutF 1 (by simp) ?_ ?_ <;> simp [List.range_succ, toIdx_range, passed, k12, u12, hx18, k14, kk14]
      have kk14 := k14
      try simp at kk14
      cases k15 : (rValidFields x18.params)
      ·skip
       have kk15 := k15
       try simp at kk15
       refine EV.regionG tabOK ?_
       simp (maxSteps := 2000000) -implicitDefEqProofs +contextual [k12, u12, hx18, k14, kk14, k15, kk15]
       refine callG_fun (w_rSmall x18.name) ?_ ?_
       ·first | (simp; done) | (simp [k12, u12, hx18, k14, kk14, k15, kk15]; done)
       simp (maxSteps := 2000000) -implicitDefEqProofs +contextual [k12, u12, hx18, k14, kk14, k15, kk15]
       refine callG_fun (w_rValidFields x18.params) ?_ ?_
       ·first | (simp; done) | (simp [k12, u12, hx18, k14, kk14, k15, kk15]; done)
       simp (maxSteps := 2000000) -implicitDefEqProofs +contextual [k12, u12, hx18, k14, kk14, k15, kk15]
       refine ⟨(), ?_⟩
       try dsimp only
       refine Sub.cutF 1 (by simp) ?_ ?_ <;> simp [List.range_succ, toIdx_range, passed, k12, u12, hx18, k14, kk14, k15, kk15]
      have kk15 := k15
      try simp at kk15
      refine EV.regionG tabOK ?_
      simp (maxSteps := 2000000) -implicitDefEqProofs +contextual [k12, u12, hx18, k14, kk14, k15, kk15]
      refine callG_fun (w_rSmall x18.name) ?_ ?_
      ·first | (simp; done) | (simp [k12, u12, hx18, k14, kk14, k15, kk15]; done)
      simp (maxSteps := 2000000) -implicitDefEqProofs +contextual [k12, u12, hx18, k14, kk14, k15, kk15]
      refine callG_fun (w_rValidFields x18.params) ?_ ?_
      ·first | (simp; done) | (simp [k12, u12, hx18, k14, kk14, k15, kk15]; done)
      simp (maxSteps := 2000000) -implicitDefEqProofs +contextual [k12, u12, hx18, k14, kk14, k15, kk15]
      refine callG_fun (w_rValidBlock x18.body 1) ?_ ?_
      ·first | (simp; done) | (simp [k12, u12, hx18, k14, kk14, k15, kk15]; done)
      simp (maxSteps := 2000000) -implicitDefEqProofs +contextual [k12, u12, hx18, k14, kk14, k15, kk15]
      refine ⟨(), ?_⟩
      try dsimp only
      refine Sub.cutF 1 (by simp) ?_ ?_ <;> simp [List.range_succ, toIdx_range, passed, k12, u12, hx18, k14, kk14, k15, kk15]
     rintro _
     simp only [thenK_normal, blockK_normal, scopeK_normal, bodyK_normal]
     refine EV.condT ?_
     simp -implicitDefEqProofs [k12, u12, hx18]
     refine condT_intro (fun k16 => ?_) (fun k16 => ?_)
     ·try simp at k16
      obtain ⟨f16, e18⟩ := pos_on2 e18 (by first | simpa using k16 | grind)
      try simp at f16
      refine EV.seq (EV.regionG tabOK ?_)
      simp (maxSteps := 2000000) -implicitDefEqProofs [k12, u12, hx18]
      refine EV.ret ?_
      simp only [thenK_ret, blockK_ret, scopeK_ret, bodyK_ret]
      replace e := run_back e e18
      subst e
      refine Fin.pure0 ?_
      first | (simp; done) | (simp <;> grind)
     try simp at k16
     obtain ⟨f16, e18⟩ := neg_on2 e18 (by first | simpa using k16 | grind)
     try simp at f16
     refine EV.skip ?_
     simp only [thenK_normal, blockK_normal, scopeK_normal]
     refine EV.regionG tabOK ?_
     simp (maxSteps := 2000000) -implicitDefEqProofs [k12, u12, hx18]
     have w18 : IntKind.i64.wrap ((j18 : Int) + 1) = (j18 : Int) + 1 := wrap_in _ (by omega) (by omega)
     refine ⟨⟨j18 + 1, by omega, e18⟩, by dsimp only; omega, ?_⟩
     try dsimp only
     refine Sub.cutF 1 (by simp) ?_ ?_ <;> simp [List.range_succ, toIdx_range, passed, k12, u12, hx18, w18]
    try simp at k12
    have d12 : p0.fns.drop j18 = [] := List.drop_eq_nil_of_le (by omega)
    rw [d12, rValid05_l18] at e18
    refine EV.exit ?_
    simp -implicitDefEqProofs
    refine ⟨⟨((), ()), e18.symm⟩, ?_⟩
    try dsimp only
    refine Sub.cutF 0 (by simp) ?_ ?_ <;> simp [List.range_succ, toIdx_range, passed]
   ·skip
    rintro ⟨⟨v18, g18⟩, e18⟩
    simp only [thenK_normal, blockK_normal, scopeK_normal, bodyK_normal]
    replace e := run_on e e18
    try dsimp only at e
    refine EV.seq (EV.regionG tabOK ?_)
    simp (maxSteps := 2000000) -implicitDefEqProofs
    refine EV.ret ?_
    simp only [thenK_ret, blockK_ret, scopeK_ret, bodyK_ret]
    subst e
    refine Fin.pure0 ?_
    first | (simp; done) | (simp <;> grind)
end
end Go.Proofs.Tryz
end
